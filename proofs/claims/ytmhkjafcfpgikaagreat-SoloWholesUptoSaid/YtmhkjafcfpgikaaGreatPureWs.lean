/- Functions of the program as plain Lean, and what they come to. Conditions: none. -/
import Derived.Test.YtmhkjafcfpgikaaGreatEwD
import Derived.Test.YtmhkjafcfpgikaaGreatPureMm
open Go Go.Ew
namespace Go.Proofs.YtmhkjafcfpgikaaGreat.E
open Go.IntKind (wrap)
set_option linter.unusedVariables false
set_option linter.unusedSimpArgs false
set_option maxRecDepth 100000
theorem rds_app (l k:List A3):rds (l++k)=rds l++rds k:=List.filter_append _ _
theorem rn_cons (rd:List Int) (s:St) (k:Nat) (m:M3) (p:List M3):rds (ni (cycP rd s k (m::p)))=rds (ni [act1 rd s k m])++rds (ni (cycP rd (mv rd s k m) (nx k m) p)):=by
 rw [show cycP rd s k (m::p)=act1 rd s k m::cycP rd (mv rd s k m) (nx k m) p from rfl,ni_cons _ (cycP rd (mv rd s k m) (nx k m) p),rds_app]
theorem rn_one (rd:List Int) (s:St) (k:Nat) (m:M3):rds (ni [act1 rd s k m])=if m.1=1 then [(2,atS s m.2.1,rd.getD k 0)] else []:=by
 unfold act1 ni rds
 by_cases c1:m.1=1
 ·rw [if_pos c1,if_pos c1];rfl
 ·rw [if_neg c1,if_neg c1]
  by_cases c2:m.1=2
  ·rw [if_pos c2];rfl
  ·rw [if_neg c2];rfl
theorem cycP_dat (rd:List Int):∀ (p:List M3) (s:St) (k i:Nat) (a:A3),(rds (ni (cycP rd s k p)))[i]? = some a→a.2.2=rd.getD (k+i) 0
 | [],s,k,i,a,h=>by simp [cycP,ni,rds] at h
 | m :: p, s, k, i, a, h => by
  rw [rn_cons,rn_one] at h
  by_cases c1:m.1=1
  ·rw [if_pos c1] at h
   cases i with
   | zero=>simp at h;rw [← h];rfl
   | succ i=>
    have:=cycP_dat rd p (mv rd s k m) (nx k m) i a (by simpa using h)
    rw [this,show nx k m=k+1 from if_pos c1]
    congr 1;omega
  ·rw [if_neg c1] at h
   have:=cycP_dat rd p (mv rd s k m) (nx k m) i a (by simpa using h)
   rw [this,show nx k m=k from if_neg c1]
theorem cycP_caus {rd rd':List Int} {K:Nat} (hh:∀ i,i<K→rd.getD i 0=rd'.getD i 0):∀ (p:List M3) (s:St) (k i:Nat),k+i≤K→((rds (ni (cycP rd s k p)))[i]?).map (fun a=>a.2.1)=((rds (ni (cycP rd' s k p)))[i]?).map (fun a=>a.2.1)
 | [],s,k,i,h=>rfl
 | m :: p, s, k, i, h => by
  rw [rn_cons,rn_one,rn_cons,rn_one]
  by_cases c1:m.1=1
  ·rw [if_pos c1,if_pos c1]
   cases i with
   | zero=>rfl
   | succ i=>
    have e:mv rd s k m=mv rd' s k m:=by unfold mv;rw [hh k (by omega)]
    have:=cycP_caus hh p (mv rd s k m) (nx k m) i (by rw [show nx k m=k+1 from if_pos c1];omega)
    rw [← e]
    simpa using this
  ·rw [if_neg c1,if_neg c1]
   have e:mv rd s k m=mv rd' s k m:=by unfold mv;rw [if_neg c1,if_neg c1]
   have:=cycP_caus hh p (mv rd s k m) (nx k m) i (by rw [show nx k m=k from if_neg c1];omega)
   rw [← e]
   simpa using this
theorem rn_I (rd:List Int) (s0:St):rds (ni (cycI rd s0))=hI rd s0++rds (ni (cycP rd (tI rd s0) (kI rd) (tI rd s0).pl)):=by
 unfold cycI
 rw [ni_app,nih,rds_app]
 congr 1
 unfold hI rds;split<;>rfl
theorem hI_len (rd:List Int) (s0:St):(hI rd s0).length=kI rd:=by unfold hI kI;split<;>rfl
theorem cycI_dat {rd:List Int} {s0:St} {i:Nat} {a:A3} (h:(rds (ni (cycI rd s0)))[i]? = some a):a.2.2=rd.getD i 0:=by
 rw [rn_I] at h
 rcases Nat.lt_or_ge i (kI rd) with g | g
 ·rw [List.getElem?_append_left (by rw [hI_len];exact g)] at h
  unfold hI at h
  unfold kI at g
  by_cases c:op1 rd=203
  ·rw [if_pos c] at h g
   match i,g with
   | 0,_=>simp at h;rw [← h];rfl
   | 1,_=>simp at h;rw [← h];rfl
  ·rw [if_neg c] at h g
   obtain rfl:i=0:=by omega
   simp at h;rw [← h];rfl
 ·rw [List.getElem?_append_right (by rw [hI_len];exact g),hI_len] at h
  rw [cycP_dat rd _ _ _ _ a h]
  congr 1;omega
theorem cycI_caus {rd rd':List Int} {K:Nat} (hh:∀ i,i<K→rd.getD i 0=rd'.getD i 0) (s0:St) {i:Nat} (h:i≤K):((rds (ni (cycI rd s0)))[i]?).map (fun a=>a.2.1)=((rds (ni (cycI rd' s0)))[i]?).map (fun a=>a.2.1):=by
 rw [rn_I,rn_I]
 by_cases i0:i=0
 ·subst i0
  unfold hI
  split<;>split<;>rfl
 ·have e1:op1 rd=op1 rd':=hh 0 (by omega)
  by_cases c:op1 rd=203
  ·have c':op1 rd'=203:=e1▸c
   by_cases i1:i=1
   ·subst i1
    unfold hI
    rw [if_pos c,if_pos c',e1]
    rfl
   ·have e2:op2 rd=op2 rd':=hh 1 (by omega)
    have et:tI rd s0=tI rd' s0:=by unfold tI;rw [e1,e2]
    have ek:kI rd=2:=if_pos c
    have ek':kI rd'=2:=if_pos c'
    rw [List.getElem?_append_right (by rw [hI_len,ek];omega),List.getElem?_append_right (by rw [hI_len,ek'];omega),hI_len,hI_len,← et,ek,ek']
    exact cycP_caus hh _ _ _ _ (by omega)
  ·have c':¬op1 rd'=203:=e1▸c
   have et:tI rd s0=tI rd' s0:=by unfold tI;rw [if_neg c,if_neg c',e1]
   have ek:kI rd=1:=if_neg c
   have ek':kI rd'=1:=if_neg c'
   rw [List.getElem?_append_right (by rw [hI_len,ek];omega),List.getElem?_append_right (by rw [hI_len,ek'];omega),hI_len,hI_len,← et,ek,ek']
   exact cycP_caus hh _ _ _ _ (by omega)
def bgn (r:R10):St:=⟨r,false,false,false,0,0,false,0,0,0⟩
theorem bgn_ok {r:R10} (h:rok r):Bgn (bgn r):=⟨⟨h,byte0,byte0,byte0,byte0⟩,rfl,rfl,rfl,rfl,rfl⟩
theorem cycI_len {rd:List Int} (hr:∀ v∈rd,byte v) {s0:St} (h:Bgn s0):(cycI rd s0).length≤7:=by
 obtain ⟨p1,p2,p3,p4⟩:=plan_is (tI_ok hr h)
 unfold cycI
 rw [List.length_append,cycP_len,hI_len]
 unfold kI
 split
 ·have:(tI rd s0).cb=true:=by unfold tI;rw [if_pos (by assumption)];rfl
  have:=p2 this
  omega
 ·omega
def scanW (m rd:List Int):List A3→Nat→List Int→Bool×List Int
 | [],_,nx=>(false,nx)
 | a::l,k,nx=>if a.1=3 then scanW m rd l k nx else if k<rd.length∧rd.getD k 0=m.getD a.2.1.toNat 0 then scanW m rd l (k+1) (nx++[m.getD a.2.1.toNat 0]) else (true,nx++[m.getD a.2.1.toNat 0])
def good (m rd:List Int) (A:List A3):Prop:=∀ i,i<rd.length→∀ a,A[i]? = some a→rd.getD i 0=m.getD a.2.1.toNat 0
theorem take_snoc {rd:List Int} {k:Nat} (h:k<rd.length):rd.take k++[rd.getD k 0]=rd.take (k+1):=by
 rw [List.getD_eq_getElem?_getD,List.getElem?_eq_getElem h,List.take_succ_eq_append_getElem h];rfl
theorem scan_spec {m rd:List Int} {A:List A3} (hg:good m rd A):∀ (l:List A3) (k:Nat),rds l=A.drop k→k≤rd.length →
  (A.length≤rd.length∧(scanW m rd l k (rd.take k)).1=false)∨(∃ a,A[rd.length]? = some a∧scanW m rd l k (rd.take k)=(true,rd++[m.getD a.2.1.toNat 0]))
 | [],k,hl,hk=>by
  left
  have:A.length≤k:=List.drop_eq_nil_iff.1 (by rw [← hl];rfl)
  exact ⟨by omega,rfl⟩
 | a :: l, k, hl, hk => by
  by_cases c:a.1=3
  ·unfold scanW
   rw [if_pos c]
   exact scan_spec hg l k (by rw [← hl];unfold rds;rw [List.filter_cons_of_neg (by simpa using c)]) hk
  ·have hl2:a::rds l=A.drop k:=by rw [← hl];unfold rds;rw [List.filter_cons_of_pos (by simpa using c)]
   have ha:A[k]? = some a:=by rw [← List.head?_drop,← hl2];rfl
   have hd:rds l=A.drop (k+1):=by rw [← List.tail_drop,← hl2];rfl
   unfold scanW
   rw [if_neg c]
   rcases Nat.lt_or_ge k rd.length with g | g
   ·have e:=hg k g a ha
    rw [if_pos ⟨g,e⟩,← e,take_snoc g]
    exact scan_spec hg l (k+1) hd g
   ·obtain rfl:k=rd.length:=by omega
    right
    refine ⟨a,ha,?_⟩
    rw [if_neg (fun z=>absurd z.1 (Nat.lt_irrefl _)),List.take_length]
theorem whole_cons {m rd:List Int} {r:R10} (hr:∀ v∈rd,byte v) (h:rok r) (hg:good m rd (rds (runW rd r).l)) (hl:(rds (runW rd r).l).length≤rd.length):cons m (runW rd r).l:=by
 intro a ha h3
 have hm:a∈rds (runW rd r).l:=List.mem_filter.2 ⟨ha,by simpa using h3⟩
 obtain ⟨i,hi,e⟩:=List.getElem_of_mem hm
 have e2:(rds (runW rd r).l)[i]? = some a:=by rw [List.getElem?_eq_getElem hi,e]
 have:=hg i (by omega) a e2
 rw [← this]
 have cw:=(cycI_whole hr (bgn_ok h)).1
 rw [show (bgn r).r=r from rfl] at cw
 rw [cw] at e2
 exact cycI_dat e2
theorem good_next {m rd:List Int} {r:R10} (hm:∀ v∈m,byte v) (hr:∀ v∈rd,byte v) (h:rok r) (hg:good m rd (rds (runW rd r).l)) {a:A3} (ha:(rds (runW rd r).l)[rd.length]? = some a) :
  good m (rd++[m.getD a.2.1.toNat 0]) (rds (runW (rd++[m.getD a.2.1.toNat 0]) r).l)∧∀ v∈rd++[m.getD a.2.1.toNat 0],byte v:=by
 have hr2:∀ v∈rd++[m.getD a.2.1.toNat 0],byte v:=by
  intro v hv
  rcases List.mem_append.1 hv with q | q
  ·exact hr v q
  ·rw [List.mem_singleton.1 q];exact mem_byte hm _
 refine ⟨?_,hr2⟩
 have cw:=(cycI_whole hr (bgn_ok h)).1
 have cw2:=(cycI_whole hr2 (bgn_ok h)).1
 rw [show (bgn r).r=r from rfl] at cw cw2
 rw [cw] at ha hg
 intro i hi b hb
 rw [cw2] at hb
 simp only [List.length_append,List.length_cons,List.length_nil] at hi
 have hh:∀ i,i<rd.length→(rd++[m.getD a.2.1.toNat 0]).getD i 0=rd.getD i 0:=by
  intro i hi
  rw [List.getD_eq_getElem?_getD,List.getElem?_append_left hi,← List.getD_eq_getElem?_getD]
 have cs:=cycI_caus hh (bgn r) (i:=i) (by omega)
 rw [hb] at cs
 rcases Nat.lt_or_ge i rd.length with g | g
 ·rw [hh i g]
  cases e:(rds (ni (cycI rd (bgn r))))[i]? with
  | none=>rw [e] at cs;simp at cs
  | some c=>
   rw [e] at cs
   have:=hg i g c e
   simp at cs
   rw [this,cs]
 ·obtain rfl:i=rd.length:=by omega
  rw [ha] at cs
  simp at cs
  rw [cs,List.getD_eq_getElem?_getD,List.getElem?_append_right (Nat.le_refl _)]
  simp
def Who (r:R10) (m:List Int) (w:Wh):Prop:=∃ rd:List Int,(∀ v∈rd,byte v)∧w=runW rd r∧cons m w.l
theorem rds_le {rd:List Int} {r:R10} (hr:∀ v∈rd,byte v) (h:rok r):(runW rd r).l.length≤7∧(rds (runW rd r).l).length≤7:=by
 have cw:=(cycI_whole hr (bgn_ok h)).1
 rw [show (bgn r).r=r from rfl] at cw
 have a:=cycI_len hr (bgn_ok h)
 have b:(ni (cycI rd (bgn r))).length≤(cycI rd (bgn r)).length:=List.length_filter_le _ _
 have c:(rds (runW rd r).l).length≤(runW rd r).l.length:=List.length_filter_le _ _
 rw [cw] at c ⊢
 omega
def opA (w:Wh):Int:=(w.l.getD 0 (0,0,0)).2.2
inductive Whs:Nat→R10→List Int→R10→List Int→List A3→Prop
 | zero (r:R10) (m:List Int):Whs 0 r m r m []
 | still {n:Nat} {r:R10} {m:List Int} {w:Wh}:Who r m w→stillB (opA w)=true→Whs (n+1) r m w.r (wrM m w.l) w.l
 | more {n:Nat} {r:R10} {m:List Int} {w:Wh} {r':R10} {m':List Int} {l':List A3}:Who r m w→stillB (opA w)=false→Whs n w.r (wrM m w.l) r' m' l'→Whs (n+1) r m r' m' (w.l++l')
theorem opA_eq {rd:List Int} (hr:∀ v∈rd,byte v) {s0:St} (h:Bgn s0):opA (runW rd s0.r)=op1 rd:=by
 unfold opA
 rw [(cycI_whole hr h).1]
 unfold cycI
 rw [ni_app,nih]
 unfold hI;split<;>rfl
theorem go_pre (n:Nat) (x:MC):∃ z,(go n x).l=x.l++z∧z.length=n:=by
 induction n generalizing x with
 | zero=>exact ⟨[],(List.append_nil _).symm,rfl⟩
 | succ n ih=>
  obtain ⟨z,e,hz⟩:=ih (stepM x 0)
  refine ⟨actS (wantS x.s 0).2.1 x.m::z,?_,by simp [hz]⟩
  rw [go_succ,e,step0]
  simp
theorem take_go {x:MC} {T:Nat} {cyc:List A3} (h:(go T x).l=x.l++cyc) (hl:cyc.length=T) {i:Nat} (hi:i≤T):(go i x).l=x.l++cyc.take i:=by
 obtain ⟨d,rfl⟩:=Nat.exists_eq_add_of_le hi
 obtain ⟨z,e,hz⟩:=go_pre i x
 obtain ⟨z2,e2,hz2⟩:=go_pre d (go i x)
 rw [go_add,e2,e,List.append_assoc] at h
 have:=List.append_cancel_left h
 rw [e,← this,← hz,List.take_left]
theorem ni_take_le (l:List A3) (j:Nat):(ni (l.take j)).length≤(ni l).length:=by
 have:ni l=ni (l.take j)++ni (l.drop j):=by rw [← ni_app,List.take_append_drop]
 rw [this,List.length_append];omega
theorem whs_go {n:Nat} {r:R10} {m:List Int} {r':R10} {m':List Int} {acts:List A3} (hw:Whs n r m r' m' acts):∀ (s0:St) (L:List A3),Bgn s0→s0.r=r→mok ⟨s0,m,L⟩ →
  ∃ (T:Nat) (cyc:List A3) (s':St),go T ⟨s0,m,L⟩=⟨s',m',L++cyc⟩∧cyc.length=T∧ni cyc=acts∧s'.r=r'∧busyS s'=false∧T≤7*n∧(n=0→T=0)∧(0<n→acts≠[]) ∧
   ∀ j,j≤T→ni (cyc.take j)=acts→T - j≤3∧∀ i,j≤i→i<T→busyS (go i ⟨s0,m,L⟩).s=true:=by
 have one:∀ {r:R10} {m:List Int} {w:Wh},Who r m w→∀ (s0:St) (L:List A3),Bgn s0→s0.r=r→mok ⟨s0,m,L⟩ →
   ∃ (T:Nat) (cyc:List A3) (s':St),go T ⟨s0,m,L⟩=⟨s',wrM m w.l,L++cyc⟩∧cyc.length=T∧ni cyc=w.l∧s'.r=w.r∧busyS s'=false∧T≤7∧w.l≠[]∧(stillB (opA w)=false→Bgn s') ∧
    ∀ j,j≤T→ni (cyc.take j)=w.l→T - j≤3∧∀ i,j≤i→i<T→busyS (go i ⟨s0,m,L⟩).s=true:=by
  rintro r m w ⟨rd,hr,rfl,hc⟩ s0 L hb hs0 hm
  subst hs0
  obtain ⟨s',g1,g2,g3,g4,g5,g6,g7,g8⟩:=instr hr hb hm hc
  have cw:=(cycI_whole hr hb).1
  have ne:(runW rd s0.r).l≠[]:=by
   rw [cw];unfold cycI;rw [ni_app,nih];unfold hI;split<;>simp
  refine ⟨_,cycI rd s0,s',by rw [g1,cw,wr_ni],rfl,cw.symm,g2,g3,g7,ne,fun h=>g5 (by rw [opA_eq hr hb] at h;exact h),?_⟩
  intro j hj hni
  have j1:1≤j:=by
   rcases Nat.eq_zero_or_pos j with q | q
   ·subst q;exact absurd hni.symm ne
   ·exact q
  refine ⟨?_,fun i h1 h2=>g4 i (by omega) h2⟩
  have:(ni ((cycI rd s0).take j)).length≤((cycI rd s0).take j).length:=List.length_filter_le _ _
  rw [hni,cw,List.length_take] at this
  omega
 induction hw with
 | zero r m=>
  intro s0 L hb hs0 hm
  refine ⟨0,[],s0,by show MC.mk _ _ _=MC.mk _ _ _;rw [List.append_nil],rfl,rfl,hs0,busy0 hb.step,by omega,fun _=>rfl,fun h=>absurd h (Nat.lt_irrefl 0),fun j hj _=>⟨by omega,fun i h1 h2=>absurd h2 (Nat.not_lt_zero i)⟩⟩
 | still hwho hst=>
  intro s0 L hb hs0 hm
  obtain ⟨T,cyc,s',a1,a2,a3,a4,a5,a6,a7,a8,a9⟩:=one hwho s0 L hb hs0 hm
  exact ⟨T,cyc,s',a1,a2,a3,a4,a5,by omega,fun h=>absurd h (by omega),fun _=>a7,a9⟩
 | @more n r m w r' m' l' hwho hst hrest ih =>
  intro s0 L hb hs0 hm
  obtain ⟨T,cyc,s',a1,a2,a3,a4,a5,a6,a7,a8,a9⟩:=one hwho s0 L hb hs0 hm
  have hm2:=go_ok hm T
  rw [a1] at hm2
  obtain ⟨T2,cyc2,s2,b1,b2,b3,b4,b5,b6,b7,b8,b9⟩:=ih s' (L++cyc) (a8 hst) a4 hm2
  refine ⟨T+T2,cyc++cyc2,s2,by rw [go_add,a1,b1,List.append_assoc],by rw [List.length_append,a2,b2],by rw [ni_app,a3,b3],b4,b5,by omega,fun h=>absurd h (by omega),fun _=>by simp [a7],?_⟩
  intro j hj hni
  rcases Nat.lt_or_ge j T with g | g
  ·rw [List.take_append_of_le_length (by omega)] at hni
   have le:=ni_take_le cyc j
   rw [hni,a3,List.length_append] at le
   have l0:l'=[]:=List.length_eq_zero_iff.1 (by omega)
   have n0:n=0:=by
    rcases Nat.eq_zero_or_pos n with q | q
    ·exact q
    ·exact absurd l0 (b8 q)
   have t0:=b7 n0
   subst t0
   rw [l0,List.append_nil] at hni
   obtain ⟨c1,c2⟩:=a9 j (by omega) hni
   exact ⟨by omega,fun i h1 h2=>c2 i h1 (by omega)⟩
  ·obtain ⟨d,rfl⟩:=Nat.exists_eq_add_of_le g
   rw [List.take_append,a2,List.take_of_length_le (by omega),ni_app,a3,show T+d - T=d by omega] at hni
   obtain ⟨c1,c2⟩:=b9 d (by omega) (List.append_cancel_left hni)
   refine ⟨by omega,fun i h1 h2 => ?_⟩
   obtain ⟨e,rfl⟩:=Nat.exists_eq_add_of_le (Nat.le_trans g h1)
   rw [go_add,a1]
   exact c2 e (by omega) (by omega)
end Go.Proofs.YtmhkjafcfpgikaaGreat.E
