/- Functions of the program as plain Lean, and what they come to. Conditions: none. -/
import Derived.Test.YtmhkjafcfpgikaaGreatEwD
import Derived.Test.YtmhkjafcfpgikaaGreatPureAh
import Derived.Test.YtmhkjafcfpgikaaGreatPureO
open Go Go.Ew
namespace Go.Proofs.YtmhkjafcfpgikaaGreat.E
open Go.IntKind (wrap)
set_option linter.unusedVariables false
set_option linter.unusedSimpArgs false
set_option maxRecDepth 100000
def go (n:Nat) (x:MC):MC:=runM n (fun _=>0) x
theorem go_succ (n:Nat) (x:MC):go (n+1) x=go n (stepM x 0):=rfl
theorem go_add (a b:Nat) (x:MC):go (a+b) x=go b (go a x):=runM_add a b _ x
theorem go_ok {x:MC} (h:mok x) (n:Nat):mok (go n x):=run_ok' (fun _=>byte0) h n
def ni (l:List A3):List A3:=l.filter (fun a=>decide (a.1≠0))
def rds (l:List A3):List A3:=l.filter (fun a=>decide (a.1≠3))
def wrM (m:List Int) (l:List A3):List Int:=l.foldl (fun m a=>memA a m) m
def cons (m:List Int) (l:List A3):Prop:=∀ a∈l,a.1≠3→a.2.2=m.getD a.2.1.toNat 0
theorem ni_cons (a:A3) (l:List A3):ni (a::l)=ni [a]++ni l:=by
 unfold ni
 rw [← List.filter_append];rfl
theorem ni_app (l k:List A3):ni (l++k)=ni l++ni k:=List.filter_append _ _
theorem wr_ni:∀ (l:List A3) (m:List Int),wrM m (ni l)=wrM m l
 | [],m=>rfl
 | a :: l, m => by
  by_cases c:a.1≠0
  ·rw [show ni (a::l)=a::ni l from List.filter_cons_of_pos (by simpa using c)]
   exact wr_ni l _
  ·rw [show ni (a::l)=ni l from List.filter_cons_of_neg (by simpa using c),wr_ni l m]
   show _=wrM (memA a m) l
   unfold memA
   rw [if_neg (by omega)]
theorem wr_app (l k:List A3) (m:List Int):wrM m (l++k)=wrM (wrM m l) k:=List.foldl_append ..
theorem mics_f (rd:List Int):∀ (l:List M3) (p:RS),(mics rd p l).1.f=p.1.f
 | [],p=>rfl
 | m::l,p=>by
  show (mics rd (mic rd p m) l).1.f=p.1.f
  rw [mics_f rd l]
  unfold mic
  split
  ·rfl
  ·split<;>rfl
def act1 (rd:List Int) (s:St) (k:Nat) (m:M3):A3:=if m.1=1 then (2,atS s m.2.1,rd.getD k 0) else if m.1=2 then (3,atS s m.2.1,valS s m.2.2) else (0,0,0)
def mv (rd:List Int) (s:St) (k:Nat) (m:M3):St:=if m.1=1 then movS s m (rd.getD k 0) else movS s m 0
def nx (k:Nat) (m:M3):Nat:=if m.1=1 then k+1 else k
def cycP (rd:List Int):St→Nat→List M3→List A3
 | _,_,[]=>[]
 | s,k,m::l=>act1 rd s k m::cycP rd (mv rd s k m) (nx k m) l
def finP (rd:List Int):St→Nat→List M3→St
 | s,_,[]=>s
 | s,k,m::l=>finP rd (mv rd s k m) (nx k m) l
theorem cycP_len (rd:List Int):∀ (p:List M3) (s:St) (k:Nat),(cycP rd s k p).length=p.length
 | [],_,_=>rfl
 | m::l,s,k=>by simp only [cycP,List.length_cons,cycP_len rd l]
theorem mic_eq (rd:List Int) (s:St) (k:Nat) (l:List A3) (m:M3):mic rd (s,k,l) m=(mv rd s k m,nx k m,l++ni [act1 rd s k m]):=by
 unfold mic mv nx act1
 by_cases c1:m.1=1
 ·simp [c1,ni]
 ·by_cases c2:m.1=2
  ·simp [c1,c2,ni]
  ·simp [c1,c2,ni]
theorem mics_eq (rd:List Int):∀ (p:List M3) (s:St) (k:Nat) (l:List A3),(mics rd (s,k,l) p).1=finP rd s k p∧(mics rd (s,k,l) p).2.2=l++ni (cycP rd s k p)
 | [],s,k,l=>⟨rfl,(List.append_nil l).symm⟩
 | m::p,s,k,l=>by
  show (mics rd (mic rd (s,k,l) m) p).1=_∧(mics rd (mic rd (s,k,l) m) p).2.2=_
  rw [mic_eq]
  have ih:=mics_eq rd p (mv rd s k m) (nx k m) (l++ni [act1 rd s k m])
  refine ⟨ih.1,ih.2.trans ?_⟩
  rw [show cycP rd s k (m::p)=act1 rd s k m::cycP rd (mv rd s k m) (nx k m) p from rfl,ni_cons _ (cycP rd (mv rd s k m) (nx k m) p),List.append_assoc]
def wrLast:List M3→Bool
 | []=>true
 | m::l=>(decide (m.1≠2)||l.all (fun q=>decide (q.1≠1)))&&wrLast l
theorem cons_nr (rd:List Int) (m:List Int):∀ (p:List M3) (s:St) (k:Nat),(∀ q∈p,q.1≠1)→cons m (ni (cycP rd s k p))
 | [],_,_,_=>fun a ha=>absurd ha (by simp [cycP,ni])
 | q :: p, s, k, h => by
  rw [show cycP rd s k (q::p)=act1 rd s k q::cycP rd (mv rd s k q) (nx k q) p from rfl,ni_cons _ (cycP rd (mv rd s k q) (nx k q) p)]
  intro a ha h3
  rcases List.mem_append.1 ha with g | g
  ·exfalso
   have h1:=h q (List.mem_cons_self ..)
   unfold act1 ni at g
   rw [if_neg h1] at g
   by_cases c2:q.1=2
   ·rw [if_pos c2] at g
    simp at g
    rw [g] at h3;exact h3 rfl
   ·rw [if_neg c2] at g
    simp at g
  ·exact cons_nr rd m p _ _ (fun z hz=>h z (List.mem_cons_of_mem _ hz)) a g h3
def baseS (t:St):Int:=if t.cb=true then 2 else 1
theorem len_base {t:St} (hnp:¬(t.op=203∧t.cb=false)):lenS t=baseS t+(t.pl.length:Int):=by
 unfold lenS baseS
 rw [if_neg hnp]
theorem cyc_at {t:St} (hnp:¬(t.op=203∧t.cb=false)) {j:Nat} (hs:t.step=baseS t+j) (hj:j<t.pl.length):(cycS t).1=t.pl.getD j (0,0,0):=by
 unfold baseS at hs
 unfold cycS
 rw [if_neg hnp]
 by_cases c:t.cb=true
 ·rw [if_pos c] at hs
  rw [if_neg (by omega),if_pos c,if_pos (by omega)]
  have:(t.step - 1 - 1).toNat=j:=by omega
  rw [this]
 ·rw [if_neg c] at hs
  rw [if_neg (fun z=>c z.1),if_neg c,if_pos (by omega)]
  have:(t.step - 1 - 0).toNat=j:=by omega
  rw [this]
theorem mov_pl (t:St) (m:M3) (v:Int):(movS t m v).pl=t.pl:=by
 unfold St.pl
 rw [show (movS t m v).f=t.f from rfl,hold_f (show (movS t m v).r.2.1=t.r.2.1 from plR_f t _)]
theorem m0_eq {t:St} (h:t.mode=0):t.m0=t:=by
 cases t;simp only [St.m0] at *;subst h;rfl
theorem step0 (x:MC):stepM x 0=⟨doneS (wantS x.s 0).1 (dataS (wantS x.s 0).2.1 x.m) 0,memA (wantS x.s 0).2.1 x.m,x.l++[actS (wantS x.s 0).2.1 x.m]⟩:=rfl
theorem plan_step {rd:List Int} {t:St} {m0:M3} {k:Nat} {m:List Int} {L:List A3} (hm:t.mode=0) (b:busyS t=true) (q:¬(t.step=1∧(t.op=203∨t.cb=true))) (hc:(cycS t).1=m0)
  (hd:m0.1=1→rd.getD k 0=m.getD (atS t m0.2.1).toNat 0):stepM ⟨t,m,L⟩ 0=⟨tailS (mv rd t k m0) 0,memA (act1 rd t k m0) m,L++[act1 rd t k m0]⟩:=by
 have hdn:∀ v,doneS t v 0=tailS (movS t m0 v) 0:=fun v=>by
  rw [done_go hm b q v,hc,m0_eq (show (movS t m0 v).mode=0 from hm)]
 rw [step0]
 show MC.mk (doneS (wantS t 0).1 (dataS (wantS t 0).2.1 m) 0) (memA (wantS t 0).2.1 m) (L++[actS (wantS t 0).2.1 m])=_
 rw [want_go hm b 0]
 unfold goS mv act1
 rw [if_neg q,hc]
 by_cases c1:m0.1=1
 ·have e:=hd c1
  rw [if_pos c1,if_pos c1,if_pos c1]
  have e1:dataS (2,atS t m0.2.1,0) m=rd.getD k 0:=by
   unfold dataS;rw [if_pos (.inr rfl),e]
  have e2:actS (2,atS t m0.2.1,0) m=(2,atS t m0.2.1,rd.getD k 0):=by
   unfold actS;rw [if_pos (.inr rfl),e1]
  show MC.mk (doneS t (dataS (2,atS t m0.2.1,0) m) 0) (memA (2,atS t m0.2.1,0) m) (L++[actS (2,atS t m0.2.1,0) m])=_
  rw [e1,e2,hdn]
  rfl
 ·rw [if_neg c1,if_neg c1,if_neg c1]
  by_cases c2:m0.1=2
  ·rw [if_pos c2,if_pos c2]
   show MC.mk (doneS t (dataS (3,atS t m0.2.1,valS t m0.2.2) m) 0) (memA (3,atS t m0.2.1,valS t m0.2.2) m) (L++[actS (3,atS t m0.2.1,valS t m0.2.2) m])=_
   have nr:¬readK (3,atS t m0.2.1,valS t m0.2.2):=by unfold readK;show ¬((3:Int)=1∨(3:Int)=2);decide
   rw [show dataS (3,atS t m0.2.1,valS t m0.2.2) m=0 from if_neg nr,show actS (3,atS t m0.2.1,valS t m0.2.2) m=_ from if_neg nr,hdn]
  ·rw [if_neg c2,if_neg c2]
   show MC.mk (doneS t (dataS (0,0,0) m) 0) (memA (0,0,0) m) (L++[actS (0,0,0) m])=_
   have nr:¬readK (0,0,0):=by unfold readK;decide
   rw [show dataS (0,0,0) m=0 from if_neg nr,show actS (0,0,0) m=_ from if_neg nr,hdn]
theorem plan_go {rd:List Int} (hr:∀ v∈rd,byte v):∀ (rest:List M3) (t:St) (k:Nat) (m:List Int) (L:List A3) (j:Nat),sok t→t.mode=0→¬(t.op=203∧t.cb=false)→t.step=baseS t+j→t.pl.drop j=rest→j+rest.length≤50→wrLast rest=true→cons m (ni (cycP rd t k rest)) →
  (go rest.length ⟨tailS t 0,m,L⟩=⟨endOf (finP rd t k rest) 0,wrM m (cycP rd t k rest),L++cycP rd t k rest⟩)∧∀ i,i<rest.length→busyS (go i ⟨tailS t 0,m,L⟩).s=true
 | [], t, k, m, L, j, ht, hm, hnp, hs, hd, hjj, hw, hc => by
  have lb:=len_base hnp
  have b1:1≤baseS t:=by unfold baseS;split<;>decide
  have hjl:t.pl.length≤j:=List.drop_eq_nil_iff.1 hd
  refine ⟨?_,fun i hi=>absurd hi (Nat.not_lt_zero i)⟩
  rcases tail_eq hm (by omega) with ⟨g,e,b⟩ | ⟨g,e,b⟩
  ·omega
  ·rw [e]
   show MC.mk _ m L=MC.mk _ m (L++[])
   rw [List.append_nil];rfl
 | q :: rest, t, k, m, L, j, ht, hm, hnp, hs, hd, hjj, hw, hc => by
  have lb:=len_base hnp
  have b1:1≤baseS t:=by unfold baseS;split<;>decide
  have b2:baseS t≤2:=by unfold baseS;split<;>decide
  have hlen:j<t.pl.length:=by
   rcases Nat.lt_or_ge j t.pl.length with g | g
   ·exact g
   ·rw [List.drop_eq_nil_of_le g] at hd;exact absurd hd (by simp)
  have hg:t.pl.getD j (0,0,0)=q:=by
   have:t.pl[j]? = some q:=by rw [← List.head?_drop,hd];rfl
   rw [List.getD_eq_getElem?_getD,this];rfl
  have hd2:t.pl.drop (j+1)=rest:=by rw [← List.tail_drop,hd];rfl
  simp only [List.length_cons] at hjj
  rcases tail_eq hm (by omega) with ⟨g,e,b⟩ | ⟨g,e,b⟩
  ·have hcy:(cycS t).1=q:=(cyc_at hnp hs hlen).trans hg
   have hq:¬(t.step=1∧(t.op=203∨t.cb=true)):=by
    rintro ⟨a,c⟩
    unfold baseS at hs
    by_cases cb:t.cb=true
    ·rw [if_pos cb] at hs;omega
    ·rcases c with c | c
     ·exact hnp ⟨c,by simpa using cb⟩
     ·exact cb c
   have ec:cycP rd t k (q::rest)=act1 rd t k q::cycP rd (mv rd t k q) (nx k q) rest:=rfl
   rw [ec,ni_cons _ (cycP rd (mv rd t k q) (nx k q) rest)] at hc
   have hdat:q.1=1→rd.getD k 0=m.getD (atS t q.2.1).toNat 0:=by
    intro c1
    have:=hc (act1 rd t k q) (List.mem_append_left _ (by unfold act1 ni;rw [if_pos c1];exact List.mem_singleton.2 rfl)) (by unfold act1;rw [if_pos c1];show (2:Int)≠3;decide)
    unfold act1 at this;rw [if_pos c1] at this;exact this
   have st:=plan_step (L:=L) hm b hq hcy hdat
   have hw2:wrLast rest=true:=by unfold wrLast at hw;rw [Bool.and_eq_true] at hw;exact hw.2
   have hc2:cons (memA (act1 rd t k q) m) (ni (cycP rd (mv rd t k q) (nx k q) rest)):=by
    by_cases c2:q.1=2
    ·apply cons_nr
     unfold wrLast at hw
     rw [Bool.and_eq_true] at hw
     have:=hw.1
     rw [show decide (q.1≠2)=false by simp [c2],Bool.false_or,List.all_eq_true] at this
     exact fun z hz=>by simpa using this z hz
    ·have em:memA (act1 rd t k q) m=m:=by
      unfold memA act1
      rw [if_neg]
      by_cases c1:q.1=1
      ·rw [if_pos c1];show ¬(2:Int)=3;decide
      ·rw [if_neg c1,if_neg c2];show ¬(0:Int)=3;decide
     rw [em]
     exact fun a ha=>hc a (List.mem_append_right _ ha)
   have hmv:sok (mv rd t k q)∧(mv rd t k q).mode=0∧¬((mv rd t k q).op=203∧(mv rd t k q).cb=false)∧(mv rd t k q).step=baseS (mv rd t k q)+((j+1:Nat):Int)∧(mv rd t k q).pl.drop (j+1)=rest:=by
    have key:∀ v,byte v→sok (movS t q v)∧(movS t q v).mode=0∧¬((movS t q v).op=203∧(movS t q v).cb=false)∧(movS t q v).step=baseS (movS t q v)+((j+1:Nat):Int)∧(movS t q v).pl.drop (j+1)=rest:=by
     intro v hv
     refine ⟨mov_ok ht q hv,hm,hnp,?_,by rw [mov_pl];exact hd2⟩
     show wrap .u8 (t.step+1)=baseS t+_
     rw [w8 (by omega)];omega
    unfold mv;split
    ·exact key _ (mem_byte hr k)
    ·exact key _ byte0
   obtain ⟨m1,m2,m3,m4,m5⟩:=hmv
   have ih:=plan_go hr rest (mv rd t k q) (nx k q) (memA (act1 rd t k q) m) (L++[act1 rd t k q]) (j+1) m1 m2 m3 m4 m5 (by omega) hw2 hc2
   rw [e]
   refine ⟨?_,?_⟩
   ·show go rest.length (stepM ⟨t,m,L⟩ 0)=_
    rw [st,ih.1,ec]
    show MC.mk _ _ _=MC.mk _ _ _
    rw [List.append_assoc]
    rfl
   ·intro i hi
    cases i with
    | zero=>exact b
    | succ i=>
     show busyS (go i (stepM ⟨t,m,L⟩ 0)).s=true
     rw [st]
     exact ih.2 i (by simp only [List.length_cons] at hi;omega)
  ·omega
structure Bgn (s:St):Prop where
 ok:sok s
 mode:s.mode=0
 step:s.step=0
 ime:s.ime=false
 arm:s.arm=false
 bug:s.bug=false
theorem plan_fin:∀ op:Fin 256,∀ cb t:Bool,(fun p:List M3=>p.length≤5∧(cb=true→p.length≤4)∧wrLast p=true∧p.length≤(p.filter (fun m=>decide (m.1=1∨m.1=2))).length+3) (T.planS (T.formS (op.val:Int) cb).1 (T.formS (op.val:Int) cb).2.1 (T.formS (op.val:Int) cb).2.2.1 t):=by decide +kernel
theorem plan_is {s:St} (h:sok s):s.pl.length≤5∧(s.cb=true→s.pl.length≤4)∧wrLast s.pl=true∧s.pl.length≤(s.pl.filter (fun m=>decide (m.1=1∨m.1=2))).length+3:=by
 have a:=h.op.1
 have b:=h.op.2
 obtain ⟨m,hm⟩:=Int.eq_ofNat_of_zero_le a
 have ff:=plan_fin ⟨m,by omega⟩ s.cb (holdS s.r s.f.2.1)
 rw [← hm] at ff
 exact ff
theorem ni_count (rd:List Int):∀ (p:List M3) (s:St) (k:Nat),(ni (cycP rd s k p)).length=(p.filter (fun m=>decide (m.1=1∨m.1=2))).length
 | [],_,_=>rfl
 | m :: p, s, k => by
  rw [show cycP rd s k (m::p)=act1 rd s k m::cycP rd (mv rd s k m) (nx k m) p from rfl,ni_cons _ (cycP rd (mv rd s k m) (nx k m) p),List.length_append,ni_count rd p]
  unfold act1 ni
  by_cases c1:m.1=1
  ·rw [if_pos c1,show (m::p).filter (fun m=>decide (m.1=1∨m.1=2))=m::p.filter (fun m=>decide (m.1=1∨m.1=2)) from List.filter_cons_of_pos (by simp [c1])]
   show 1+_=_+1;omega
  ·rw [if_neg c1]
   by_cases c2:m.1=2
   ·rw [if_pos c2,show (m::p).filter (fun m=>decide (m.1=1∨m.1=2))=m::p.filter (fun m=>decide (m.1=1∨m.1=2)) from List.filter_cons_of_pos (by simp [c2])]
    show 1+_=_+1;omega
   ·rw [if_neg c2,show (m::p).filter (fun m=>decide (m.1=1∨m.1=2))=p.filter (fun m=>decide (m.1=1∨m.1=2)) from List.filter_cons_of_neg (by simp [c1,c2])]
    show 0+_=_;omega
def tI (rd:List Int) (s0:St):St:=if op1 rd=203 then scdS (fetS s0 (op1 rd)) (op2 rd) else fetS s0 (op1 rd)
def kI (rd:List Int):Nat:=if op1 rd=203 then 2 else 1
def hI (rd:List Int) (s0:St):List A3:=if op1 rd=203 then [(1,pcR s0.r,op1 rd),(1,pcR (fetS s0 (op1 rd)).r,op2 rd)] else [(1,pcR s0.r,op1 rd)]
def cycI (rd:List Int) (s0:St):List A3:=hI rd s0++cycP rd (tI rd s0) (kI rd) (tI rd s0).pl
theorem tI_ok {rd:List Int} (hr:∀ v∈rd,byte v) {s0:St} (h:Bgn s0):sok (tI rd s0):=by
 have b1:byte (op1 rd):=mem_byte hr 0
 have b2:byte (op2 rd):=mem_byte hr 1
 unfold tI
 split
 ·exact scd_ok (fet_ok h.ok b1) b2
 ·exact fet_ok h.ok b1
theorem tI_is {rd:List Int} {s0:St} (h:Bgn s0):(tI rd s0).mode=0∧(tI rd s0).ime=false∧(tI rd s0).arm=false∧(tI rd s0).bug=false∧¬((tI rd s0).op=203∧(tI rd s0).cb=false)∧(tI rd s0).step=baseS (tI rd s0):=by
 unfold tI
 by_cases c:op1 rd=203
 ·rw [if_pos c]
  exact ⟨h.mode,h.ime,h.arm,rfl,fun z=>absurd (show true=false from z.2) (by decide),rfl⟩
 ·rw [if_neg c]
  exact ⟨h.mode,h.ime,h.arm,rfl,fun z=>c z.1,rfl⟩
theorem nih (rd:List Int) (s0:St):ni (hI rd s0)=hI rd s0:=by
 unfold hI ni
 split
 ·rfl
 ·rfl
theorem cycI_whole {rd:List Int} (hr:∀ v∈rd,byte v) {s0:St} (h:Bgn s0):(runW rd s0.r).l=ni (cycI rd s0)∧(endOf (finP rd (tI rd s0) (kI rd) (tI rd s0).pl) 0).r=(runW rd s0.r).r:=by
 obtain ⟨K,X,Y,u,v,w,hf,hk2⟩:=frm_of (tI_ok hr h)
 have ev:=eqv_all rd (s:=tI rd s0) (kI rd) (hI rd s0) hf hk2
 have hpl:(tI rd s0).pl=T.planS K X Y (holdS (tI rd s0).r X):=by
  unfold St.pl
  rw [hf]
 unfold Eqv at ev
 rw [← hpl] at ev
 obtain ⟨e1,e2⟩:=ev
 have me:=mics_eq rd (tI rd s0).pl (tI rd s0) (kI rd) (hI rd s0)
 have mf:=mics_f rd (tI rd s0).pl (tI rd s0,kI rd,hI rd s0)
 rw [me.2] at e2
 rw [me.1] at e1 mf
 have hw:runW rd s0.r=wholeS rd ⟨(tI rd s0).r,kI rd,hI rd s0⟩ K X Y:=by
  have hff:(tI rd s0).f=(K,(X:Int),(Y:Int),u,v,w):=hf
  unfold runW
  by_cases c:op1 rd=203
  ·have g:T.formS (op2 rd) true=(K,(X:Int),(Y:Int),u,v,w):=by
    rw [← hff];unfold tI;rw [if_pos c];rfl
   rw [if_pos c,g]
   unfold tI kI hI
   rw [if_pos c,if_pos c,if_pos c]
   show wholeS rd _ K (X:Int).toNat (Y:Int).toNat=_
   rw [Int.toNat_natCast,Int.toNat_natCast]
   have hb:=h.bug
   congr 1
   unfold nextW w0 scdS fetS Wh.v op1 op2
   simp only [hb]
   rfl
  ·have g:T.formS (op1 rd) false=(K,(X:Int),(Y:Int),u,v,w):=by
    rw [← hff];unfold tI;rw [if_neg c];rfl
   rw [if_neg c,g]
   unfold tI kI hI
   rw [if_neg c,if_neg c,if_neg c]
   show wholeS rd _ K (X:Int).toNat (Y:Int).toNat=_
   rw [Int.toNat_natCast,Int.toNat_natCast]
   have hb:=h.bug
   congr 1
   unfold nextW w0 fetS Wh.v op1
   simp only [hb]
   rfl
 refine ⟨?_,?_⟩
 ·rw [hw,← e2]
  unfold cycI
  rw [ni_app,nih]
 ·rw [hw,← e1]
  unfold endOf
  rw [mf]
  show (endS _ (tI rd s0).f.1 (tI rd s0).f.2.1.toNat (tI rd s0).f.2.2.1.toNat 0).r=_
  rw [hf]
  rfl
def stillL:List Int:=[16,118,243,251,217,211,219,221,227,228,235,236,237,244,252,253]
def stillB (op:Int):Bool:=stillL.contains op
def keepK (k:Int):Bool:=decide (k≠1∧k≠2∧k≠3∧k≠4∧k≠5∧k≠41)
theorem keep_fin:∀ op:Fin 256,keepK (T.formS (op.val:Int) true).1=true∧(stillB (op.val:Int)=false→op.val≠203→keepK (T.formS (op.val:Int) false).1=true):=by decide +kernel
theorem keep_b {op:Int} (h:byte op):keepK (T.formS op true).1=true∧(stillB op=false→op≠203→keepK (T.formS op false).1=true):=by
 have a:=h.1
 have b:=h.2
 obtain ⟨m,rfl⟩:=Int.eq_ofNat_of_zero_le a
 have:=keep_fin ⟨m,by omega⟩
 exact ⟨this.1,fun x y=>this.2 x (fun z=>y (by show (m:Int)=203;have:m=203:=z;omega))⟩
def fr (s t:St):Prop:=t.mode=s.mode∧t.ime=s.ime∧t.arm=s.arm∧t.bug=s.bug
theorem fr_refl (s:St):fr s s:=⟨rfl,rfl,rfl,rfl⟩
theorem putx_fr (s:St) (n v:Int):fr s (putx s n v):=by
 unfold putx;split<;>exact ⟨rfl,rfl,rfl,rfl⟩
theorem end_fr {s:St} {k:Int} (h:keepK k=true) (x y:Nat) (p:Int):fr s (endS s k x y p):=by
 unfold keepK at h
 rw [decide_eq_true_eq] at h
 obtain ⟨h1,h2,h3,h4,h5,h41⟩:=h
 unfold endS
 rw [if_neg h1,if_neg h2,if_neg h3,if_neg h4,if_neg h5,if_neg h41]
 repeat' apply ite_pred (Q:=fr s)
 all_goals first
  | exact ⟨rfl,rfl,rfl,rfl⟩
  | exact putx_fr _ _ _
  | (show fr s { putx s _ _ with r:=_ };exact putx_fr _ _ _)
theorem fin_fr (rd:List Int):∀ (p:List M3) (s:St) (k:Nat),fr s (finP rd s k p)∧(finP rd s k p).f=s.f
 | [],s,k=>⟨fr_refl s,rfl⟩
 | m::p,s,k=>by
  obtain ⟨⟨a,b,c,d⟩,e⟩:=fin_fr rd p (mv rd s k m) (nx k m)
  have key:fr s (mv rd s k m)∧(mv rd s k m).f=s.f:=by unfold mv;split<;>exact ⟨⟨rfl,rfl,rfl,rfl⟩,rfl⟩
  obtain ⟨⟨a2,b2,c2,d2⟩,e2⟩:=key
  exact ⟨⟨a.trans a2,b.trans b2,c.trans c2,d.trans d2⟩,e.trans e2⟩
theorem instr {rd:List Int} (hr:∀ v∈rd,byte v) {s0:St} (h:Bgn s0) {m:List Int} {L:List A3} (hm:mok ⟨s0,m,L⟩) (hc:cons m (runW rd s0.r).l) :
  ∃ s',go (cycI rd s0).length ⟨s0,m,L⟩=⟨s',wrM m (cycI rd s0),L++cycI rd s0⟩∧s'.r=(runW rd s0.r).r∧busyS s'=false∧(∀ i,1≤i→i<(cycI rd s0).length→busyS (go i ⟨s0,m,L⟩).s=true) ∧
   (stillB (op1 rd)=false→Bgn s')∧1≤(cycI rd s0).length∧(cycI rd s0).length≤7∧(cycI rd s0).length≤(ni (cycI rd s0)).length+3:=by
 obtain ⟨cw1,cw2⟩:=cycI_whole hr h
 rw [cw1] at hc
 have kt:=tI_ok hr h
 obtain ⟨t1,t2,t3,t4,t5,t6⟩:=tI_is (rd:=rd) h
 obtain ⟨p1,p2,p3,p4⟩:=plan_is kt
 have b1:byte (op1 rd):=mem_byte hr 0
 have b2:byte (op2 rd):=mem_byte hr 1
 have hcP:cons m (ni (cycP rd (tI rd s0) (kI rd) (tI rd s0).pl)):=fun a ha=>hc a (by unfold cycI;rw [ni_app];exact List.mem_append_right _ ha)
 have pg:=fun L'=>plan_go hr (tI rd s0).pl (tI rd s0) (kI rd) m L' 0 kt t1 t5 (by rw [t6];simp) rfl (by omega) p3 hcP
 have hlen:(cycI rd s0).length=(hI rd s0).length+(tI rd s0).pl.length:=by unfold cycI;rw [List.length_append,cycP_len]
 have hni:(ni (cycI rd s0)).length=(hI rd s0).length+((tI rd s0).pl.filter (fun m=>decide (m.1=1∨m.1=2))).length:=by unfold cycI;rw [ni_app,List.length_append,ni_count,nih]
 have hhl:(hI rd s0).length=kI rd:=by unfold hI kI;split<;>rfl
 have wr0:wrM m (hI rd s0)=m:=by
  unfold hI;split<;>rfl
 have hcH:∀ a∈hI rd s0,a.1≠3→a.2.2=m.getD a.2.1.toNat 0:=fun a ha=>hc a (by unfold cycI;rw [ni_app,nih];exact List.mem_append_left _ ha)
 have f1:op1 rd=m.getD (pcR s0.r).toNat 0:=hcH (1,pcR s0.r,op1 rd) (by unfold hI;split<;>simp) (by show (1:Int)≠3;decide)
 have st1:stepM ⟨s0,m,L⟩ 0=⟨tailS (fetS s0 (op1 rd)) 0,m,L++[(1,pcR s0.r,op1 rd)]⟩:=by
  rw [step0]
  show MC.mk (doneS (wantS s0 0).1 (dataS (wantS s0 0).2.1 m) 0) (memA (wantS s0 0).2.1 m) (L++[actS (wantS s0 0).2.1 m])=_
  rw [begun_want h.mode h.step h.ime h.arm]
  have e1:dataS (1,pcR s0.r,0) m=op1 rd:=by unfold dataS;rw [if_pos (.inl rfl),f1]
  have e2:actS (1,pcR s0.r,0) m=(1,pcR s0.r,op1 rd):=by unfold actS;rw [if_pos (.inl rfl),e1]
  show MC.mk (doneS s0 (dataS (1,pcR s0.r,0) m) 0) (memA (1,pcR s0.r,0) m) (L++[actS (1,pcR s0.r,0) m])=_
  rw [e1,e2,done_first h.mode h.step,m0_eq (show (fetS s0 (op1 rd)).mode=0 from h.mode)]
  rfl
 have head:go (kI rd) ⟨s0,m,L⟩=⟨tailS (tI rd s0) 0,m,L++hI rd s0⟩∧∀ i,1≤i→i<kI rd→busyS (go i ⟨s0,m,L⟩).s=true:=by
  unfold kI tI hI
  by_cases c:op1 rd=203
  ·rw [if_pos c,if_pos c,if_pos c]
   have f2:op2 rd=m.getD (pcR (fetS s0 (op1 rd)).r).toNat 0:=hcH (1,pcR (fetS s0 (op1 rd)).r,op2 rd) (by unfold hI;rw [if_pos c];simp) (by show (1:Int)≠3;decide)
   have hm1:(fetS s0 (op1 rd)).mode=0:=h.mode
   rcases tail_eq (t:=fetS s0 (op1 rd)) hm1 (by show (1:Int)≤1;decide) with ⟨g,e,b⟩ | ⟨g,e,b⟩
   ·have hw1:wantS (fetS s0 (op1 rd)) 0=(fetS s0 (op1 rd),(1,pcR (fetS s0 (op1 rd)).r,0), -1):=by
     rw [want_go hm1 b 0]
     unfold goS
     exact if_pos ⟨rfl, .inl c⟩
    rw [e] at st1
    refine ⟨?_,?_⟩
    ·show stepM (stepM ⟨s0,m,L⟩ 0) 0=_
     rw [st1,step0]
     show MC.mk (doneS (wantS (fetS s0 (op1 rd)) 0).1 (dataS (wantS (fetS s0 (op1 rd)) 0).2.1 m) 0) (memA (wantS (fetS s0 (op1 rd)) 0).2.1 m) ((L++[(1,pcR s0.r,op1 rd)])++[actS (wantS (fetS s0 (op1 rd)) 0).2.1 m])=_
     rw [hw1]
     have e1:dataS (1,pcR (fetS s0 (op1 rd)).r,0) m=op2 rd:=by unfold dataS;rw [if_pos (.inl rfl),f2]
     have e2:actS (1,pcR (fetS s0 (op1 rd)).r,0) m=(1,pcR (fetS s0 (op1 rd)).r,op2 rd):=by unfold actS;rw [if_pos (.inl rfl),e1]
     show MC.mk (doneS (fetS s0 (op1 rd)) (dataS (1,pcR (fetS s0 (op1 rd)).r,0) m) 0) (memA (1,pcR (fetS s0 (op1 rd)).r,0) m) ((L++[(1,pcR s0.r,op1 rd)])++[actS (1,pcR (fetS s0 (op1 rd)).r,0) m])=_
     rw [e1,e2,done_second hm1 b ⟨rfl, .inl c⟩,m0_eq (show (scdS (fetS s0 (op1 rd)) (op2 rd)).mode=0 from hm1),List.append_assoc]
     rfl
    ·intro i h1 h2
     obtain rfl:i=1:=by omega
     show busyS (stepM ⟨s0,m,L⟩ 0).s=true
     rw [st1];exact b
   ·exfalso
    have:(fetS s0 (op1 rd)).step=1:=rfl
    have hl2:lenS (fetS s0 (op1 rd))=2:=by
     unfold lenS
     exact if_pos ⟨c,rfl⟩
    omega
  ·rw [if_neg c,if_neg c,if_neg c]
   exact ⟨st1,fun i h1 h2=>by omega⟩
 have full:go (cycI rd s0).length ⟨s0,m,L⟩=⟨endOf (finP rd (tI rd s0) (kI rd) (tI rd s0).pl) 0,wrM m (cycI rd s0),L++cycI rd s0⟩:=by
  rw [hlen,hhl,go_add,head.1,(pg _).1]
  unfold cycI
  rw [wr_app,wr0,List.append_assoc]
 have kend:=go_ok hm (cycI rd s0).length
 rw [full] at kend
 refine ⟨_,full,cw2,busy_end _ _,?_,?_,?_,?_,?_⟩
 ·intro i h1 h2
  rcases Nat.lt_or_ge i (kI rd) with g | g
  ·exact head.2 i h1 g
  ·obtain ⟨d,rfl⟩:=Nat.exists_eq_add_of_le g
   rw [go_add,head.1]
   exact (pg _).2 d (by omega)
 ·intro hs
  obtain ⟨⟨f1,f2,f3,f4⟩,ff⟩:=fin_fr rd (tI rd s0).pl (tI rd s0) (kI rd)
  have hk:keepK (finP rd (tI rd s0) (kI rd) (tI rd s0).pl).f.1=true:=by
   rw [ff]
   show keepK (T.formS (tI rd s0).op (tI rd s0).cb).1=true
   unfold tI
   by_cases c:op1 rd=203
   ·rw [if_pos c];exact (keep_b b2).1
   ·rw [if_neg c];exact (keep_b b1).2 hs c
  obtain ⟨g1,g2,g3,g4⟩:=end_fr (s:=(finP rd (tI rd s0) (kI rd) (tI rd s0).pl).z) hk (finP rd (tI rd s0) (kI rd) (tI rd s0).pl).f.2.1.toNat (finP rd (tI rd s0) (kI rd) (tI rd s0).pl).f.2.2.1.toNat 0
  exact ⟨kend.s,g1.trans (f1.trans t1),by unfold endOf;rw [end_step];rfl,g2.trans (f2.trans t2),g3.trans (f3.trans t3),g4.trans (f4.trans t4)⟩
 ·rw [hlen,hhl];unfold kI;split<;>omega
 ·rw [hlen,hhl];unfold kI
  split
  ·have:(tI rd s0).cb=true:=by unfold tI;rw [if_pos (by assumption)];rfl
   have:=p2 this
   omega
  ·omega
 ·rw [hlen,hni];omega
end Go.Proofs.YtmhkjafcfpgikaaGreat.E
