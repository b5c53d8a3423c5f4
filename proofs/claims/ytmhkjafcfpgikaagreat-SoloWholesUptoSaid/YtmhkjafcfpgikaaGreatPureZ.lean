/- Functions of the program as plain Lean, and what they come to. Conditions: none. -/
import Derived.Test.YtmhkjafcfpgikaaGreatEwD
import Derived.Test.YtmhkjafcfpgikaaGreatWalkL
import Derived.Test.YtmhkjafcfpgikaaGreatPureWs
open Go Go.Ew
namespace Go.Proofs.YtmhkjafcfpgikaaGreat.E
open Go.IntKind (wrap)
set_option linter.unusedVariables false
set_option linter.unusedSimpArgs false
set_option maxRecDepth 100000
abbrev stlD:=ref23_stills.L0.D
abbrev stlX:=ref23_stills.L0.E
noncomputable def stlstep (x:stlD):Option (stlD⊕stlX):=ref23_stills.L0.step x.1.1 x.1.2.1 x.1.2.2.1 x.2.1.1.1
theorem stl_F_eq:ref23_stills.L0.F=iterU stlstep:=rfl
abbrev mcpD:=ref23_Wholes.L21_0.D
abbrev mcpX:=ref23_Wholes.L21_0.E
noncomputable def mcpstep (x:mcpD):Option (mcpD⊕mcpX):=ref23_Wholes.L21_0.step x.1.1 x.1.2.1 x.1.2.2.1 x.2.1.1 x.2.1.2.1 x.2.1.2.2.1.1
theorem mcp_F_eq:ref23_Wholes.L21_0.F=iterU mcpstep:=rfl
abbrev scnD:=ref23_Wholes.L28_1.D
abbrev scnX:=ref23_Wholes.L28_1.E
noncomputable def scnstep (x:scnD):Option (scnD⊕scnX):=ref23_Wholes.L28_1.step x.1.1 x.1.2.2.2.1 x.1.x5 x.1.x6 x.1.x7 x.1.x8 x.2.1.1 x.2.1.2.1 x.2.1.2.2.1.1 x.2.1.2.2.2.1.1 x.2.1.2.2.2.2.1 x.2.1.x5 x.2.1.x6 x.2.2.1
theorem scn_F_eq:ref23_Wholes.L28_1.F=iterU scnstep:=rfl
abbrev whlD:=ref23_Wholes.L28_0.D
abbrev whlX:=ref23_Wholes.L28_0.E
noncomputable def whlstep (x:whlD):Option (whlD⊕whlX):=ref23_Wholes.L28_0.step ref22_Run.F ref23_Wholes.L28_1.F x.1.1 x.1.2.2.2.1 x.1.x5 x.2.1.1 x.2.1.2.1 x.2.1.2.2.1.1 x.2.1.2.2.2.1.1 x.2.1.2.2.2.2.1 x.2.1.x5 x.2.1.x6
theorem whl_F_eq:ref23_Wholes.L28_0.F=iterU whlstep:=rfl
abbrev wrtD:=ref23_Wholes.L1.D
abbrev wrtX:=ref23_Wholes.L1.E
noncomputable def wrtstep (x:wrtD):Option (wrtD⊕wrtX):=ref23_Wholes.L1.step x.1.1 x.1.2.2.2.1 x.1.2.2.2.2.1 x.1.x6 x.2.1.1 x.2.1.2.1 x.2.1.2.2.1.1 x.2.1.2.2.2.1 x.2.2.1
theorem wrt_F_eq:ref23_Wholes.L1.F=iterU wrtstep:=rfl
abbrev wlsD:=ref23_Wholes.L0.D
abbrev wlsX:=ref23_Wholes.L0.E
noncomputable def wlsstep (x:wlsD):Option (wlsD⊕wlsX):=ref23_Wholes.L0.step ref22_Run.F ref23_stills.F ref23_Wholes.L28_0.F ref23_Wholes.L1.F x.1.1 x.1.2.2.2.1 x.1.2.2.2.2.1 x.2.1.1 x.2.1.2.1 x.2.1.2.2.1.1 x.2.2.1
theorem wls_F_eq:ref23_Wholes.L0.F=iterU wlsstep:=rfl
abbrev lcyD:=law23_SoloWholes.L0.D
abbrev lcyX:=law23_SoloWholes.L0.E
noncomputable def lcystep (x:lcyD):Option (lcyD⊕lcyX):=law23_SoloWholes.L0.step solo_Run.F x.1.1 x.1.2.2.1 x.1.2.2.2.1 x.1.x5 x.1.x6 x.2.1.1 x.2.1.2.1 x.2.2.1
theorem lcy_F_eq:law23_SoloWholes.L0.F=iterU lcystep:=rfl
abbrev ldlD:=law23_SoloWholes.L1.D
abbrev ldlX:=law23_SoloWholes.L1.E
noncomputable def ldlstep (x:ldlD):Option (ldlD⊕ldlX):=law23_SoloWholes.L1.step cpu_Busy.F solo_Run.F x.1.1 x.1.2.2.1 x.1.2.2.2.1 x.1.x5 x.1.x6 x.2.1.1 x.2.1.2.1 x.2.2.1
theorem ldl_F_eq:law23_SoloWholes.L1.F=iterU ldlstep:=rfl
def copyS (mem:List Int) (i:Nat):List Int:=mem.take i++(List.replicate (65536:Nat) (0:Int)).drop i
theorem copy_set {mem:List Int} {i:Nat} (h1:i<mem.length) (h2:i<65536):(copyS mem i).set (0+i) (mem.getD i 0)=copyS mem (i+1):=by
 unfold copyS
 have hl:(mem.take i).length=i:=by rw [List.length_take];omega
 rw [Nat.zero_add,List.set_append_right _ _ (by omega),hl,Nat.sub_self]
 have hd:(List.replicate (65536:Nat) (0:Int)).drop i=0::(List.replicate (65536:Nat) (0:Int)).drop (i+1):=by
  rw [List.drop_eq_getElem_cons (by rw [List.length_replicate];exact h2),List.getElem_replicate]
 rw [hd,List.set_cons_zero,List.take_succ_eq_append_getElem h1,List.append_assoc]
 congr 1
 rw [List.getD_eq_getElem?_getD,List.getElem?_eq_getElem h1]
 rfl
theorem copy_end (mem:List Int):copyS mem (min mem.length 65536)=memS mem:=by
 unfold copyS memS
 rw [List.take_zero,List.nil_append,Nat.zero_add]
theorem sEq_self (x:ByteArray):sEq x x=true:=by unfold sEq;simp



def rb (r:R10):RB:=(r.1,r.2.1,r.2.2.1,r.2.2.2.1,r.2.2.2.2.1,r.x5,r.x6,r.x7,r.x8,r.z9,())
def wb (r:R10) (rd:List Int) (n:Int) (l:List A3):WB:=(r.1,r.2.1,r.2.2.1,r.2.2.2.1,r.2.2.2.2.1,r.x5,r.x6,r.x7,r.x8,r.z9,rd,n,l,())
abbrev D2:Nat×Nat:=(65536,65536)
theorem mcopy_loop (mem:List Int) (hl:mem.length≤9223372036854775807) (B0 B1:RB) :
  iterU mcpstep ((mem,D2,(0:Int),()),(B0,B1,(List.replicate (65536:Nat) (0:Int),()),()),())=some ((D2,()),(B0,B1,(memS mem,()),()),()):=by
 have st0:=iterU_range (step:=mcpstep) (fun i=>((mem,D2,(i:Int),()),(B0,B1,(copyS mem i,()),()),())) ((D2,()),(B0,B1,(memS mem,()),()),()) (min mem.length 65536) ?_ ?_ 0 (Nat.zero_le _)
 ·have:copyS mem 0=List.replicate (65536:Nat) (0:Int):=by unfold copyS;rw [List.take_zero,List.drop_zero,List.nil_append]
  rw [this] at st0
  exact st0
 ·intro i hi
  have h1:i<mem.length:=by omega
  have h2:i<65536:=by omega
  have g:(0:Int)≤(i:Int)∧(i:Int)<(mem.length:Int):=⟨by omega,by omega⟩
  have g2:(0:Int)≤(i:Int)∧(i:Int)<((65536:Nat):Int):=⟨by omega,by omega⟩
  unfold mcpstep ref23_Wholes.L21_0.step
  refine (if_pos (by rw [decide_eq_true g.2];rfl)).trans ?_
  refine (if_pos (decide_eq_true g2.2)).trans ?_
  refine (if_pos g).trans ?_
  refine (if_pos g2).trans ?_
  have:wrap .i64 ((i:Int)+1)=((i+1:Nat):Int):=by rw [w64 (by omega)];omega
  dsimp only
  rw [this,Int.toNat_natCast,copy_set h1 h2]
 ·unfold mcpstep ref23_Wholes.L21_0.step
  dsimp only
  rw [← copy_end]
  by_cases q:mem.length≤65536
  ·rw [Nat.min_eq_left q]
   exact if_neg (by simp)
  ·rw [Nat.min_eq_right (by omega)]
   refine (if_pos (by simp;omega)).trans ?_
   exact if_neg (by simp)
theorem it_inl {α β:Type} {step:α→Option (α⊕β)} {a a':α} (h:step a=some (.inl a')):iterU step a=iterU step a':=by rw [iterU_eq,h]
theorem it_inr {α β:Type} {step:α→Option (α⊕β)} {a:α} {b:β} (h:step a=some (.inr b)):iterU step a=some b:=by rw [iterU_eq,h]
theorem getD_at (pre l:List A3) (a:A3):(pre++a::l).getD pre.length (0,0,0)=a:=by
 rw [List.getD_eq_getElem?_getD,List.getElem?_append_right (Nat.le_refl _),Nat.sub_self];rfl
theorem snocI (l:List Int) (x:Int):List.take (l.length+1) (List.take l.length l++List.take 1 (List.drop 0 [x]))=l++[x]:=by
 simp only [List.take_length,List.drop_zero]
 rw [List.take_of_length_le (by simp)]
 simp
theorem scan_loop {m rd:List Int} {acts:List A3} (hrd:rd.length≤100) (hl:acts.length≤100) (ha:∀ a∈acts,word a.2.1) (i:Int) (B0 B1 B4:RB) (B3:List A3×Unit) (B5:VB) (r:R10) (rdw:List Int) (nw:Int) :
  ∀ (l pre:List A3) (k:Nat) (nx:List Int),pre++l=acts→k≤pre.length→nx.length≤pre.length →
  iterU scnstep ((D2,(),(),rd,(),i,(k:Int),false,(pre.length:Int),()),(B0,B1,(m,()),B3,B4,B5,wb r rdw nw acts,()),nx,())=some ((D2,(),(),(),i,(scanW m rd l k nx).1,(scanW m rd l k nx).2,()),(B0,B1,(m,()),B3,B4,B5,wb r rdw nw acts,()),())
 | [], pre, k, nx, hp, hk, hn => by
  have e:scnstep ((D2,(),(),rd,(),i,(k:Int),false,(pre.length:Int),()),(B0,B1,(m,()),B3,B4,B5,wb r rdw nw acts,()),nx,())=some (.inr ((D2,(),(),(),i,false,nx,()),(B0,B1,(m,()),B3,B4,B5,wb r rdw nw acts,()),())):=by
   unfold scnstep ref23_Wholes.L28_1.step
   refine (if_neg (show ¬decide ((pre.length:Int)<(acts.length:Int))=true by rw [decide_eq_true_eq,← hp,List.append_nil];omega)).trans ?_
   dsimp only
   rw [List.drop_zero,List.take_length]
  exact it_inr e
 | a :: l, pre, k, nx, hp, hk, hn => by
  have hlen:acts.length=pre.length+(l.length+1):=by rw [← hp];simp
  have hget:acts.getD (Int.toNat (pre.length:Int)) (0,0,0)=a:=by rw [Int.toNat_natCast,← hp,getD_at]
  have hmem:a∈acts:=by rw [← hp];simp
  have g:(0:Int)≤(pre.length:Int)∧(pre.length:Int)<(acts.length:Int):=⟨by omega,by omega⟩
  have ab:(0:Int)≤(acts.getD (Int.toNat (pre.length:Int)) (0,0,0)).2.1∧(acts.getD (Int.toNat (pre.length:Int)) (0,0,0)).2.1<((65536:Nat):Int):=by
   rw [hget];exact bd (ha a hmem)
  have room:nx.length+1≤268435456:=by omega
  have ej:wrap .i64 ((pre.length:Int)+1)=((pre.length+1:Nat):Int):=by rw [w64 (by omega)];omega
  have ek:wrap .i64 ((k:Int)+1)=((k+1:Nat):Int):=by rw [w64 (by omega)];omega
  have hp2:(pre++[a])++l=acts:=by rw [← hp,List.append_assoc];rfl
  have el:(pre++[a]).length=pre.length+1:=by simp
  by_cases c:a.1=3
  ·have e:scnstep ((D2,(),(),rd,(),i,(k:Int),false,(pre.length:Int),()),(B0,B1,(m,()),B3,B4,B5,wb r rdw nw acts,()),nx,())=some (.inl ((D2,(),(),rd,(),i,(k:Int),false,((pre++[a]).length:Int),()),(B0,B1,(m,()),B3,B4,B5,wb r rdw nw acts,()),nx,())):=by
    unfold scnstep ref23_Wholes.L28_1.step
    refine (if_pos (decide_eq_true g.2)).trans ?_
    refine (if_pos g).trans ?_
    refine (if_neg (show ¬((acts.getD (Int.toNat (pre.length:Int)) (0,0,0)).1 != 3)=true by rw [hget,c];decide)).trans ?_
    show some (Sum.inl ((D2,(),(),rd,(),i,(k:Int),false,wrap .i64 ((pre.length:Int)+1),()),(B0,B1,(m,()),B3,B4,B5,wb r rdw nw acts,()),List.take nx.length nx,()))=_
    rw [ej,List.take_length,el]
   rw [it_inl e]
   rw [scan_loop hrd hl ha i B0 B1 B4 B3 B5 r rdw nw l (pre++[a]) k nx hp2 (by omega) (by omega)]
   rw [show scanW m rd (a::l) k nx=scanW m rd l k nx from if_pos c]
  ·have cc:((acts.getD (Int.toNat (pre.length:Int)) (0,0,0)).1 != 3)=true:=by rw [hget];simpa using c
   by_cases q:k<rd.length∧rd.getD k 0=m.getD a.2.1.toNat 0
   ·have e:scnstep ((D2,(),(),rd,(),i,(k:Int),false,(pre.length:Int),()),(B0,B1,(m,()),B3,B4,B5,wb r rdw nw acts,()),nx,())=some (.inl ((D2,(),(),rd,(),i,((k+1:Nat):Int),false,((pre++[a]).length:Int),()),(B0,B1,(m,()),B3,B4,B5,wb r rdw nw acts,()),nx++[m.getD a.2.1.toNat 0],())):=by
     unfold scnstep ref23_Wholes.L28_1.step
     refine (if_pos (decide_eq_true g.2)).trans ?_
     refine (if_pos g).trans ?_
     refine (if_pos cc).trans ?_
     refine (if_pos g).trans ?_
     refine (if_pos ab).trans ?_
     refine (if_pos room).trans ?_
     refine (if_pos (show (decide ((k:Int)≥(rd.length:Int))==false)=true by rw [decide_eq_false (by omega)];rfl)).trans ?_
     refine (if_pos (show (0:Int)≤(k:Int)∧(k:Int)<(rd.length:Int) from ⟨by omega,by omega⟩)).trans ?_
     refine (if_neg (show ¬(rd.getD (Int.toNat (k:Int)) 0 != m.getD (0+Int.toNat (acts.getD (Int.toNat (pre.length:Int)) (0,0,0)).2.1) 0)=true by rw [hget,Int.toNat_natCast,Nat.zero_add,q.2];simp)).trans ?_
     show some (Sum.inl ((D2,(),(),rd,(),i,wrap .i64 ((k:Int)+1),false,wrap .i64 ((pre.length:Int)+1),()),(B0,B1,(m,()),B3,B4,B5,wb r rdw nw acts,()),List.take (nx.length+1) (List.take nx.length nx++List.take 1 (List.drop 0 [m.getD (0+Int.toNat (acts.getD (Int.toNat (pre.length:Int)) (0,0,0)).2.1) 0])),()))=_
     rw [hget,Nat.zero_add,snocI,ej,ek,el]
    rw [it_inl e]
    rw [scan_loop hrd hl ha i B0 B1 B4 B3 B5 r rdw nw l (pre++[a]) (k+1) (nx++[m.getD a.2.1.toNat 0]) hp2 (by omega) (by simp;omega)]
    rw [show scanW m rd (a::l) k nx=scanW m rd l (k+1) (nx++[m.getD a.2.1.toNat 0]) from (if_neg c).trans (if_pos q)]
   ·have es:scanW m rd (a::l) k nx=(true,nx++[m.getD a.2.1.toNat 0]):=(if_neg c).trans (if_neg q)
    rw [es]
    refine it_inr (Eq.trans (b:=(some (Sum.inr ((D2,(),(),(),i,true,List.take (nx.length+1) (List.drop 0 (List.take nx.length nx++List.take 1 (List.drop 0 [m.getD (0+Int.toNat (acts.getD (Int.toNat (pre.length:Int)) (0,0,0)).2.1) 0]))),()),(B0,B1,(m,()),B3,B4,B5,wb r rdw nw acts,()),())):Option (scnD⊕scnX))) ?_ (by rw [hget,Nat.zero_add,List.drop_zero,snocI]))
    unfold scnstep ref23_Wholes.L28_1.step
    refine (if_pos (decide_eq_true g.2)).trans ?_
    refine (if_pos g).trans ?_
    refine (if_pos cc).trans ?_
    refine (if_pos g).trans ?_
    refine (if_pos ab).trans ?_
    refine (if_pos room).trans ?_
    rcases Nat.lt_or_ge k rd.length with kl | kl
    ·refine (if_pos (show (decide ((k:Int)≥(rd.length:Int))==false)=true by rw [decide_eq_false (by omega)];rfl)).trans ?_
     refine (if_pos (show (0:Int)≤(k:Int)∧(k:Int)<(rd.length:Int) from ⟨by omega,by omega⟩)).trans ?_
     refine (if_pos (show (rd.getD (Int.toNat (k:Int)) 0 != m.getD (0+Int.toNat (acts.getD (Int.toNat (pre.length:Int)) (0,0,0)).2.1) 0)=true by rw [hget,Int.toNat_natCast,Nat.zero_add];simpa using fun z=>q ⟨kl,z⟩)).trans ?_
     rfl
    ·refine (if_neg (show ¬(decide ((k:Int)≥(rd.length:Int))==false)=true by rw [decide_eq_true (by omega)];decide)).trans ?_
     rfl
theorem acts_word {rd:List Int} (hr:∀ v∈rd,byte v) {r:R10} (h:rok r):∀ a∈(runW rd r).l,word a.2.1:=by
 have key:∀ (p:List M3) (s:St) (k:Nat),sok s→∀ a∈cycP rd s k p,word a.2.1:=by
  intro p
  induction p with
  | nil=>intro s k hs a ha;exact absurd ha (by simp [cycP])
  | cons m p ih =>
   intro s k hs a ha
   rcases List.mem_cons.1 ha with q | q
   ·rw [q]
    unfold act1
    split
    ·exact at_ok hs _
    ·split
     ·exact at_ok hs _
     ·exact word0
   ·refine ih (mv rd s k m) (nx k m) ?_ a q
    unfold mv;split
    ·exact mov_ok hs m (mem_byte hr k)
    ·exact mov_ok hs m byte0
 have cw:=(cycI_whole hr (bgn_ok h)).1
 rw [show (bgn r).r=r from rfl] at cw
 rw [cw]
 intro a ha
 have ha:=(List.mem_filter.1 ha).1
 unfold cycI at ha
 rcases List.mem_append.1 ha with q | q
 ·unfold hI at q
  split at q
  ·simp only [List.mem_cons,List.not_mem_nil,or_false] at q
   rcases q with q | q
   ·rw [q];exact h.pc
   ·rw [q];exact (fet_ok (bgn_ok h).ok (mem_byte hr 0)).r.pc
  ·rw [List.mem_singleton.1 q];exact h.pc
 ·exact key _ _ _ (tI_ok hr (bgn_ok h)) a q
theorem who_ok {r:R10} {m:List Int} {w:Wh} (h:rok r) (hm:m.length=65536∧∀ v∈m,byte v) (hw:Who r m w):rok w.r∧(wrM m w.l).length=65536∧(∀ v∈wrM m w.l,byte v)∧w.l.length≤7∧w.l≠[]∧(∀ a∈w.l,word a.2.1):=by
 obtain ⟨rd,hr,rfl,hc⟩:=hw
 have hb:=bgn_ok h
 have hmk:mok ⟨bgn r,m,[]⟩:=⟨hb.ok,hm.1,hm.2⟩
 obtain ⟨s',g1,g2,g3,g4,g5,g6,g7,g8⟩:=instr (s0:=bgn r) hr hb hmk hc
 have kk:=go_ok hmk (cycI rd (bgn r)).length
 rw [g1] at kk
 have cw:=(cycI_whole hr hb).1
 rw [show (bgn r).r=r from rfl] at cw g2
 refine ⟨g2▸kk.s.r,?_,?_,(rds_le hr h).1,?_,acts_word hr h⟩
 ·rw [cw,wr_ni];exact kk.len
 ·rw [cw,wr_ni];exact kk.m
 ·rw [cw];unfold cycI;rw [ni_app,nih];unfold hI;split<;>simp
theorem whole_loop {r:R10} (h:rok r) {m:List Int} (hml:m.length=65536) (hm:∀ v∈m,byte v) (B0 B1:RB) (B3:List A3×Unit) (B5:VB) :
  ∃ (w:Wh) (rd:List Int),Who r m w∧iterU whlstep ((D2,(),(),[],(),0,()),(B0,B1,(m,()),B3,rb r,B5,wb (runW [] r).r [] ((runW [] r).n:Int) (runW [] r).l,()),()) =
   some (.inl (((),()),(B0,B1,(m,()),B3,wb w.r rd (w.n:Int) w.l,()),())):=by
 have key:=iterU_inv (step:=whlstep)
  (fun x=>∃ rd:List Int,(∀ v∈rd,byte v)∧good m rd (rds (runW rd r).l)∧rd.length≤7∧x=((D2,(),(),rd,(),(rd.length:Int),()),(B0,B1,(m,()),B3,rb r,B5,wb (runW rd r).r rd ((runW rd r).n:Int) (runW rd r).l,()),()))
  (fun y=>∃ (w:Wh) (rd:List Int),Who r m w∧y = .inl (((),()),(B0,B1,(m,()),B3,wb w.r rd (w.n:Int) w.l,()),()))
  (fun x:whlD=>8 - x.1.x5.toNat) ?_ _ ⟨[],(fun v hv=>nomatch hv),(fun i hi=>nomatch hi),by decide,rfl⟩
 ·obtain ⟨b,e,w,rd,hw,rfl⟩:=key
  exact ⟨w,rd,hw,e⟩
 ·rintro _ ⟨rd,hr,hg,h7,rfl⟩
  obtain ⟨l7,a7⟩:=rds_le hr h
  have sl:=scan_loop (m:=m) (rd:=rd) (acts:=(runW rd r).l) (by omega) (by omega) (acts_word hr h) (rd.length:Int) B0 B1 (rb r) B3 B5 (runW rd r).r rd ((runW rd r).n:Int) (runW rd r).l [] 0 [] rfl (Nat.le_refl _) (Nat.le_refl _)
  have hs:=scan_spec hg (runW rd r).l 0 (by rw [List.drop_zero]) (Nat.zero_le _)
  rw [List.take_zero] at hs
  rcases hs with ⟨g1,g2⟩ | ⟨a,g1,g2⟩
  ·right
   refine ⟨_,?_,runW rd r,rd,⟨rd,hr,rfl,whole_cons hr h hg g1⟩,rfl⟩
   unfold whlstep ref23_Wholes.L28_0.step
   refine (if_pos (show decide ((rd.length:Int)<8)=true by rw [decide_eq_true_eq];omega)).trans ?_
   rw [scn_F_eq]
   refine (bind_eq sl).trans ?_
   exact if_pos (show (!(scanW m rd (runW rd r).l 0 []).1)=true by rw [g2];rfl)
  ·left
   obtain ⟨gn,hr2⟩:=good_next hm hr h hg g1
   have lt:rd.length<(rds (runW rd r).l).length:=by
    rcases Nat.lt_or_ge rd.length (rds (runW rd r).l).length with q | q
    ·exact q
    ·rw [List.getElem?_eq_none q] at g1;exact absurd g1 (by simp)
   refine ⟨_,?_,⟨rd++[m.getD a.2.1.toNat 0],hr2,gn,by simp;omega,rfl⟩,by show 8 - (((rd++[m.getD a.2.1.toNat 0]).length:Int)).toNat<8 - (rd.length:Int).toNat;simp only [List.length_append,List.length_cons,List.length_nil];omega⟩
   unfold whlstep ref23_Wholes.L28_0.step
   refine (if_pos (show decide ((rd.length:Int)<8)=true by rw [decide_eq_true_eq];omega)).trans ?_
   rw [scn_F_eq]
   refine (bind_eq sl).trans ?_
   refine (if_neg (show ¬(!(scanW m rd (runW rd r).l 0 []).1)=true by rw [g2];simp)).trans ?_
   rw [g2]
   refine (bind_eq (runs hr2 h)).trans ?_
   have:wrap .i64 ((rd.length:Int)+1)=((rd++[m.getD a.2.1.toNat 0]).length:Int):=by rw [w64 (by omega)];simp
   show some (Sum.inl ((D2,(),(),rd++[m.getD a.2.1.toNat 0],(),wrap .i64 ((rd.length:Int)+1),()),_,()))=_
   rw [this]
   rfl
theorem snocA (l:List A3) (x:A3):List.take (l.length+1) (List.take l.length l++List.take 1 (List.drop 0 [x]))=l++[x]:=by
 simp only [List.take_length,List.drop_zero]
 rw [List.take_of_length_le (by simp)]
 simp
theorem write_loop {acts:List A3} (hl:acts.length≤100) (ha:∀ a∈acts,word a.2.1) (N I:Int) (B0 B1:RB) (r:R10) (rdw:List Int) (nw:Int) :
  ∀ (l pre:List A3) (m:List Int) (out:List A3),pre++l=acts→out.length≤1000+pre.length →
  iterU wrtstep ((N,(),(),D2,I,(),(pre.length:Int),()),(B0,B1,(m,()),wb r rdw nw acts,()),out,())=some ((N,(),(),D2,I,(),()),(B0,B1,(wrM m l,()),wb r rdw nw acts,()),out++l,())
 | [], pre, m, out, hp, ho => by
  have e:wrtstep ((N,(),(),D2,I,(),(pre.length:Int),()),(B0,B1,(m,()),wb r rdw nw acts,()),out,())=some (.inr ((N,(),(),D2,I,(),()),(B0,B1,(m,()),wb r rdw nw acts,()),out,())):=by
   unfold wrtstep ref23_Wholes.L1.step
   refine (if_neg (show ¬decide ((pre.length:Int)<(acts.length:Int))=true by rw [decide_eq_true_eq,← hp,List.append_nil];omega)).trans ?_
   dsimp only
   rw [List.take_length]
  rw [it_inr e,List.append_nil]
  rfl
 | a :: l, pre, m, out, hp, ho => by
  have hlen:acts.length=pre.length+(l.length+1):=by rw [← hp];simp
  have hget:acts.getD (Int.toNat (pre.length:Int)) (0,0,0)=a:=by rw [Int.toNat_natCast,← hp,getD_at]
  have hmem:a∈acts:=by rw [← hp];simp
  have g:(0:Int)≤(pre.length:Int)∧(pre.length:Int)<(acts.length:Int):=⟨by omega,by omega⟩
  have ab:(0:Int)≤(acts.getD (Int.toNat (pre.length:Int)) (0,0,0)).2.1∧(acts.getD (Int.toNat (pre.length:Int)) (0,0,0)).2.1<((65536:Nat):Int):=by
   rw [hget];exact bd (ha a hmem)
  have room:out.length+1≤268435456:=by omega
  have ej:wrap .i64 ((pre.length:Int)+1)=((pre.length+1:Nat):Int):=by rw [w64 (by omega)];omega
  have hp2:(pre++[a])++l=acts:=by rw [← hp,List.append_assoc];rfl
  have el:(pre++[a]).length=pre.length+1:=by simp
  have e:wrtstep ((N,(),(),D2,I,(),(pre.length:Int),()),(B0,B1,(m,()),wb r rdw nw acts,()),out,())=some (.inl ((N,(),(),D2,I,(),((pre++[a]).length:Int),()),(B0,B1,(memA a m,()),wb r rdw nw acts,()),out++[a],())):=by
   unfold wrtstep ref23_Wholes.L1.step
   refine (if_pos (decide_eq_true g.2)).trans ?_
   refine (if_pos g).trans ?_
   by_cases c:a.1=3
   ·refine (if_pos (show ((acts.getD (Int.toNat (pre.length:Int)) (0,0,0)).1==3)=true by rw [hget,c];decide)).trans ?_
    refine (if_pos ab).trans ?_
    refine (if_pos room).trans ?_
    show some (Sum.inl ((N,(),(),D2,I,(),wrap .i64 ((pre.length:Int)+1),()),(B0,B1,(List.set m (0+Int.toNat (acts.getD (Int.toNat (pre.length:Int)) (0,0,0)).2.1) (acts.getD (Int.toNat (pre.length:Int)) (0,0,0)).2.2,()),wb r rdw nw acts,()),List.take (out.length+1) (List.take out.length out++List.take 1 (List.drop 0 [acts.getD (Int.toNat (pre.length:Int)) (0,0,0)])),()))=_
    rw [hget,Nat.zero_add,snocA,ej,el]
    unfold memA
    rw [if_pos c]
   ·refine (if_neg (show ¬((acts.getD (Int.toNat (pre.length:Int)) (0,0,0)).1==3)=true by rw [hget];simpa using c)).trans ?_
    refine (if_pos room).trans ?_
    show some (Sum.inl ((N,(),(),D2,I,(),wrap .i64 ((pre.length:Int)+1),()),(B0,B1,(m,()),wb r rdw nw acts,()),List.take (out.length+1) (List.take out.length out++List.take 1 (List.drop 0 [acts.getD (Int.toNat (pre.length:Int)) (0,0,0)])),()))=_
    rw [hget,snocA,ej,el]
    unfold memA
    rw [if_neg c]
  rw [it_inl e]
  rw [write_loop hl ha N I B0 B1 r rdw nw l (pre++[a]) (memA a m) (out++[a]) hp2 (by simp;omega),List.append_assoc]
  rfl
theorem stl_loop (op:Int):∀ (l pre:List Int),pre++l=stillL→iterU stlstep ((op,((16:Nat),(16:Nat)),(pre.length:Int),()),((stillL,()),()),())=some (if l.contains op=true then .inl ((true,()),(),()) else .inr ((),(),()))
 | [],pre,hp=>by
  refine it_inr ?_
  have hl:pre.length=16:=by rw [List.append_nil] at hp;rw [hp];rfl
  unfold stlstep ref23_stills.L0.step
  refine (if_neg (show ¬decide ((pre.length:Int)<((16:Nat):Int))=true by rw [decide_eq_true_eq];omega)).trans ?_
  rfl
 | a :: l, pre, hp => by
  have hl:pre.length+(l.length+1)=16:=by
   have:=congrArg List.length hp
   rw [List.length_append] at this
   exact this
  have hget:stillL.getD (0+Int.toNat (pre.length:Int)) 0=a:=by
   rw [Nat.zero_add,Int.toNat_natCast,← hp,List.getD_eq_getElem?_getD,List.getElem?_append_right (Nat.le_refl _),Nat.sub_self];rfl
  have g:(0:Int)≤(pre.length:Int)∧(pre.length:Int)<((16:Nat):Int):=⟨by omega,by omega⟩
  have ej:wrap .i64 ((pre.length:Int)+1)=((pre.length+1:Nat):Int):=by rw [w64 (by omega)];omega
  by_cases c:a=op
  ·refine it_inr ?_
   unfold stlstep ref23_stills.L0.step
   refine (if_pos (decide_eq_true g.2)).trans ?_
   refine (if_pos g).trans ?_
   refine (if_pos (show (stillL.getD (0+Int.toNat (pre.length:Int)) 0==op)=true by rw [hget,c];simp)).trans ?_
   rw [if_pos (by rw [c];simp)]
  ·refine (it_inl (a':=((op,((16:Nat),(16:Nat)),((pre++[a]).length:Int),()),((stillL,()),()),())) ?_).trans ?_
   ·unfold stlstep ref23_stills.L0.step
    refine (if_pos (decide_eq_true g.2)).trans ?_
    refine (if_pos g).trans ?_
    refine (if_neg (show ¬(stillL.getD (0+Int.toNat (pre.length:Int)) 0==op)=true by rw [hget];simpa using c)).trans ?_
    rw [show (pre++[a]).length=pre.length+1 by simp,← ej]
   ·rw [stl_loop op l (pre++[a]) (by rw [← hp,List.append_assoc];rfl)]
    have:(a::l).contains op=l.contains op:=by
     rw [List.contains_cons,beq_eq_false_iff_ne.2 (fun z=>c z.symm),Bool.false_or]
    rw [this]
theorem stills_spec {op:Int} (h:byte op):ref23_stills.F (op,())=some (stillB op,()):=by
 show ref23_stills.G ref23_stills.L0.F op=_
 unfold ref23_stills.G
 rw [stl_F_eq]
 refine (bind_eq (stl_loop op stillL [] rfl)).trans ?_
 unfold stillB
 cases stillL.contains op<;>rfl
theorem op_byte {r:R10} (h:rok r) {m:List Int} {w:Wh} (hw:Who r m w):byte (opA w):=by
 obtain ⟨rd,hr,rfl,hc⟩:=hw
 rw [show runW rd r=runW rd (bgn r).r from rfl,opA_eq hr (bgn_ok h)]
 exact mem_byte hr 0
def endW (N:Int) (B1:RB) (r:R10) (m:List Int) (l:List A3):wlsX→Prop:=fun y=>y = .inl (((),D2,false,()),(rb r,(m,()),()),l,())∨∃ B0:RB,B0=rb r∧y = .inr (((),(),D2,()),(B0,B1,(m,()),()),l,())
theorem wls_loop {N:Nat} (hN:N≤40) (B1:RB):∀ (d i:Nat) (r:R10) (m:List Int) (out:List A3),i+d=N→rok r→m.length=65536→(∀ v∈m,byte v)→out.length≤7*i →
  ∃ (r':R10) (m':List Int) (l':List A3) (y:wlsX),Whs d r m r' m' l'∧iterU wlsstep (((N:Int),(),(),D2,(i:Int),()),(rb r,B1,(m,()),()),out,())=some y∧endW (N:Int) B1 r' m' (out++l') y:=by
 intro d
 induction d with
 | zero =>
  intro i r m out hi hr hl hm ho
  refine ⟨r,m,[], .inr (((),(),D2,()),(rb r,B1,(m,()),()),out,()), .zero r m,?_, .inr ⟨rb r,rfl,by rw [List.append_nil]⟩⟩
  have e:wlsstep (((N:Int),(),(),D2,(i:Int),()),(rb r,B1,(m,()),()),out,())=some (.inr (.inr (((),(),D2,()),(rb r,B1,(m,()),()),out,()))):=by
   unfold wlsstep ref23_Wholes.L0.step
   refine (if_neg (show ¬decide ((i:Int)<(N:Int))=true by rw [decide_eq_true_eq];omega)).trans ?_
   dsimp only
   rw [List.take_length]
  exact it_inr e
 | succ d ih =>
  intro i r m out hi hr hl hm ho
  obtain ⟨w,rd,hw,ew⟩:=whole_loop hr hl hm (rb r) B1 (out,()) (0,0,0,0,0,0,0,0,0,0,[],0,[],())
  obtain ⟨o1,o2,o3,o4,o5,o6⟩:=who_ok hr ⟨hl,hm⟩ hw
  have wl:=write_loop (acts:=w.l) (by omega) o6 (N:Int) (i:Int) (rb r) B1 w.r rd (w.n:Int) w.l [] m out rfl (by simp;omega)
  have pos:0<w.l.length:=by
   rcases Nat.eq_zero_or_pos w.l.length with q | q
   ·exact absurd (List.length_eq_zero_iff.1 q) o5
   ·exact q
  have ei:wrap .i64 ((i:Int)+1)=((i+1:Nat):Int):=by rw [w64 (by omega)];omega
  have step:wlsstep (((N:Int),(),(),D2,(i:Int),()),(rb r,B1,(m,()),()),out,())=if stillB (opA w)=true then some (.inr (.inl (((),D2,false,()),(rb w.r,(wrM m w.l,()),()),out++w.l,()))) else some (.inl (((N:Int),(),(),D2,((i+1:Nat):Int),()),(rb w.r,B1,(wrM m w.l,()),()),out++w.l,())):=by
   unfold wlsstep ref23_Wholes.L0.step
   refine (if_pos (show decide ((i:Int)<(N:Int))=true by rw [decide_eq_true_eq];omega)).trans ?_
   refine (bind_eq (runs (rd:=[]) (fun v hv=>nomatch hv) hr)).trans ?_
   rw [whl_F_eq]
   refine (bind_eq ew).trans ?_
   dsimp only [Sum.elim_inl]
   rw [wrt_F_eq]
   have e3:List.take out.length out=out:=List.take_length
   refine (bind_eq (show iterU wrtstep _=_ from by
    show iterU wrtstep (((N:Int),(),(),D2,(i:Int),(),0,()),(rb r,B1,(m,()),wb w.r rd (w.n:Int) w.l,()),List.take out.length out,())=_
    rw [e3];exact wl)).trans ?_
   refine (if_pos (show (decide ((w.l.length:Int)>0)==true)=true by rw [decide_eq_true (by omega)];rfl)).trans ?_
   refine (if_pos (show (0:Int)≤0∧(0:Int)<(w.l.length:Int) from ⟨by decide,by omega⟩)).trans ?_
   refine (bind_eq (stills_spec (op_byte hr hw))).trans ?_
   dsimp only
   rw [ei,List.take_length]
   rfl
  cases hs:stillB (opA w) with
  | true=>
   rw [hs] at step
   exact ⟨w.r,wrM m w.l,w.l,_, .still hw hs,it_inr step, .inl rfl⟩
  | false=>
   obtain ⟨r',m',l',y,h1,h2,h3⟩:=ih (i+1) w.r (wrM m w.l) (out++w.l) (by omega) o1 o2 o3 (by rw [List.length_append];omega)
   rw [hs] at step
   exact ⟨r',m',w.l++l',y, .more hw hs h1,(it_inl step).trans h2,by rw [← List.append_assoc];exact h3⟩
theorem wholes_spec {r:R10} (hr:rok r) {mem:List Int} (hl:mem.length≤9223372036854775807) (hm:∀ v∈mem,byte v) {n:Nat} (hn:n≤40) :
  ∃ (r':R10) (m':List Int) (l':List A3) (b:Bool),Whs n r (memS mem) r' m' l'∧m'.length=65536∧ref23_Wholes.F (r,mem,(n:Int),())=some (r',m',l',b,()):=by
 obtain ⟨r',m',l',y,h1,h2,h3⟩:=wls_loop hn (0,0,0,0,0,0,0,0,0,0,()) n 0 r (memS mem) [] (by omega) hr (memS_len mem) (memS_byte hm) (Nat.le_refl _)
 obtain ⟨T,cyc,s',a1,a2,a3,a4,a5,a6,a7,a8,a9⟩:=whs_go h1 (bgn r) [] (bgn_ok hr) rfl ⟨(bgn_ok hr).ok,memS_len mem,memS_byte hm⟩
 have kk:=go_ok (x:=⟨bgn r,memS mem,[]⟩) ⟨(bgn_ok hr).ok,memS_len mem,memS_byte hm⟩ T
 rw [a1] at kk
 have ml:m'.length=65536:=kk.len
 have fin:∀ b:Bool,(some (r',List.take 65536 (List.drop 0 m'),List.take l'.length (List.drop 0 l'),b,()):Option (R10×(List Int)×(List A3)×Bool×Unit))=some (r',m',l',b,()):=by
  intro b
  rw [List.drop_zero,List.drop_zero,List.take_length,List.take_of_length_le (by omega)]
 have base:ref23_Wholes.F (r,mem,(n:Int),())=(Sum.elim (fun y2=>some ((y2.2.1.1.1,y2.2.1.1.2.1,y2.2.1.1.2.2.1,y2.2.1.1.2.2.2.1,y2.2.1.1.2.2.2.2.1,y2.2.1.1.x5,y2.2.1.1.x6,y2.2.1.1.x7,y2.2.1.1.x8,y2.2.1.1.x9),List.take y2.1.2.1.1 (List.drop (0:Nat) y2.2.1.2.1.1),List.take (List.length y2.2.2.1) (List.drop (0:Nat) y2.2.2.1),y2.1.2.2)) (fun y2=>some ((y2.2.1.1.1,y2.2.1.1.2.1,y2.2.1.1.2.2.1,y2.2.1.1.2.2.2.1,y2.2.1.1.2.2.2.2.1,y2.2.1.1.x5,y2.2.1.1.x6,y2.2.1.1.x7,y2.2.1.1.x8,y2.2.1.1.x9),List.take y2.1.2.2.1.1 (List.drop (0:Nat) y2.2.1.2.2.1.1),List.take (List.length y2.2.2.1) (List.drop (0:Nat) y2.2.2.1),true,())) y:Option (R10×(List Int)×(List A3)×Bool×Unit)):=by
  show ref23_Wholes.G ref23_Wholes.L21_0.F ref23_Wholes.L0.F r mem (n:Int)=_
  unfold ref23_Wholes.G
  rw [mcp_F_eq,wls_F_eq]
  refine (bind_eq (mcopy_loop mem hl (rb r) (0,0,0,0,0,0,0,0,0,0,()))).trans ?_
  exact bind_eq h2
 rw [List.nil_append] at h3
 rcases h3 with q | ⟨B0,qb,q⟩
 ·subst q
  exact ⟨r',m',l',false,h1,ml,base.trans (fin false)⟩
 ·subst q qb
  exact ⟨r',m',l',true,h1,ml,base.trans (fin true)⟩
theorem memS_id {m:List Int} (h:m.length=65536):memS m=m:=by
 unfold memS
 rw [h,List.take_zero,List.nil_append,Nat.min_self,List.take_of_length_le (by omega),List.drop_eq_nil_of_le (by rw [List.length_replicate];exact Nat.le_refl _),List.append_nil]
theorem one_run {x:MC} (h:mok x) {A:List Int} (he:memS A=x.m) (hb:∀ v∈A,byte v):solo_Run.F (x.s.c,A,[],(1:Int),())=some ((stepM x 0).s.c,(stepM x 0).m,[actS (wantS x.s 0).2.1 x.m],0,()):=by
 have r:=run_spec h.s (mem:=A) (came:=[]) hb (fun v hv=>nomatch hv) (n:=1) (by decide)
 rw [he] at r
 exact r
theorem step_l (x:MC):(stepM x 0).l=x.l++[actS (wantS x.s 0).2.1 x.m]:=rfl
theorem go_snoc (n:Nat) (x:MC):go (n+1) x=stepM (go n x) 0:=by rw [go_add n 1];rfl
def atM (mem:List Int) (x0:MC) (i:Nat):List Int:=if i=0 then mem else (go i x0).m
theorem at_mem {mem:List Int} {x0:MC} (h:mok x0) (h0:x0.m=memS mem) (i:Nat):memS (atM mem x0 i)=(go i x0).m:=by
 unfold atM
 by_cases c:i=0
 ·subst c;rw [if_pos rfl];exact h0.symm
 ·rw [if_neg c];exact memS_id (go_ok h i).len
theorem at_byte {mem:List Int} {x0:MC} (h:mok x0) (hm:∀ v∈mem,byte v) (i:Nat):∀ v∈atM mem x0 i,byte v:=by
 unfold atM
 split
 ·exact hm
 ·exact (go_ok h i).m
def lcS (mem mW:List Int) (want:R10) (acts:List A3) (x0:MC) (i:Nat) (k:Int):lcyD:=((true,(),mW,acts,(),atM mem x0 i,k,()),(rb want,(go i x0).s.b,()),ni (go i x0).l,())
def lcE (mem mW:List Int) (want:R10) (acts:List A3) (x0:MC) (i:Nat):lcyX:= .inr ((true,(),mW,acts,(),atM mem x0 i,()),(rb want,(go i x0).s.b,()),ni (go i x0).l,())
theorem ni_snoc (l:List A3) (a:A3):ni (l++[a])=if a.1≠0 then ni l++[a] else ni l:=by
 rw [ni_app]
 by_cases c:a.1≠0
 ·rw [if_pos c];congr 1;unfold ni;rw [List.filter_cons_of_pos (by simpa using c)];rfl
 ·rw [if_neg c]
  rw [show ni [a]=[] from by unfold ni;rw [List.filter_cons_of_neg (by simpa using c)];rfl,List.append_nil]
theorem lcy_step {mem mW:List Int} {want:R10} {acts:List A3} {x0:MC} (h:mok x0) (h0:x0.m=memS mem) (hm:∀ v∈mem,byte v) (h00:x0.l=[]) {i:Nat} (hi:i<300) (hg:(ni (go i x0).l).length<acts.length) :
  lcystep (lcS mem mW want acts x0 i (i:Int))=some (.inl (lcS mem mW want acts x0 (i+1) ((i+1:Nat):Int))):=by
 have hk:=go_ok h i
 have o:=one_run hk (at_mem h h0 i) (at_byte h hm i)
 have ei:wrap .i64 ((i:Int)+1)=((i+1:Nat):Int):=by rw [w64 (by omega)];omega
 have gl:(ni (go i x0).l).length≤i:=by
  have a:(ni (go i x0).l).length≤(go i x0).l.length:=List.length_filter_le _ _
  obtain ⟨z,e1,e2⟩:=go_pre i x0
  rw [e1,h00,List.nil_append,e2] at a
  rw [e1,h00,List.nil_append]
  exact a
 have room:(ni (go i x0).l).length+1≤268435456:=by omega
 have es:=go_snoc i x0
 obtain ⟨a,ha⟩:∃ a,actS (wantS (go i x0).s 0).2.1 (go i x0).m=a:=⟨_,rfl⟩
 rw [ha] at o
 have el:(go (i+1) x0).l=(go i x0).l++[a]:=by rw [es,step_l,ha]
 have ea:atM mem x0 (i+1)=(stepM (go i x0) 0).m:=by unfold atM;rw [if_neg (by omega),es]
 have fin:∀ l',l'=ni (go (i+1) x0).l→(some (Sum.inl ((true,(),mW,acts,(),(stepM (go i x0) 0).m,wrap .i64 ((i:Int)+1),()),(rb want,(stepM (go i x0) 0).s.b,()),l',())):Option (lcyD⊕lcyX))=some (.inl (lcS mem mW want acts x0 (i+1) ((i+1:Nat):Int))):=by
  intro l' hl'
  rw [hl',ei,← ea,← es]
  rfl
 unfold lcystep law23_SoloWholes.L0.step
 refine (if_pos (show (decide ((i:Int)<300)==true)=true by rw [decide_eq_true (by omega)];rfl)).trans ?_
 refine (if_pos (show decide (((ni (go i x0).l).length:Int)<(acts.length:Int))=true by rw [decide_eq_true_eq];omega)).trans ?_
 refine (bind_eq o).trans ?_
 refine (if_pos (show (((0:Int)!=0)==false)=true from rfl)).trans ?_
 refine (if_neg (show ¬(((1:Int))!=1)=true by decide)).trans ?_
 refine (if_pos (show (0:Int)≤0∧(0:Int)<1 from ⟨by decide,by decide⟩)).trans ?_
 by_cases c:a.1≠0
 ·refine (if_pos (show (a.1 != 0)=true by simpa using c)).trans ?_
  refine (if_pos (show (0:Int)≤0∧(0:Int)<1 from ⟨by decide,by decide⟩)).trans ?_
  refine (if_pos room).trans ?_
  refine Eq.trans ?_ (fin (ni (go i x0).l++[a]) (by rw [el,ni_snoc,if_pos c]))
  rw [← snocA]
  rfl
 ·refine (if_neg (show ¬(a.1 != 0)=true by simpa using c)).trans ?_
  refine Eq.trans ?_ (fin (ni (go i x0).l) (by rw [el,ni_snoc,if_neg c]))
  conv=>rhs;rw [← List.take_length (l:=ni (go i x0).l)]
  rfl
theorem lcy_end {mem mW:List Int} {want:R10} {acts:List A3} {x0:MC} {i:Nat} (hg:¬(ni (go i x0).l).length<acts.length) :
  lcystep (lcS mem mW want acts x0 i (i:Int))=some (.inr (lcE mem mW want acts x0 i)):=by
 have e:(some (.inr (.inr ((true,(),mW,acts,(),atM mem x0 i,()),(rb want,(go i x0).s.b,()),List.take (ni (go i x0).l).length (ni (go i x0).l),()))):Option (lcyD⊕lcyX))=some (.inr (lcE mem mW want acts x0 i)):=by
  rw [List.take_length];rfl
 unfold lcystep law23_SoloWholes.L0.step
 by_cases c:(i:Int)<300
 ·refine (if_pos (show (decide ((i:Int)<300)==true)=true by rw [decide_eq_true c];rfl)).trans ?_
  refine (if_neg (show ¬decide (((ni (go i x0).l).length:Int)<(acts.length:Int))=true by rw [decide_eq_true_eq];omega)).trans ?_
  exact e
 ·refine (if_neg (show ¬(decide ((i:Int)<300)==true)=true by rw [decide_eq_false c];decide)).trans ?_
  exact e
def ldS (mem mW:List Int) (want:R10) (acts:List A3) (x0:MC) (j i:Nat):ldlD:=((true,(),mW,acts,(),atM mem x0 (j+i),(i:Int),()),(rb want,(go (j+i) x0).s.b,()),acts,())
def ldE (mem mW:List Int) (want:R10) (acts:List A3) (x0:MC) (i:Nat):ldlX:= .inr ((true,(),mW,acts,(),atM mem x0 i,()),(rb want,(go i x0).s.b,()),acts,())
theorem ldl_step {mem mW:List Int} {want:R10} {acts:List A3} {x0:MC} (h:mok x0) (h0:x0.m=memS mem) (hm:∀ v∈mem,byte v) {j i:Nat} (hi:i<3) (hb:busyS (go (j+i) x0).s=true) (e1:ni (go (j+i) x0).l=acts) (e2:ni (go (j+i+1) x0).l=acts) :
  ldlstep (ldS mem mW want acts x0 j i)=some (.inl (ldS mem mW want acts x0 j (i+1))):=by
 have hk:=go_ok h (j+i)
 have o:=one_run hk (at_mem h h0 (j+i)) (at_byte h hm (j+i))
 have ei:wrap .i64 ((i:Int)+1)=((i+1:Nat):Int):=by rw [w64 (by omega)];omega
 have es:=go_snoc (j+i) x0
 obtain ⟨a,ha⟩:∃ a,actS (wantS (go (j+i) x0).s 0).2.1 (go (j+i) x0).m=a:=⟨_,rfl⟩
 rw [ha] at o
 have a0:a.1=0:=by
  rw [es,step_l,ha,ni_snoc,e1] at e2
  by_cases c:a.1≠0
  ·rw [if_pos c] at e2
   have:=congrArg List.length e2
   simp at this
  ·simpa using c
 have ea:atM mem x0 (j+(i+1))=(stepM (go (j+i) x0) 0).m:=by unfold atM;rw [if_neg (by omega),← es];rfl
 have eg:go (j+(i+1)) x0=stepM (go (j+i) x0) 0:=es
 unfold ldlstep law23_SoloWholes.L1.step
 refine (if_pos (show (decide ((i:Int)<3)==true)=true by rw [decide_eq_true (by omega)];rfl)).trans ?_
 refine (bind_eq (Busy_spec hk.s)).trans ?_
 refine (if_pos hb).trans ?_
 refine (bind_eq o).trans ?_
 refine (if_pos (show (((1:Int)!=1)==false)=true from rfl)).trans ?_
 refine (if_pos (show (0:Int)≤0∧(0:Int)<1 from ⟨by decide,by decide⟩)).trans ?_
 refine (if_neg (show ¬(a.1 != 0)=true by rw [a0];decide)).trans ?_
 show some (Sum.inl ((true,(),mW,acts,(),(stepM (go (j+i) x0) 0).m,wrap .i64 ((i:Int)+1),()),(rb want,(stepM (go (j+i) x0) 0).s.b,()),List.take acts.length acts,()))=_
 rw [List.take_length,ei,← ea,← eg]
 rfl
theorem ldl_end {mem mW:List Int} {want:R10} {acts:List A3} {x0:MC} (h:mok x0) {j i:Nat} (hb:i<3→busyS (go (j+i) x0).s=false) :
  ldlstep (ldS mem mW want acts x0 j i)=some (.inr (ldE mem mW want acts x0 (j+i))):=by
 have hk:=go_ok h (j+i)
 have e:(some (.inr (.inr ((true,(),mW,acts,(),atM mem x0 (j+i),()),(rb want,(go (j+i) x0).s.b,()),List.take acts.length acts,()))):Option (ldlD⊕ldlX))=some (.inr (ldE mem mW want acts x0 (j+i))):=by
  rw [List.take_length];rfl
 unfold ldlstep law23_SoloWholes.L1.step
 by_cases c:i<3
 ·refine (if_pos (show (decide ((i:Int)<3)==true)=true by rw [decide_eq_true (by omega)];rfl)).trans ?_
  refine (bind_eq (Busy_spec hk.s)).trans ?_
  refine (if_neg (show ¬busyS (go (j+i) x0).s=true by rw [hb c];decide)).trans ?_
  exact e
 ·refine (if_neg (show ¬(decide ((i:Int)<3)==true)=true by rw [decide_eq_false (by omega)];decide)).trans ?_
  exact e
theorem sand {a z w:List A3} (h:a++z++w=a):z=[]:=by
 have:=congrArg List.length h
 rw [List.length_append,List.length_append] at this
 exact List.length_eq_zero_iff.1 (by omega)
theorem req (r:R10):(r.1==r.1&&(r.2.1==r.2.1&&(r.2.2.1==r.2.2.1&&(r.2.2.2.1==r.2.2.2.1&&(r.2.2.2.2.1==r.2.2.2.2.1&&(r.x5==r.x5&&(r.x6==r.x6&&(r.x7==r.x7&&(r.x8==r.x8&&(r.z9==r.z9&&true))))))))))=true:=by simp
theorem swholes_core {r:R10} (hr:rok r) {mem:List Int} (hml:mem.length≤1048576) (hm:∀ v∈mem,byte v) {n:Int} (hn:byte n):law23_SoloWholes.F (r,mem,n,())=some (true,()):=by
 obtain ⟨r0,hr0⟩:∃ r0:R10,(r.1,bits BinOp.andNot IntKind.u8 r.2.1 (15:Int),r.2.2)=r0:=⟨_,rfl⟩
 have rk:rok r0:=by rw [← hr0];exact (begun_ok hr).r
 have n0:=hn.1
 have n1:=hn.2
 obtain ⟨k,hk⟩:=Int.eq_ofNat_of_zero_le n0
 have en:wrap .i64 (Int.tmod n 40)=((k%40:Nat):Int):=by
  subst hk
  have e:Int.tmod (k:Int) 40=((k%40:Nat):Int):=rfl
  rw [show ((k:Nat):Int).tmod 40=_ from e,w64 (by omega)]
 obtain ⟨want,mW,acts,b,hwhs,hmW,hW⟩:=wholes_spec rk (mem:=mem) (by omega) hm (n:=k%40) (by omega)
 obtain ⟨x0,hx0⟩:∃ x0:MC,x0=⟨bgn r0,memS mem,[]⟩:=⟨_,rfl⟩
 have mk0:mok x0:=by rw [hx0];exact ⟨(bgn_ok rk).ok,memS_len mem,memS_byte hm⟩
 obtain ⟨T,cyc,s',a1,a2,a3,a4,a5,a6,a7,a8,a9⟩:=whs_go hwhs (bgn r0) [] (bgn_ok rk) rfl (by rw [← hx0];exact mk0)
 rw [← hx0] at a1 a9
 have xl:x0.l=[]:=by rw [hx0]
 have xm:x0.m=memS mem:=by rw [hx0]
 have cl:∀ i,i≤T→(go i x0).l=cyc.take i:=by
  intro i hi
  have:=take_go (x:=x0) (T:=T) (cyc:=cyc) (by rw [a1,xl]) a2 hi
  rw [this,xl,List.nil_append]
 have T300:T≤273:=by omega
 have L0:∃ y,iterU lcystep (lcS mem mW want acts x0 0 0)=some y∧∃ j,j≤T∧ni (cyc.take j)=acts∧y=lcE mem mW want acts x0 j:=by
  refine iterU_inv (step:=lcystep) (fun x=>∃ i,i≤T∧x=lcS mem mW want acts x0 i (i:Int)) _ (fun x:lcyD=>T+1 - x.1.x6.toNat) ?_ _ ⟨0,Nat.zero_le _,rfl⟩
  rintro _ ⟨i,hi,rfl⟩
  by_cases g:(ni (go i x0).l).length<acts.length
  ·left
   have hiT:i<T:=by
    rcases Nat.lt_or_ge i T with q | q
    ·exact q
    ·exfalso
     obtain rfl:i=T:=by omega
     rw [cl _ (Nat.le_refl _),← a2,List.take_length,a3] at g
     exact absurd g (Nat.lt_irrefl _)
   exact ⟨_,lcy_step mk0 xm hm xl (by omega) g,⟨i+1,by omega,rfl⟩,by show T+1 - (((i+1:Nat):Int)).toNat<T+1 - ((i:Int)).toNat;omega⟩
  ·right
   refine ⟨_,lcy_end g,i,hi,?_,rfl⟩
   have sp:ni cyc=ni (cyc.take i)++ni (cyc.drop i):=by rw [← ni_app,List.take_append_drop]
   rw [cl i hi] at g
   rw [a3] at sp
   have ll:=congrArg List.length sp
   rw [List.length_append] at ll
   have d0:ni (cyc.drop i)=[]:=List.length_eq_zero_iff.1 (by omega)
   rw [d0,List.append_nil] at sp
   exact sp.symm
 obtain ⟨_,e0,j,hj,hja,rfl⟩:=L0
 obtain ⟨c1,c2⟩:=a9 j hj hja
 have full:∀ i,j≤i→i≤T→ni (go i x0).l=acts:=by
  intro i h1 h2
  obtain ⟨d,rfl⟩:=Nat.exists_eq_add_of_le h1
  rw [cl _ h2,List.take_add,ni_app,hja]
  have sp:ni (cyc.take j)++ni ((cyc.drop j).take d)++ni (cyc.drop (j+d))=acts:=by
   rw [← ni_app,← ni_app,← List.take_add,List.take_append_drop,a3]
  rw [hja] at sp
  rw [sand sp,List.append_nil]
 have bT:busyS (go T x0).s=false:=by rw [a1];exact a5
 have L1:iterU ldlstep (ldS mem mW want acts x0 j 0)=some (ldE mem mW want acts x0 T):=by
  have:=iterU_range (step:=ldlstep) (fun i=>ldS mem mW want acts x0 j i) (ldE mem mW want acts x0 T) (T - j) (fun i hi=>ldl_step mk0 xm hm (by omega) (c2 (j+i) (by omega) (by omega)) (full _ (by omega) (by omega)) (full _ (by omega) (by omega))) (by
   have q:j+(T - j)=T:=by omega
   have:=ldl_end (mem:=mem) (mW:=mW) (want:=want) (acts:=acts) mk0 (j:=j) (i:=T - j) (fun _=>by rw [q];exact bT)
   rw [q] at this
   exact this) 0 (Nat.zero_le _)
  exact this
 have al:acts.length≤100000:=by
  have:(ni cyc).length≤cyc.length:=List.length_filter_le _ _
  rw [a3,a2] at this
  omega
 have sr:(go T x0).s.r=want:=by rw [a1];exact a4
 have smem:acts≠[]→atM mem x0 T=mW:=by
  intro h
  have:T≠0:=by
   intro z
   subst z
   apply h
   rw [← a3,List.length_eq_zero_iff.1 a2];rfl
  unfold atM
  rw [if_neg this,a1]
 show law23_SoloWholes.G law23_same.F law23_shown.F ref23_Wholes.F law23_SoloWholes.L0.F law23_SoloWholes.L1.F r mem n=_
 have tail:∀ A:List Int,A=mem→(Option.bind (law23_SoloWholes.L0.F ((true,(),mW,acts,(),A,0,()),(rb want,(bgn r0).b,()),[],())) fun y2=>Sum.elim (fun y3=>some y3.1) (fun y3=>Option.bind (law23_SoloWholes.L1.F ((y3.1.1,(),y3.1.2.2.1,y3.1.2.2.2.1,(),y3.1.x5,0,()),y3.2.1,List.take (List.length y3.2.2.1) y3.2.2.1,())) fun y4=>Sum.elim (fun y5=>some y5.1) (fun y5=>Option.bind (law23_same.F (List.take (List.length y5.2.2.1) (List.drop 0 y5.2.2.1),y5.1.2.2.2.1,())) fun y6=>if ((↑(List.length y5.1.2.2.2.1):Int)==0)=true then if (y5.1.1==true)=true then some (y5.2.1.2.1.1==y5.2.1.1.1&&(y5.2.1.2.1.2.1==y5.2.1.1.2.1&&(y5.2.1.2.1.2.2.1==y5.2.1.1.2.2.1&&(y5.2.1.2.1.2.2.2.1==y5.2.1.1.2.2.2.1&&(y5.2.1.2.1.2.2.2.2.1==y5.2.1.1.2.2.2.2.1&&(y5.2.1.2.1.x5==y5.2.1.1.x5&&(y5.2.1.2.1.x6==y5.2.1.1.x6&&(y5.2.1.2.1.x7==y5.2.1.1.x7&&(y5.2.1.2.1.x8==y5.2.1.1.x8&&(y5.2.1.2.1.x9==y5.2.1.1.x9&&true))))))))),()) else some (false,()) else if (y5.1.1==true)=true then if (y6.1==true)=true then if ((y5.2.1.2.1.1==y5.2.1.1.1&&(y5.2.1.2.1.2.1==y5.2.1.1.2.1&&(y5.2.1.2.1.2.2.1==y5.2.1.1.2.2.1&&(y5.2.1.2.1.2.2.2.1==y5.2.1.1.2.2.2.1&&(y5.2.1.2.1.2.2.2.2.1==y5.2.1.1.2.2.2.2.1&&(y5.2.1.2.1.x5==y5.2.1.1.x5&&(y5.2.1.2.1.x6==y5.2.1.1.x6&&(y5.2.1.2.1.x7==y5.2.1.1.x7&&(y5.2.1.2.1.x8==y5.2.1.1.x8&&(y5.2.1.2.1.x9==y5.2.1.1.x9&&true))))))))))==true)=true then some (sEq (bytesOf y5.1.x5) (bytesOf y5.1.2.2.1),()) else some (false,()) else some (false,()) else some (false,())) y4) y2:Option (Bool×Unit))=some (true,()):=by
  intro A hA
  rw [hA]
  rw [lcy_F_eq,ldl_F_eq]
  refine (bind_eq (show iterU lcystep _=_ from by rw [← e0,hx0];rfl)).trans ?_
  dsimp only [Sum.elim_inr,lcE]
  rw [full j (Nat.le_refl _) hj]
  refine (bind_eq (show iterU ldlstep _=_ from by rw [← L1,List.take_length];rfl)).trans ?_
  dsimp only [Sum.elim_inr,ldE]
  refine (bind_eq (show law23_same.F _=_ from by rw [List.drop_zero,List.take_length];exact same_refl acts al)).trans ?_
  have q:=req want
  have q2:((go T x0).s.b.1==(rb want).1&&((go T x0).s.b.2.1==(rb want).2.1&&((go T x0).s.b.2.2.1==(rb want).2.2.1&&((go T x0).s.b.2.2.2.1==(rb want).2.2.2.1&&((go T x0).s.b.2.2.2.2.1==(rb want).2.2.2.2.1&&((go T x0).s.b.x5==(rb want).x5&&((go T x0).s.b.x6==(rb want).x6&&((go T x0).s.b.x7==(rb want).x7&&((go T x0).s.b.x8==(rb want).x8&&((go T x0).s.b.x9==(rb want).x9&&true))))))))))=true:=by
   rw [← sr]
   exact req (go T x0).s.r
  by_cases z:acts=[]
  ·refine (if_pos (show ((acts.length:Int)==0)=true by rw [z];rfl)).trans ?_
   refine (if_pos rfl).trans ?_
   show some (_,())=_
   exact congrArg (fun v:Bool=>some (v,())) q2
  ·have zl:acts.length≠0:=fun q=>z (List.length_eq_zero_iff.1 q)
   refine (if_neg (show ¬((acts.length:Int)==0)=true by rw [beq_iff_eq];omega)).trans ?_
   refine (if_pos rfl).trans ?_
   refine (if_pos rfl).trans ?_
   refine (if_pos (show (_==true)=true by rw [beq_iff_eq];exact q2)).trans ?_
   show some (sEq (bytesOf (atM mem x0 T)) (bytesOf mW),())=_
   rw [smem z,sEq_self]
 unfold law23_SoloWholes.G
 refine (bind_eq shown_true).trans ?_
 rw [hr0,en]
 refine (bind_eq hW).trans ?_
 by_cases c:0+mem.length≤0
 ·refine (if_pos c).trans ?_
  rw [← hr0] at tail
  exact tail _ (by simp)
 ·refine (if_neg c).trans ?_
  refine (if_pos (show 0+mem.length≤268435456 by omega)).trans ?_
  rw [← hr0] at tail
  exact tail _ (by simp)
theorem soloWholes_walk:LawIf Tryz.prog 7 law23_SoloWholes.as (fun x=>x.2.1.length≤1048576):= .of law23_SoloWholes.ok fun x h hB=>by
 obtain ⟨r,mem,n,u⟩:=x
 exact swholes_core (rok_of h.1) hB (fun v hv=>wf_u8.1 (h.2.1.2 v hv)) (wf_u8.1 h.2.2.1)
end Go.Proofs.YtmhkjafcfpgikaaGreat.E
