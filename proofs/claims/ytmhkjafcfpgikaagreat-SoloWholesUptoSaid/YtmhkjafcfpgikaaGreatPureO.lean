/- Functions of the program as plain Lean, and what they come to. Conditions: none. -/
import Derived.Test.YtmhkjafcfpgikaaGreatEwD
import Derived.Test.YtmhkjafcfpgikaaGreatPureN
open Go Go.Ew
namespace Go.Proofs.YtmhkjafcfpgikaaGreat.E
open Go.IntKind (wrap)
set_option linter.unusedVariables false
set_option linter.unusedSimpArgs false
set_option maxRecDepth 100000
abbrev runD:=(((List Int)×Unit×Unit×Unit×Int×Int×Unit)×(CB×CB×((List Int)×Unit)×Unit)×((List (Int×Int×Int))×Unit))
abbrev runX:=((Unit×Unit×Unit×Unit)×(CB×CB×((List Int)×Unit)×Unit)×((List (Int×Int×Int))×Unit))
noncomputable def runstep (x:runD):Option (runD⊕runX):=solo_Run.L0.step cpu_Want.F cpu_Done.F x.1.1 x.1.2.2.2.2.1 x.1.x5 x.2.1.1 x.2.1.2.1 x.2.1.2.2.1.1 x.2.2.1
theorem run_F_eq:solo_Run.L0.F=iterU runstep:=rfl
abbrev trcD:=((Unit×(List (Int×Int×Int))×Int×Int×Unit)×Unit×((List ByteArray)×Unit))
abbrev trcX:=(Unit×Unit×((List ByteArray)×Unit))
noncomputable def trcstep (x:trcD):Option (trcD⊕trcX):=solo_Trace.L24_0.step solo_Line.F x.1.2.1 x.1.2.2.1 x.1.2.2.2.1 x.2.2.1
theorem trc_F_eq:solo_Trace.L24_0.F=iterU trcstep:=rfl
abbrev samD:=(((List (Int×Int×Int))×(List (Int×Int×Int))×Int×Unit)×Unit×Unit)
abbrev samX:=(((Bool×Unit)×Unit×Unit)⊕(Unit×Unit×Unit))
noncomputable def samstep (x:samD):Option (samD⊕samX):=law23_same.L0.step x.1.1 x.1.2.1 x.1.2.2.1
theorem sam_F_eq:law23_same.L0.F=iterU samstep:=rfl
structure actok (a:A3):Prop where
  kind:a.1=0∧a=(0,0,0)∨a.1=1∨a.1=2∨a.1=3
  addr:word a.2.1
  data:byte a.2.2
theorem word0:word 0:=⟨by decide,by decide⟩
theorem idle_ok:actok (0,0,0):=⟨.inl ⟨rfl,rfl⟩,word0,byte0⟩
theorem at_ok {s:St} (h:sok s) (k:Int):word (atS s k):=by
  have l0:=h.lo.1
  have l1:=h.lo.2
  have c0:=h.r.c.1
  have c1:=h.r.c.2
  unfold atS
  repeat' apply ite_pred (Q:=word)
  · exact h.r.pc
  · exact pairx_ok h _
  · exact pairx_ok h _
  · exact pairx_ok h _
  · exact ⟨by omega,by omega⟩
  · exact ⟨by omega,by omega⟩
  · exact far_ok h
  · exact word_mod _
  · exact word_mod _
  · exact h.r.sp
theorem val_ok {s:St} (h:sok s) (v:Int):byte (valS s v):=by
  have fk:=fok_of h
  have x0:=fk.x0;have x1:=fk.x1
  unfold valS
  refine ite_pred (Q:=byte) h.lo ?_
  refine ite_pred (Q:=byte) h.r.a ?_
  refine ite_pred (Q:=byte) (opnd_ok h _) ?_
  refine ite_pred (Q:=byte) (mod8 _) ?_
  refine ite_pred (Q:=byte) (hi_byte h.r.sp) ?_
  refine ite_pred (Q:=byte) (mod8 _) ?_
  refine ite_pred (Q:=byte) (hi_byte h.r.pc) ?_
  refine ite_pred (Q:=byte) (hi_byte (pairx_ok h _)) ?_
  refine ite_pred (Q:=byte) (mod8 _) ?_
  exact alt_ok h (by omega) _ _
theorem want_ok {s:St} (h:sok s) {p:Int} (hp:byte p) (h32:p<32):sok (wantS s p).1∧actok (wantS s p).2.1:=by
  unfold wantS
  split
  · exact ⟨h,idle_ok⟩
  split
  · refine ⟨beg_ok h p, ?_⟩
    unfold begS
    split
    · exact idle_ok
    · exact ⟨.inr (.inl rfl),h.r.pc,byte0⟩
  split
  · unfold callS
    split
    · exact ⟨h, .inr (.inr (.inr rfl)),word_mod _,hi_byte h.r.pc⟩
    split
    · split
      · refine ⟨⟨h.r,h.op,h.step,wrap8_byte _,h.hi⟩, .inr (.inr (.inr rfl)),word_mod _,mod8 _⟩
      · exact ⟨⟨h.r,h.op,h.step,⟨by show (0:Int)≤5;decide,by show (5:Int)≤255;decide⟩,h.hi⟩, .inr (.inr (.inr rfl)),word_mod _,mod8 _⟩
    · exact ⟨h,idle_ok⟩
  · refine ⟨by rw [go_s]; exact h, ?_⟩
    unfold goS
    split
    · exact ⟨.inr (.inl rfl),h.r.pc,byte0⟩
    split
    · exact ⟨.inr (.inr (.inl rfl)),at_ok h _,byte0⟩
    split
    · exact ⟨.inr (.inr (.inr rfl)),at_ok h _,val_ok h _⟩
    · exact idle_ok
def readK (a:A3):Prop:=a.1=1∨a.1=2
instance (a:A3):Decidable (readK a):=by unfold readK;infer_instance
def dataS (a:A3) (m:List Int):Int:=if readK a then m.getD a.2.1.toNat 0 else 0
def actS (a:A3) (m:List Int):A3:=if readK a then (a.1,a.2.1,dataS a m) else a
def memA (a:A3) (m:List Int):List Int:=if a.1=3 then m.set a.2.1.toNat a.2.2 else m
structure MC where
  s:St
  m:List Int
  l:List A3
def stepM (x:MC) (p:Int):MC:=
  ⟨doneS (wantS x.s (p%32)).1 (dataS (wantS x.s (p%32)).2.1 x.m) p,memA (wantS x.s (p%32)).2.1 x.m,x.l++[actS (wantS x.s (p%32)).2.1 x.m]⟩
def runM:Nat→(Nat→Int)→MC→MC
  | 0,_,x=>x
  | n+1,c,x=>runM n (fun i=>c (i+1)) (stepM x (c 0))
theorem runM_add:∀ (a b:Nat) (c:Nat→Int) (x:MC),runM (a+b) c x=runM b (fun i=>c (a+i)) (runM a c x)
  | 0,b,c,x=>by simp [runM]
  | a + 1, b, c, x => by
    rw [show a+1+b=(a+b)+1 by omega]
    simp only [runM]
    rw [runM_add a b]
    congr 1;funext i;congr 1;omega
theorem runM_snoc (n:Nat) (c:Nat→Int) (x:MC):runM (n+1) c x=stepM (runM n c x) (c n):=by
  rw [runM_add n 1];rfl
structure mok (x:MC):Prop where
  s:sok x.s
  len:x.m.length=65536
  m:∀ v∈x.m,byte v
theorem data_ok {a:A3} {m:List Int} (h:∀ v∈m,byte v):byte (dataS a m):=by
  unfold dataS
  split
  · rcases Nat.lt_or_ge a.2.1.toNat m.length with g | g
    · exact h _ (getD_mem g 0)
    · rw [List.getD_eq_getElem?_getD,List.getElem?_eq_none g];exact byte0
  · exact byte0
theorem mod32b (p:Int):byte (p%32)∧p%32<32:=⟨⟨by omega,by omega⟩,by omega⟩
theorem step_ok {x:MC} (h:mok x) {p:Int} (hp:byte p):mok (stepM x p):=by
  obtain ⟨h1,h2⟩:=want_ok h.s (mod32b p).1 (mod32b p).2
  refine ⟨done_ok h1 (data_ok h.m) p,?_,?_⟩
  · show (memA _ _).length = _
    unfold memA;split
    · rw [List.length_set];exact h.len
    · exact h.len
  · show ∀ v ∈ memA _ _, byte v
    unfold memA;split
    · intro v hv
      rcases List.mem_or_eq_of_mem_set hv with q | q
      · exact h.m v q
      · rw [q];exact h2.data
    · exact h.m
theorem run_ok' {c:Nat→Int} (hc:∀ i,byte (c i)) {x:MC} (h:mok x):∀ n,mok (runM n c x)
  | 0=>h
  | n+1=>by rw [runM_snoc];exact step_ok (run_ok' hc h n) (hc n)
theorem run_len {c:Nat→Int} {x:MC}:∀ n,(runM n c x).l.length=x.l.length+n
  | 0=>rfl
  | n+1=>by rw [runM_snoc];show (_++[_]).length=_;rw [List.length_append,run_len n];simp;omega
def memS (mem:List Int):List Int:=List.take (0:Nat) (List.replicate (65536:Nat) (0:Int))++List.take (min (List.length mem) (65536:Nat)) mem++List.drop ((0:Nat)+min (List.length mem) (65536:Nat)) (List.replicate (65536:Nat) (0:Int))
theorem memS_len (mem:List Int):(memS mem).length=65536:=by
  unfold memS
  simp only [List.take_zero,List.nil_append,List.length_append,List.length_take,List.length_drop,List.length_replicate]
  omega
theorem memS_byte {mem:List Int} (h:∀ v∈mem,byte v):∀ v∈memS mem,byte v:=by
  intro v hv
  unfold memS at hv
  simp only [List.take_zero,List.nil_append,List.mem_append] at hv
  rcases hv with q | q
  · exact h v (List.mem_of_mem_take q)
  · have := List.mem_of_mem_drop q
    rw [List.mem_replicate] at this
    rw [this.2];exact byte0
theorem zz (l:List A3) (x:A3):List.take (l.length+1) (List.take l.length l++List.take 1 (List.drop 0 [x]))=l++[x]:=by
  simp only [List.take_length,List.drop_zero]
  rw [List.take_of_length_le (by simp)]
  simp
theorem bd {w:Int} (h:word w):(0:Int)≤w∧w<65536:=⟨h.1,by have:=h.2;omega⟩
theorem runstep_eq {x:MC} (h:mok x) {came:List Int} (hc:∀ v∈came,byte v) {i n:Nat} (hi:i<n) (hn:n≤20000) (hl:x.l.length≤20000) (z:CB) :
    runstep ((came,(),(),(),(n:Int),(i:Int),()),(x.s.b,z,(x.m,()),()),x.l,())=some (.inl ((came,(),(),(),(n:Int),((i+1:Nat):Int),()),((stepM x (came.getD i 0)).s.b,z,((stepM x (came.getD i 0)).m,()),()),(stepM x (came.getD i 0)).l,())):=by
  obtain ⟨p,hp⟩:∃ p,came.getD i 0=p:=⟨_,rfl⟩
  have bp:byte p:=by
    rw [← hp]
    rcases Nat.lt_or_ge i came.length with g | g
    · exact hc _ (getD_mem g 0)
    · rw [List.getD_eq_getElem?_getD,List.getElem?_eq_none g];exact byte0
  rw [hp]
  obtain ⟨w1,w2⟩:=want_ok h.s (mod32b p).1 (mod32b p).2
  have hw:=want_spec h.s bp
  obtain ⟨s',hs'⟩:∃ s',(wantS x.s (p%32)).1=s':=⟨_,rfl⟩
  obtain ⟨a,ha⟩:∃ a,(wantS x.s (p%32)).2.1=a:=⟨_,rfl⟩
  rw [hs',ha] at hw
  rw [hs'] at w1
  rw [ha] at w2
  have room:x.l.length+1≤268435456:=by omega
  have ab:=bd w2.addr
  have ei:wrap .i64 ((i:Int)+1)=((i+1:Nat):Int):=by rw [w64 (by omega)];omega
  have hin:(i:Int)<(n:Int):=by omega
  have hd:=done_spec (s:=s') w1 (d:=dataS a x.m) (p:=p) (data_ok h.m) bp
  have fin:∀ (d:Int) (m':List Int) (ac:A3),d=dataS a x.m→m'=memA a x.m→ac=actS a x.m →
      (Option.bind (cpu_Done.F (s'.c,d,p,())) fun y1=>some (Sum.inl (α:=runD) (β:=runX) ((came,(),(),(),(n:Int),wrap .i64 ((i:Int)+(1:Int)),()),((ofC y1.1).b,z,(m',()),()),List.take (List.length x.l+(1:Nat)) (List.take (List.length x.l) x.l++List.take (1:Nat) (List.drop (0:Nat) [ac])),()))) =
      some (.inl ((came,(),(),(),(n:Int),((i+1:Nat):Int),()),((stepM x p).s.b,z,((stepM x p).m,()),()),(stepM x p).l,())):=by
    intro d m' ac e1 e2 e3
    subst e1 e2 e3
    refine (bind_eq hd).trans ?_
    rw [zz,ei]
    unfold stepM
    rw [hs',ha]
    rfl
  unfold runstep solo_Run.L0.step
  refine (if_pos (decide_eq_true hin)).trans ?_
  have key:∀ (K:CC×A3×Int×Unit→Option (runD⊕runX)),K (s'.c,a,(wantS x.s (p%32)).2.2,())=some (.inl ((came,(),(),(),(n:Int),((i+1:Nat):Int),()),((stepM x p).s.b,z,((stepM x p).m,()),()),(stepM x p).l,())) →
      (Option.bind (cpu_Want.F (x.s.c,p,())) K)=some (.inl ((came,(),(),(),(n:Int),((i+1:Nat):Int),()),((stepM x p).s.b,z,((stepM x p).m,()),()),(stepM x p).l,())):=fun K hK=>(bind_eq hw).trans hK
  have kinds:a.1=1∨a.1=2∨a.1=3∨(a.1=0∧a=(0,0,0)):=by
    rcases w2.kind with q | q | q | q
    · exact .inr (.inr (.inr q))
    · exact .inl q
    · exact .inr (.inl q)
    · exact .inr (.inr (.inl q))
  by_cases g:(i:Int)<(came.length:Int)
  · have hp' : came.getD (Int.toNat (i : Int)) 0 = p := hp
    refine (if_pos (decide_eq_true g)).trans ?_
    refine (if_pos (show (0:Int)≤(i:Int)∧(i:Int)<(came.length:Int) from ⟨by omega,g⟩)).trans ?_
    dsimp only
    rw [hp']
    refine key _ ?_
    dsimp only
    rcases kinds with q | q | q | ⟨q,q0⟩
    · refine (if_pos (by rw [q]; rfl)).trans ?_
      refine (if_pos ab).trans ?_
      refine (if_neg (by rw [q];decide)).trans ?_
      refine (if_pos room).trans ?_
      exact fin (x.m.getD a.2.1.toNat 0) x.m (a.1,a.2.1,x.m.getD a.2.1.toNat 0) (by unfold dataS;rw [if_pos (.inl q)]) (by unfold memA;rw [if_neg (by omega)]) (by unfold actS dataS;rw [if_pos (.inl q),if_pos (.inl q)])
    · refine (if_neg (by rw [q]; decide)).trans ?_
      refine (if_pos (by rw [q];rfl)).trans ?_
      refine (if_pos ab).trans ?_
      refine (if_pos (by rw [q];rfl)).trans ?_
      refine (if_pos (by rw [q];rfl)).trans ?_
      refine (if_pos room).trans ?_
      exact fin (x.m.getD a.2.1.toNat 0) x.m (a.1,a.2.1,x.m.getD a.2.1.toNat 0) (by unfold dataS;rw [if_pos (.inr q)]) (by unfold memA;rw [if_neg (by omega)]) (by unfold actS dataS;rw [if_pos (.inr q),if_pos (.inr q)])
    · have hno : ¬ readK a := by unfold readK; omega
      refine (if_neg (by rw [q];decide)).trans ?_
      refine (if_neg (by rw [q];decide)).trans ?_
      refine (if_pos (by rw [q];rfl)).trans ?_
      refine (if_pos ab).trans ?_
      refine (if_pos (by rw [q];rfl)).trans ?_
      refine (if_neg (by rw [q];decide)).trans ?_
      refine (if_pos room).trans ?_
      exact fin 0 (x.m.set a.2.1.toNat a.2.2) a (by unfold dataS;rw [if_neg hno]) (by unfold memA;rw [if_pos q]) (by unfold actS;rw [if_neg hno])
    · have hno : ¬ readK a := by unfold readK; omega
      refine (if_neg (by rw [q];decide)).trans ?_
      refine (if_neg (by rw [q];decide)).trans ?_
      refine (if_neg (by rw [q];decide)).trans ?_
      refine (if_pos (by rw [q];rfl)).trans ?_
      refine (if_neg (by rw [q];decide)).trans ?_
      refine (if_pos room).trans ?_
      exact fin 0 x.m a (by unfold dataS;rw [if_neg hno]) (by unfold memA;rw [if_neg (by omega)]) (by unfold actS;rw [if_neg hno])
  · have hp' : p = 0 := by
      rw [← hp,List.getD_eq_getElem?_getD,List.getElem?_eq_none (by omega)];rfl
    refine (if_neg (by rw [decide_eq_true_eq];exact g)).trans ?_
    dsimp only
    have fin0:=fin
    have key0:=key
    rw [hp'] at fin0 key0
    rw [hp']
    refine key0 _ ?_
    dsimp only
    rcases kinds with q | q | q | ⟨q,q0⟩
    · refine (if_pos (by rw [q]; rfl)).trans ?_
      refine (if_pos ab).trans ?_
      refine (if_neg (by rw [q];decide)).trans ?_
      refine (if_pos room).trans ?_
      exact fin0 (x.m.getD a.2.1.toNat 0) x.m (a.1,a.2.1,x.m.getD a.2.1.toNat 0) (by unfold dataS;rw [if_pos (.inl q)]) (by unfold memA;rw [if_neg (by omega)]) (by unfold actS dataS;rw [if_pos (.inl q),if_pos (.inl q)])
    · refine (if_neg (by rw [q]; decide)).trans ?_
      refine (if_pos (by rw [q];rfl)).trans ?_
      refine (if_pos ab).trans ?_
      refine (if_pos (by rw [q];rfl)).trans ?_
      refine (if_pos (by rw [q];rfl)).trans ?_
      refine (if_pos room).trans ?_
      exact fin0 (x.m.getD a.2.1.toNat 0) x.m (a.1,a.2.1,x.m.getD a.2.1.toNat 0) (by unfold dataS;rw [if_pos (.inr q)]) (by unfold memA;rw [if_neg (by omega)]) (by unfold actS dataS;rw [if_pos (.inr q),if_pos (.inr q)])
    · have hno : ¬ readK a := by unfold readK; omega
      refine (if_neg (by rw [q];decide)).trans ?_
      refine (if_neg (by rw [q];decide)).trans ?_
      refine (if_pos (by rw [q];rfl)).trans ?_
      refine (if_pos ab).trans ?_
      refine (if_pos (by rw [q];rfl)).trans ?_
      refine (if_neg (by rw [q];decide)).trans ?_
      refine (if_pos room).trans ?_
      exact fin0 0 (x.m.set a.2.1.toNat a.2.2) a (by unfold dataS;rw [if_neg hno]) (by unfold memA;rw [if_pos q]) (by unfold actS;rw [if_neg hno])
    · have hno : ¬ readK a := by unfold readK; omega
      refine (if_neg (by rw [q];decide)).trans ?_
      refine (if_neg (by rw [q];decide)).trans ?_
      refine (if_neg (by rw [q];decide)).trans ?_
      refine (if_pos (by rw [q];rfl)).trans ?_
      refine (if_neg (by rw [q];decide)).trans ?_
      refine (if_pos room).trans ?_
      exact fin0 0 x.m a (by unfold dataS;rw [if_neg hno]) (by unfold memA;rw [if_neg (by omega)]) (by unfold actS;rw [if_neg hno])
def Z19:CB:=(0,0,0,0,0,0,0,0,0,0,false,false,false,0,0,false,0,0,0,())
def cmS (came:List Int) (i:Nat):Int:=came.getD i 0
theorem cm_byte {came:List Int} (hc:∀ v∈came,byte v) (i:Nat):byte (cmS came i):=by
  unfold cmS
  rcases Nat.lt_or_ge i came.length with g | g
  · exact hc _ (getD_mem g 0)
  · rw [List.getD_eq_getElem?_getD,List.getElem?_eq_none g];exact byte0
theorem run_loop {x:MC} (h:mok x) (hx:x.l=[]) {came:List Int} (hc:∀ v∈came,byte v) {n:Nat} (hn:n≤20000) :
    iterU runstep ((came,(),(),(),(n:Int),(0:Int),()),(x.s.b,Z19,(x.m,()),()),[],())=some (((),(),(),()),((runM n (cmS came) x).s.b,Z19,((runM n (cmS came) x).m,()),()),(runM n (cmS came) x).l,()):=by
  have st0:=iterU_range (step:=runstep) (fun i=>((came,(),(),(),(n:Int),(i:Int),()),((runM i (cmS came) x).s.b,Z19,((runM i (cmS came) x).m,()),()),(runM i (cmS came) x).l,()))
    (((),(),(),()),((runM n (cmS came) x).s.b,Z19,((runM n (cmS came) x).m,()),()),(runM n (cmS came) x).l,()) n ?_ ?_ 0 (by omega)
  · have e : (runM 0 (cmS came) x).l = [] := hx
    rw [show ((0:Nat):Int)=0 from rfl,e] at st0
    exact st0
  · intro i hi
    have hk:=run_ok' (cm_byte hc) h i
    have hl:(runM i (cmS came) x).l.length≤20000:=by rw [run_len,hx];simp;omega
    rw [runM_snoc]
    exact runstep_eq hk hc hi hn hl Z19
  · unfold runstep solo_Run.L0.step
    refine (if_neg (by rw [decide_eq_true_eq];dsimp only [Prod.x5];omega)).trans ?_
    dsimp only
    rw [List.take_length]
theorem run_spec {s:St} (h:sok s) {mem came:List Int} (hm:∀ v∈mem,byte v) (hc:∀ v∈came,byte v) {n:Nat} (hn:n≤20000) :
    solo_Run.F (s.c,mem,came,(n:Int),())=some ((runM n (cmS came) ⟨s,memS mem,[]⟩).s.c,(runM n (cmS came) ⟨s,memS mem,[]⟩).m,(runM n (cmS came) ⟨s,memS mem,[]⟩).l,0,()):=by
  have hk:mok ⟨s,memS mem,[]⟩:=⟨h,memS_len mem,memS_byte hm⟩
  show solo_Run.G solo_Run.L0.F s.c mem came (n:Int)=_
  unfold solo_Run.G
  rw [run_F_eq]
  refine (if_pos (by rw [decide_eq_false (by omega)];rfl)).trans ?_
  refine (if_neg (by rw [decide_eq_true_eq];omega)).trans ?_
  refine (bind_eq (run_loop hk rfl hc hn)).trans ?_
  have hk2:=run_ok' (cm_byte hc) hk n
  dsimp only
  rw [List.drop_zero,List.drop_zero,List.drop_zero,List.take_nil,List.nil_append,List.take_of_length_le (Nat.le_of_eq hk2.len),List.take_of_length_le (Nat.le_of_eq hk2.len),List.drop_zero,List.take_length]
  rfl
theorem same_refl (l:List A3) (hl:l.length≤100000):law23_same.F (l,l,())=some (true,()):=by
  show law23_same.G law23_same.L0.F l l=_
  unfold law23_same.G
  rw [sam_F_eq]
  refine (if_neg (by simp)).trans ?_
  have st0:=iterU_range (step:=samstep) (fun i=>((l,l,(i:Int),()),(),())) (.inr ((),(),())) l.length ?_ ?_ 0 (by omega)
  · refine (bind_eq st0).trans ?_
    rfl
  · intro i hi
    have g:(0:Int)≤(i:Int)∧(i:Int)<(l.length:Int):=⟨by omega,by omega⟩
    unfold samstep law23_same.L0.step
    refine (if_pos (decide_eq_true g.2)).trans ?_
    refine (if_pos g).trans ?_
    refine (if_pos g).trans ?_
    refine (if_neg (by simp)).trans ?_
    have:wrap .i64 ((i:Int)+1)=((i+1:Nat):Int):=by rw [w64 (by omega)];omega
    dsimp only
    rw [this]
  · unfold samstep law23_same.L0.step
    exact if_neg (by rw [decide_eq_true_eq];dsimp only;omega)
theorem trace_spec {l:List A3} (hl:l.length≤268435456) (h:∀ a∈l,word a.2.1∧byte a.2.2):solo_Trace.F (l,())=some (l.map lineB,()):=by
  show solo_Trace.G solo_Trace.L24_0.F l=_
  unfold solo_Trace.G
  rw [trc_F_eq]
  have st0:=iterU_range (step:=trcstep) (fun i=>(((),l,(l.length:Int),(i:Int),()),(),(l.map lineB).take i,())) ((),(),l.map lineB,()) l.length ?_ ?_ 0 (by omega)
  · refine (bind_eq st0).trans ?_
    dsimp only
    rw [List.drop_zero,List.take_length]
  · intro i hi
    have g:(0:Int)≤(i:Int)∧(i:Int)<(l.length:Int):=⟨by omega,by omega⟩
    have ha:=h _ (getD_mem hi ((0:Int),(0:Int),(0:Int)))
    unfold trcstep solo_Trace.L24_0.step
    refine (if_pos (decide_eq_true g.2)).trans ?_
    refine (if_pos g).trans ?_
    refine (bind_eq (line_spec (a:=l.getD (Int.toNat (i:Int)) ((0:Int),(0:Int),(0:Int))) ha.1 ha.2)).trans ?_
    refine (if_pos (by dsimp only;rw [List.length_take,List.length_map];omega)).trans ?_
    have:wrap .i64 ((i:Int)+1)=((i+1:Nat):Int):=by rw [w64 (by omega)];omega
    dsimp only
    rw [this,List.take_length,List.drop_zero,List.take_of_length_le (by simp)]
    have tk:List.take i (l.map lineB)++List.take 1 [lineB (l.getD (Int.toNat (i:Int)) ((0:Int),(0:Int),(0:Int)))]=List.take (i+1) (l.map lineB):=by
      rw [List.take_succ_eq_append_getElem (l:=l.map lineB) (i:=i) (by simpa using hi)];simp [hi]
    rw [tk]
  · unfold trcstep solo_Trace.L24_0.step
    refine (if_neg (by rw [decide_eq_true_eq];dsimp only;omega)).trans ?_
    dsimp only
    rw [List.take_length,List.take_of_length_le (by simp)]
def bootS:St:=⟨(1,176,0,19,0,216,1,77,65534,256),false,false,false,0,0,false,0,0,0⟩
theorem boot_eq:cpu_Boot.F ()=some (bootS.c,()):=rfl
theorem boot_ok:sok bootS:=⟨⟨⟨by decide,by decide⟩,⟨by decide,by decide⟩,⟨by decide,by decide⟩,⟨by decide,by decide⟩,⟨by decide,by decide⟩,⟨by decide,by decide⟩,⟨by decide,by decide⟩,⟨by decide,by decide⟩,⟨by decide,by decide⟩,⟨by decide,by decide⟩⟩,byte0,byte0,byte0,byte0⟩
def shownM:List Int:=List.take (300:Nat) (List.drop (0:Nat) (List.set (List.set (List.set (List.replicate (300:Nat) (0:Int)) (256:Nat) (62:Int)) (257:Nat) (7:Int)) (258:Nat) (119:Int)))
theorem shownM_byte:∀ v∈shownM,byte v:=by
  intro v hv
  unfold shownM at hv
  have h1:=List.mem_of_mem_drop (List.mem_of_mem_take hv)
  rcases List.mem_or_eq_of_mem_set h1 with h2 | h2
  · rcases List.mem_or_eq_of_mem_set h2 with h3 | h3
    · rcases List.mem_or_eq_of_mem_set h3 with h4 | h4
      · rw [List.mem_replicate] at h4;rw [h4.2];exact byte0
      · rw [h4];exact ⟨by decide,by decide⟩
    · rw [h3];exact ⟨by decide,by decide⟩
  · rw [h2];exact ⟨by decide,by decide⟩
def shownX:MC:=runM 4 (cmS []) ⟨bootS,memS shownM,[]⟩
theorem shown_acts:shownX.l=[(1,256,62),(2,257,7),(1,258,119),(3,333,7)]:=by decide +kernel
theorem shown_mem:shownX.m.getD 333 0=7:=by decide +kernel
theorem shown_true:law23_shown.F ()=some (true,()):=by
  have hk:mok shownX:=run_ok' (cm_byte (came:=[]) (fun v h=>nomatch h)) (x:=⟨bootS,memS shownM,[]⟩) ⟨boot_ok,memS_len _,memS_byte shownM_byte⟩ 4
  show law23_shown.G cpu_Boot.F solo_Run.F solo_Trace.F=_
  unfold law23_shown.G
  refine (bind_eq boot_eq).trans ?_
  have hr:=run_spec boot_ok (mem:=shownM) (came:=[]) shownM_byte (fun v h=>nomatch h) (n:=4) (by decide)
  refine (bind_eq hr).trans ?_
  have ha:(runM 4 (cmS []) ⟨bootS,memS shownM,[]⟩).l=[(1,256,62),(2,257,7),(1,258,119),(3,333,7)]:=shown_acts
  rw [ha]
  refine (bind_eq (trace_spec (l:=[(1,256,62),(2,257,7),(1,258,119),(3,333,7)]) (by decide) (by
    intro a h
    simp only [List.mem_cons,List.not_mem_nil,or_false] at h
    rcases h with rfl | rfl | rfl | rfl<;>exact ⟨⟨by decide,by decide⟩,⟨by decide,by decide⟩⟩))).trans ?_
  have hl:((runM 4 (cmS []) ⟨bootS,memS shownM,[]⟩).m.length:Int)=65536:=congrArg (fun n:Nat=>(n:Int)) hk.len
  have hm:(runM 4 (cmS []) ⟨bootS,memS shownM,[]⟩).m.getD 333 0=7:=shown_mem
  refine (if_pos rfl).trans ?_
  refine (if_pos rfl).trans ?_
  refine (if_pos (by decide)).trans ?_
  refine (if_pos (by decide +kernel)).trans ?_
  refine (if_pos (by decide)).trans ?_
  refine (if_pos (by decide +kernel)).trans ?_
  refine (if_pos (by decide)).trans ?_
  refine (if_pos (by decide +kernel)).trans ?_
  refine (if_pos (by decide)).trans ?_
  refine (if_pos (by decide +kernel)).trans ?_
  dsimp only
  rw [hl,hm]
  rfl
end Go.Proofs.YtmhkjafcfpgikaaGreat.E
