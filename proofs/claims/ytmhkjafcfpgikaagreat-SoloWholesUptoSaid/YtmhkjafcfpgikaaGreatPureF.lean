/- Functions of the program as plain Lean, and what they come to. Conditions: none. -/
import Derived.Test.YtmhkjafcfpgikaaGreatEwD
import Derived.Test.YtmhkjafcfpgikaaGreatPureE
open Go Go.Ew
namespace Go.Proofs.YtmhkjafcfpgikaaGreat.E
open Go.IntKind (wrap)
set_option linter.unusedVariables false
set_option linter.unusedSimpArgs false
set_option maxRecDepth 100000
theorem byte0:byte 0:=⟨by decide,by decide⟩

def endS (s:St) (k:Int) (x y:Nat) (p:Int):St:=
 if k=1 then { s with mode:=2 } else
 if k=2 then if s.ime=false∧p≠0 then { s with bug:=true } else { s with mode:=1 } else
 if k=3 then { s with ime:=false,arm:=false } else
 if k=4 then { s with arm:=true } else
 if k=5 then { s with mode:=3 } else
 if k=7 then putx s x (opnd s y) else
 if k=8 then putx s x s.lo else
 if k=9 then { s with r:=setA s.r s.lo } else
 if k=11 then { s with r:=setA s.r s.lo } else
 if k=13 then { s with r:=setA s.r s.lo } else
 if k=15 then { s with r:=setA s.r s.lo } else
 if k=17 then setp s x (farS s) else
 if k=19 then { s with r:=setSP s.r (pairx s 2) } else
 if k=20 then (fun z:Int×FL=>{ s with r:=withF (setp s 2 z.1).r z.2 }) (addeS (spR s.r) s.lo) else
 if k=22 then setp s x (farS s) else
 if k=23 then (fun z:Int×FL=>{ s with r:=withF (setA s.r z.1) z.2 }) (doS x s.r.1 (opnd s y) (ofS s.r.2.1)) else
 if k=24 then (fun z:Int×FL=>{ s with r:=withF (setA s.r z.1) z.2 }) (doS x s.r.1 s.lo (ofS s.r.2.1)) else
 if k=25 then (fun z:Int×FL=>(fun t:St=>{ t with r:=withF t.r z.2 }) (putx s x z.1)) (altS s 25 x y) else
 if k=26 then (fun z:Int×FL=>(fun t:St=>{ t with r:=withF t.r z.2 }) (putx s x z.1)) (altS s 26 x y) else
 if k=27 then setp s x ((pairx s x+1)%65536) else
 if k=28 then setp s x ((pairx s x + -1)%65536) else
 if k=29 then (fun z:Int×FL=>{ s with r:=withF (setp s 2 z.1).r z.2 }) (addwS (pairx s 2) (pairx s x) (ofS s.r.2.1)) else
 if k=30 then (fun z:Int×FL=>{ s with r:=withF (setSP s.r z.1) z.2 }) (addeS (spR s.r) s.lo) else
 if k=31 then (fun z:Int×FL=>{ s with r:=withF (setA s.r z.1) z.2 }) (fastS x s.r.1 (ofS s.r.2.1)) else
 if k=32 then (fun z:Int×FL=>{ s with r:=withF (setA s.r z.1) z.2 }) (daaS s.r.1 (ofS s.r.2.1)) else
 if k=33 then (fun z:Int×FL=>{ s with r:=withF (setA s.r z.1) z.2 }) (cplS s.r.1 (ofS s.r.2.1)) else
 if k=34 then { s with r:=withF s.r (scfS (ofS s.r.2.1)) } else
 if k=35 then { s with r:=withF s.r (ccfS (ofS s.r.2.1)) } else
 if k=36 then if holdS s.r x=true then { s with r:=setPC s.r ((pcR s.r+sgn s.lo)%65536) } else s else
 if k=37 then if holdS s.r x=true then { s with r:=setPC s.r (farS s) } else s else
 if k=38 then { s with r:=setPC s.r (pairx s 2) } else
 if k=39 then if holdS s.r x=true then { s with r:=setPC s.r (farS s) } else s else
 if k=40 then if holdS s.r x=true then { s with r:=setPC s.r (farS s) } else s else
 if k=41 then { s with r:=setPC s.r (farS s),ime:=true } else
 if k=42 then { s with r:=setPC s.r (wrap .u16 (wrap .i64 (8*(x:Int)))) } else
 if k=43 then (fun z:Int×FL=>(fun t:St=>{ t with r:=withF t.r z.2 }) (putx s y z.1)) (altS s 43 x y) else
 if k=44 then { s with r:=withF s.r (testS x (opnd s y) (ofS s.r.2.1)) } else
 if k=45 then putx s y (altS s 45 x y).1 else
 if k=46 then putx s y (altS s 46 x y).1 else
 s
theorem load7 {s:St} (h:sok s) {x y:Nat} (hx:x<8) (hy:y<8) (u v w p:Int):cpu_core_loaded.F ((7,(x:Int),(y:Int),u,v,w),()) s.b=some ((),(endS s 7 x y p).b):=by
 unfold cpu_core_loaded.F cpu_core_loaded.G endS
 simp only [Int.reduceBEq,Int.reduceEq,Bool.false_eq_true,↓reduceIte]
 refine (bind_eq (operand_spec s (n:=(y:Int)) (by omega) (by omega))).trans ?_
 refine (bind_eq (put_spec' s (n:=(x:Int)) (by omega) (by omega) _)).trans ?_
 rfl
theorem load8 {s:St} (h:sok s) {x y:Nat} (hx:x<8) (hy:y<8) (u v w p:Int):cpu_core_loaded.F ((8,(x:Int),(y:Int),u,v,w),()) s.b=some ((),(endS s 8 x y p).b):=by
 unfold cpu_core_loaded.F cpu_core_loaded.G endS
 simp only [Int.reduceBEq,Int.reduceEq,Bool.false_eq_true,↓reduceIte]
 refine (bind_eq (put_spec' s (n:=(x:Int)) (by omega) (by omega) _)).trans ?_
 rfl
theorem load17 {s:St} (h:sok s) {x y:Nat} (hx:x<5) (hy:y<8) (u v w p:Int):cpu_core_loaded.F ((17,(x:Int),(y:Int),u,v,w),()) s.b=some ((),(endS s 17 x y p).b):=by
 unfold cpu_core_loaded.F cpu_core_loaded.G endS
 simp only [Int.reduceBEq,Int.reduceEq,Bool.false_eq_true,↓reduceIte]
 refine (bind_eq ((congrArg (fun w=>cpu_core_setPair.F ((x:Int),w,()) s.b) (join16' h.hi h.lo)).trans (setp_spec s (by omega) (by omega) (far_ok h)))).trans ?_
 rfl
theorem load22 {s:St} (h:sok s) {x y:Nat} (hx:x<5) (hy:y<8) (u v w p:Int):cpu_core_loaded.F ((22,(x:Int),(y:Int),u,v,w),()) s.b=some ((),(endS s 22 x y p).b):=by
 unfold cpu_core_loaded.F cpu_core_loaded.G endS
 simp only [Int.reduceBEq,Int.reduceEq,Bool.false_eq_true,↓reduceIte]
 refine (bind_eq ((congrArg (fun w=>cpu_core_setPair.F ((x:Int),w,()) s.b) (join16' h.hi h.lo)).trans (setp_spec s (by omega) (by omega) (far_ok h)))).trans ?_
 rfl
theorem load19 {s:St} (h:sok s) {x y:Nat} (hx:x<8) (hy:y<8) (u v w p:Int):cpu_core_loaded.F ((19,(x:Int),(y:Int),u,v,w),()) s.b=some ((),(endS s 19 x y p).b):=by
 unfold cpu_core_loaded.F cpu_core_loaded.G endS
 simp only [Int.reduceBEq,Int.reduceEq,Bool.false_eq_true,↓reduceIte]
 refine (bind_eq (pair_spec' h (n:=2) (by omega) (by omega))).trans ?_
 rfl
theorem load9 {s:St} (h:sok s) {x y:Nat} (hx:x<8) (hy:y<8) (u v w p:Int):cpu_core_loaded.F ((9,(x:Int),(y:Int),u,v,w),()) s.b=some ((),(endS s 9 x y p).b):=by
 unfold cpu_core_loaded.F cpu_core_loaded.G endS
 simp only [Int.reduceBEq,Int.reduceEq,Bool.false_eq_true,↓reduceIte]
 rfl
theorem load11 {s:St} (h:sok s) {x y:Nat} (hx:x<8) (hy:y<8) (u v w p:Int):cpu_core_loaded.F ((11,(x:Int),(y:Int),u,v,w),()) s.b=some ((),(endS s 11 x y p).b):=by
 unfold cpu_core_loaded.F cpu_core_loaded.G endS
 simp only [Int.reduceBEq,Int.reduceEq,Bool.false_eq_true,↓reduceIte]
 rfl
theorem load13 {s:St} (h:sok s) {x y:Nat} (hx:x<8) (hy:y<8) (u v w p:Int):cpu_core_loaded.F ((13,(x:Int),(y:Int),u,v,w),()) s.b=some ((),(endS s 13 x y p).b):=by
 unfold cpu_core_loaded.F cpu_core_loaded.G endS
 simp only [Int.reduceBEq,Int.reduceEq,Bool.false_eq_true,↓reduceIte]
 rfl
theorem load15 {s:St} (h:sok s) {x y:Nat} (hx:x<8) (hy:y<8) (u v w p:Int):cpu_core_loaded.F ((15,(x:Int),(y:Int),u,v,w),()) s.b=some ((),(endS s 15 x y p).b):=by
 unfold cpu_core_loaded.F cpu_core_loaded.G endS
 simp only [Int.reduceBEq,Int.reduceEq,Bool.false_eq_true,↓reduceIte]
 rfl
theorem reck23 {s:St} (h:sok s) {x y:Nat} (hx:x<8) (hy:y<8) (u v w p:Int):cpu_core_reckoned.F ((23,(x:Int),(y:Int),u,v,w),()) s.b=some ((),(endS s 23 x y p).b):=by
 unfold cpu_core_reckoned.F cpu_core_reckoned.G endS
 simp only [Int.reduceBEq,Int.reduceEq,Bool.false_eq_true,↓reduceIte]
 refine (bind_eq (flags_spec (r:=s.r) h.r)).trans ?_
 refine (bind_eq (operand_spec s (n:=(y:Int)) (by omega) (by omega))).trans ?_
 refine (bind_eq (do_spec hx h.r.a (opnd_ok h _) _)).trans ?_
 refine (bind_eq (with_spec _ _)).trans ?_
 rfl
theorem reck24 {s:St} (h:sok s) {x y:Nat} (hx:x<8) (hy:y<8) (u v w p:Int):cpu_core_reckoned.F ((24,(x:Int),(y:Int),u,v,w),()) s.b=some ((),(endS s 24 x y p).b):=by
 unfold cpu_core_reckoned.F cpu_core_reckoned.G endS
 simp only [Int.reduceBEq,Int.reduceEq,Bool.false_eq_true,↓reduceIte]
 refine (bind_eq (flags_spec (r:=s.r) h.r)).trans ?_
 refine (bind_eq (do_spec hx h.r.a h.lo _)).trans ?_
 refine (bind_eq (with_spec _ _)).trans ?_
 rfl
theorem reck31 {s:St} (h:sok s) {x y:Nat} (hx:x<4) (hy:y<8) (u v w p:Int):cpu_core_reckoned.F ((31,(x:Int),(y:Int),u,v,w),()) s.b=some ((),(endS s 31 x y p).b):=by
 unfold cpu_core_reckoned.F cpu_core_reckoned.G endS
 simp only [Int.reduceBEq,Int.reduceEq,Bool.false_eq_true,↓reduceIte]
 refine (bind_eq (flags_spec (r:=s.r) h.r)).trans ?_
 refine (bind_eq (fast_spec hx h.r.a _)).trans ?_
 refine (bind_eq (with_spec _ _)).trans ?_
 rfl
theorem reck32 {s:St} (h:sok s) {x y:Nat} (hx:x<8) (hy:y<8) (u v w p:Int):cpu_core_reckoned.F ((32,(x:Int),(y:Int),u,v,w),()) s.b=some ((),(endS s 32 x y p).b):=by
 unfold cpu_core_reckoned.F cpu_core_reckoned.G endS
 simp only [Int.reduceBEq,Int.reduceEq,Bool.false_eq_true,↓reduceIte]
 refine (bind_eq (flags_spec (r:=s.r) h.r)).trans ?_
 refine (bind_eq (daa_spec h.r.a _)).trans ?_
 refine (bind_eq (with_spec _ _)).trans ?_
 rfl
theorem reck33 {s:St} (h:sok s) {x y:Nat} (hx:x<8) (hy:y<8) (u v w p:Int):cpu_core_reckoned.F ((33,(x:Int),(y:Int),u,v,w),()) s.b=some ((),(endS s 33 x y p).b):=by
 unfold cpu_core_reckoned.F cpu_core_reckoned.G endS
 simp only [Int.reduceBEq,Int.reduceEq,Bool.false_eq_true,↓reduceIte]
 refine (bind_eq (flags_spec (r:=s.r) h.r)).trans ?_
 refine (bind_eq (cpl_spec h.r.a _)).trans ?_
 refine (bind_eq (with_spec _ _)).trans ?_
 rfl
theorem reck34 {s:St} (h:sok s) {x y:Nat} (hx:x<8) (hy:y<8) (u v w p:Int):cpu_core_reckoned.F ((34,(x:Int),(y:Int),u,v,w),()) s.b=some ((),(endS s 34 x y p).b):=by
 unfold cpu_core_reckoned.F cpu_core_reckoned.G endS
 simp only [Int.reduceBEq,Int.reduceEq,Bool.false_eq_true,↓reduceIte]
 refine (bind_eq (flags_spec (r:=s.r) h.r)).trans ?_
 refine (bind_eq (scf_spec _)).trans ?_
 refine (bind_eq (with_spec _ _)).trans ?_
 rfl
theorem reck35 {s:St} (h:sok s) {x y:Nat} (hx:x<8) (hy:y<8) (u v w p:Int):cpu_core_reckoned.F ((35,(x:Int),(y:Int),u,v,w),()) s.b=some ((),(endS s 35 x y p).b):=by
 unfold cpu_core_reckoned.F cpu_core_reckoned.G endS
 simp only [Int.reduceBEq,Int.reduceEq,Bool.false_eq_true,↓reduceIte]
 refine (bind_eq (flags_spec (r:=s.r) h.r)).trans ?_
 refine (bind_eq (ccf_spec _)).trans ?_
 refine (bind_eq (with_spec _ _)).trans ?_
 rfl
theorem reck25 {s:St} (h:sok s) {x y:Nat} (hx:x<8) (hy:y<8) (u v w p:Int):cpu_core_reckoned.F ((25,(x:Int),(y:Int),u,v,w),()) s.b=some ((),(endS s 25 x y p).b):=by
 unfold cpu_core_reckoned.F cpu_core_reckoned.G endS
 simp only [Int.reduceBEq,Int.reduceEq,Bool.false_eq_true,↓reduceIte]
 refine (bind_eq (flags_spec (r:=s.r) h.r)).trans ?_
 refine (bind_eq (alters_spec h hx hy 25 _ _ _)).trans ?_
 refine (bind_eq (put_spec' s (n:=(x:Int)) (by omega) (by omega) _)).trans ?_
 refine (bind_eq (with_spec _ _)).trans ?_
 rfl
theorem reck26 {s:St} (h:sok s) {x y:Nat} (hx:x<8) (hy:y<8) (u v w p:Int):cpu_core_reckoned.F ((26,(x:Int),(y:Int),u,v,w),()) s.b=some ((),(endS s 26 x y p).b):=by
 unfold cpu_core_reckoned.F cpu_core_reckoned.G endS
 simp only [Int.reduceBEq,Int.reduceEq,Bool.false_eq_true,↓reduceIte]
 refine (bind_eq (flags_spec (r:=s.r) h.r)).trans ?_
 refine (bind_eq (alters_spec h hx hy 26 _ _ _)).trans ?_
 refine (bind_eq (put_spec' s (n:=(x:Int)) (by omega) (by omega) _)).trans ?_
 refine (bind_eq (with_spec _ _)).trans ?_
 rfl
theorem reck43 {s:St} (h:sok s) {x y:Nat} (hx:x<8) (hy:y<8) (u v w p:Int):cpu_core_reckoned.F ((43,(x:Int),(y:Int),u,v,w),()) s.b=some ((),(endS s 43 x y p).b):=by
 unfold cpu_core_reckoned.F cpu_core_reckoned.G endS
 simp only [Int.reduceBEq,Int.reduceEq,Bool.false_eq_true,↓reduceIte]
 refine (bind_eq (flags_spec (r:=s.r) h.r)).trans ?_
 refine (bind_eq (alters_spec h hx hy 43 _ _ _)).trans ?_
 refine (bind_eq (put_spec' s (n:=(y:Int)) (by omega) (by omega) _)).trans ?_
 refine (bind_eq (with_spec _ _)).trans ?_
 rfl
theorem reck45 {s:St} (h:sok s) {x y:Nat} (hx:x<8) (hy:y<8) (u v w p:Int):cpu_core_reckoned.F ((45,(x:Int),(y:Int),u,v,w),()) s.b=some ((),(endS s 45 x y p).b):=by
 unfold cpu_core_reckoned.F cpu_core_reckoned.G endS
 simp only [Int.reduceBEq,Int.reduceEq,Bool.false_eq_true,↓reduceIte]
 refine (bind_eq (flags_spec (r:=s.r) h.r)).trans ?_
 refine (bind_eq (alters_spec h hx hy 45 _ _ _)).trans ?_
 refine (bind_eq (put_spec' s (n:=(y:Int)) (by omega) (by omega) _)).trans ?_
 rfl
theorem reck46 {s:St} (h:sok s) {x y:Nat} (hx:x<8) (hy:y<8) (u v w p:Int):cpu_core_reckoned.F ((46,(x:Int),(y:Int),u,v,w),()) s.b=some ((),(endS s 46 x y p).b):=by
 unfold cpu_core_reckoned.F cpu_core_reckoned.G endS
 simp only [Int.reduceBEq,Int.reduceEq,Bool.false_eq_true,↓reduceIte]
 refine (bind_eq (flags_spec (r:=s.r) h.r)).trans ?_
 refine (bind_eq (alters_spec h hx hy 46 _ _ _)).trans ?_
 refine (bind_eq (put_spec' s (n:=(y:Int)) (by omega) (by omega) _)).trans ?_
 rfl
theorem reck44 {s:St} (h:sok s) {x y:Nat} (hx:x<8) (hy:y<8) (u v w p:Int):cpu_core_reckoned.F ((44,(x:Int),(y:Int),u,v,w),()) s.b=some ((),(endS s 44 x y p).b):=by
 unfold cpu_core_reckoned.F cpu_core_reckoned.G endS
 simp only [Int.reduceBEq,Int.reduceEq,Bool.false_eq_true,↓reduceIte]
 refine (bind_eq (flags_spec (r:=s.r) h.r)).trans ?_
 refine (bind_eq (operand_spec s (n:=(y:Int)) (by omega) (by omega))).trans ?_
 refine (bind_eq (test_spec hx (opnd_ok h _) _)).trans ?_
 refine (bind_eq (with_spec _ _)).trans ?_
 rfl
theorem reck27 {s:St} (h:sok s) {x y:Nat} (hx:x<5) (hy:y<8) (u v w p:Int):cpu_core_reckoned.F ((27,(x:Int),(y:Int),u,v,w),()) s.b=some ((),(endS s 27 x y p).b):=by
 unfold cpu_core_reckoned.F cpu_core_reckoned.G endS
 simp only [Int.reduceBEq,Int.reduceEq,Bool.false_eq_true,↓reduceIte]
 refine (bind_eq (flags_spec (r:=s.r) h.r)).trans ?_
 refine (bind_eq (pair_spec' h (n:=(x:Int)) (by omega) (by omega))).trans ?_
 refine (bind_eq (setp_spec s (n:=(x:Int)) (w:=(pairx s x+1)%65536) (by omega) (by omega) (word_mod _))).trans ?_
 rfl
theorem reck28 {s:St} (h:sok s) {x y:Nat} (hx:x<5) (hy:y<8) (u v w p:Int):cpu_core_reckoned.F ((28,(x:Int),(y:Int),u,v,w),()) s.b=some ((),(endS s 28 x y p).b):=by
 unfold cpu_core_reckoned.F cpu_core_reckoned.G endS
 simp only [Int.reduceBEq,Int.reduceEq,Bool.false_eq_true,↓reduceIte]
 refine (bind_eq (flags_spec (r:=s.r) h.r)).trans ?_
 refine (bind_eq (pair_spec' h (n:=(x:Int)) (by omega) (by omega))).trans ?_
 refine (bind_eq (setp_spec s (n:=(x:Int)) (w:=(pairx s x + -1)%65536) (by omega) (by omega) (word_mod _))).trans ?_
 rfl
theorem reck29 {s:St} (h:sok s) {x y:Nat} (hx:x<5) (hy:y<8) (u v w p:Int):cpu_core_reckoned.F ((29,(x:Int),(y:Int),u,v,w),()) s.b=some ((),(endS s 29 x y p).b):=by
 unfold cpu_core_reckoned.F cpu_core_reckoned.G endS
 simp only [Int.reduceBEq,Int.reduceEq,Bool.false_eq_true,↓reduceIte]
 refine (bind_eq (flags_spec (r:=s.r) h.r)).trans ?_
 refine (bind_eq (pair_spec' h (n:=2) (by omega) (by omega))).trans ?_
 refine (bind_eq (pair_spec' h (n:=(x:Int)) (by omega) (by omega))).trans ?_
 refine (bind_eq (addw_spec (pairx_ok h 2) (pairx_ok h (x:Int)) (ofS s.r.2.1))).trans ?_
 refine (bind_eq (setp_spec s (n:=2) (by omega) (by omega) (word_mod _))).trans ?_
 refine (bind_eq (with_spec _ _)).trans ?_
 rfl
theorem reck20 {s:St} (h:sok s) {x y:Nat} (hx:x<8) (hy:y<8) (u v w p:Int):cpu_core_reckoned.F ((20,(x:Int),(y:Int),u,v,w),()) s.b=some ((),(endS s 20 x y p).b):=by
 unfold cpu_core_reckoned.F cpu_core_reckoned.G endS
 simp only [Int.reduceBEq,Int.reduceEq,Bool.false_eq_true,↓reduceIte]
 refine (bind_eq (flags_spec (r:=s.r) h.r)).trans ?_
 refine (bind_eq (adde_spec h.r.sp h.lo)).trans ?_
 refine (bind_eq (setp_spec s (n:=2) (by omega) (by omega) (word_mod _))).trans ?_
 refine (bind_eq (with_spec _ _)).trans ?_
 rfl
theorem reck30 {s:St} (h:sok s) {x y:Nat} (hx:x<8) (hy:y<8) (u v w p:Int):cpu_core_reckoned.F ((30,(x:Int),(y:Int),u,v,w),()) s.b=some ((),(endS s 30 x y p).b):=by
 unfold cpu_core_reckoned.F cpu_core_reckoned.G endS
 simp only [Int.reduceBEq,Int.reduceEq,Bool.false_eq_true,↓reduceIte]
 refine (bind_eq (flags_spec (r:=s.r) h.r)).trans ?_
 refine (bind_eq (adde_spec h.r.sp h.lo)).trans ?_
 refine (bind_eq (with_spec _ _)).trans ?_
 rfl
theorem reck0 {s:St} (h:sok s) {x y:Nat} (hx:x<8) (hy:y<8) (u v w p:Int):cpu_core_reckoned.F ((0,(x:Int),(y:Int),u,v,w),()) s.b=some ((),(endS s 0 x y p).b):=by
 unfold cpu_core_reckoned.F cpu_core_reckoned.G endS
 simp only [Int.reduceBEq,Int.reduceEq,Bool.false_eq_true,↓reduceIte]
 refine (bind_eq (flags_spec (r:=s.r) h.r)).trans ?_
 rfl
theorem reck6 {s:St} (h:sok s) {x y:Nat} (hx:x<8) (hy:y<8) (u v w p:Int):cpu_core_reckoned.F ((6,(x:Int),(y:Int),u,v,w),()) s.b=some ((),(endS s 6 x y p).b):=by
 unfold cpu_core_reckoned.F cpu_core_reckoned.G endS
 simp only [Int.reduceBEq,Int.reduceEq,Bool.false_eq_true,↓reduceIte]
 refine (bind_eq (flags_spec (r:=s.r) h.r)).trans ?_
 rfl
theorem reck10 {s:St} (h:sok s) {x y:Nat} (hx:x<8) (hy:y<8) (u v w p:Int):cpu_core_reckoned.F ((10,(x:Int),(y:Int),u,v,w),()) s.b=some ((),(endS s 10 x y p).b):=by
 unfold cpu_core_reckoned.F cpu_core_reckoned.G endS
 simp only [Int.reduceBEq,Int.reduceEq,Bool.false_eq_true,↓reduceIte]
 refine (bind_eq (flags_spec (r:=s.r) h.r)).trans ?_
 rfl
theorem reck12 {s:St} (h:sok s) {x y:Nat} (hx:x<8) (hy:y<8) (u v w p:Int):cpu_core_reckoned.F ((12,(x:Int),(y:Int),u,v,w),()) s.b=some ((),(endS s 12 x y p).b):=by
 unfold cpu_core_reckoned.F cpu_core_reckoned.G endS
 simp only [Int.reduceBEq,Int.reduceEq,Bool.false_eq_true,↓reduceIte]
 refine (bind_eq (flags_spec (r:=s.r) h.r)).trans ?_
 rfl
theorem reck14 {s:St} (h:sok s) {x y:Nat} (hx:x<8) (hy:y<8) (u v w p:Int):cpu_core_reckoned.F ((14,(x:Int),(y:Int),u,v,w),()) s.b=some ((),(endS s 14 x y p).b):=by
 unfold cpu_core_reckoned.F cpu_core_reckoned.G endS
 simp only [Int.reduceBEq,Int.reduceEq,Bool.false_eq_true,↓reduceIte]
 refine (bind_eq (flags_spec (r:=s.r) h.r)).trans ?_
 rfl
theorem reck16 {s:St} (h:sok s) {x y:Nat} (hx:x<8) (hy:y<8) (u v w p:Int):cpu_core_reckoned.F ((16,(x:Int),(y:Int),u,v,w),()) s.b=some ((),(endS s 16 x y p).b):=by
 unfold cpu_core_reckoned.F cpu_core_reckoned.G endS
 simp only [Int.reduceBEq,Int.reduceEq,Bool.false_eq_true,↓reduceIte]
 refine (bind_eq (flags_spec (r:=s.r) h.r)).trans ?_
 rfl
theorem reck18 {s:St} (h:sok s) {x y:Nat} (hx:x<8) (hy:y<8) (u v w p:Int):cpu_core_reckoned.F ((18,(x:Int),(y:Int),u,v,w),()) s.b=some ((),(endS s 18 x y p).b):=by
 unfold cpu_core_reckoned.F cpu_core_reckoned.G endS
 simp only [Int.reduceBEq,Int.reduceEq,Bool.false_eq_true,↓reduceIte]
 refine (bind_eq (flags_spec (r:=s.r) h.r)).trans ?_
 rfl
theorem reck21 {s:St} (h:sok s) {x y:Nat} (hx:x<8) (hy:y<8) (u v w p:Int):cpu_core_reckoned.F ((21,(x:Int),(y:Int),u,v,w),()) s.b=some ((),(endS s 21 x y p).b):=by
 unfold cpu_core_reckoned.F cpu_core_reckoned.G endS
 simp only [Int.reduceBEq,Int.reduceEq,Bool.false_eq_true,↓reduceIte]
 refine (bind_eq (flags_spec (r:=s.r) h.r)).trans ?_
 rfl
theorem gone36 {s:St} (h:sok s) {x y:Nat} (hx:x<8) (hy:y<8) (u v w p:Int):cpu_core_gone.F ((36,(x:Int),(y:Int),u,v,w),()) s.b=some ((),(endS s 36 x y p).b):=by
 unfold cpu_core_gone.F cpu_core_gone.G endS
 simp only [Int.reduceBEq,Int.reduceEq,Bool.false_eq_true,↓reduceIte]
 refine (bind_eq (holds_spec (r:=s.r) h.r _)).trans ?_
 dsimp only
 cases holdS s.r (x:Int)
 ·rfl
 ·exact congrArg (fun w=>some ((),{ s with r:=setPC s.r w }.b)) (pc_rel h)
theorem gone37 {s:St} (h:sok s) {x y:Nat} (hx:x<8) (hy:y<8) (u v w p:Int):cpu_core_gone.F ((37,(x:Int),(y:Int),u,v,w),()) s.b=some ((),(endS s 37 x y p).b):=by
 unfold cpu_core_gone.F cpu_core_gone.G endS
 simp only [Int.reduceBEq,Int.reduceEq,Bool.false_eq_true,↓reduceIte]
 refine (bind_eq (holds_spec (r:=s.r) h.r _)).trans ?_
 dsimp only
 cases holdS s.r (x:Int)
 ·rfl
 ·exact congrArg (fun w=>some ((),{ s with r:=setPC s.r w }.b)) (join16' h.hi h.lo)
theorem gone38 {s:St} (h:sok s) {x y:Nat} (hx:x<8) (hy:y<8) (u v w p:Int):cpu_core_gone.F ((38,(x:Int),(y:Int),u,v,w),()) s.b=some ((),(endS s 38 x y p).b):=by
 unfold cpu_core_gone.F cpu_core_gone.G endS
 simp only [Int.reduceBEq,Int.reduceEq,Bool.false_eq_true,↓reduceIte]
 refine (bind_eq (pair_spec' h (n:=2) (by omega) (by omega))).trans ?_
 rfl
theorem gone39 {s:St} (h:sok s) {x y:Nat} (hx:x<8) (hy:y<8) (u v w p:Int):cpu_core_gone.F ((39,(x:Int),(y:Int),u,v,w),()) s.b=some ((),(endS s 39 x y p).b):=by
 unfold cpu_core_gone.F cpu_core_gone.G endS
 simp only [Int.reduceBEq,Int.reduceEq,Bool.false_eq_true,↓reduceIte]
 refine (bind_eq (holds_spec (r:=s.r) h.r _)).trans ?_
 dsimp only
 cases holdS s.r (x:Int)
 ·rfl
 ·exact congrArg (fun w=>some ((),{ s with r:=setPC s.r w }.b)) (join16' h.hi h.lo)
theorem gone40 {s:St} (h:sok s) {x y:Nat} (hx:x<8) (hy:y<8) (u v w p:Int):cpu_core_gone.F ((40,(x:Int),(y:Int),u,v,w),()) s.b=some ((),(endS s 40 x y p).b):=by
 unfold cpu_core_gone.F cpu_core_gone.G endS
 simp only [Int.reduceBEq,Int.reduceEq,Bool.false_eq_true,↓reduceIte]
 refine (bind_eq (holds_spec (r:=s.r) h.r _)).trans ?_
 dsimp only
 cases holdS s.r (x:Int)
 ·rfl
 ·exact congrArg (fun w=>some ((),{ s with r:=setPC s.r w }.b)) (join16' h.hi h.lo)
theorem gone41 {s:St} (h:sok s) {x y:Nat} (hx:x<8) (hy:y<8) (u v w p:Int):cpu_core_gone.F ((41,(x:Int),(y:Int),u,v,w),()) s.b=some ((),(endS s 41 x y p).b):=by
 unfold cpu_core_gone.F cpu_core_gone.G endS
 simp only [Int.reduceBEq,Int.reduceEq,Bool.false_eq_true,↓reduceIte]
 exact congrArg (fun w=>some ((),{ s with r:=setPC s.r w,ime:=true }.b)) (join16' h.hi h.lo)
theorem gone42 {s:St} (h:sok s) {x y:Nat} (hx:x<8) (hy:y<8) (u v w p:Int):cpu_core_gone.F ((42,(x:Int),(y:Int),u,v,w),()) s.b=some ((),(endS s 42 x y p).b):=by
 unfold cpu_core_gone.F cpu_core_gone.G endS
 simp only [Int.reduceBEq,Int.reduceEq,Bool.false_eq_true,↓reduceIte]
 rfl
theorem end0 {s:St} (h:sok s) {x y:Nat} (hx:x<8) (hy:y<8) (u v w p:Int) (hf:s.f=(0,(x:Int),(y:Int),u,v,w)):cpu_core_end.F (p,()) s.b=some ((),(endS { s with cb:=false,step:=0 } 0 x y p).b):=by
 unfold cpu_core_end.F cpu_core_end.G
 refine (bind_eq (form_spec h)).trans ?_
 simp only [hf,Int.reduceBEq,Bool.false_eq_true,↓reduceIte]
 refine (bind_eq (reck0 (s:={ s with cb:=false,step:=0 }) ⟨h.r,h.op,byte0,h.lo,h.hi⟩ hx hy u v w p)).trans ?_
 rfl
theorem end1 {s:St} (h:sok s) {x y:Nat} (hx:x<8) (hy:y<8) (u v w p:Int) (hf:s.f=(1,(x:Int),(y:Int),u,v,w)):cpu_core_end.F (p,()) s.b=some ((),(endS { s with cb:=false,step:=0 } 1 x y p).b):=by
 unfold cpu_core_end.F cpu_core_end.G
 refine (bind_eq (form_spec h)).trans ?_
 simp only [hf,Int.reduceBEq,Bool.false_eq_true,↓reduceIte]
 unfold endS
 simp only [Int.reduceBEq,Int.reduceEq,Bool.false_eq_true,↓reduceIte]
 rfl
theorem end2 {s:St} (h:sok s) {x y:Nat} (hx:x<8) (hy:y<8) (u v w p:Int) (hf:s.f=(2,(x:Int),(y:Int),u,v,w)):cpu_core_end.F (p,()) s.b=some ((),(endS { s with cb:=false,step:=0 } 2 x y p).b):=by
 unfold cpu_core_end.F cpu_core_end.G
 refine (bind_eq (form_spec h)).trans ?_
 simp only [hf,Int.reduceBEq,Bool.false_eq_true,↓reduceIte]
 unfold endS
 simp only [Int.reduceBEq,Int.reduceEq,Bool.false_eq_true,↓reduceIte]
 dsimp +instances only [St.b]
 cases e:s.ime
 ·by_cases q:p=0
  ·simp [q]
  ·simp [q]
 ·simp
theorem end3 {s:St} (h:sok s) {x y:Nat} (hx:x<8) (hy:y<8) (u v w p:Int) (hf:s.f=(3,(x:Int),(y:Int),u,v,w)):cpu_core_end.F (p,()) s.b=some ((),(endS { s with cb:=false,step:=0 } 3 x y p).b):=by
 unfold cpu_core_end.F cpu_core_end.G
 refine (bind_eq (form_spec h)).trans ?_
 simp only [hf,Int.reduceBEq,Bool.false_eq_true,↓reduceIte]
 unfold endS
 simp only [Int.reduceBEq,Int.reduceEq,Bool.false_eq_true,↓reduceIte]
 rfl
theorem end4 {s:St} (h:sok s) {x y:Nat} (hx:x<8) (hy:y<8) (u v w p:Int) (hf:s.f=(4,(x:Int),(y:Int),u,v,w)):cpu_core_end.F (p,()) s.b=some ((),(endS { s with cb:=false,step:=0 } 4 x y p).b):=by
 unfold cpu_core_end.F cpu_core_end.G
 refine (bind_eq (form_spec h)).trans ?_
 simp only [hf,Int.reduceBEq,Bool.false_eq_true,↓reduceIte]
 unfold endS
 simp only [Int.reduceBEq,Int.reduceEq,Bool.false_eq_true,↓reduceIte]
 rfl
theorem end5 {s:St} (h:sok s) {x y:Nat} (hx:x<8) (hy:y<8) (u v w p:Int) (hf:s.f=(5,(x:Int),(y:Int),u,v,w)):cpu_core_end.F (p,()) s.b=some ((),(endS { s with cb:=false,step:=0 } 5 x y p).b):=by
 unfold cpu_core_end.F cpu_core_end.G
 refine (bind_eq (form_spec h)).trans ?_
 simp only [hf,Int.reduceBEq,Bool.false_eq_true,↓reduceIte]
 unfold endS
 simp only [Int.reduceBEq,Int.reduceEq,Bool.false_eq_true,↓reduceIte]
 rfl
theorem end6 {s:St} (h:sok s) {x y:Nat} (hx:x<8) (hy:y<8) (u v w p:Int) (hf:s.f=(6,(x:Int),(y:Int),u,v,w)):cpu_core_end.F (p,()) s.b=some ((),(endS { s with cb:=false,step:=0 } 6 x y p).b):=by
 unfold cpu_core_end.F cpu_core_end.G
 refine (bind_eq (form_spec h)).trans ?_
 simp only [hf,Int.reduceBEq,Bool.false_eq_true,↓reduceIte]
 refine (bind_eq (reck6 (s:={ s with cb:=false,step:=0 }) ⟨h.r,h.op,byte0,h.lo,h.hi⟩ hx hy u v w p)).trans ?_
 rfl
theorem end7 {s:St} (h:sok s) {x y:Nat} (hx:x<8) (hy:y<8) (u v w p:Int) (hf:s.f=(7,(x:Int),(y:Int),u,v,w)):cpu_core_end.F (p,()) s.b=some ((),(endS { s with cb:=false,step:=0 } 7 x y p).b):=by
 unfold cpu_core_end.F cpu_core_end.G
 refine (bind_eq (form_spec h)).trans ?_
 simp only [hf,Int.reduceBEq,Bool.false_eq_true,↓reduceIte]
 refine (bind_eq (load7 (s:={ s with cb:=false,step:=0 }) ⟨h.r,h.op,byte0,h.lo,h.hi⟩ hx hy u v w p)).trans ?_
 rfl
theorem end8 {s:St} (h:sok s) {x y:Nat} (hx:x<8) (hy:y<8) (u v w p:Int) (hf:s.f=(8,(x:Int),(y:Int),u,v,w)):cpu_core_end.F (p,()) s.b=some ((),(endS { s with cb:=false,step:=0 } 8 x y p).b):=by
 unfold cpu_core_end.F cpu_core_end.G
 refine (bind_eq (form_spec h)).trans ?_
 simp only [hf,Int.reduceBEq,Bool.false_eq_true,↓reduceIte]
 refine (bind_eq (load8 (s:={ s with cb:=false,step:=0 }) ⟨h.r,h.op,byte0,h.lo,h.hi⟩ hx hy u v w p)).trans ?_
 rfl
theorem end9 {s:St} (h:sok s) {x y:Nat} (hx:x<8) (hy:y<8) (u v w p:Int) (hf:s.f=(9,(x:Int),(y:Int),u,v,w)):cpu_core_end.F (p,()) s.b=some ((),(endS { s with cb:=false,step:=0 } 9 x y p).b):=by
 unfold cpu_core_end.F cpu_core_end.G
 refine (bind_eq (form_spec h)).trans ?_
 simp only [hf,Int.reduceBEq,Bool.false_eq_true,↓reduceIte]
 refine (bind_eq (load9 (s:={ s with cb:=false,step:=0 }) ⟨h.r,h.op,byte0,h.lo,h.hi⟩ hx hy u v w p)).trans ?_
 rfl
theorem end10 {s:St} (h:sok s) {x y:Nat} (hx:x<8) (hy:y<8) (u v w p:Int) (hf:s.f=(10,(x:Int),(y:Int),u,v,w)):cpu_core_end.F (p,()) s.b=some ((),(endS { s with cb:=false,step:=0 } 10 x y p).b):=by
 unfold cpu_core_end.F cpu_core_end.G
 refine (bind_eq (form_spec h)).trans ?_
 simp only [hf,Int.reduceBEq,Bool.false_eq_true,↓reduceIte]
 refine (bind_eq (reck10 (s:={ s with cb:=false,step:=0 }) ⟨h.r,h.op,byte0,h.lo,h.hi⟩ hx hy u v w p)).trans ?_
 rfl
theorem end11 {s:St} (h:sok s) {x y:Nat} (hx:x<8) (hy:y<8) (u v w p:Int) (hf:s.f=(11,(x:Int),(y:Int),u,v,w)):cpu_core_end.F (p,()) s.b=some ((),(endS { s with cb:=false,step:=0 } 11 x y p).b):=by
 unfold cpu_core_end.F cpu_core_end.G
 refine (bind_eq (form_spec h)).trans ?_
 simp only [hf,Int.reduceBEq,Bool.false_eq_true,↓reduceIte]
 refine (bind_eq (load11 (s:={ s with cb:=false,step:=0 }) ⟨h.r,h.op,byte0,h.lo,h.hi⟩ hx hy u v w p)).trans ?_
 rfl
theorem end12 {s:St} (h:sok s) {x y:Nat} (hx:x<8) (hy:y<8) (u v w p:Int) (hf:s.f=(12,(x:Int),(y:Int),u,v,w)):cpu_core_end.F (p,()) s.b=some ((),(endS { s with cb:=false,step:=0 } 12 x y p).b):=by
 unfold cpu_core_end.F cpu_core_end.G
 refine (bind_eq (form_spec h)).trans ?_
 simp only [hf,Int.reduceBEq,Bool.false_eq_true,↓reduceIte]
 refine (bind_eq (reck12 (s:={ s with cb:=false,step:=0 }) ⟨h.r,h.op,byte0,h.lo,h.hi⟩ hx hy u v w p)).trans ?_
 rfl
theorem end13 {s:St} (h:sok s) {x y:Nat} (hx:x<8) (hy:y<8) (u v w p:Int) (hf:s.f=(13,(x:Int),(y:Int),u,v,w)):cpu_core_end.F (p,()) s.b=some ((),(endS { s with cb:=false,step:=0 } 13 x y p).b):=by
 unfold cpu_core_end.F cpu_core_end.G
 refine (bind_eq (form_spec h)).trans ?_
 simp only [hf,Int.reduceBEq,Bool.false_eq_true,↓reduceIte]
 refine (bind_eq (load13 (s:={ s with cb:=false,step:=0 }) ⟨h.r,h.op,byte0,h.lo,h.hi⟩ hx hy u v w p)).trans ?_
 rfl
theorem end14 {s:St} (h:sok s) {x y:Nat} (hx:x<8) (hy:y<8) (u v w p:Int) (hf:s.f=(14,(x:Int),(y:Int),u,v,w)):cpu_core_end.F (p,()) s.b=some ((),(endS { s with cb:=false,step:=0 } 14 x y p).b):=by
 unfold cpu_core_end.F cpu_core_end.G
 refine (bind_eq (form_spec h)).trans ?_
 simp only [hf,Int.reduceBEq,Bool.false_eq_true,↓reduceIte]
 refine (bind_eq (reck14 (s:={ s with cb:=false,step:=0 }) ⟨h.r,h.op,byte0,h.lo,h.hi⟩ hx hy u v w p)).trans ?_
 rfl
theorem end15 {s:St} (h:sok s) {x y:Nat} (hx:x<8) (hy:y<8) (u v w p:Int) (hf:s.f=(15,(x:Int),(y:Int),u,v,w)):cpu_core_end.F (p,()) s.b=some ((),(endS { s with cb:=false,step:=0 } 15 x y p).b):=by
 unfold cpu_core_end.F cpu_core_end.G
 refine (bind_eq (form_spec h)).trans ?_
 simp only [hf,Int.reduceBEq,Bool.false_eq_true,↓reduceIte]
 refine (bind_eq (load15 (s:={ s with cb:=false,step:=0 }) ⟨h.r,h.op,byte0,h.lo,h.hi⟩ hx hy u v w p)).trans ?_
 rfl
theorem end16 {s:St} (h:sok s) {x y:Nat} (hx:x<8) (hy:y<8) (u v w p:Int) (hf:s.f=(16,(x:Int),(y:Int),u,v,w)):cpu_core_end.F (p,()) s.b=some ((),(endS { s with cb:=false,step:=0 } 16 x y p).b):=by
 unfold cpu_core_end.F cpu_core_end.G
 refine (bind_eq (form_spec h)).trans ?_
 simp only [hf,Int.reduceBEq,Bool.false_eq_true,↓reduceIte]
 refine (bind_eq (reck16 (s:={ s with cb:=false,step:=0 }) ⟨h.r,h.op,byte0,h.lo,h.hi⟩ hx hy u v w p)).trans ?_
 rfl
theorem end17 {s:St} (h:sok s) {x y:Nat} (hx:x<5) (hy:y<8) (u v w p:Int) (hf:s.f=(17,(x:Int),(y:Int),u,v,w)):cpu_core_end.F (p,()) s.b=some ((),(endS { s with cb:=false,step:=0 } 17 x y p).b):=by
 unfold cpu_core_end.F cpu_core_end.G
 refine (bind_eq (form_spec h)).trans ?_
 simp only [hf,Int.reduceBEq,Bool.false_eq_true,↓reduceIte]
 refine (bind_eq (load17 (s:={ s with cb:=false,step:=0 }) ⟨h.r,h.op,byte0,h.lo,h.hi⟩ hx hy u v w p)).trans ?_
 rfl
theorem end18 {s:St} (h:sok s) {x y:Nat} (hx:x<8) (hy:y<8) (u v w p:Int) (hf:s.f=(18,(x:Int),(y:Int),u,v,w)):cpu_core_end.F (p,()) s.b=some ((),(endS { s with cb:=false,step:=0 } 18 x y p).b):=by
 unfold cpu_core_end.F cpu_core_end.G
 refine (bind_eq (form_spec h)).trans ?_
 simp only [hf,Int.reduceBEq,Bool.false_eq_true,↓reduceIte]
 refine (bind_eq (reck18 (s:={ s with cb:=false,step:=0 }) ⟨h.r,h.op,byte0,h.lo,h.hi⟩ hx hy u v w p)).trans ?_
 rfl
theorem end19 {s:St} (h:sok s) {x y:Nat} (hx:x<8) (hy:y<8) (u v w p:Int) (hf:s.f=(19,(x:Int),(y:Int),u,v,w)):cpu_core_end.F (p,()) s.b=some ((),(endS { s with cb:=false,step:=0 } 19 x y p).b):=by
 unfold cpu_core_end.F cpu_core_end.G
 refine (bind_eq (form_spec h)).trans ?_
 simp only [hf,Int.reduceBEq,Bool.false_eq_true,↓reduceIte]
 refine (bind_eq (load19 (s:={ s with cb:=false,step:=0 }) ⟨h.r,h.op,byte0,h.lo,h.hi⟩ hx hy u v w p)).trans ?_
 rfl
theorem end20 {s:St} (h:sok s) {x y:Nat} (hx:x<8) (hy:y<8) (u v w p:Int) (hf:s.f=(20,(x:Int),(y:Int),u,v,w)):cpu_core_end.F (p,()) s.b=some ((),(endS { s with cb:=false,step:=0 } 20 x y p).b):=by
 unfold cpu_core_end.F cpu_core_end.G
 refine (bind_eq (form_spec h)).trans ?_
 simp only [hf,Int.reduceBEq,Bool.false_eq_true,↓reduceIte]
 refine (bind_eq (reck20 (s:={ s with cb:=false,step:=0 }) ⟨h.r,h.op,byte0,h.lo,h.hi⟩ hx hy u v w p)).trans ?_
 rfl
theorem end21 {s:St} (h:sok s) {x y:Nat} (hx:x<8) (hy:y<8) (u v w p:Int) (hf:s.f=(21,(x:Int),(y:Int),u,v,w)):cpu_core_end.F (p,()) s.b=some ((),(endS { s with cb:=false,step:=0 } 21 x y p).b):=by
 unfold cpu_core_end.F cpu_core_end.G
 refine (bind_eq (form_spec h)).trans ?_
 simp only [hf,Int.reduceBEq,Bool.false_eq_true,↓reduceIte]
 refine (bind_eq (reck21 (s:={ s with cb:=false,step:=0 }) ⟨h.r,h.op,byte0,h.lo,h.hi⟩ hx hy u v w p)).trans ?_
 rfl
theorem end22 {s:St} (h:sok s) {x y:Nat} (hx:x<5) (hy:y<8) (u v w p:Int) (hf:s.f=(22,(x:Int),(y:Int),u,v,w)):cpu_core_end.F (p,()) s.b=some ((),(endS { s with cb:=false,step:=0 } 22 x y p).b):=by
 unfold cpu_core_end.F cpu_core_end.G
 refine (bind_eq (form_spec h)).trans ?_
 simp only [hf,Int.reduceBEq,Bool.false_eq_true,↓reduceIte]
 refine (bind_eq (load22 (s:={ s with cb:=false,step:=0 }) ⟨h.r,h.op,byte0,h.lo,h.hi⟩ hx hy u v w p)).trans ?_
 rfl
theorem end23 {s:St} (h:sok s) {x y:Nat} (hx:x<8) (hy:y<8) (u v w p:Int) (hf:s.f=(23,(x:Int),(y:Int),u,v,w)):cpu_core_end.F (p,()) s.b=some ((),(endS { s with cb:=false,step:=0 } 23 x y p).b):=by
 unfold cpu_core_end.F cpu_core_end.G
 refine (bind_eq (form_spec h)).trans ?_
 simp only [hf,Int.reduceBEq,Bool.false_eq_true,↓reduceIte]
 refine (bind_eq (reck23 (s:={ s with cb:=false,step:=0 }) ⟨h.r,h.op,byte0,h.lo,h.hi⟩ hx hy u v w p)).trans ?_
 rfl
theorem end24 {s:St} (h:sok s) {x y:Nat} (hx:x<8) (hy:y<8) (u v w p:Int) (hf:s.f=(24,(x:Int),(y:Int),u,v,w)):cpu_core_end.F (p,()) s.b=some ((),(endS { s with cb:=false,step:=0 } 24 x y p).b):=by
 unfold cpu_core_end.F cpu_core_end.G
 refine (bind_eq (form_spec h)).trans ?_
 simp only [hf,Int.reduceBEq,Bool.false_eq_true,↓reduceIte]
 refine (bind_eq (reck24 (s:={ s with cb:=false,step:=0 }) ⟨h.r,h.op,byte0,h.lo,h.hi⟩ hx hy u v w p)).trans ?_
 rfl
theorem end25 {s:St} (h:sok s) {x y:Nat} (hx:x<8) (hy:y<8) (u v w p:Int) (hf:s.f=(25,(x:Int),(y:Int),u,v,w)):cpu_core_end.F (p,()) s.b=some ((),(endS { s with cb:=false,step:=0 } 25 x y p).b):=by
 unfold cpu_core_end.F cpu_core_end.G
 refine (bind_eq (form_spec h)).trans ?_
 simp only [hf,Int.reduceBEq,Bool.false_eq_true,↓reduceIte]
 refine (bind_eq (reck25 (s:={ s with cb:=false,step:=0 }) ⟨h.r,h.op,byte0,h.lo,h.hi⟩ hx hy u v w p)).trans ?_
 rfl
theorem end26 {s:St} (h:sok s) {x y:Nat} (hx:x<8) (hy:y<8) (u v w p:Int) (hf:s.f=(26,(x:Int),(y:Int),u,v,w)):cpu_core_end.F (p,()) s.b=some ((),(endS { s with cb:=false,step:=0 } 26 x y p).b):=by
 unfold cpu_core_end.F cpu_core_end.G
 refine (bind_eq (form_spec h)).trans ?_
 simp only [hf,Int.reduceBEq,Bool.false_eq_true,↓reduceIte]
 refine (bind_eq (reck26 (s:={ s with cb:=false,step:=0 }) ⟨h.r,h.op,byte0,h.lo,h.hi⟩ hx hy u v w p)).trans ?_
 rfl
theorem end27 {s:St} (h:sok s) {x y:Nat} (hx:x<5) (hy:y<8) (u v w p:Int) (hf:s.f=(27,(x:Int),(y:Int),u,v,w)):cpu_core_end.F (p,()) s.b=some ((),(endS { s with cb:=false,step:=0 } 27 x y p).b):=by
 unfold cpu_core_end.F cpu_core_end.G
 refine (bind_eq (form_spec h)).trans ?_
 simp only [hf,Int.reduceBEq,Bool.false_eq_true,↓reduceIte]
 refine (bind_eq (reck27 (s:={ s with cb:=false,step:=0 }) ⟨h.r,h.op,byte0,h.lo,h.hi⟩ hx hy u v w p)).trans ?_
 rfl
theorem end28 {s:St} (h:sok s) {x y:Nat} (hx:x<5) (hy:y<8) (u v w p:Int) (hf:s.f=(28,(x:Int),(y:Int),u,v,w)):cpu_core_end.F (p,()) s.b=some ((),(endS { s with cb:=false,step:=0 } 28 x y p).b):=by
 unfold cpu_core_end.F cpu_core_end.G
 refine (bind_eq (form_spec h)).trans ?_
 simp only [hf,Int.reduceBEq,Bool.false_eq_true,↓reduceIte]
 refine (bind_eq (reck28 (s:={ s with cb:=false,step:=0 }) ⟨h.r,h.op,byte0,h.lo,h.hi⟩ hx hy u v w p)).trans ?_
 rfl
theorem end29 {s:St} (h:sok s) {x y:Nat} (hx:x<5) (hy:y<8) (u v w p:Int) (hf:s.f=(29,(x:Int),(y:Int),u,v,w)):cpu_core_end.F (p,()) s.b=some ((),(endS { s with cb:=false,step:=0 } 29 x y p).b):=by
 unfold cpu_core_end.F cpu_core_end.G
 refine (bind_eq (form_spec h)).trans ?_
 simp only [hf,Int.reduceBEq,Bool.false_eq_true,↓reduceIte]
 refine (bind_eq (reck29 (s:={ s with cb:=false,step:=0 }) ⟨h.r,h.op,byte0,h.lo,h.hi⟩ hx hy u v w p)).trans ?_
 rfl
theorem end30 {s:St} (h:sok s) {x y:Nat} (hx:x<8) (hy:y<8) (u v w p:Int) (hf:s.f=(30,(x:Int),(y:Int),u,v,w)):cpu_core_end.F (p,()) s.b=some ((),(endS { s with cb:=false,step:=0 } 30 x y p).b):=by
 unfold cpu_core_end.F cpu_core_end.G
 refine (bind_eq (form_spec h)).trans ?_
 simp only [hf,Int.reduceBEq,Bool.false_eq_true,↓reduceIte]
 refine (bind_eq (reck30 (s:={ s with cb:=false,step:=0 }) ⟨h.r,h.op,byte0,h.lo,h.hi⟩ hx hy u v w p)).trans ?_
 rfl
theorem end31 {s:St} (h:sok s) {x y:Nat} (hx:x<4) (hy:y<8) (u v w p:Int) (hf:s.f=(31,(x:Int),(y:Int),u,v,w)):cpu_core_end.F (p,()) s.b=some ((),(endS { s with cb:=false,step:=0 } 31 x y p).b):=by
 unfold cpu_core_end.F cpu_core_end.G
 refine (bind_eq (form_spec h)).trans ?_
 simp only [hf,Int.reduceBEq,Bool.false_eq_true,↓reduceIte]
 refine (bind_eq (reck31 (s:={ s with cb:=false,step:=0 }) ⟨h.r,h.op,byte0,h.lo,h.hi⟩ hx hy u v w p)).trans ?_
 rfl
theorem end32 {s:St} (h:sok s) {x y:Nat} (hx:x<8) (hy:y<8) (u v w p:Int) (hf:s.f=(32,(x:Int),(y:Int),u,v,w)):cpu_core_end.F (p,()) s.b=some ((),(endS { s with cb:=false,step:=0 } 32 x y p).b):=by
 unfold cpu_core_end.F cpu_core_end.G
 refine (bind_eq (form_spec h)).trans ?_
 simp only [hf,Int.reduceBEq,Bool.false_eq_true,↓reduceIte]
 refine (bind_eq (reck32 (s:={ s with cb:=false,step:=0 }) ⟨h.r,h.op,byte0,h.lo,h.hi⟩ hx hy u v w p)).trans ?_
 rfl
theorem end33 {s:St} (h:sok s) {x y:Nat} (hx:x<8) (hy:y<8) (u v w p:Int) (hf:s.f=(33,(x:Int),(y:Int),u,v,w)):cpu_core_end.F (p,()) s.b=some ((),(endS { s with cb:=false,step:=0 } 33 x y p).b):=by
 unfold cpu_core_end.F cpu_core_end.G
 refine (bind_eq (form_spec h)).trans ?_
 simp only [hf,Int.reduceBEq,Bool.false_eq_true,↓reduceIte]
 refine (bind_eq (reck33 (s:={ s with cb:=false,step:=0 }) ⟨h.r,h.op,byte0,h.lo,h.hi⟩ hx hy u v w p)).trans ?_
 rfl
theorem end34 {s:St} (h:sok s) {x y:Nat} (hx:x<8) (hy:y<8) (u v w p:Int) (hf:s.f=(34,(x:Int),(y:Int),u,v,w)):cpu_core_end.F (p,()) s.b=some ((),(endS { s with cb:=false,step:=0 } 34 x y p).b):=by
 unfold cpu_core_end.F cpu_core_end.G
 refine (bind_eq (form_spec h)).trans ?_
 simp only [hf,Int.reduceBEq,Bool.false_eq_true,↓reduceIte]
 refine (bind_eq (reck34 (s:={ s with cb:=false,step:=0 }) ⟨h.r,h.op,byte0,h.lo,h.hi⟩ hx hy u v w p)).trans ?_
 rfl
theorem end35 {s:St} (h:sok s) {x y:Nat} (hx:x<8) (hy:y<8) (u v w p:Int) (hf:s.f=(35,(x:Int),(y:Int),u,v,w)):cpu_core_end.F (p,()) s.b=some ((),(endS { s with cb:=false,step:=0 } 35 x y p).b):=by
 unfold cpu_core_end.F cpu_core_end.G
 refine (bind_eq (form_spec h)).trans ?_
 simp only [hf,Int.reduceBEq,Bool.false_eq_true,↓reduceIte]
 refine (bind_eq (reck35 (s:={ s with cb:=false,step:=0 }) ⟨h.r,h.op,byte0,h.lo,h.hi⟩ hx hy u v w p)).trans ?_
 rfl
theorem end36 {s:St} (h:sok s) {x y:Nat} (hx:x<8) (hy:y<8) (u v w p:Int) (hf:s.f=(36,(x:Int),(y:Int),u,v,w)):cpu_core_end.F (p,()) s.b=some ((),(endS { s with cb:=false,step:=0 } 36 x y p).b):=by
 unfold cpu_core_end.F cpu_core_end.G
 refine (bind_eq (form_spec h)).trans ?_
 simp only [hf,Int.reduceBEq,Bool.false_eq_true,↓reduceIte]
 refine (bind_eq (gone36 (s:={ s with cb:=false,step:=0 }) ⟨h.r,h.op,byte0,h.lo,h.hi⟩ hx hy u v w p)).trans ?_
 rfl
theorem end37 {s:St} (h:sok s) {x y:Nat} (hx:x<8) (hy:y<8) (u v w p:Int) (hf:s.f=(37,(x:Int),(y:Int),u,v,w)):cpu_core_end.F (p,()) s.b=some ((),(endS { s with cb:=false,step:=0 } 37 x y p).b):=by
 unfold cpu_core_end.F cpu_core_end.G
 refine (bind_eq (form_spec h)).trans ?_
 simp only [hf,Int.reduceBEq,Bool.false_eq_true,↓reduceIte]
 refine (bind_eq (gone37 (s:={ s with cb:=false,step:=0 }) ⟨h.r,h.op,byte0,h.lo,h.hi⟩ hx hy u v w p)).trans ?_
 rfl
theorem end38 {s:St} (h:sok s) {x y:Nat} (hx:x<8) (hy:y<8) (u v w p:Int) (hf:s.f=(38,(x:Int),(y:Int),u,v,w)):cpu_core_end.F (p,()) s.b=some ((),(endS { s with cb:=false,step:=0 } 38 x y p).b):=by
 unfold cpu_core_end.F cpu_core_end.G
 refine (bind_eq (form_spec h)).trans ?_
 simp only [hf,Int.reduceBEq,Bool.false_eq_true,↓reduceIte]
 refine (bind_eq (gone38 (s:={ s with cb:=false,step:=0 }) ⟨h.r,h.op,byte0,h.lo,h.hi⟩ hx hy u v w p)).trans ?_
 rfl
theorem end39 {s:St} (h:sok s) {x y:Nat} (hx:x<8) (hy:y<8) (u v w p:Int) (hf:s.f=(39,(x:Int),(y:Int),u,v,w)):cpu_core_end.F (p,()) s.b=some ((),(endS { s with cb:=false,step:=0 } 39 x y p).b):=by
 unfold cpu_core_end.F cpu_core_end.G
 refine (bind_eq (form_spec h)).trans ?_
 simp only [hf,Int.reduceBEq,Bool.false_eq_true,↓reduceIte]
 refine (bind_eq (gone39 (s:={ s with cb:=false,step:=0 }) ⟨h.r,h.op,byte0,h.lo,h.hi⟩ hx hy u v w p)).trans ?_
 rfl
theorem end40 {s:St} (h:sok s) {x y:Nat} (hx:x<8) (hy:y<8) (u v w p:Int) (hf:s.f=(40,(x:Int),(y:Int),u,v,w)):cpu_core_end.F (p,()) s.b=some ((),(endS { s with cb:=false,step:=0 } 40 x y p).b):=by
 unfold cpu_core_end.F cpu_core_end.G
 refine (bind_eq (form_spec h)).trans ?_
 simp only [hf,Int.reduceBEq,Bool.false_eq_true,↓reduceIte]
 refine (bind_eq (gone40 (s:={ s with cb:=false,step:=0 }) ⟨h.r,h.op,byte0,h.lo,h.hi⟩ hx hy u v w p)).trans ?_
 rfl
theorem end41 {s:St} (h:sok s) {x y:Nat} (hx:x<8) (hy:y<8) (u v w p:Int) (hf:s.f=(41,(x:Int),(y:Int),u,v,w)):cpu_core_end.F (p,()) s.b=some ((),(endS { s with cb:=false,step:=0 } 41 x y p).b):=by
 unfold cpu_core_end.F cpu_core_end.G
 refine (bind_eq (form_spec h)).trans ?_
 simp only [hf,Int.reduceBEq,Bool.false_eq_true,↓reduceIte]
 refine (bind_eq (gone41 (s:={ s with cb:=false,step:=0 }) ⟨h.r,h.op,byte0,h.lo,h.hi⟩ hx hy u v w p)).trans ?_
 rfl
theorem end42 {s:St} (h:sok s) {x y:Nat} (hx:x<8) (hy:y<8) (u v w p:Int) (hf:s.f=(42,(x:Int),(y:Int),u,v,w)):cpu_core_end.F (p,()) s.b=some ((),(endS { s with cb:=false,step:=0 } 42 x y p).b):=by
 unfold cpu_core_end.F cpu_core_end.G
 refine (bind_eq (form_spec h)).trans ?_
 simp only [hf,Int.reduceBEq,Bool.false_eq_true,↓reduceIte]
 refine (bind_eq (gone42 (s:={ s with cb:=false,step:=0 }) ⟨h.r,h.op,byte0,h.lo,h.hi⟩ hx hy u v w p)).trans ?_
 rfl
theorem end43 {s:St} (h:sok s) {x y:Nat} (hx:x<8) (hy:y<8) (u v w p:Int) (hf:s.f=(43,(x:Int),(y:Int),u,v,w)):cpu_core_end.F (p,()) s.b=some ((),(endS { s with cb:=false,step:=0 } 43 x y p).b):=by
 unfold cpu_core_end.F cpu_core_end.G
 refine (bind_eq (form_spec h)).trans ?_
 simp only [hf,Int.reduceBEq,Bool.false_eq_true,↓reduceIte]
 refine (bind_eq (reck43 (s:={ s with cb:=false,step:=0 }) ⟨h.r,h.op,byte0,h.lo,h.hi⟩ hx hy u v w p)).trans ?_
 rfl
theorem end44 {s:St} (h:sok s) {x y:Nat} (hx:x<8) (hy:y<8) (u v w p:Int) (hf:s.f=(44,(x:Int),(y:Int),u,v,w)):cpu_core_end.F (p,()) s.b=some ((),(endS { s with cb:=false,step:=0 } 44 x y p).b):=by
 unfold cpu_core_end.F cpu_core_end.G
 refine (bind_eq (form_spec h)).trans ?_
 simp only [hf,Int.reduceBEq,Bool.false_eq_true,↓reduceIte]
 refine (bind_eq (reck44 (s:={ s with cb:=false,step:=0 }) ⟨h.r,h.op,byte0,h.lo,h.hi⟩ hx hy u v w p)).trans ?_
 rfl
theorem end45 {s:St} (h:sok s) {x y:Nat} (hx:x<8) (hy:y<8) (u v w p:Int) (hf:s.f=(45,(x:Int),(y:Int),u,v,w)):cpu_core_end.F (p,()) s.b=some ((),(endS { s with cb:=false,step:=0 } 45 x y p).b):=by
 unfold cpu_core_end.F cpu_core_end.G
 refine (bind_eq (form_spec h)).trans ?_
 simp only [hf,Int.reduceBEq,Bool.false_eq_true,↓reduceIte]
 refine (bind_eq (reck45 (s:={ s with cb:=false,step:=0 }) ⟨h.r,h.op,byte0,h.lo,h.hi⟩ hx hy u v w p)).trans ?_
 rfl
theorem end46 {s:St} (h:sok s) {x y:Nat} (hx:x<8) (hy:y<8) (u v w p:Int) (hf:s.f=(46,(x:Int),(y:Int),u,v,w)):cpu_core_end.F (p,()) s.b=some ((),(endS { s with cb:=false,step:=0 } 46 x y p).b):=by
 unfold cpu_core_end.F cpu_core_end.G
 refine (bind_eq (form_spec h)).trans ?_
 simp only [hf,Int.reduceBEq,Bool.false_eq_true,↓reduceIte]
 refine (bind_eq (reck46 (s:={ s with cb:=false,step:=0 }) ⟨h.r,h.op,byte0,h.lo,h.hi⟩ hx hy u v w p)).trans ?_
 rfl
end Go.Proofs.YtmhkjafcfpgikaaGreat.E
