/- Functions of the program as plain Lean, and what they come to. Conditions: none. -/
import Derived.Test.YtmhkjafcfpgikaaGreatEwD
import Derived.Test.YtmhkjafcfpgikaaGreatPureC
open Go Go.Ew
namespace Go.Proofs.YtmhkjafcfpgikaaGreat.E
open Go.IntKind (wrap)
set_option linter.unusedVariables false
set_option linter.unusedSimpArgs false
set_option maxRecDepth 100000
theorem bind_eq {α β:Type} {o:Option α} {v:α} {k:α→Option β} (h:o=some v):o.bind k=k v:=by rw [h];rfl
theorem u16m (x:Int):wrap .u16 x=x%65536:=rfl
theorem word_mod (x:Int):word (x%65536):=⟨by omega,by omega⟩
def setPC (r:R10) (w:Int):R10:=(r.1,r.2.1,r.2.2.1,r.2.2.2.1,r.2.2.2.2.1,r.2.2.2.2.2.1,r.2.2.2.2.2.2.1,r.2.2.2.2.2.2.2.1,r.2.2.2.2.2.2.2.2.1,w)
def setSP (r:R10) (w:Int):R10:=(r.1,r.2.1,r.2.2.1,r.2.2.2.1,r.2.2.2.2.1,r.2.2.2.2.2.1,r.2.2.2.2.2.2.1,r.2.2.2.2.2.2.2.1,w,r.2.2.2.2.2.2.2.2.2)
def setA (r:R10) (v:Int):R10:=(v,r.2)
def pcR (r:R10):Int:=r.2.2.2.2.2.2.2.2.2
def spR (r:R10):Int:=r.2.2.2.2.2.2.2.2.1
def opnd (s:St) (n:Int):Int:=if n=6 then s.lo else getR s.r n.toNat
def putx (s:St) (n v:Int):St:=if n=6 then s else { s with r:=putR s.r n.toNat v }
def setp (s:St) (n w:Int):St:={ s with r:=putP s.r n.toNat w }
def pairx (s:St) (n:Int):Int:=pairR s.r n.toNat
def farS (s:St):Int:=256*s.hi+s.lo
theorem setPC_ok {r:R10} (h:rok r) {w:Int} (hw:word w):rok (setPC r w):=⟨h.a,h.f,h.b,h.c,h.d,h.e,h.h,h.l,h.sp,hw⟩
theorem setSP_ok {r:R10} (h:rok r) {w:Int} (hw:word w):rok (setSP r w):=⟨h.a,h.f,h.b,h.c,h.d,h.e,h.h,h.l,hw,h.pc⟩
theorem setA_ok {r:R10} (h:rok r) {w:Int} (hw:byte w):rok (setA r w):=⟨hw,h.f,h.b,h.c,h.d,h.e,h.h,h.l,h.sp,h.pc⟩
theorem opnd_ok {s:St} (h:sok s) (n:Int):byte (opnd s n):=by
 unfold opnd
 split
 ·exact h.lo
 ·exact getR_ok h.r _
theorem far_ok {s:St} (h:sok s):word (farS s):=by
 have a:=h.hi.1;have b:=h.hi.2;have c:=h.lo.1;have d:=h.lo.2
 unfold farS
 exact ⟨by omega,by omega⟩
theorem pairx_ok {s:St} (h:sok s) (n:Int):word (pairx s n):=pairR_ok h.r _
theorem operand_spec (s:St) {n:Int} (h0:0≤n) (h1:n<8):cpu_core_operand.F (n,()) s.b=some (opnd s n,()):=by
 obtain ⟨m,rfl⟩:=Int.eq_ofNat_of_zero_le h0
 unfold cpu_core_operand.F cpu_core_operand.G
 refine (bind_eq (get_spec s.r (n:=m) (by omega))).trans ?_
 unfold opnd
 by_cases e:m=6
 ·subst e;rfl
 ·rw [if_neg e,if_neg e,if_neg (show ¬((m:Int)=6) by omega)];rfl
theorem put_spec' (s:St) {n:Int} (h0:0≤n) (h1:n<8) (v:Int):cpu_core_put.F (n,v,()) s.b=some ((),(putx s n v).b):=by
 obtain ⟨m,rfl⟩:=Int.eq_ofNat_of_zero_le h0
 unfold cpu_core_put.F cpu_core_put.G putx
 refine (bind_eq (put_spec s.r (n:=m) (by omega) v)).trans ?_
 by_cases e:m=6
 ·subst e;rfl
 ·rw [if_neg e,if_neg e,if_neg (show ¬((m:Int)=6) by omega)];rfl
theorem pair_spec' {s:St} (h:sok s) {n:Int} (h0:0≤n) (h1:n<5):cpu_core_pair.F (n,()) s.b=some (pairx s n,()):=by
 obtain ⟨m,rfl⟩:=Int.eq_ofNat_of_zero_le h0
 unfold cpu_core_pair.F cpu_core_pair.G
 exact bind_eq (pair_spec (r:=s.r) h.r (n:=m) (by omega))
theorem setp_spec (s:St) {n:Int} (h0:0≤n) (h1:n<5) {w:Int} (hw:word w):cpu_core_setPair.F (n,w,()) s.b=some ((),(setp s n w).b):=by
 obtain ⟨m,rfl⟩:=Int.eq_ofNat_of_zero_le h0
 unfold cpu_core_setPair.F cpu_core_setPair.G
 exact bind_eq (putp_spec s.r (n:=m) (by omega) hw)
theorem more_spec {w:Int} (hw:word w) {n:Int} (h0 : -65536≤n) (h1:n≤65536):ref22_more.F (w,n,())=some ((w+n)%65536,()):=by
 have a:=hw.1
 have b:=hw.2
 unfold ref22_more.F ref22_more.G
 dsimp only
 rw [w64 (n:=w) (by omega),w64 (n:=w+n) (by omega),w64 (n:=w+n+65536) (by omega),tmodN (by omega),w16 (by omega)]
 congr 2
 omega
def altS (s:St) (k:Int) (x y:Nat):Int×FL:=
 if k=25 then incS (opnd s x) (ofS s.r.2.1) else if k=26 then decS (opnd s x) (ofS s.r.2.1) else if k=43 then shS x (opnd s y) (ofS s.r.2.1) else if k=45 then (putS (opnd s y) x false,ofS s.r.2.1) else (putS (opnd s y) x true,ofS s.r.2.1)
theorem alters_spec {s:St} (h:sok s) {x y:Nat} (hx:x<8) (hy:y<8) (k u v w:Int):cpu_core_alters.F ((k,(x:Int),(y:Int),u,v,w),()) s.b=some ((altS s k x y).1,(altS s k x y).2,()):=by
 unfold cpu_core_alters.F cpu_core_alters.G altS
 refine (bind_eq (flags_spec (r:=s.r) h.r)).trans ?_
 by_cases e:k=25
 ·subst e
  simp only [Int.reduceBEq,Int.reduceEq,Bool.false_eq_true,↓reduceIte]
  refine (bind_eq (operand_spec s (n:=(x:Int)) (by omega) (by omega))).trans ?_
  exact bind_eq (inc_spec (opnd_ok h _) _)
 by_cases e2:k=26
 ·subst e2
  simp only [Int.reduceBEq,Int.reduceEq,Bool.false_eq_true,↓reduceIte]
  refine (bind_eq (operand_spec s (n:=(x:Int)) (by omega) (by omega))).trans ?_
  exact bind_eq (dec_spec (opnd_ok h _) _)
 by_cases e3:k=43
 ·subst e3
  simp only [Int.reduceBEq,Int.reduceEq,Bool.false_eq_true,↓reduceIte]
  refine (bind_eq (operand_spec s (n:=(y:Int)) (by omega) (by omega))).trans ?_
  exact bind_eq (sh_spec hx (opnd_ok h _) _)
 by_cases e4:k=45
 ·subst e4
  simp only [Int.reduceBEq,Int.reduceEq,Bool.false_eq_true,↓reduceIte]
  refine (bind_eq (operand_spec s (n:=(y:Int)) (by omega) (by omega))).trans ?_
  exact bind_eq (res_spec hx (opnd_ok h _))
 simp only [e,e2,e3,e4,beq_iff_eq,↓reduceIte]
 refine (bind_eq (operand_spec s (n:=(y:Int)) (by omega) (by omega))).trans ?_
 exact bind_eq (set_spec hx (opnd_ok h _))
theorem pc_rel {s:St} (h:sok s):wrap .u16 (pcR s.r+wrap .u16 (wrap .i64 (wrap .i8 s.lo)))=(pcR s.r+sgn s.lo)%65536:=by
 have a:=sgn_le h.lo
 rw [i8w h.lo,w64 (n:=sgn s.lo) (by omega),u16m,u16m]
 omega
end Go.Proofs.YtmhkjafcfpgikaaGreat.E
