/- What the program says of a form's opcode, for any form, as a plain search through the tables; so it is known. Conditions: none. -/
import Derived.Test.YtihngfbkkhneeaaIll
namespace Go.Proofs.Ytihngfbkkhneeaa.E
open Go Go.Ev Go.RowKit
set_option linter.unusedVariables false
set_option linter.unusedSimpArgs false
set_option maxRecDepth 100000
noncomputable def tblE : FuncId → Option Func
  | 18 => some Go.Proofs.Try.f18
  | _ => none
theorem tblE_ok : TblOK Go.Proofs.Try.prog tblE := by
  intro g fn h
  unfold tblE at h
  split at h
  · simp only [Option.some.injEq] at h; subst h; exact ⟨Go.Proofs.Try.func18, by kernel_rfl⟩
  · simp at h

def isF : List Int → List Int → Bool
  | a :: l, b :: m => (a == b) && isF l m
  | _, _ => true
noncomputable def rowOf (tab : List (List Int)) (m : Nat) : List Int := (nth tab m).getD []
/-- the opcode's number, whether it stands behind the prefix, and the error's number -/
def resA (p : Nat × Bool × Nat) : AV := .tup [.c (.v (.int .u8 (.ofNat p.1))), .c (.v (.bool p.2.1)), .c (.v (.int .i64 (.ofNat p.2.2)))]
noncomputable def encM (f : List Int) : Nat → Nat → Option AV
  | 0, _ => some (resA (0, false, 7))
  | n + 1, m => if isF (rowOf decTab m) f = true then some (resA (m, false, 0)) else if isF (rowOf cbTab m) f = true then some (resA (m, true, 0)) else encM f n (m + 1)
noncomputable def encV (f : List Int) : Nat → Nat → Nat × Bool × Nat
  | 0, _ => (0, false, 7)
  | n + 1, m => if isF (rowOf decTab m) f = true then (m, false, 0) else if isF (rowOf cbTab m) f = true then (m, true, 0) else encV f n (m + 1)
theorem encM_eq (f : List Int) : ∀ n m, encM f n m = some (resA (encV f n m))
  | 0, _ => rfl
  | n + 1, m => by
    unfold encM encV
    split
    · rfl
    · split
      · rfl
      · exact encM_eq f n (m + 1)
noncomputable def encP (k x y b c t : Int) : Nat × Bool × Nat := if (k == 5) = true then (0, false, 7) else encV [k, x, y, b, c, t] 256 0
noncomputable def encE (k x y b c t : Int) : Option AV := evCall Go.Proofs.Try.prog tblE (known knI) 300 3 18 [formA [k, x, y, b, c, t]] [] (fun v _ => some v)
theorem encE_eq (k x y b c t : Int) : encE k x y b c t = (if (k == 5) = true then some (resA (0, false, 7)) else encM [k, x, y, b, c, t] 256 0) := by kernel_rfl
theorem enc_ok (k x y b c t : Int) (w : World) : PureGoes Go.Proofs.Try.prog w 18 [formA [k, x, y, b, c, t]] (resA (encP k x y b c t)) := by
  refine pure_of_evalK (orc := known knI) tblE_ok (fun _ => known_ok knI_ok) (n := 300) (d := 3) rfl ?_ w
  show encE k x y b c t = _
  rw [encE_eq]
  unfold encP
  split
  · rfl
  · rw [encM_eq]
/-- the search is known -/
noncomputable def knE {R : Type} (g : FuncId) (args : List AV) (k : KA R) : Option R :=
  if g = 18 then (match args with
    | [.one (.agg [.v (.int .i64 a), .v (.int .i64 x), .v (.int .i64 y), .v (.int .i64 b), .v (.int .i64 c), .v (.int .i64 t)])] => k (resA (encP a x y b c t)) []
    | _ => none)
  else knI g args k
theorem knE_ok {R : Type} : KnownOK Go.Proofs.Try.prog (knE (R := R)) := by
  intro g args k r h
  unfold knE at h
  split at h
  · rename_i e; subst e
    split at h
    · exact ⟨_, _, h, fun w => enc_ok _ _ _ _ _ _ w⟩
    · simp at h
  · exact knI_ok g args k r h

end Go.Proofs.Ytihngfbkkhneeaa.E
