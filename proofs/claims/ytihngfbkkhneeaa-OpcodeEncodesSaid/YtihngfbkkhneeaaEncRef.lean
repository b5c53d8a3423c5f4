/- What the document says of a form's opcode is the same search. Conditions: none. -/
import Derived.Test.YtihngfbkkhneeaaEnc
import Derived.Test.YtihngfbkkhneeaaRef
namespace Go.Proofs.Ytihngfbkkhneeaa.E
open Go Go.Ev Go.RowKit
set_option linter.unusedVariables false
set_option linter.unusedSimpArgs false
set_option maxRecDepth 100000
noncomputable def tblG : FuncId → Option Func
  | 19 => some Go.Proofs.Try.f19
  | _ => none
theorem tblG_ok : TblOK Go.Proofs.Try.prog tblG := by
  intro g fn h
  unfold tblG at h
  split at h
  · simp only [Option.some.injEq] at h; subst h; exact ⟨Go.Proofs.Try.func19, by kernel_rfl⟩
  · simp at h

noncomputable def refM (k : Int) (f : List Int) : Nat → Nat → Option AV
  | 0, _ => some (resA (0, false, 7))
  | n + 1, m => if (k != 5) = true then (if isF (rowOf decTab m) f = true then some (resA (m, false, 0)) else if isF (rowOf cbTab m) f = true then some (resA (m, true, 0)) else refM k f n (m + 1)) else some (resA (0, false, 7))
noncomputable def refE (k x y b c t : Int) : Option AV := evCall Go.Proofs.Try.prog tblG (known knR) 300 3 19 [formA [k, x, y, b, c, t]] [] (fun v _ => some v)
theorem refE_eq (k x y b c t : Int) : refE k x y b c t = refM k [k, x, y, b, c, t] 256 0 := by kernel_rfl
theorem refM_eq (k : Int) (f : List Int) (hk : (k == 5) = false) : ∀ n m, refM k f n m = some (resA (encV f n m))
  | 0, _ => rfl
  | n + 1, m => by
    unfold refM encV
    rw [if_pos (by simp [bne, hk])]
    split
    · rfl
    · split
      · rfl
      · exact refM_eq k f hk n (m + 1)
theorem refenc_ok (k x y b c t : Int) (w : World) : PureGoes Go.Proofs.Try.prog w 19 [formA [k, x, y, b, c, t]] (resA (encP k x y b c t)) := by
  refine pure_of_evalK (orc := known knR) tblG_ok (fun _ => known_ok knR_ok) (n := 300) (d := 3) rfl ?_ w
  show refE k x y b c t = _
  rw [refE_eq]
  unfold encP
  cases h : k == 5 with
  | true =>
    rw [if_pos rfl]
    unfold refM
    rw [if_neg (by simp [bne, h])]
  | false =>
    rw [if_neg (by simp)]
    exact refM_eq k _ h 256 0
/-- both searches, where they come to q -/
noncomputable def knP {R : Type} (EP : Int → Int → Int → Int → Int → Int → Nat × Bool × Nat) (q : Nat × Bool × Nat) (g : FuncId) (args : List AV) (k : KA R) : Option R :=
  if g = 18 ∨ g = 19 then (match args with
    | [.one (.agg [.v (.int .i64 a), .v (.int .i64 x), .v (.int .i64 y), .v (.int .i64 b), .v (.int .i64 c), .v (.int .i64 t)])] => if EP a x y b c t = q then k (resA q) [] else none
    | _ => none)
  else knS g args k
theorem knP_ok {R : Type} (q : Nat × Bool × Nat) : KnownOK Go.Proofs.Try.prog (knP (R := R) encP q) := by
  intro g args k r h
  unfold knP at h
  split at h
  · rename_i e
    split at h
    · split at h
      · rename_i hq
        subst hq
        rcases e with e | e
        · subst e; exact ⟨_, _, h, fun w => enc_ok _ _ _ _ _ _ w⟩
        · subst e; exact ⟨_, _, h, fun w => refenc_ok _ _ _ _ _ _ w⟩
      · simp at h
    · simp at h
  · exact knS_ok g args k r h
theorem encV_among (f : List Int) : ∀ n m, m + n ≤ 256 → encV f n m = (0, false, 7) ∨ ∃ j b, j < 256 ∧ encV f n m = (j, b, 0)
  | 0, _, _ => .inl rfl
  | n + 1, m, h => by
    unfold encV
    split
    · exact .inr ⟨m, false, by omega, rfl⟩
    · split
      · exact .inr ⟨m, true, by omega, rfl⟩
      · exact encV_among f n (m + 1) (by omega)
theorem encP_among (k x y b c t : Int) : encP k x y b c t = (0, false, 7) ∨ ∃ j b', j < 256 ∧ encP k x y b c t = (j, b', 0) := by
  unfold encP
  split
  · exact .inl rfl
  · exact encV_among _ 256 0 (by omega)

end Go.Proofs.Ytihngfbkkhneeaa.E
