/- What the program says of the opcodes from 128 to 191 is what the tables have. Conditions: none. -/
import Derived.Test.YtihngfbkkhneeaaTab
import Derived.Test.YtihngfbkkhneeaaProg
namespace Go.Proofs.Ytihngfbkkhneeaa.E
open Go Go.Ev Go.RowKit
set_option linter.unusedVariables false
set_option linter.unusedSimpArgs false
set_option maxRecDepth 100000
noncomputable def tblP2 : FuncId → Option Func
  | 20 => some Go.Proofs.Try.f20
  | 21 => some Go.Proofs.Try.f21
  | 22 => some Go.Proofs.Try.f22
  | 28 => some Go.Proofs.Try.f28
  | 27 => some Go.Proofs.Try.f27
  | 23 => some Go.Proofs.Try.f23
  | 29 => some Go.Proofs.Try.f29
  | 12 => some Go.Proofs.Try.f12
  | 14 => some Go.Proofs.Try.f14
  | _ => none
theorem tblP2_ok : TblOK Go.Proofs.Try.prog tblP2 := by
  intro g fn h
  unfold tblP2 at h
  split at h
  · simp only [Option.some.injEq] at h; subst h; exact ⟨Go.Proofs.Try.func20, by kernel_rfl⟩
  · simp only [Option.some.injEq] at h; subst h; exact ⟨Go.Proofs.Try.func21, by kernel_rfl⟩
  · simp only [Option.some.injEq] at h; subst h; exact ⟨Go.Proofs.Try.func22, by kernel_rfl⟩
  · simp only [Option.some.injEq] at h; subst h; exact ⟨Go.Proofs.Try.func28, by kernel_rfl⟩
  · simp only [Option.some.injEq] at h; subst h; exact ⟨Go.Proofs.Try.func27, by kernel_rfl⟩
  · simp only [Option.some.injEq] at h; subst h; exact ⟨Go.Proofs.Try.func23, by kernel_rfl⟩
  · simp only [Option.some.injEq] at h; subst h; exact ⟨Go.Proofs.Try.func29, by kernel_rfl⟩
  · simp only [Option.some.injEq] at h; subst h; exact ⟨Go.Proofs.Try.func12, by kernel_rfl⟩
  · simp only [Option.some.injEq] at h; subst h; exact ⟨Go.Proofs.Try.func14, by kernel_rfl⟩
  · simp at h

noncomputable def dec2 (m : Nat) : Option Unit := match nth decTab m with
  | some l => evCall Go.Proofs.Try.prog tblP2 (fun _ _ _ (_ : KA Unit) => none) 300 4 12 [u8A (m : Int)] [] (isA (formA l))
  | none => none
noncomputable def cb2 (m : Nat) : Option Unit := match nth cbTab m with
  | some l => evCall Go.Proofs.Try.prog tblP2 (fun _ _ _ (_ : KA Unit) => none) 300 4 14 [u8A (m : Int)] [] (isA (formA l))
  | none => none
theorem dec2_all : allOf dec2 (List.range' 128 64) = true := by kernel_rfl
theorem cb2_all : allOf cb2 (List.range' 128 64) = true := by kernel_rfl
theorem dec2_ok {m : Nat} (hm : m ∈ List.range' 128 64) : ∃ l, nth decTab m = some l ∧ ∀ w, PureGoes Go.Proofs.Try.prog w 12 [u8A (m : Int)] (formA l) := by
  have := allOf_get dec2_all hm
  unfold dec2 at this
  split at this
  · rename_i l hl
    exact ⟨l, hl, fun w => pure_of_eval tblP2_ok (fun _ => callOK_none) (formA_free l) this w⟩
  · simp at this
theorem cb2_ok {m : Nat} (hm : m ∈ List.range' 128 64) : ∃ l, nth cbTab m = some l ∧ ∀ w, PureGoes Go.Proofs.Try.prog w 14 [u8A (m : Int)] (formA l) := by
  have := allOf_get cb2_all hm
  unfold cb2 at this
  split at this
  · rename_i l hl
    exact ⟨l, hl, fun w => pure_of_eval tblP2_ok (fun _ => callOK_none) (formA_free l) this w⟩
  · simp at this

end Go.Proofs.Ytihngfbkkhneeaa.E
