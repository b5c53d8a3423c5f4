/- Functions of the program as plain Lean, and what they come to. Conditions: none. -/
import Derived.Test.YtddeejpffdccpaaEwD
import Derived.Test.YtddeejpffdccpaaProg
import Derived.KernelRfl
open Go Go.Ew
namespace Go.Proofs.Ytddeejpffdccpaa.T
set_option linter.unusedVariables false
set_option maxRecDepth 100000
noncomputable def tblT : FuncId → Option Func
  | 34 => some Go.Proofs.Try.f34
  | 33 => some Go.Proofs.Try.f33
  | 54 => some Go.Proofs.Try.f54
  | 55 => some Go.Proofs.Try.f55
  | 32 => some Go.Proofs.Try.f32
  | 53 => some Go.Proofs.Try.f53
  | 35 => some Go.Proofs.Try.f35
  | _ => none
theorem tblT_ok : TblOK Go.Proofs.Try.prog tblT := by
  intro g fn h
  unfold tblT at h
  split at h
  · simp only [Option.some.injEq] at h; subst h; exact ⟨Go.Proofs.Try.func34, by kernel_rfl⟩
  · simp only [Option.some.injEq] at h; subst h; exact ⟨Go.Proofs.Try.func33, by kernel_rfl⟩
  · simp only [Option.some.injEq] at h; subst h; exact ⟨Go.Proofs.Try.func54, by kernel_rfl⟩
  · simp only [Option.some.injEq] at h; subst h; exact ⟨Go.Proofs.Try.func55, by kernel_rfl⟩
  · simp only [Option.some.injEq] at h; subst h; exact ⟨Go.Proofs.Try.func32, by kernel_rfl⟩
  · simp only [Option.some.injEq] at h; subst h; exact ⟨Go.Proofs.Try.func53, by kernel_rfl⟩
  · simp only [Option.some.injEq] at h; subst h; exact ⟨Go.Proofs.Try.func35, by kernel_rfl⟩
  · simp at h

/-! ref01_power -/
/-! ref01_Bit -/
/-! ref05_Fits -/
/-! ref05_Rows -/
/-! ref21_Words -/
/-! ref21_cycle -/
end Go.Proofs.Ytddeejpffdccpaa.T
