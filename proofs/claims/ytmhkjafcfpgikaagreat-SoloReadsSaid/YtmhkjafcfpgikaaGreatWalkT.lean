/- Functions of the program as plain Lean, and what they come to. Conditions: none. -/
import Derived.Test.YtmhkjafcfpgikaaGreatEwD
import Derived.Test.YtmhkjafcfpgikaaGreatProg
import Derived.KernelRfl
open Go Go.Ew
namespace Go.Proofs.YtmhkjafcfpgikaaGreat.T
set_option linter.unusedVariables false
set_option maxRecDepth 100000
noncomputable def tblT : FuncId → Option Func
  | 176 => some Go.Proofs.Tryz.f176
  | 177 => some Go.Proofs.Tryz.f177
  | 205 => some Go.Proofs.Tryz.f205
  | 206 => some Go.Proofs.Tryz.f206
  | 178 => some Go.Proofs.Tryz.f178
  | 204 => some Go.Proofs.Tryz.f204
  | 179 => some Go.Proofs.Tryz.f179
  | _ => none
theorem tblT_ok : TblOK Go.Proofs.Tryz.prog tblT := by
  intro g fn h
  unfold tblT at h
  split at h
  · simp only [Option.some.injEq] at h; subst h; exact ⟨Go.Proofs.Tryz.func176, by kernel_rfl⟩
  · simp only [Option.some.injEq] at h; subst h; exact ⟨Go.Proofs.Tryz.func177, by kernel_rfl⟩
  · simp only [Option.some.injEq] at h; subst h; exact ⟨Go.Proofs.Tryz.func205, by kernel_rfl⟩
  · simp only [Option.some.injEq] at h; subst h; exact ⟨Go.Proofs.Tryz.func206, by kernel_rfl⟩
  · simp only [Option.some.injEq] at h; subst h; exact ⟨Go.Proofs.Tryz.func178, by kernel_rfl⟩
  · simp only [Option.some.injEq] at h; subst h; exact ⟨Go.Proofs.Tryz.func204, by kernel_rfl⟩
  · simp only [Option.some.injEq] at h; subst h; exact ⟨Go.Proofs.Tryz.func179, by kernel_rfl⟩
  · simp at h

/-! ref01_power -/
/-! ref01_Bit -/
/-! ref05_Fits -/
/-! ref05_Rows -/
/-! ref21_Words -/
/-! ref21_cycle -/
end Go.Proofs.YtmhkjafcfpgikaaGreat.T
