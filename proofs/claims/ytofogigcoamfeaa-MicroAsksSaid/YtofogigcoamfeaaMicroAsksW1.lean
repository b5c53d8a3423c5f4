/- The law MicroAsks comes to true at some opcodes. Conditions: none. -/
import Derived.Test.YtofogigcoamfeaaRef
namespace Go.Proofs.Ytofogigcoamfeaa.E
open Go Go.Ev Go.RowKit
set_option linter.unusedVariables false
set_option linter.unusedSimpArgs false
set_option maxRecDepth 100000
noncomputable def tblL1 : FuncId → Option Func
  | 6 => some Go.Proofs.Try.f6
  | 16 => some Go.Proofs.Try.f16
  | 14 => some Go.Proofs.Try.f14
  | 20 => some Go.Proofs.Try.f20
  | 21 => some Go.Proofs.Try.f21
  | 22 => some Go.Proofs.Try.f22
  | 38 => some Go.Proofs.Try.f38
  | 11 => some Go.Proofs.Try.f11
  | 15 => some Go.Proofs.Try.f15
  | 9 => some Go.Proofs.Try.f9
  | _ => none
theorem tblL1_ok : TblOK Go.Proofs.Try.prog tblL1 := by
  intro g fn h
  unfold tblL1 at h
  split at h
  · simp only [Option.some.injEq] at h; subst h; exact ⟨Go.Proofs.Try.func6, by kernel_rfl⟩
  · simp only [Option.some.injEq] at h; subst h; exact ⟨Go.Proofs.Try.func16, by kernel_rfl⟩
  · simp only [Option.some.injEq] at h; subst h; exact ⟨Go.Proofs.Try.func14, by kernel_rfl⟩
  · simp only [Option.some.injEq] at h; subst h; exact ⟨Go.Proofs.Try.func20, by kernel_rfl⟩
  · simp only [Option.some.injEq] at h; subst h; exact ⟨Go.Proofs.Try.func21, by kernel_rfl⟩
  · simp only [Option.some.injEq] at h; subst h; exact ⟨Go.Proofs.Try.func22, by kernel_rfl⟩
  · simp only [Option.some.injEq] at h; subst h; exact ⟨Go.Proofs.Try.func38, by kernel_rfl⟩
  · simp only [Option.some.injEq] at h; subst h; exact ⟨Go.Proofs.Try.func11, by kernel_rfl⟩
  · simp only [Option.some.injEq] at h; subst h; exact ⟨Go.Proofs.Try.func15, by kernel_rfl⟩
  · simp only [Option.some.injEq] at h; subst h; exact ⟨Go.Proofs.Try.func9, by kernel_rfl⟩
  · simp at h
noncomputable def law1 (i : Nat) : Option Unit := evCall Go.Proofs.Try.prog tblL1 (known knR) 300 12 6 [u8A ((i / 2 : Nat) : Int), boolA (i / 1 % 2 == 1)] [] isTrue
theorem law1_c128 : allOf law1 (List.range' 128 32) = true := by kernel_rfl
theorem law1_c160 : allOf law1 (List.range' 160 32) = true := by kernel_rfl
theorem law1_c192 : allOf law1 (List.range' 192 32) = true := by kernel_rfl
theorem law1_c224 : allOf law1 (List.range' 224 32) = true := by kernel_rfl
theorem law1_get {m : Nat} (h0 : 128 ≤ m) (h1 : m < 256) : law1 m = some () := by
  have h : m ∈ List.range' 128 32 ∨ m ∈ List.range' 160 32 ∨ m ∈ List.range' 192 32 ∨ m ∈ List.range' 224 32 := by simp only [List.mem_range'_1]; omega
  rcases h with h | h | h | h
  · exact allOf_get law1_c128 h
  · exact allOf_get law1_c160 h
  · exact allOf_get law1_c192 h
  · exact allOf_get law1_c224 h

end Go.Proofs.Ytofogigcoamfeaa.E
