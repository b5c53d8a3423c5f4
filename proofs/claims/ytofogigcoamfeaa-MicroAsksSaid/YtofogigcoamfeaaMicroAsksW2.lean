/- The law MicroAsks comes to true at some opcodes. Conditions: none. -/
import Derived.Test.YtofogigcoamfeaaRef
namespace Go.Proofs.Ytofogigcoamfeaa.E
open Go Go.Ev Go.RowKit
set_option linter.unusedVariables false
set_option linter.unusedSimpArgs false
set_option maxRecDepth 100000
noncomputable def tblL2 : FuncId → Option Func
  | 6 => some Go.Proofs.Try.f6
  | 16 => some Go.Proofs.Try.f16
  | 14 => some Go.Proofs.Try.f14
  | 20 => some Go.Proofs.Try.f20
  | 21 => some Go.Proofs.Try.f21
  | 22 => some Go.Proofs.Try.f22
  | 38 => some Go.Proofs.Try.f38
  | 11 => some Go.Proofs.Try.f11
  | 15 => some Go.Proofs.Try.f15
  | 9 => some Go.Proofs.Try.f9
  | _ => none
theorem tblL2_ok : TblOK Go.Proofs.Try.prog tblL2 := by
  intro g fn h
  unfold tblL2 at h
  split at h
  · simp only [Option.some.injEq] at h; subst h; exact ⟨Go.Proofs.Try.func6, by kernel_rfl⟩
  · simp only [Option.some.injEq] at h; subst h; exact ⟨Go.Proofs.Try.func16, by kernel_rfl⟩
  · simp only [Option.some.injEq] at h; subst h; exact ⟨Go.Proofs.Try.func14, by kernel_rfl⟩
  · simp only [Option.some.injEq] at h; subst h; exact ⟨Go.Proofs.Try.func20, by kernel_rfl⟩
  · simp only [Option.some.injEq] at h; subst h; exact ⟨Go.Proofs.Try.func21, by kernel_rfl⟩
  · simp only [Option.some.injEq] at h; subst h; exact ⟨Go.Proofs.Try.func22, by kernel_rfl⟩
  · simp only [Option.some.injEq] at h; subst h; exact ⟨Go.Proofs.Try.func38, by kernel_rfl⟩
  · simp only [Option.some.injEq] at h; subst h; exact ⟨Go.Proofs.Try.func11, by kernel_rfl⟩
  · simp only [Option.some.injEq] at h; subst h; exact ⟨Go.Proofs.Try.func15, by kernel_rfl⟩
  · simp only [Option.some.injEq] at h; subst h; exact ⟨Go.Proofs.Try.func9, by kernel_rfl⟩
  · simp at h
noncomputable def law2 (i : Nat) : Option Unit := evCall Go.Proofs.Try.prog tblL2 (known knR) 300 12 6 [u8A ((i / 2 : Nat) : Int), boolA (i / 1 % 2 == 1)] [] isTrue
theorem law2_c256 : allOf law2 (List.range' 256 32) = true := by kernel_rfl
theorem law2_c288 : allOf law2 (List.range' 288 32) = true := by kernel_rfl
theorem law2_c320 : allOf law2 (List.range' 320 32) = true := by kernel_rfl
theorem law2_c352 : allOf law2 (List.range' 352 32) = true := by kernel_rfl
theorem law2_get {m : Nat} (h0 : 256 ≤ m) (h1 : m < 384) : law2 m = some () := by
  have h : m ∈ List.range' 256 32 ∨ m ∈ List.range' 288 32 ∨ m ∈ List.range' 320 32 ∨ m ∈ List.range' 352 32 := by simp only [List.mem_range'_1]; omega
  rcases h with h | h | h | h
  · exact allOf_get law2_c256 h
  · exact allOf_get law2_c288 h
  · exact allOf_get law2_c320 h
  · exact allOf_get law2_c352 h

end Go.Proofs.Ytofogigcoamfeaa.E
