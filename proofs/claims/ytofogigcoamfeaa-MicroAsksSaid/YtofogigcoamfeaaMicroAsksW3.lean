/- The law MicroAsks comes to true at some opcodes. Conditions: none. -/
import Derived.Test.YtofogigcoamfeaaRef
namespace Go.Proofs.Ytofogigcoamfeaa.E
open Go Go.Ev Go.RowKit
set_option linter.unusedVariables false
set_option linter.unusedSimpArgs false
set_option maxRecDepth 100000
noncomputable def tblL3 : FuncId → Option Func
  | 6 => some Go.Proofs.Try.f6
  | 16 => some Go.Proofs.Try.f16
  | 14 => some Go.Proofs.Try.f14
  | 20 => some Go.Proofs.Try.f20
  | 21 => some Go.Proofs.Try.f21
  | 22 => some Go.Proofs.Try.f22
  | 38 => some Go.Proofs.Try.f38
  | 11 => some Go.Proofs.Try.f11
  | 15 => some Go.Proofs.Try.f15
  | 9 => some Go.Proofs.Try.f9
  | _ => none
theorem tblL3_ok : TblOK Go.Proofs.Try.prog tblL3 := by
  intro g fn h
  unfold tblL3 at h
  split at h
  · simp only [Option.some.injEq] at h; subst h; exact ⟨Go.Proofs.Try.func6, by kernel_rfl⟩
  · simp only [Option.some.injEq] at h; subst h; exact ⟨Go.Proofs.Try.func16, by kernel_rfl⟩
  · simp only [Option.some.injEq] at h; subst h; exact ⟨Go.Proofs.Try.func14, by kernel_rfl⟩
  · simp only [Option.some.injEq] at h; subst h; exact ⟨Go.Proofs.Try.func20, by kernel_rfl⟩
  · simp only [Option.some.injEq] at h; subst h; exact ⟨Go.Proofs.Try.func21, by kernel_rfl⟩
  · simp only [Option.some.injEq] at h; subst h; exact ⟨Go.Proofs.Try.func22, by kernel_rfl⟩
  · simp only [Option.some.injEq] at h; subst h; exact ⟨Go.Proofs.Try.func38, by kernel_rfl⟩
  · simp only [Option.some.injEq] at h; subst h; exact ⟨Go.Proofs.Try.func11, by kernel_rfl⟩
  · simp only [Option.some.injEq] at h; subst h; exact ⟨Go.Proofs.Try.func15, by kernel_rfl⟩
  · simp only [Option.some.injEq] at h; subst h; exact ⟨Go.Proofs.Try.func9, by kernel_rfl⟩
  · simp at h
noncomputable def law3 (i : Nat) : Option Unit := evCall Go.Proofs.Try.prog tblL3 (known knR) 300 12 6 [u8A ((i / 2 : Nat) : Int), boolA (i / 1 % 2 == 1)] [] isTrue
theorem law3_c384 : allOf law3 (List.range' 384 32) = true := by kernel_rfl
theorem law3_c416 : allOf law3 (List.range' 416 32) = true := by kernel_rfl
theorem law3_c448 : allOf law3 (List.range' 448 32) = true := by kernel_rfl
theorem law3_c480 : allOf law3 (List.range' 480 32) = true := by kernel_rfl
theorem law3_get {m : Nat} (h0 : 384 ≤ m) (h1 : m < 512) : law3 m = some () := by
  have h : m ∈ List.range' 384 32 ∨ m ∈ List.range' 416 32 ∨ m ∈ List.range' 448 32 ∨ m ∈ List.range' 480 32 := by simp only [List.mem_range'_1]; omega
  rcases h with h | h | h | h
  · exact allOf_get law3_c384 h
  · exact allOf_get law3_c416 h
  · exact allOf_get law3_c448 h
  · exact allOf_get law3_c480 h

end Go.Proofs.Ytofogigcoamfeaa.E
