/- The law MicroBytes comes to true at some opcodes. Conditions: none. -/
import Derived.Test.YtofogigcoamfeaaShown
namespace Go.Proofs.Ytofogigcoamfeaa.E
open Go Go.Ev Go.RowKit
set_option linter.unusedVariables false
set_option linter.unusedSimpArgs false
set_option maxRecDepth 100000
noncomputable def tblL1 : FuncId → Option Func
  | 4 => some Go.Proofs.Try.f4
  | 16 => some Go.Proofs.Try.f16
  | 27 => some Go.Proofs.Try.f27
  | 28 => some Go.Proofs.Try.f28
  | 29 => some Go.Proofs.Try.f29
  | 30 => some Go.Proofs.Try.f30
  | 31 => some Go.Proofs.Try.f31
  | 32 => some Go.Proofs.Try.f32
  | 17 => some Go.Proofs.Try.f17
  | 33 => some Go.Proofs.Try.f33
  | 18 => some Go.Proofs.Try.f18
  | 34 => some Go.Proofs.Try.f34
  | 35 => some Go.Proofs.Try.f35
  | 19 => some Go.Proofs.Try.f19
  | 10 => some Go.Proofs.Try.f10
  | _ => none
theorem tblL1_ok : TblOK Go.Proofs.Try.prog tblL1 := by
  intro g fn h
  unfold tblL1 at h
  split at h
  · simp only [Option.some.injEq] at h; subst h; exact ⟨Go.Proofs.Try.func4, by kernel_rfl⟩
  · simp only [Option.some.injEq] at h; subst h; exact ⟨Go.Proofs.Try.func16, by kernel_rfl⟩
  · simp only [Option.some.injEq] at h; subst h; exact ⟨Go.Proofs.Try.func27, by kernel_rfl⟩
  · simp only [Option.some.injEq] at h; subst h; exact ⟨Go.Proofs.Try.func28, by kernel_rfl⟩
  · simp only [Option.some.injEq] at h; subst h; exact ⟨Go.Proofs.Try.func29, by kernel_rfl⟩
  · simp only [Option.some.injEq] at h; subst h; exact ⟨Go.Proofs.Try.func30, by kernel_rfl⟩
  · simp only [Option.some.injEq] at h; subst h; exact ⟨Go.Proofs.Try.func31, by kernel_rfl⟩
  · simp only [Option.some.injEq] at h; subst h; exact ⟨Go.Proofs.Try.func32, by kernel_rfl⟩
  · simp only [Option.some.injEq] at h; subst h; exact ⟨Go.Proofs.Try.func17, by kernel_rfl⟩
  · simp only [Option.some.injEq] at h; subst h; exact ⟨Go.Proofs.Try.func33, by kernel_rfl⟩
  · simp only [Option.some.injEq] at h; subst h; exact ⟨Go.Proofs.Try.func18, by kernel_rfl⟩
  · simp only [Option.some.injEq] at h; subst h; exact ⟨Go.Proofs.Try.func34, by kernel_rfl⟩
  · simp only [Option.some.injEq] at h; subst h; exact ⟨Go.Proofs.Try.func35, by kernel_rfl⟩
  · simp only [Option.some.injEq] at h; subst h; exact ⟨Go.Proofs.Try.func19, by kernel_rfl⟩
  · simp only [Option.some.injEq] at h; subst h; exact ⟨Go.Proofs.Try.func10, by kernel_rfl⟩
  · simp at h
noncomputable def law1 (i : Nat) : Option Unit := evCall Go.Proofs.Try.prog tblL1 (known knS) 300 12 4 [u8A ((i / 4 : Nat) : Int), boolA (i / 2 % 2 == 1), boolA (i / 1 % 2 == 1)] [] isTrue
theorem law1_c256 : allOf law1 (List.range' 256 32) = true := by kernel_rfl
theorem law1_c288 : allOf law1 (List.range' 288 32) = true := by kernel_rfl
theorem law1_c320 : allOf law1 (List.range' 320 32) = true := by kernel_rfl
theorem law1_c352 : allOf law1 (List.range' 352 32) = true := by kernel_rfl
theorem law1_c384 : allOf law1 (List.range' 384 32) = true := by kernel_rfl
theorem law1_c416 : allOf law1 (List.range' 416 32) = true := by kernel_rfl
theorem law1_c448 : allOf law1 (List.range' 448 32) = true := by kernel_rfl
theorem law1_c480 : allOf law1 (List.range' 480 32) = true := by kernel_rfl
theorem law1_get {m : Nat} (h0 : 256 ≤ m) (h1 : m < 512) : law1 m = some () := by
  have h : m ∈ List.range' 256 32 ∨ m ∈ List.range' 288 32 ∨ m ∈ List.range' 320 32 ∨ m ∈ List.range' 352 32 ∨ m ∈ List.range' 384 32 ∨ m ∈ List.range' 416 32 ∨ m ∈ List.range' 448 32 ∨ m ∈ List.range' 480 32 := by simp only [List.mem_range'_1]; omega
  rcases h with h | h | h | h | h | h | h | h
  · exact allOf_get law1_c256 h
  · exact allOf_get law1_c288 h
  · exact allOf_get law1_c320 h
  · exact allOf_get law1_c352 h
  · exact allOf_get law1_c384 h
  · exact allOf_get law1_c416 h
  · exact allOf_get law1_c448 h
  · exact allOf_get law1_c480 h

end Go.Proofs.Ytofogigcoamfeaa.E
