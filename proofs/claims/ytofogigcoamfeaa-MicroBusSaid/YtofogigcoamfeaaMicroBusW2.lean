/- The law MicroBus comes to true at some opcodes. Conditions: none. -/
import Derived.Test.YtofogigcoamfeaaShown
namespace Go.Proofs.Ytofogigcoamfeaa.E
open Go Go.Ev Go.RowKit
set_option linter.unusedVariables false
set_option linter.unusedSimpArgs false
set_option maxRecDepth 100000
noncomputable def tblL2 : FuncId → Option Func
  | 5 => some Go.Proofs.Try.f5
  | 16 => some Go.Proofs.Try.f16
  | 27 => some Go.Proofs.Try.f27
  | 28 => some Go.Proofs.Try.f28
  | 29 => some Go.Proofs.Try.f29
  | 30 => some Go.Proofs.Try.f30
  | 31 => some Go.Proofs.Try.f31
  | 32 => some Go.Proofs.Try.f32
  | 17 => some Go.Proofs.Try.f17
  | 33 => some Go.Proofs.Try.f33
  | 18 => some Go.Proofs.Try.f18
  | 34 => some Go.Proofs.Try.f34
  | 35 => some Go.Proofs.Try.f35
  | 19 => some Go.Proofs.Try.f19
  | 10 => some Go.Proofs.Try.f10
  | _ => none
theorem tblL2_ok : TblOK Go.Proofs.Try.prog tblL2 := by
  intro g fn h
  unfold tblL2 at h
  split at h
  · simp only [Option.some.injEq] at h; subst h; exact ⟨Go.Proofs.Try.func5, by kernel_rfl⟩
  · simp only [Option.some.injEq] at h; subst h; exact ⟨Go.Proofs.Try.func16, by kernel_rfl⟩
  · simp only [Option.some.injEq] at h; subst h; exact ⟨Go.Proofs.Try.func27, by kernel_rfl⟩
  · simp only [Option.some.injEq] at h; subst h; exact ⟨Go.Proofs.Try.func28, by kernel_rfl⟩
  · simp only [Option.some.injEq] at h; subst h; exact ⟨Go.Proofs.Try.func29, by kernel_rfl⟩
  · simp only [Option.some.injEq] at h; subst h; exact ⟨Go.Proofs.Try.func30, by kernel_rfl⟩
  · simp only [Option.some.injEq] at h; subst h; exact ⟨Go.Proofs.Try.func31, by kernel_rfl⟩
  · simp only [Option.some.injEq] at h; subst h; exact ⟨Go.Proofs.Try.func32, by kernel_rfl⟩
  · simp only [Option.some.injEq] at h; subst h; exact ⟨Go.Proofs.Try.func17, by kernel_rfl⟩
  · simp only [Option.some.injEq] at h; subst h; exact ⟨Go.Proofs.Try.func33, by kernel_rfl⟩
  · simp only [Option.some.injEq] at h; subst h; exact ⟨Go.Proofs.Try.func18, by kernel_rfl⟩
  · simp only [Option.some.injEq] at h; subst h; exact ⟨Go.Proofs.Try.func34, by kernel_rfl⟩
  · simp only [Option.some.injEq] at h; subst h; exact ⟨Go.Proofs.Try.func35, by kernel_rfl⟩
  · simp only [Option.some.injEq] at h; subst h; exact ⟨Go.Proofs.Try.func19, by kernel_rfl⟩
  · simp only [Option.some.injEq] at h; subst h; exact ⟨Go.Proofs.Try.func10, by kernel_rfl⟩
  · simp at h
noncomputable def law2 (i : Nat) : Option Unit := evCall Go.Proofs.Try.prog tblL2 (known knS) 300 12 5 [u8A ((i / 4 : Nat) : Int), boolA (i / 2 % 2 == 1), boolA (i / 1 % 2 == 1)] [] isTrue
theorem law2_c512 : allOf law2 (List.range' 512 32) = true := by kernel_rfl
theorem law2_c544 : allOf law2 (List.range' 544 32) = true := by kernel_rfl
theorem law2_c576 : allOf law2 (List.range' 576 32) = true := by kernel_rfl
theorem law2_c608 : allOf law2 (List.range' 608 32) = true := by kernel_rfl
theorem law2_c640 : allOf law2 (List.range' 640 32) = true := by kernel_rfl
theorem law2_c672 : allOf law2 (List.range' 672 32) = true := by kernel_rfl
theorem law2_c704 : allOf law2 (List.range' 704 32) = true := by kernel_rfl
theorem law2_c736 : allOf law2 (List.range' 736 32) = true := by kernel_rfl
theorem law2_get {m : Nat} (h0 : 512 ≤ m) (h1 : m < 768) : law2 m = some () := by
  have h : m ∈ List.range' 512 32 ∨ m ∈ List.range' 544 32 ∨ m ∈ List.range' 576 32 ∨ m ∈ List.range' 608 32 ∨ m ∈ List.range' 640 32 ∨ m ∈ List.range' 672 32 ∨ m ∈ List.range' 704 32 ∨ m ∈ List.range' 736 32 := by simp only [List.mem_range'_1]; omega
  rcases h with h | h | h | h | h | h | h | h
  · exact allOf_get law2_c512 h
  · exact allOf_get law2_c544 h
  · exact allOf_get law2_c576 h
  · exact allOf_get law2_c608 h
  · exact allOf_get law2_c640 h
  · exact allOf_get law2_c672 h
  · exact allOf_get law2_c704 h
  · exact allOf_get law2_c736 h

end Go.Proofs.Ytofogigcoamfeaa.E
