/- The law MicroPlans comes to true at some opcodes. Conditions: none. -/
import Derived.Test.YtofogigcoamfeaaRef
namespace Go.Proofs.Ytofogigcoamfeaa.E
open Go Go.Ev Go.RowKit
set_option linter.unusedVariables false
set_option linter.unusedSimpArgs false
set_option maxRecDepth 100000
noncomputable def tblL3 : FuncId → Option Func
  | 3 => some Go.Proofs.Try.f3
  | 16 => some Go.Proofs.Try.f16
  | 27 => some Go.Proofs.Try.f27
  | 28 => some Go.Proofs.Try.f28
  | 29 => some Go.Proofs.Try.f29
  | 30 => some Go.Proofs.Try.f30
  | 31 => some Go.Proofs.Try.f31
  | 32 => some Go.Proofs.Try.f32
  | 17 => some Go.Proofs.Try.f17
  | 33 => some Go.Proofs.Try.f33
  | 18 => some Go.Proofs.Try.f18
  | 34 => some Go.Proofs.Try.f34
  | 35 => some Go.Proofs.Try.f35
  | 19 => some Go.Proofs.Try.f19
  | 10 => some Go.Proofs.Try.f10
  | 20 => some Go.Proofs.Try.f20
  | 21 => some Go.Proofs.Try.f21
  | 22 => some Go.Proofs.Try.f22
  | 38 => some Go.Proofs.Try.f38
  | 11 => some Go.Proofs.Try.f11
  | 15 => some Go.Proofs.Try.f15
  | 9 => some Go.Proofs.Try.f9
  | _ => none
theorem tblL3_ok : TblOK Go.Proofs.Try.prog tblL3 := by
  intro g fn h
  unfold tblL3 at h
  split at h
  · simp only [Option.some.injEq] at h; subst h; exact ⟨Go.Proofs.Try.func3, by kernel_rfl⟩
  · simp only [Option.some.injEq] at h; subst h; exact ⟨Go.Proofs.Try.func16, by kernel_rfl⟩
  · simp only [Option.some.injEq] at h; subst h; exact ⟨Go.Proofs.Try.func27, by kernel_rfl⟩
  · simp only [Option.some.injEq] at h; subst h; exact ⟨Go.Proofs.Try.func28, by kernel_rfl⟩
  · simp only [Option.some.injEq] at h; subst h; exact ⟨Go.Proofs.Try.func29, by kernel_rfl⟩
  · simp only [Option.some.injEq] at h; subst h; exact ⟨Go.Proofs.Try.func30, by kernel_rfl⟩
  · simp only [Option.some.injEq] at h; subst h; exact ⟨Go.Proofs.Try.func31, by kernel_rfl⟩
  · simp only [Option.some.injEq] at h; subst h; exact ⟨Go.Proofs.Try.func32, by kernel_rfl⟩
  · simp only [Option.some.injEq] at h; subst h; exact ⟨Go.Proofs.Try.func17, by kernel_rfl⟩
  · simp only [Option.some.injEq] at h; subst h; exact ⟨Go.Proofs.Try.func33, by kernel_rfl⟩
  · simp only [Option.some.injEq] at h; subst h; exact ⟨Go.Proofs.Try.func18, by kernel_rfl⟩
  · simp only [Option.some.injEq] at h; subst h; exact ⟨Go.Proofs.Try.func34, by kernel_rfl⟩
  · simp only [Option.some.injEq] at h; subst h; exact ⟨Go.Proofs.Try.func35, by kernel_rfl⟩
  · simp only [Option.some.injEq] at h; subst h; exact ⟨Go.Proofs.Try.func19, by kernel_rfl⟩
  · simp only [Option.some.injEq] at h; subst h; exact ⟨Go.Proofs.Try.func10, by kernel_rfl⟩
  · simp only [Option.some.injEq] at h; subst h; exact ⟨Go.Proofs.Try.func20, by kernel_rfl⟩
  · simp only [Option.some.injEq] at h; subst h; exact ⟨Go.Proofs.Try.func21, by kernel_rfl⟩
  · simp only [Option.some.injEq] at h; subst h; exact ⟨Go.Proofs.Try.func22, by kernel_rfl⟩
  · simp only [Option.some.injEq] at h; subst h; exact ⟨Go.Proofs.Try.func38, by kernel_rfl⟩
  · simp only [Option.some.injEq] at h; subst h; exact ⟨Go.Proofs.Try.func11, by kernel_rfl⟩
  · simp only [Option.some.injEq] at h; subst h; exact ⟨Go.Proofs.Try.func15, by kernel_rfl⟩
  · simp only [Option.some.injEq] at h; subst h; exact ⟨Go.Proofs.Try.func9, by kernel_rfl⟩
  · simp at h
noncomputable def law3 (i : Nat) : Option Unit := evCall Go.Proofs.Try.prog tblL3 (known knR) 300 12 3 [u8A ((i / 4 : Nat) : Int), boolA (i / 2 % 2 == 1), boolA (i / 1 % 2 == 1)] [] isTrue
theorem law3_c768 : allOf law3 (List.range' 768 32) = true := by kernel_rfl
theorem law3_c800 : allOf law3 (List.range' 800 32) = true := by kernel_rfl
theorem law3_c832 : allOf law3 (List.range' 832 32) = true := by kernel_rfl
theorem law3_c864 : allOf law3 (List.range' 864 32) = true := by kernel_rfl
theorem law3_c896 : allOf law3 (List.range' 896 32) = true := by kernel_rfl
theorem law3_c928 : allOf law3 (List.range' 928 32) = true := by kernel_rfl
theorem law3_c960 : allOf law3 (List.range' 960 32) = true := by kernel_rfl
theorem law3_c992 : allOf law3 (List.range' 992 32) = true := by kernel_rfl
theorem law3_get {m : Nat} (h0 : 768 ≤ m) (h1 : m < 1024) : law3 m = some () := by
  have h : m ∈ List.range' 768 32 ∨ m ∈ List.range' 800 32 ∨ m ∈ List.range' 832 32 ∨ m ∈ List.range' 864 32 ∨ m ∈ List.range' 896 32 ∨ m ∈ List.range' 928 32 ∨ m ∈ List.range' 960 32 ∨ m ∈ List.range' 992 32 := by simp only [List.mem_range'_1]; omega
  rcases h with h | h | h | h | h | h | h | h
  · exact allOf_get law3_c768 h
  · exact allOf_get law3_c800 h
  · exact allOf_get law3_c832 h
  · exact allOf_get law3_c864 h
  · exact allOf_get law3_c896 h
  · exact allOf_get law3_c928 h
  · exact allOf_get law3_c960 h
  · exact allOf_get law3_c992 h

end Go.Proofs.Ytofogigcoamfeaa.E
