/- The law MicroTimes comes to true at some opcodes. Conditions: none. -/
import Derived.Test.YtofogigcoamfeaaShown
namespace Go.Proofs.Ytofogigcoamfeaa.E
open Go Go.Ev Go.RowKit
set_option linter.unusedVariables false
set_option linter.unusedSimpArgs false
set_option maxRecDepth 100000
noncomputable def tblL0 : FuncId → Option Func
  | 7 => some Go.Proofs.Try.f7
  | 16 => some Go.Proofs.Try.f16
  | 27 => some Go.Proofs.Try.f27
  | 28 => some Go.Proofs.Try.f28
  | 29 => some Go.Proofs.Try.f29
  | 30 => some Go.Proofs.Try.f30
  | 31 => some Go.Proofs.Try.f31
  | 32 => some Go.Proofs.Try.f32
  | 17 => some Go.Proofs.Try.f17
  | 33 => some Go.Proofs.Try.f33
  | 18 => some Go.Proofs.Try.f18
  | 34 => some Go.Proofs.Try.f34
  | 35 => some Go.Proofs.Try.f35
  | 19 => some Go.Proofs.Try.f19
  | 10 => some Go.Proofs.Try.f10
  | 14 => some Go.Proofs.Try.f14
  | _ => none
theorem tblL0_ok : TblOK Go.Proofs.Try.prog tblL0 := by
  intro g fn h
  unfold tblL0 at h
  split at h
  · simp only [Option.some.injEq] at h; subst h; exact ⟨Go.Proofs.Try.func7, by kernel_rfl⟩
  · simp only [Option.some.injEq] at h; subst h; exact ⟨Go.Proofs.Try.func16, by kernel_rfl⟩
  · simp only [Option.some.injEq] at h; subst h; exact ⟨Go.Proofs.Try.func27, by kernel_rfl⟩
  · simp only [Option.some.injEq] at h; subst h; exact ⟨Go.Proofs.Try.func28, by kernel_rfl⟩
  · simp only [Option.some.injEq] at h; subst h; exact ⟨Go.Proofs.Try.func29, by kernel_rfl⟩
  · simp only [Option.some.injEq] at h; subst h; exact ⟨Go.Proofs.Try.func30, by kernel_rfl⟩
  · simp only [Option.some.injEq] at h; subst h; exact ⟨Go.Proofs.Try.func31, by kernel_rfl⟩
  · simp only [Option.some.injEq] at h; subst h; exact ⟨Go.Proofs.Try.func32, by kernel_rfl⟩
  · simp only [Option.some.injEq] at h; subst h; exact ⟨Go.Proofs.Try.func17, by kernel_rfl⟩
  · simp only [Option.some.injEq] at h; subst h; exact ⟨Go.Proofs.Try.func33, by kernel_rfl⟩
  · simp only [Option.some.injEq] at h; subst h; exact ⟨Go.Proofs.Try.func18, by kernel_rfl⟩
  · simp only [Option.some.injEq] at h; subst h; exact ⟨Go.Proofs.Try.func34, by kernel_rfl⟩
  · simp only [Option.some.injEq] at h; subst h; exact ⟨Go.Proofs.Try.func35, by kernel_rfl⟩
  · simp only [Option.some.injEq] at h; subst h; exact ⟨Go.Proofs.Try.func19, by kernel_rfl⟩
  · simp only [Option.some.injEq] at h; subst h; exact ⟨Go.Proofs.Try.func10, by kernel_rfl⟩
  · simp only [Option.some.injEq] at h; subst h; exact ⟨Go.Proofs.Try.func14, by kernel_rfl⟩
  · simp at h
noncomputable def law0 (i : Nat) : Option Unit := evCall Go.Proofs.Try.prog tblL0 (known knS) 300 12 7 [u8A ((i / 2 : Nat) : Int), boolA (i / 1 % 2 == 1)] [] isTrue
theorem law0_c0 : allOf law0 (List.range' 0 32) = true := by kernel_rfl
theorem law0_c32 : allOf law0 (List.range' 32 32) = true := by kernel_rfl
theorem law0_c64 : allOf law0 (List.range' 64 32) = true := by kernel_rfl
theorem law0_c96 : allOf law0 (List.range' 96 32) = true := by kernel_rfl
theorem law0_get {m : Nat} (h0 : 0 ≤ m) (h1 : m < 128) : law0 m = some () := by
  have h : m ∈ List.range' 0 32 ∨ m ∈ List.range' 32 32 ∨ m ∈ List.range' 64 32 ∨ m ∈ List.range' 96 32 := by simp only [List.mem_range'_1]; omega
  rcases h with h | h | h | h
  · exact allOf_get law0_c0 h
  · exact allOf_get law0_c32 h
  · exact allOf_get law0_c64 h
  · exact allOf_get law0_c96 h

end Go.Proofs.Ytofogigcoamfeaa.E
