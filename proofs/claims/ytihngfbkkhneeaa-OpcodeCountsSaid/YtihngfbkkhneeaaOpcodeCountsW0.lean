/- The law OpcodeCounts comes to true at some opcodes. Conditions: none. -/
import Derived.Test.YtihngfbkkhneeaaIll
namespace Go.Proofs.Ytihngfbkkhneeaa.E
open Go Go.Ev Go.RowKit
set_option linter.unusedVariables false
set_option linter.unusedSimpArgs false
set_option maxRecDepth 100000
noncomputable def tblL0 : FuncId → Option Func
  | 8 => some Go.Proofs.Try.f8
  | _ => none
theorem tblL0_ok : TblOK Go.Proofs.Try.prog tblL0 := by
  intro g fn h
  unfold tblL0 at h
  split at h
  · simp only [Option.some.injEq] at h; subst h; exact ⟨Go.Proofs.Try.func8, by kernel_rfl⟩
  · simp at h
noncomputable def law0 (m : Nat) : Option Unit := evCall Go.Proofs.Try.prog tblL0 (known knI) 300 4 8 [u8A (m : Int)] [] isTrue
theorem law0_c0 : allOf law0 (List.range' 0 4) = true := by kernel_rfl
theorem law0_c4 : allOf law0 (List.range' 4 4) = true := by kernel_rfl
theorem law0_c8 : allOf law0 (List.range' 8 4) = true := by kernel_rfl
theorem law0_c12 : allOf law0 (List.range' 12 4) = true := by kernel_rfl
theorem law0_c16 : allOf law0 (List.range' 16 4) = true := by kernel_rfl
theorem law0_c20 : allOf law0 (List.range' 20 4) = true := by kernel_rfl
theorem law0_c24 : allOf law0 (List.range' 24 4) = true := by kernel_rfl
theorem law0_c28 : allOf law0 (List.range' 28 4) = true := by kernel_rfl
theorem law0_get {m : Nat} (h0 : 0 ≤ m) (h1 : m < 32) : law0 m = some () := by
  have h : m ∈ List.range' 0 4 ∨ m ∈ List.range' 4 4 ∨ m ∈ List.range' 8 4 ∨ m ∈ List.range' 12 4 ∨ m ∈ List.range' 16 4 ∨ m ∈ List.range' 20 4 ∨ m ∈ List.range' 24 4 ∨ m ∈ List.range' 28 4 := by simp only [List.mem_range'_1]; omega
  rcases h with h | h | h | h | h | h | h | h
  · exact allOf_get law0_c0 h
  · exact allOf_get law0_c4 h
  · exact allOf_get law0_c8 h
  · exact allOf_get law0_c12 h
  · exact allOf_get law0_c16 h
  · exact allOf_get law0_c20 h
  · exact allOf_get law0_c24 h
  · exact allOf_get law0_c28 h

end Go.Proofs.Ytihngfbkkhneeaa.E
