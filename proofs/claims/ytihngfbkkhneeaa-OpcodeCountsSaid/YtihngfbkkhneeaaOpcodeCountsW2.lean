/- The law OpcodeCounts comes to true at some opcodes. Conditions: none. -/
import Derived.Test.YtihngfbkkhneeaaIll
namespace Go.Proofs.Ytihngfbkkhneeaa.E
open Go Go.Ev Go.RowKit
set_option linter.unusedVariables false
set_option linter.unusedSimpArgs false
set_option maxRecDepth 100000
noncomputable def tblL2 : FuncId → Option Func
  | 8 => some Go.Proofs.Try.f8
  | _ => none
theorem tblL2_ok : TblOK Go.Proofs.Try.prog tblL2 := by
  intro g fn h
  unfold tblL2 at h
  split at h
  · simp only [Option.some.injEq] at h; subst h; exact ⟨Go.Proofs.Try.func8, by kernel_rfl⟩
  · simp at h
noncomputable def law2 (m : Nat) : Option Unit := evCall Go.Proofs.Try.prog tblL2 (known knI) 300 4 8 [u8A (m : Int)] [] isTrue
theorem law2_c64 : allOf law2 (List.range' 64 4) = true := by kernel_rfl
theorem law2_c68 : allOf law2 (List.range' 68 4) = true := by kernel_rfl
theorem law2_c72 : allOf law2 (List.range' 72 4) = true := by kernel_rfl
theorem law2_c76 : allOf law2 (List.range' 76 4) = true := by kernel_rfl
theorem law2_c80 : allOf law2 (List.range' 80 4) = true := by kernel_rfl
theorem law2_c84 : allOf law2 (List.range' 84 4) = true := by kernel_rfl
theorem law2_c88 : allOf law2 (List.range' 88 4) = true := by kernel_rfl
theorem law2_c92 : allOf law2 (List.range' 92 4) = true := by kernel_rfl
theorem law2_get {m : Nat} (h0 : 64 ≤ m) (h1 : m < 96) : law2 m = some () := by
  have h : m ∈ List.range' 64 4 ∨ m ∈ List.range' 68 4 ∨ m ∈ List.range' 72 4 ∨ m ∈ List.range' 76 4 ∨ m ∈ List.range' 80 4 ∨ m ∈ List.range' 84 4 ∨ m ∈ List.range' 88 4 ∨ m ∈ List.range' 92 4 := by simp only [List.mem_range'_1]; omega
  rcases h with h | h | h | h | h | h | h | h
  · exact allOf_get law2_c64 h
  · exact allOf_get law2_c68 h
  · exact allOf_get law2_c72 h
  · exact allOf_get law2_c76 h
  · exact allOf_get law2_c80 h
  · exact allOf_get law2_c84 h
  · exact allOf_get law2_c88 h
  · exact allOf_get law2_c92 h

end Go.Proofs.Ytihngfbkkhneeaa.E
