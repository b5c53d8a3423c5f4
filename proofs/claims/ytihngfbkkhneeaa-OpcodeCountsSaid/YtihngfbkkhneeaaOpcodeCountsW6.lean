/- The law OpcodeCounts comes to true at some opcodes. Conditions: none. -/
import Derived.Test.YtihngfbkkhneeaaIll
namespace Go.Proofs.Ytihngfbkkhneeaa.E
open Go Go.Ev Go.RowKit
set_option linter.unusedVariables false
set_option linter.unusedSimpArgs false
set_option maxRecDepth 100000
noncomputable def tblL6 : FuncId → Option Func
  | 8 => some Go.Proofs.Try.f8
  | _ => none
theorem tblL6_ok : TblOK Go.Proofs.Try.prog tblL6 := by
  intro g fn h
  unfold tblL6 at h
  split at h
  · simp only [Option.some.injEq] at h; subst h; exact ⟨Go.Proofs.Try.func8, by kernel_rfl⟩
  · simp at h
noncomputable def law6 (m : Nat) : Option Unit := evCall Go.Proofs.Try.prog tblL6 (known knI) 300 4 8 [u8A (m : Int)] [] isTrue
theorem law6_c192 : allOf law6 (List.range' 192 4) = true := by kernel_rfl
theorem law6_c196 : allOf law6 (List.range' 196 4) = true := by kernel_rfl
theorem law6_c200 : allOf law6 (List.range' 200 4) = true := by kernel_rfl
theorem law6_c204 : allOf law6 (List.range' 204 4) = true := by kernel_rfl
theorem law6_c208 : allOf law6 (List.range' 208 4) = true := by kernel_rfl
theorem law6_c212 : allOf law6 (List.range' 212 4) = true := by kernel_rfl
theorem law6_c216 : allOf law6 (List.range' 216 4) = true := by kernel_rfl
theorem law6_c220 : allOf law6 (List.range' 220 4) = true := by kernel_rfl
theorem law6_get {m : Nat} (h0 : 192 ≤ m) (h1 : m < 224) : law6 m = some () := by
  have h : m ∈ List.range' 192 4 ∨ m ∈ List.range' 196 4 ∨ m ∈ List.range' 200 4 ∨ m ∈ List.range' 204 4 ∨ m ∈ List.range' 208 4 ∨ m ∈ List.range' 212 4 ∨ m ∈ List.range' 216 4 ∨ m ∈ List.range' 220 4 := by simp only [List.mem_range'_1]; omega
  rcases h with h | h | h | h | h | h | h | h
  · exact allOf_get law6_c192 h
  · exact allOf_get law6_c196 h
  · exact allOf_get law6_c200 h
  · exact allOf_get law6_c204 h
  · exact allOf_get law6_c208 h
  · exact allOf_get law6_c212 h
  · exact allOf_get law6_c216 h
  · exact allOf_get law6_c220 h

end Go.Proofs.Ytihngfbkkhneeaa.E
