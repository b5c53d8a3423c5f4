/- The law OpcodeCounts comes to true at some opcodes. Conditions: none. -/
import Derived.Test.YtihngfbkkhneeaaIll
namespace Go.Proofs.Ytihngfbkkhneeaa.E
open Go Go.Ev Go.RowKit
set_option linter.unusedVariables false
set_option linter.unusedSimpArgs false
set_option maxRecDepth 100000
noncomputable def tblL3 : FuncId → Option Func
  | 8 => some Go.Proofs.Try.f8
  | _ => none
theorem tblL3_ok : TblOK Go.Proofs.Try.prog tblL3 := by
  intro g fn h
  unfold tblL3 at h
  split at h
  · simp only [Option.some.injEq] at h; subst h; exact ⟨Go.Proofs.Try.func8, by kernel_rfl⟩
  · simp at h
noncomputable def law3 (m : Nat) : Option Unit := evCall Go.Proofs.Try.prog tblL3 (known knI) 300 4 8 [u8A (m : Int)] [] isTrue
theorem law3_c96 : allOf law3 (List.range' 96 4) = true := by kernel_rfl
theorem law3_c100 : allOf law3 (List.range' 100 4) = true := by kernel_rfl
theorem law3_c104 : allOf law3 (List.range' 104 4) = true := by kernel_rfl
theorem law3_c108 : allOf law3 (List.range' 108 4) = true := by kernel_rfl
theorem law3_c112 : allOf law3 (List.range' 112 4) = true := by kernel_rfl
theorem law3_c116 : allOf law3 (List.range' 116 4) = true := by kernel_rfl
theorem law3_c120 : allOf law3 (List.range' 120 4) = true := by kernel_rfl
theorem law3_c124 : allOf law3 (List.range' 124 4) = true := by kernel_rfl
theorem law3_get {m : Nat} (h0 : 96 ≤ m) (h1 : m < 128) : law3 m = some () := by
  have h : m ∈ List.range' 96 4 ∨ m ∈ List.range' 100 4 ∨ m ∈ List.range' 104 4 ∨ m ∈ List.range' 108 4 ∨ m ∈ List.range' 112 4 ∨ m ∈ List.range' 116 4 ∨ m ∈ List.range' 120 4 ∨ m ∈ List.range' 124 4 := by simp only [List.mem_range'_1]; omega
  rcases h with h | h | h | h | h | h | h | h
  · exact allOf_get law3_c96 h
  · exact allOf_get law3_c100 h
  · exact allOf_get law3_c104 h
  · exact allOf_get law3_c108 h
  · exact allOf_get law3_c112 h
  · exact allOf_get law3_c116 h
  · exact allOf_get law3_c120 h
  · exact allOf_get law3_c124 h

end Go.Proofs.Ytihngfbkkhneeaa.E
