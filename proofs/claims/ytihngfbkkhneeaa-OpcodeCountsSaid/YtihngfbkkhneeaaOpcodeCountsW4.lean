/- The law OpcodeCounts comes to true at some opcodes. Conditions: none. -/
import Derived.Test.YtihngfbkkhneeaaIll
namespace Go.Proofs.Ytihngfbkkhneeaa.E
open Go Go.Ev Go.RowKit
set_option linter.unusedVariables false
set_option linter.unusedSimpArgs false
set_option maxRecDepth 100000
noncomputable def tblL4 : FuncId → Option Func
  | 8 => some Go.Proofs.Try.f8
  | _ => none
theorem tblL4_ok : TblOK Go.Proofs.Try.prog tblL4 := by
  intro g fn h
  unfold tblL4 at h
  split at h
  · simp only [Option.some.injEq] at h; subst h; exact ⟨Go.Proofs.Try.func8, by kernel_rfl⟩
  · simp at h
noncomputable def law4 (m : Nat) : Option Unit := evCall Go.Proofs.Try.prog tblL4 (known knI) 300 4 8 [u8A (m : Int)] [] isTrue
theorem law4_c128 : allOf law4 (List.range' 128 4) = true := by kernel_rfl
theorem law4_c132 : allOf law4 (List.range' 132 4) = true := by kernel_rfl
theorem law4_c136 : allOf law4 (List.range' 136 4) = true := by kernel_rfl
theorem law4_c140 : allOf law4 (List.range' 140 4) = true := by kernel_rfl
theorem law4_c144 : allOf law4 (List.range' 144 4) = true := by kernel_rfl
theorem law4_c148 : allOf law4 (List.range' 148 4) = true := by kernel_rfl
theorem law4_c152 : allOf law4 (List.range' 152 4) = true := by kernel_rfl
theorem law4_c156 : allOf law4 (List.range' 156 4) = true := by kernel_rfl
theorem law4_get {m : Nat} (h0 : 128 ≤ m) (h1 : m < 160) : law4 m = some () := by
  have h : m ∈ List.range' 128 4 ∨ m ∈ List.range' 132 4 ∨ m ∈ List.range' 136 4 ∨ m ∈ List.range' 140 4 ∨ m ∈ List.range' 144 4 ∨ m ∈ List.range' 148 4 ∨ m ∈ List.range' 152 4 ∨ m ∈ List.range' 156 4 := by simp only [List.mem_range'_1]; omega
  rcases h with h | h | h | h | h | h | h | h
  · exact allOf_get law4_c128 h
  · exact allOf_get law4_c132 h
  · exact allOf_get law4_c136 h
  · exact allOf_get law4_c140 h
  · exact allOf_get law4_c144 h
  · exact allOf_get law4_c148 h
  · exact allOf_get law4_c152 h
  · exact allOf_get law4_c156 h

end Go.Proofs.Ytihngfbkkhneeaa.E
