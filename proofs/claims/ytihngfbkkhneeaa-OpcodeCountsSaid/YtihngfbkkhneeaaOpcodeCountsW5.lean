/- The law OpcodeCounts comes to true at some opcodes. Conditions: none. -/
import Derived.Test.YtihngfbkkhneeaaIll
namespace Go.Proofs.Ytihngfbkkhneeaa.E
open Go Go.Ev Go.RowKit
set_option linter.unusedVariables false
set_option linter.unusedSimpArgs false
set_option maxRecDepth 100000
noncomputable def tblL5 : FuncId → Option Func
  | 8 => some Go.Proofs.Try.f8
  | _ => none
theorem tblL5_ok : TblOK Go.Proofs.Try.prog tblL5 := by
  intro g fn h
  unfold tblL5 at h
  split at h
  · simp only [Option.some.injEq] at h; subst h; exact ⟨Go.Proofs.Try.func8, by kernel_rfl⟩
  · simp at h
noncomputable def law5 (m : Nat) : Option Unit := evCall Go.Proofs.Try.prog tblL5 (known knI) 300 4 8 [u8A (m : Int)] [] isTrue
theorem law5_c160 : allOf law5 (List.range' 160 4) = true := by kernel_rfl
theorem law5_c164 : allOf law5 (List.range' 164 4) = true := by kernel_rfl
theorem law5_c168 : allOf law5 (List.range' 168 4) = true := by kernel_rfl
theorem law5_c172 : allOf law5 (List.range' 172 4) = true := by kernel_rfl
theorem law5_c176 : allOf law5 (List.range' 176 4) = true := by kernel_rfl
theorem law5_c180 : allOf law5 (List.range' 180 4) = true := by kernel_rfl
theorem law5_c184 : allOf law5 (List.range' 184 4) = true := by kernel_rfl
theorem law5_c188 : allOf law5 (List.range' 188 4) = true := by kernel_rfl
theorem law5_get {m : Nat} (h0 : 160 ≤ m) (h1 : m < 192) : law5 m = some () := by
  have h : m ∈ List.range' 160 4 ∨ m ∈ List.range' 164 4 ∨ m ∈ List.range' 168 4 ∨ m ∈ List.range' 172 4 ∨ m ∈ List.range' 176 4 ∨ m ∈ List.range' 180 4 ∨ m ∈ List.range' 184 4 ∨ m ∈ List.range' 188 4 := by simp only [List.mem_range'_1]; omega
  rcases h with h | h | h | h | h | h | h | h
  · exact allOf_get law5_c160 h
  · exact allOf_get law5_c164 h
  · exact allOf_get law5_c168 h
  · exact allOf_get law5_c172 h
  · exact allOf_get law5_c176 h
  · exact allOf_get law5_c180 h
  · exact allOf_get law5_c184 h
  · exact allOf_get law5_c188 h

end Go.Proofs.Ytihngfbkkhneeaa.E
