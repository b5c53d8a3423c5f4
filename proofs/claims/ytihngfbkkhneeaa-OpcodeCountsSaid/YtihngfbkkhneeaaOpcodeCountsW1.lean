/- The law OpcodeCounts comes to true at some opcodes. Conditions: none. -/
import Derived.Test.YtihngfbkkhneeaaIll
namespace Go.Proofs.Ytihngfbkkhneeaa.E
open Go Go.Ev Go.RowKit
set_option linter.unusedVariables false
set_option linter.unusedSimpArgs false
set_option maxRecDepth 100000
noncomputable def tblL1 : FuncId → Option Func
  | 8 => some Go.Proofs.Try.f8
  | _ => none
theorem tblL1_ok : TblOK Go.Proofs.Try.prog tblL1 := by
  intro g fn h
  unfold tblL1 at h
  split at h
  · simp only [Option.some.injEq] at h; subst h; exact ⟨Go.Proofs.Try.func8, by kernel_rfl⟩
  · simp at h
noncomputable def law1 (m : Nat) : Option Unit := evCall Go.Proofs.Try.prog tblL1 (known knI) 300 4 8 [u8A (m : Int)] [] isTrue
theorem law1_c32 : allOf law1 (List.range' 32 4) = true := by kernel_rfl
theorem law1_c36 : allOf law1 (List.range' 36 4) = true := by kernel_rfl
theorem law1_c40 : allOf law1 (List.range' 40 4) = true := by kernel_rfl
theorem law1_c44 : allOf law1 (List.range' 44 4) = true := by kernel_rfl
theorem law1_c48 : allOf law1 (List.range' 48 4) = true := by kernel_rfl
theorem law1_c52 : allOf law1 (List.range' 52 4) = true := by kernel_rfl
theorem law1_c56 : allOf law1 (List.range' 56 4) = true := by kernel_rfl
theorem law1_c60 : allOf law1 (List.range' 60 4) = true := by kernel_rfl
theorem law1_get {m : Nat} (h0 : 32 ≤ m) (h1 : m < 64) : law1 m = some () := by
  have h : m ∈ List.range' 32 4 ∨ m ∈ List.range' 36 4 ∨ m ∈ List.range' 40 4 ∨ m ∈ List.range' 44 4 ∨ m ∈ List.range' 48 4 ∨ m ∈ List.range' 52 4 ∨ m ∈ List.range' 56 4 ∨ m ∈ List.range' 60 4 := by simp only [List.mem_range'_1]; omega
  rcases h with h | h | h | h | h | h | h | h
  · exact allOf_get law1_c32 h
  · exact allOf_get law1_c36 h
  · exact allOf_get law1_c40 h
  · exact allOf_get law1_c44 h
  · exact allOf_get law1_c48 h
  · exact allOf_get law1_c52 h
  · exact allOf_get law1_c56 h
  · exact allOf_get law1_c60 h

end Go.Proofs.Ytihngfbkkhneeaa.E
