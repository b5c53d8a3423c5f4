/- The law OpcodeBack comes to true at some opcodes. Conditions: none. -/
import Derived.Test.YtihngfbkkhneeaaEnc
namespace Go.Proofs.Ytihngfbkkhneeaa.E
open Go Go.Ev Go.RowKit
set_option linter.unusedVariables false
set_option linter.unusedSimpArgs false
set_option maxRecDepth 100000
noncomputable def tblL1 : FuncId → Option Func
  | 10 => some Go.Proofs.Try.f10
  | _ => none
theorem tblL1_ok : TblOK Go.Proofs.Try.prog tblL1 := by
  intro g fn h
  unfold tblL1 at h
  split at h
  · simp only [Option.some.injEq] at h; subst h; exact ⟨Go.Proofs.Try.func10, by kernel_rfl⟩
  · simp at h
noncomputable def law1 (m : Nat) : Option Unit := evCall Go.Proofs.Try.prog tblL1 (known knE) 300 4 10 [u8A (m : Int)] [] isTrue
theorem law1_c128 : allOf law1 (List.range' 128 32) = true := by kernel_rfl
theorem law1_c160 : allOf law1 (List.range' 160 32) = true := by kernel_rfl
theorem law1_c192 : allOf law1 (List.range' 192 32) = true := by kernel_rfl
theorem law1_c224 : allOf law1 (List.range' 224 32) = true := by kernel_rfl
theorem law1_get {m : Nat} (h0 : 128 ≤ m) (h1 : m < 256) : law1 m = some () := by
  have h : m ∈ List.range' 128 32 ∨ m ∈ List.range' 160 32 ∨ m ∈ List.range' 192 32 ∨ m ∈ List.range' 224 32 := by simp only [List.mem_range'_1]; omega
  rcases h with h | h | h | h
  · exact allOf_get law1_c128 h
  · exact allOf_get law1_c160 h
  · exact allOf_get law1_c192 h
  · exact allOf_get law1_c224 h

end Go.Proofs.Ytihngfbkkhneeaa.E
