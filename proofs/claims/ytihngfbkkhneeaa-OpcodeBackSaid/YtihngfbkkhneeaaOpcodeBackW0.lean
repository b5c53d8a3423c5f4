/- The law OpcodeBack comes to true at some opcodes. Conditions: none. -/
import Derived.Test.YtihngfbkkhneeaaEnc
namespace Go.Proofs.Ytihngfbkkhneeaa.E
open Go Go.Ev Go.RowKit
set_option linter.unusedVariables false
set_option linter.unusedSimpArgs false
set_option maxRecDepth 100000
noncomputable def tblL0 : FuncId → Option Func
  | 10 => some Go.Proofs.Try.f10
  | _ => none
theorem tblL0_ok : TblOK Go.Proofs.Try.prog tblL0 := by
  intro g fn h
  unfold tblL0 at h
  split at h
  · simp only [Option.some.injEq] at h; subst h; exact ⟨Go.Proofs.Try.func10, by kernel_rfl⟩
  · simp at h
noncomputable def law0 (m : Nat) : Option Unit := evCall Go.Proofs.Try.prog tblL0 (known knE) 300 4 10 [u8A (m : Int)] [] isTrue
theorem law0_c0 : allOf law0 (List.range' 0 32) = true := by kernel_rfl
theorem law0_c32 : allOf law0 (List.range' 32 32) = true := by kernel_rfl
theorem law0_c64 : allOf law0 (List.range' 64 32) = true := by kernel_rfl
theorem law0_c96 : allOf law0 (List.range' 96 32) = true := by kernel_rfl
theorem law0_get {m : Nat} (h0 : 0 ≤ m) (h1 : m < 128) : law0 m = some () := by
  have h : m ∈ List.range' 0 32 ∨ m ∈ List.range' 32 32 ∨ m ∈ List.range' 64 32 ∨ m ∈ List.range' 96 32 := by simp only [List.mem_range'_1]; omega
  rcases h with h | h | h | h
  · exact allOf_get law0_c0 h
  · exact allOf_get law0_c32 h
  · exact allOf_get law0_c64 h
  · exact allOf_get law0_c96 h

end Go.Proofs.Ytihngfbkkhneeaa.E
