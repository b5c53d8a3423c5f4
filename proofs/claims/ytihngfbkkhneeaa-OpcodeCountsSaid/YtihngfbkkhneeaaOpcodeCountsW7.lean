/- The law OpcodeCounts comes to true at some opcodes. Conditions: none. -/
import Derived.Test.YtihngfbkkhneeaaIll
namespace Go.Proofs.Ytihngfbkkhneeaa.E
open Go Go.Ev Go.RowKit
set_option linter.unusedVariables false
set_option linter.unusedSimpArgs false
set_option maxRecDepth 100000
noncomputable def tblL7 : FuncId → Option Func
  | 8 => some Go.Proofs.Try.f8
  | _ => none
theorem tblL7_ok : TblOK Go.Proofs.Try.prog tblL7 := by
  intro g fn h
  unfold tblL7 at h
  split at h
  · simp only [Option.some.injEq] at h; subst h; exact ⟨Go.Proofs.Try.func8, by kernel_rfl⟩
  · simp at h
noncomputable def law7 (m : Nat) : Option Unit := evCall Go.Proofs.Try.prog tblL7 (known knI) 300 4 8 [u8A (m : Int)] [] isTrue
theorem law7_c224 : allOf law7 (List.range' 224 4) = true := by kernel_rfl
theorem law7_c228 : allOf law7 (List.range' 228 4) = true := by kernel_rfl
theorem law7_c232 : allOf law7 (List.range' 232 4) = true := by kernel_rfl
theorem law7_c236 : allOf law7 (List.range' 236 4) = true := by kernel_rfl
theorem law7_c240 : allOf law7 (List.range' 240 4) = true := by kernel_rfl
theorem law7_c244 : allOf law7 (List.range' 244 4) = true := by kernel_rfl
theorem law7_c248 : allOf law7 (List.range' 248 4) = true := by kernel_rfl
theorem law7_c252 : allOf law7 (List.range' 252 4) = true := by kernel_rfl
theorem law7_get {m : Nat} (h0 : 224 ≤ m) (h1 : m < 256) : law7 m = some () := by
  have h : m ∈ List.range' 224 4 ∨ m ∈ List.range' 228 4 ∨ m ∈ List.range' 232 4 ∨ m ∈ List.range' 236 4 ∨ m ∈ List.range' 240 4 ∨ m ∈ List.range' 244 4 ∨ m ∈ List.range' 248 4 ∨ m ∈ List.range' 252 4 := by simp only [List.mem_range'_1]; omega
  rcases h with h | h | h | h | h | h | h | h
  · exact allOf_get law7_c224 h
  · exact allOf_get law7_c228 h
  · exact allOf_get law7_c232 h
  · exact allOf_get law7_c236 h
  · exact allOf_get law7_c240 h
  · exact allOf_get law7_c244 h
  · exact allOf_get law7_c248 h
  · exact allOf_get law7_c252 h

end Go.Proofs.Ytihngfbkkhneeaa.E
