/- The law OpcodeDecodes comes to true at each opcode. Conditions: none. -/
import Derived.Test.YtihngfbkkhneeaaRef
namespace Go.Proofs.Ytihngfbkkhneeaa.E
open Go Go.Ev Go.RowKit
set_option linter.unusedVariables false
set_option linter.unusedSimpArgs false
set_option maxRecDepth 100000
noncomputable def tblL : FuncId → Option Func
  | 3 => some Go.Proofs.Try.f3
  | _ => none
theorem tblL_ok : TblOK Go.Proofs.Try.prog tblL := by
  intro g fn h
  unfold tblL at h
  split at h
  · simp only [Option.some.injEq] at h; subst h; exact ⟨Go.Proofs.Try.func3, by kernel_rfl⟩
  · simp at h

noncomputable def law (m : Nat) : Option Unit := evCall Go.Proofs.Try.prog tblL (known knR) 300 4 3 [u8A (m : Int)] [] isTrue
theorem law_c0 : allOf law (List.range' 0 32) = true := by kernel_rfl
theorem law_c32 : allOf law (List.range' 32 32) = true := by kernel_rfl
theorem law_c64 : allOf law (List.range' 64 32) = true := by kernel_rfl
theorem law_c96 : allOf law (List.range' 96 32) = true := by kernel_rfl
theorem law_c128 : allOf law (List.range' 128 32) = true := by kernel_rfl
theorem law_c160 : allOf law (List.range' 160 32) = true := by kernel_rfl
theorem law_c192 : allOf law (List.range' 192 32) = true := by kernel_rfl
theorem law_c224 : allOf law (List.range' 224 32) = true := by kernel_rfl
theorem law_get {m : Nat} (h0 : 0 ≤ m) (h1 : m < 256) : law m = some () := by
  have h : m ∈ List.range' 0 32 ∨ m ∈ List.range' 32 32 ∨ m ∈ List.range' 64 32 ∨ m ∈ List.range' 96 32 ∨ m ∈ List.range' 128 32 ∨ m ∈ List.range' 160 32 ∨ m ∈ List.range' 192 32 ∨ m ∈ List.range' 224 32 := by simp only [List.mem_range'_1]; omega
  rcases h with h | h | h | h | h | h | h | h
  · exact allOf_get law_c0 h
  · exact allOf_get law_c32 h
  · exact allOf_get law_c64 h
  · exact allOf_get law_c96 h
  · exact allOf_get law_c128 h
  · exact allOf_get law_c160 h
  · exact allOf_get law_c192 h
  · exact allOf_get law_c224 h
theorem opcodeDecodes_walk (a0 : Int) (w : World) (h0 : (Lit.int .u8 a0).wf = true) : Calls Go.Proofs.Try.prog 3 #[.int .u8 a0] w fun e w' => e = .returned (.bool true) ∧ Below w.heap.size w w' := by
  obtain ⟨m, hm, rfl⟩ := nat_of h0
  exact law_of tblL_ok (known_ok knR_ok) (law_get (Nat.zero_le _) hm) ⟨u8A_R [] _, trivial⟩

end Go.Proofs.Ytihngfbkkhneeaa.E
