/- What the document says of the opcodes from 96 to 127 is what the table has. Conditions: none. -/
import Derived.Test.YtihngfbkkhneeaaBit
namespace Go.Proofs.Ytihngfbkkhneeaa.E
open Go Go.Ev Go.RowKit
set_option linter.unusedVariables false
set_option linter.unusedSimpArgs false
set_option maxRecDepth 100000
noncomputable def tblR3 : FuncId → Option Func
  | 13 => some Go.Proofs.Try.f13
  | 24 => some Go.Proofs.Try.f24
  | 25 => some Go.Proofs.Try.f25
  | 26 => some Go.Proofs.Try.f26
  | _ => none
theorem tblR3_ok : TblOK Go.Proofs.Try.prog tblR3 := by
  intro g fn h
  unfold tblR3 at h
  split at h
  · simp only [Option.some.injEq] at h; subst h; exact ⟨Go.Proofs.Try.func13, by kernel_rfl⟩
  · simp only [Option.some.injEq] at h; subst h; exact ⟨Go.Proofs.Try.func24, by kernel_rfl⟩
  · simp only [Option.some.injEq] at h; subst h; exact ⟨Go.Proofs.Try.func25, by kernel_rfl⟩
  · simp only [Option.some.injEq] at h; subst h; exact ⟨Go.Proofs.Try.func26, by kernel_rfl⟩
  · simp at h

noncomputable def ref3 (m : Nat) : Option Unit := match nth decTab m with
  | some l => evCall Go.Proofs.Try.prog tblR3 (known knB) 300 4 13 [u8A (m : Int)] [] (isA (formA l))
  | none => none
theorem ref3_c96 : allOf ref3 (List.range' 96 8) = true := by kernel_rfl
theorem ref3_c104 : allOf ref3 (List.range' 104 8) = true := by kernel_rfl
theorem ref3_c112 : allOf ref3 (List.range' 112 8) = true := by kernel_rfl
theorem ref3_c120 : allOf ref3 (List.range' 120 8) = true := by kernel_rfl
theorem ref3_get {m : Nat} (h0 : 96 ≤ m) (h1 : m < 128) : ref3 m = some () := by
  have h : m ∈ List.range' 96 8 ∨ m ∈ List.range' 104 8 ∨ m ∈ List.range' 112 8 ∨ m ∈ List.range' 120 8 := by simp only [List.mem_range'_1]; omega
  rcases h with h | h | h | h
  · exact allOf_get ref3_c96 h
  · exact allOf_get ref3_c104 h
  · exact allOf_get ref3_c112 h
  · exact allOf_get ref3_c120 h
theorem ref3_ok {m : Nat} (hm : m ∈ List.range' 96 32) : ∃ l, nth decTab m = some l ∧ ∀ w, PureGoes Go.Proofs.Try.prog w 13 [u8A (m : Int)] (formA l) := by
  simp only [List.mem_range'_1] at hm
  have := ref3_get hm.1 (by omega)
  unfold ref3 at this
  split at this
  · rename_i l hl
    exact ⟨l, hl, fun w => pure_of_eval tblR3_ok (fun _ => known_ok knB_ok) (formA_free l) this w⟩
  · simp at this

end Go.Proofs.Ytihngfbkkhneeaa.E
