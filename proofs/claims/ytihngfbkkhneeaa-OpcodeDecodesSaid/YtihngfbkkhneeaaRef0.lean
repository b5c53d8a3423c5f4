/- What the document says of the opcodes from 0 to 31 is what the table has. Conditions: none. -/
import Derived.Test.YtihngfbkkhneeaaBit
namespace Go.Proofs.Ytihngfbkkhneeaa.E
open Go Go.Ev Go.RowKit
set_option linter.unusedVariables false
set_option linter.unusedSimpArgs false
set_option maxRecDepth 100000
noncomputable def tblR0 : FuncId → Option Func
  | 13 => some Go.Proofs.Try.f13
  | 24 => some Go.Proofs.Try.f24
  | 25 => some Go.Proofs.Try.f25
  | 26 => some Go.Proofs.Try.f26
  | _ => none
theorem tblR0_ok : TblOK Go.Proofs.Try.prog tblR0 := by
  intro g fn h
  unfold tblR0 at h
  split at h
  · simp only [Option.some.injEq] at h; subst h; exact ⟨Go.Proofs.Try.func13, by kernel_rfl⟩
  · simp only [Option.some.injEq] at h; subst h; exact ⟨Go.Proofs.Try.func24, by kernel_rfl⟩
  · simp only [Option.some.injEq] at h; subst h; exact ⟨Go.Proofs.Try.func25, by kernel_rfl⟩
  · simp only [Option.some.injEq] at h; subst h; exact ⟨Go.Proofs.Try.func26, by kernel_rfl⟩
  · simp at h

noncomputable def ref0 (m : Nat) : Option Unit := match nth decTab m with
  | some l => evCall Go.Proofs.Try.prog tblR0 (known knB) 300 4 13 [u8A (m : Int)] [] (isA (formA l))
  | none => none
theorem ref0_c0 : allOf ref0 (List.range' 0 8) = true := by kernel_rfl
theorem ref0_c8 : allOf ref0 (List.range' 8 8) = true := by kernel_rfl
theorem ref0_c16 : allOf ref0 (List.range' 16 8) = true := by kernel_rfl
theorem ref0_c24 : allOf ref0 (List.range' 24 8) = true := by kernel_rfl
theorem ref0_get {m : Nat} (h0 : 0 ≤ m) (h1 : m < 32) : ref0 m = some () := by
  have h : m ∈ List.range' 0 8 ∨ m ∈ List.range' 8 8 ∨ m ∈ List.range' 16 8 ∨ m ∈ List.range' 24 8 := by simp only [List.mem_range'_1]; omega
  rcases h with h | h | h | h
  · exact allOf_get ref0_c0 h
  · exact allOf_get ref0_c8 h
  · exact allOf_get ref0_c16 h
  · exact allOf_get ref0_c24 h
theorem ref0_ok {m : Nat} (hm : m ∈ List.range' 0 32) : ∃ l, nth decTab m = some l ∧ ∀ w, PureGoes Go.Proofs.Try.prog w 13 [u8A (m : Int)] (formA l) := by
  simp only [List.mem_range'_1] at hm
  have := ref0_get hm.1 (by omega)
  unfold ref0 at this
  split at this
  · rename_i l hl
    exact ⟨l, hl, fun w => pure_of_eval tblR0_ok (fun _ => known_ok knB_ok) (formA_free l) this w⟩
  · simp at this

end Go.Proofs.Ytihngfbkkhneeaa.E
