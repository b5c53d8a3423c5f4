/- What the document says of the opcodes from 32 to 63 is what the table has. Conditions: none. -/
import Derived.Test.YtihngfbkkhneeaaBit
namespace Go.Proofs.Ytihngfbkkhneeaa.E
open Go Go.Ev Go.RowKit
set_option linter.unusedVariables false
set_option linter.unusedSimpArgs false
set_option maxRecDepth 100000
noncomputable def tblR1 : FuncId → Option Func
  | 13 => some Go.Proofs.Try.f13
  | 24 => some Go.Proofs.Try.f24
  | 25 => some Go.Proofs.Try.f25
  | 26 => some Go.Proofs.Try.f26
  | _ => none
theorem tblR1_ok : TblOK Go.Proofs.Try.prog tblR1 := by
  intro g fn h
  unfold tblR1 at h
  split at h
  · simp only [Option.some.injEq] at h; subst h; exact ⟨Go.Proofs.Try.func13, by kernel_rfl⟩
  · simp only [Option.some.injEq] at h; subst h; exact ⟨Go.Proofs.Try.func24, by kernel_rfl⟩
  · simp only [Option.some.injEq] at h; subst h; exact ⟨Go.Proofs.Try.func25, by kernel_rfl⟩
  · simp only [Option.some.injEq] at h; subst h; exact ⟨Go.Proofs.Try.func26, by kernel_rfl⟩
  · simp at h

noncomputable def ref1 (m : Nat) : Option Unit := match nth decTab m with
  | some l => evCall Go.Proofs.Try.prog tblR1 (known knB) 300 4 13 [u8A (m : Int)] [] (isA (formA l))
  | none => none
theorem ref1_c32 : allOf ref1 (List.range' 32 8) = true := by kernel_rfl
theorem ref1_c40 : allOf ref1 (List.range' 40 8) = true := by kernel_rfl
theorem ref1_c48 : allOf ref1 (List.range' 48 8) = true := by kernel_rfl
theorem ref1_c56 : allOf ref1 (List.range' 56 8) = true := by kernel_rfl
theorem ref1_get {m : Nat} (h0 : 32 ≤ m) (h1 : m < 64) : ref1 m = some () := by
  have h : m ∈ List.range' 32 8 ∨ m ∈ List.range' 40 8 ∨ m ∈ List.range' 48 8 ∨ m ∈ List.range' 56 8 := by simp only [List.mem_range'_1]; omega
  rcases h with h | h | h | h
  · exact allOf_get ref1_c32 h
  · exact allOf_get ref1_c40 h
  · exact allOf_get ref1_c48 h
  · exact allOf_get ref1_c56 h
theorem ref1_ok {m : Nat} (hm : m ∈ List.range' 32 32) : ∃ l, nth decTab m = some l ∧ ∀ w, PureGoes Go.Proofs.Try.prog w 13 [u8A (m : Int)] (formA l) := by
  simp only [List.mem_range'_1] at hm
  have := ref1_get hm.1 (by omega)
  unfold ref1 at this
  split at this
  · rename_i l hl
    exact ⟨l, hl, fun w => pure_of_eval tblR1_ok (fun _ => known_ok knB_ok) (formA_free l) this w⟩
  · simp at this

end Go.Proofs.Ytihngfbkkhneeaa.E
