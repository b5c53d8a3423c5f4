/- What the document says of the opcodes from 64 to 95 is what the table has. Conditions: none. -/
import Derived.Test.YtihngfbkkhneeaaBit
namespace Go.Proofs.Ytihngfbkkhneeaa.E
open Go Go.Ev Go.RowKit
set_option linter.unusedVariables false
set_option linter.unusedSimpArgs false
set_option maxRecDepth 100000
noncomputable def tblR2 : FuncId → Option Func
  | 13 => some Go.Proofs.Try.f13
  | 24 => some Go.Proofs.Try.f24
  | 25 => some Go.Proofs.Try.f25
  | 26 => some Go.Proofs.Try.f26
  | _ => none
theorem tblR2_ok : TblOK Go.Proofs.Try.prog tblR2 := by
  intro g fn h
  unfold tblR2 at h
  split at h
  · simp only [Option.some.injEq] at h; subst h; exact ⟨Go.Proofs.Try.func13, by kernel_rfl⟩
  · simp only [Option.some.injEq] at h; subst h; exact ⟨Go.Proofs.Try.func24, by kernel_rfl⟩
  · simp only [Option.some.injEq] at h; subst h; exact ⟨Go.Proofs.Try.func25, by kernel_rfl⟩
  · simp only [Option.some.injEq] at h; subst h; exact ⟨Go.Proofs.Try.func26, by kernel_rfl⟩
  · simp at h

noncomputable def ref2 (m : Nat) : Option Unit := match nth decTab m with
  | some l => evCall Go.Proofs.Try.prog tblR2 (known knB) 300 4 13 [u8A (m : Int)] [] (isA (formA l))
  | none => none
theorem ref2_c64 : allOf ref2 (List.range' 64 8) = true := by kernel_rfl
theorem ref2_c72 : allOf ref2 (List.range' 72 8) = true := by kernel_rfl
theorem ref2_c80 : allOf ref2 (List.range' 80 8) = true := by kernel_rfl
theorem ref2_c88 : allOf ref2 (List.range' 88 8) = true := by kernel_rfl
theorem ref2_get {m : Nat} (h0 : 64 ≤ m) (h1 : m < 96) : ref2 m = some () := by
  have h : m ∈ List.range' 64 8 ∨ m ∈ List.range' 72 8 ∨ m ∈ List.range' 80 8 ∨ m ∈ List.range' 88 8 := by simp only [List.mem_range'_1]; omega
  rcases h with h | h | h | h
  · exact allOf_get ref2_c64 h
  · exact allOf_get ref2_c72 h
  · exact allOf_get ref2_c80 h
  · exact allOf_get ref2_c88 h
theorem ref2_ok {m : Nat} (hm : m ∈ List.range' 64 32) : ∃ l, nth decTab m = some l ∧ ∀ w, PureGoes Go.Proofs.Try.prog w 13 [u8A (m : Int)] (formA l) := by
  simp only [List.mem_range'_1] at hm
  have := ref2_get hm.1 (by omega)
  unfold ref2 at this
  split at this
  · rename_i l hl
    exact ⟨l, hl, fun w => pure_of_eval tblR2_ok (fun _ => known_ok knB_ok) (formA_free l) this w⟩
  · simp at this

end Go.Proofs.Ytihngfbkkhneeaa.E
