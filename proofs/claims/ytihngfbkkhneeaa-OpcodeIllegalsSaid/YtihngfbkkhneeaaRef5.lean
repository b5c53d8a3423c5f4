/- What the document says of the opcodes from 160 to 191 is what the table has. Conditions: none. -/
import Derived.Test.YtihngfbkkhneeaaBit
namespace Go.Proofs.Ytihngfbkkhneeaa.E
open Go Go.Ev Go.RowKit
set_option linter.unusedVariables false
set_option linter.unusedSimpArgs false
set_option maxRecDepth 100000
noncomputable def tblR5 : FuncId → Option Func
  | 13 => some Go.Proofs.Try.f13
  | 24 => some Go.Proofs.Try.f24
  | 25 => some Go.Proofs.Try.f25
  | 26 => some Go.Proofs.Try.f26
  | _ => none
theorem tblR5_ok : TblOK Go.Proofs.Try.prog tblR5 := by
  intro g fn h
  unfold tblR5 at h
  split at h
  · simp only [Option.some.injEq] at h; subst h; exact ⟨Go.Proofs.Try.func13, by kernel_rfl⟩
  · simp only [Option.some.injEq] at h; subst h; exact ⟨Go.Proofs.Try.func24, by kernel_rfl⟩
  · simp only [Option.some.injEq] at h; subst h; exact ⟨Go.Proofs.Try.func25, by kernel_rfl⟩
  · simp only [Option.some.injEq] at h; subst h; exact ⟨Go.Proofs.Try.func26, by kernel_rfl⟩
  · simp at h

noncomputable def ref5 (m : Nat) : Option Unit := match nth decTab m with
  | some l => evCall Go.Proofs.Try.prog tblR5 (known knB) 300 4 13 [u8A (m : Int)] [] (isA (formA l))
  | none => none
theorem ref5_c160 : allOf ref5 (List.range' 160 8) = true := by kernel_rfl
theorem ref5_c168 : allOf ref5 (List.range' 168 8) = true := by kernel_rfl
theorem ref5_c176 : allOf ref5 (List.range' 176 8) = true := by kernel_rfl
theorem ref5_c184 : allOf ref5 (List.range' 184 8) = true := by kernel_rfl
theorem ref5_get {m : Nat} (h0 : 160 ≤ m) (h1 : m < 192) : ref5 m = some () := by
  have h : m ∈ List.range' 160 8 ∨ m ∈ List.range' 168 8 ∨ m ∈ List.range' 176 8 ∨ m ∈ List.range' 184 8 := by simp only [List.mem_range'_1]; omega
  rcases h with h | h | h | h
  · exact allOf_get ref5_c160 h
  · exact allOf_get ref5_c168 h
  · exact allOf_get ref5_c176 h
  · exact allOf_get ref5_c184 h
theorem ref5_ok {m : Nat} (hm : m ∈ List.range' 160 32) : ∃ l, nth decTab m = some l ∧ ∀ w, PureGoes Go.Proofs.Try.prog w 13 [u8A (m : Int)] (formA l) := by
  simp only [List.mem_range'_1] at hm
  have := ref5_get hm.1 (by omega)
  unfold ref5 at this
  split at this
  · rename_i l hl
    exact ⟨l, hl, fun w => pure_of_eval tblR5_ok (fun _ => known_ok knB_ok) (formA_free l) this w⟩
  · simp at this

end Go.Proofs.Ytihngfbkkhneeaa.E
