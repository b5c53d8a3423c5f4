/- What the document says of the opcodes from 224 to 255 is what the table has. Conditions: none. -/
import Derived.Test.YtihngfbkkhneeaaBit
namespace Go.Proofs.Ytihngfbkkhneeaa.E
open Go Go.Ev Go.RowKit
set_option linter.unusedVariables false
set_option linter.unusedSimpArgs false
set_option maxRecDepth 100000
noncomputable def tblR7 : FuncId → Option Func
  | 13 => some Go.Proofs.Try.f13
  | 24 => some Go.Proofs.Try.f24
  | 25 => some Go.Proofs.Try.f25
  | 26 => some Go.Proofs.Try.f26
  | _ => none
theorem tblR7_ok : TblOK Go.Proofs.Try.prog tblR7 := by
  intro g fn h
  unfold tblR7 at h
  split at h
  · simp only [Option.some.injEq] at h; subst h; exact ⟨Go.Proofs.Try.func13, by kernel_rfl⟩
  · simp only [Option.some.injEq] at h; subst h; exact ⟨Go.Proofs.Try.func24, by kernel_rfl⟩
  · simp only [Option.some.injEq] at h; subst h; exact ⟨Go.Proofs.Try.func25, by kernel_rfl⟩
  · simp only [Option.some.injEq] at h; subst h; exact ⟨Go.Proofs.Try.func26, by kernel_rfl⟩
  · simp at h

noncomputable def ref7 (m : Nat) : Option Unit := match nth decTab m with
  | some l => evCall Go.Proofs.Try.prog tblR7 (known knB) 300 4 13 [u8A (m : Int)] [] (isA (formA l))
  | none => none
theorem ref7_c224 : allOf ref7 (List.range' 224 8) = true := by kernel_rfl
theorem ref7_c232 : allOf ref7 (List.range' 232 8) = true := by kernel_rfl
theorem ref7_c240 : allOf ref7 (List.range' 240 8) = true := by kernel_rfl
theorem ref7_c248 : allOf ref7 (List.range' 248 8) = true := by kernel_rfl
theorem ref7_get {m : Nat} (h0 : 224 ≤ m) (h1 : m < 256) : ref7 m = some () := by
  have h : m ∈ List.range' 224 8 ∨ m ∈ List.range' 232 8 ∨ m ∈ List.range' 240 8 ∨ m ∈ List.range' 248 8 := by simp only [List.mem_range'_1]; omega
  rcases h with h | h | h | h
  · exact allOf_get ref7_c224 h
  · exact allOf_get ref7_c232 h
  · exact allOf_get ref7_c240 h
  · exact allOf_get ref7_c248 h
theorem ref7_ok {m : Nat} (hm : m ∈ List.range' 224 32) : ∃ l, nth decTab m = some l ∧ ∀ w, PureGoes Go.Proofs.Try.prog w 13 [u8A (m : Int)] (formA l) := by
  simp only [List.mem_range'_1] at hm
  have := ref7_get hm.1 (by omega)
  unfold ref7 at this
  split at this
  · rename_i l hl
    exact ⟨l, hl, fun w => pure_of_eval tblR7_ok (fun _ => known_ok knB_ok) (formA_free l) this w⟩
  · simp at this

end Go.Proofs.Ytihngfbkkhneeaa.E
