/- What the document says of the opcodes from 192 to 223 is what the table has. Conditions: none. -/
import Derived.Test.YtihngfbkkhneeaaBit
namespace Go.Proofs.Ytihngfbkkhneeaa.E
open Go Go.Ev Go.RowKit
set_option linter.unusedVariables false
set_option linter.unusedSimpArgs false
set_option maxRecDepth 100000
noncomputable def tblR6 : FuncId → Option Func
  | 13 => some Go.Proofs.Try.f13
  | 24 => some Go.Proofs.Try.f24
  | 25 => some Go.Proofs.Try.f25
  | 26 => some Go.Proofs.Try.f26
  | _ => none
theorem tblR6_ok : TblOK Go.Proofs.Try.prog tblR6 := by
  intro g fn h
  unfold tblR6 at h
  split at h
  · simp only [Option.some.injEq] at h; subst h; exact ⟨Go.Proofs.Try.func13, by kernel_rfl⟩
  · simp only [Option.some.injEq] at h; subst h; exact ⟨Go.Proofs.Try.func24, by kernel_rfl⟩
  · simp only [Option.some.injEq] at h; subst h; exact ⟨Go.Proofs.Try.func25, by kernel_rfl⟩
  · simp only [Option.some.injEq] at h; subst h; exact ⟨Go.Proofs.Try.func26, by kernel_rfl⟩
  · simp at h

noncomputable def ref6 (m : Nat) : Option Unit := match nth decTab m with
  | some l => evCall Go.Proofs.Try.prog tblR6 (known knB) 300 4 13 [u8A (m : Int)] [] (isA (formA l))
  | none => none
theorem ref6_c192 : allOf ref6 (List.range' 192 8) = true := by kernel_rfl
theorem ref6_c200 : allOf ref6 (List.range' 200 8) = true := by kernel_rfl
theorem ref6_c208 : allOf ref6 (List.range' 208 8) = true := by kernel_rfl
theorem ref6_c216 : allOf ref6 (List.range' 216 8) = true := by kernel_rfl
theorem ref6_get {m : Nat} (h0 : 192 ≤ m) (h1 : m < 224) : ref6 m = some () := by
  have h : m ∈ List.range' 192 8 ∨ m ∈ List.range' 200 8 ∨ m ∈ List.range' 208 8 ∨ m ∈ List.range' 216 8 := by simp only [List.mem_range'_1]; omega
  rcases h with h | h | h | h
  · exact allOf_get ref6_c192 h
  · exact allOf_get ref6_c200 h
  · exact allOf_get ref6_c208 h
  · exact allOf_get ref6_c216 h
theorem ref6_ok {m : Nat} (hm : m ∈ List.range' 192 32) : ∃ l, nth decTab m = some l ∧ ∀ w, PureGoes Go.Proofs.Try.prog w 13 [u8A (m : Int)] (formA l) := by
  simp only [List.mem_range'_1] at hm
  have := ref6_get hm.1 (by omega)
  unfold ref6 at this
  split at this
  · rename_i l hl
    exact ⟨l, hl, fun w => pure_of_eval tblR6_ok (fun _ => known_ok knB_ok) (formA_free l) this w⟩
  · simp at this

end Go.Proofs.Ytihngfbkkhneeaa.E
