/- What the document says of the opcodes from 128 to 159 is what the table has. Conditions: none. -/
import Derived.Test.YtihngfbkkhneeaaBit
namespace Go.Proofs.Ytihngfbkkhneeaa.E
open Go Go.Ev Go.RowKit
set_option linter.unusedVariables false
set_option linter.unusedSimpArgs false
set_option maxRecDepth 100000
noncomputable def tblR4 : FuncId → Option Func
  | 13 => some Go.Proofs.Try.f13
  | 24 => some Go.Proofs.Try.f24
  | 25 => some Go.Proofs.Try.f25
  | 26 => some Go.Proofs.Try.f26
  | _ => none
theorem tblR4_ok : TblOK Go.Proofs.Try.prog tblR4 := by
  intro g fn h
  unfold tblR4 at h
  split at h
  · simp only [Option.some.injEq] at h; subst h; exact ⟨Go.Proofs.Try.func13, by kernel_rfl⟩
  · simp only [Option.some.injEq] at h; subst h; exact ⟨Go.Proofs.Try.func24, by kernel_rfl⟩
  · simp only [Option.some.injEq] at h; subst h; exact ⟨Go.Proofs.Try.func25, by kernel_rfl⟩
  · simp only [Option.some.injEq] at h; subst h; exact ⟨Go.Proofs.Try.func26, by kernel_rfl⟩
  · simp at h

noncomputable def ref4 (m : Nat) : Option Unit := match nth decTab m with
  | some l => evCall Go.Proofs.Try.prog tblR4 (known knB) 300 4 13 [u8A (m : Int)] [] (isA (formA l))
  | none => none
theorem ref4_c128 : allOf ref4 (List.range' 128 8) = true := by kernel_rfl
theorem ref4_c136 : allOf ref4 (List.range' 136 8) = true := by kernel_rfl
theorem ref4_c144 : allOf ref4 (List.range' 144 8) = true := by kernel_rfl
theorem ref4_c152 : allOf ref4 (List.range' 152 8) = true := by kernel_rfl
theorem ref4_get {m : Nat} (h0 : 128 ≤ m) (h1 : m < 160) : ref4 m = some () := by
  have h : m ∈ List.range' 128 8 ∨ m ∈ List.range' 136 8 ∨ m ∈ List.range' 144 8 ∨ m ∈ List.range' 152 8 := by simp only [List.mem_range'_1]; omega
  rcases h with h | h | h | h
  · exact allOf_get ref4_c128 h
  · exact allOf_get ref4_c136 h
  · exact allOf_get ref4_c144 h
  · exact allOf_get ref4_c152 h
theorem ref4_ok {m : Nat} (hm : m ∈ List.range' 128 32) : ∃ l, nth decTab m = some l ∧ ∀ w, PureGoes Go.Proofs.Try.prog w 13 [u8A (m : Int)] (formA l) := by
  simp only [List.mem_range'_1] at hm
  have := ref4_get hm.1 (by omega)
  unfold ref4 at this
  split at this
  · rename_i l hl
    exact ⟨l, hl, fun w => pure_of_eval tblR4_ok (fun _ => known_ok knB_ok) (formA_free l) this w⟩
  · simp at this

end Go.Proofs.Ytihngfbkkhneeaa.E
