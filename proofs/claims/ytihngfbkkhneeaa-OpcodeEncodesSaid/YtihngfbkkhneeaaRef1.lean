/- What the document says of the opcodes from 128 to 255 is what the table has. Conditions: none. -/
import Derived.Test.YtihngfbkkhneeaaFits
namespace Go.Proofs.Ytihngfbkkhneeaa.E
open Go Go.Ev Go.RowKit
set_option linter.unusedVariables false
set_option linter.unusedSimpArgs false
set_option maxRecDepth 100000
noncomputable def tblR1 : FuncId → Option Func
  | 13 => some Go.Proofs.Try.f13
  | 24 => some Go.Proofs.Try.f24
  | 26 => some Go.Proofs.Try.f26
  | _ => none
theorem tblR1_ok : TblOK Go.Proofs.Try.prog tblR1 := by
  intro g fn h
  unfold tblR1 at h
  split at h
  · simp only [Option.some.injEq] at h; subst h; exact ⟨Go.Proofs.Try.func13, by kernel_rfl⟩
  · simp only [Option.some.injEq] at h; subst h; exact ⟨Go.Proofs.Try.func24, by kernel_rfl⟩
  · simp only [Option.some.injEq] at h; subst h; exact ⟨Go.Proofs.Try.func26, by kernel_rfl⟩
  · simp at h

noncomputable def ref1 (m : Nat) : Option Unit := match nth decTab m with
  | some l => evCall Go.Proofs.Try.prog tblR1 (known knF) 300 4 13 [u8A (m : Int)] [] (isA (formA l))
  | none => none
theorem ref1_c128 : allOf ref1 (List.range' 128 16) = true := by kernel_rfl
theorem ref1_c144 : allOf ref1 (List.range' 144 16) = true := by kernel_rfl
theorem ref1_c160 : allOf ref1 (List.range' 160 16) = true := by kernel_rfl
theorem ref1_c176 : allOf ref1 (List.range' 176 16) = true := by kernel_rfl
theorem ref1_c192 : allOf ref1 (List.range' 192 16) = true := by kernel_rfl
theorem ref1_c208 : allOf ref1 (List.range' 208 16) = true := by kernel_rfl
theorem ref1_c224 : allOf ref1 (List.range' 224 16) = true := by kernel_rfl
theorem ref1_c240 : allOf ref1 (List.range' 240 16) = true := by kernel_rfl
theorem ref1_get {m : Nat} (h0 : 128 ≤ m) (h1 : m < 256) : ref1 m = some () := by
  have h : m ∈ List.range' 128 16 ∨ m ∈ List.range' 144 16 ∨ m ∈ List.range' 160 16 ∨ m ∈ List.range' 176 16 ∨ m ∈ List.range' 192 16 ∨ m ∈ List.range' 208 16 ∨ m ∈ List.range' 224 16 ∨ m ∈ List.range' 240 16 := by simp only [List.mem_range'_1]; omega
  rcases h with h | h | h | h | h | h | h | h
  · exact allOf_get ref1_c128 h
  · exact allOf_get ref1_c144 h
  · exact allOf_get ref1_c160 h
  · exact allOf_get ref1_c176 h
  · exact allOf_get ref1_c192 h
  · exact allOf_get ref1_c208 h
  · exact allOf_get ref1_c224 h
  · exact allOf_get ref1_c240 h

end Go.Proofs.Ytihngfbkkhneeaa.E
