/- What the document says of the opcodes from 0 to 127 is what the table has. Conditions: none. -/
import Derived.Test.YtihngfbkkhneeaaFits
namespace Go.Proofs.Ytihngfbkkhneeaa.E
open Go Go.Ev Go.RowKit
set_option linter.unusedVariables false
set_option linter.unusedSimpArgs false
set_option maxRecDepth 100000
noncomputable def tblR0 : FuncId → Option Func
  | 13 => some Go.Proofs.Try.f13
  | 24 => some Go.Proofs.Try.f24
  | 26 => some Go.Proofs.Try.f26
  | _ => none
theorem tblR0_ok : TblOK Go.Proofs.Try.prog tblR0 := by
  intro g fn h
  unfold tblR0 at h
  split at h
  · simp only [Option.some.injEq] at h; subst h; exact ⟨Go.Proofs.Try.func13, by kernel_rfl⟩
  · simp only [Option.some.injEq] at h; subst h; exact ⟨Go.Proofs.Try.func24, by kernel_rfl⟩
  · simp only [Option.some.injEq] at h; subst h; exact ⟨Go.Proofs.Try.func26, by kernel_rfl⟩
  · simp at h

noncomputable def ref0 (m : Nat) : Option Unit := match nth decTab m with
  | some l => evCall Go.Proofs.Try.prog tblR0 (known knF) 300 4 13 [u8A (m : Int)] [] (isA (formA l))
  | none => none
theorem ref0_c0 : allOf ref0 (List.range' 0 16) = true := by kernel_rfl
theorem ref0_c16 : allOf ref0 (List.range' 16 16) = true := by kernel_rfl
theorem ref0_c32 : allOf ref0 (List.range' 32 16) = true := by kernel_rfl
theorem ref0_c48 : allOf ref0 (List.range' 48 16) = true := by kernel_rfl
theorem ref0_c64 : allOf ref0 (List.range' 64 16) = true := by kernel_rfl
theorem ref0_c80 : allOf ref0 (List.range' 80 16) = true := by kernel_rfl
theorem ref0_c96 : allOf ref0 (List.range' 96 16) = true := by kernel_rfl
theorem ref0_c112 : allOf ref0 (List.range' 112 16) = true := by kernel_rfl
theorem ref0_get {m : Nat} (h0 : 0 ≤ m) (h1 : m < 128) : ref0 m = some () := by
  have h : m ∈ List.range' 0 16 ∨ m ∈ List.range' 16 16 ∨ m ∈ List.range' 32 16 ∨ m ∈ List.range' 48 16 ∨ m ∈ List.range' 64 16 ∨ m ∈ List.range' 80 16 ∨ m ∈ List.range' 96 16 ∨ m ∈ List.range' 112 16 := by simp only [List.mem_range'_1]; omega
  rcases h with h | h | h | h | h | h | h | h
  · exact allOf_get ref0_c0 h
  · exact allOf_get ref0_c16 h
  · exact allOf_get ref0_c32 h
  · exact allOf_get ref0_c48 h
  · exact allOf_get ref0_c64 h
  · exact allOf_get ref0_c80 h
  · exact allOf_get ref0_c96 h
  · exact allOf_get ref0_c112 h

end Go.Proofs.Ytihngfbkkhneeaa.E
