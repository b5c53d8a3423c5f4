/- What the program says of each opcode is what the tables have; so its two readers may be taken as known. Conditions: none. -/
import Derived.Test.YtihngfbkkhneeaaTab
namespace Go.Proofs.Ytihngfbkkhneeaa.E
open Go Go.Ev Go.RowKit
set_option linter.unusedVariables false
set_option linter.unusedSimpArgs false
set_option maxRecDepth 100000
noncomputable def tblP : FuncId → Option Func
  | 20 => some Go.Proofs.Try.f20
  | 21 => some Go.Proofs.Try.f21
  | 22 => some Go.Proofs.Try.f22
  | 28 => some Go.Proofs.Try.f28
  | 27 => some Go.Proofs.Try.f27
  | 23 => some Go.Proofs.Try.f23
  | 29 => some Go.Proofs.Try.f29
  | 12 => some Go.Proofs.Try.f12
  | 14 => some Go.Proofs.Try.f14
  | _ => none
theorem tblP_ok : TblOK Go.Proofs.Try.prog tblP := by
  intro g fn h
  unfold tblP at h
  split at h
  · simp only [Option.some.injEq] at h; subst h; exact ⟨Go.Proofs.Try.func20, by kernel_rfl⟩
  · simp only [Option.some.injEq] at h; subst h; exact ⟨Go.Proofs.Try.func21, by kernel_rfl⟩
  · simp only [Option.some.injEq] at h; subst h; exact ⟨Go.Proofs.Try.func22, by kernel_rfl⟩
  · simp only [Option.some.injEq] at h; subst h; exact ⟨Go.Proofs.Try.func28, by kernel_rfl⟩
  · simp only [Option.some.injEq] at h; subst h; exact ⟨Go.Proofs.Try.func27, by kernel_rfl⟩
  · simp only [Option.some.injEq] at h; subst h; exact ⟨Go.Proofs.Try.func23, by kernel_rfl⟩
  · simp only [Option.some.injEq] at h; subst h; exact ⟨Go.Proofs.Try.func29, by kernel_rfl⟩
  · simp only [Option.some.injEq] at h; subst h; exact ⟨Go.Proofs.Try.func12, by kernel_rfl⟩
  · simp only [Option.some.injEq] at h; subst h; exact ⟨Go.Proofs.Try.func14, by kernel_rfl⟩
  · simp at h

noncomputable def dec (m : Nat) : Option Unit := match nth decTab m with
  | some l => evCall Go.Proofs.Try.prog tblP (fun _ _ _ (_ : KA Unit) => none) 300 4 12 [u8A (m : Int)] [] (isA (formA l))
  | none => none
noncomputable def cb (m : Nat) : Option Unit := match nth cbTab m with
  | some l => evCall Go.Proofs.Try.prog tblP (fun _ _ _ (_ : KA Unit) => none) 300 4 14 [u8A (m : Int)] [] (isA (formA l))
  | none => none
theorem dec_c0 : allOf dec (List.range' 0 64) = true := by kernel_rfl
theorem dec_c64 : allOf dec (List.range' 64 64) = true := by kernel_rfl
theorem dec_c128 : allOf dec (List.range' 128 64) = true := by kernel_rfl
theorem dec_c192 : allOf dec (List.range' 192 64) = true := by kernel_rfl
theorem dec_get {m : Nat} (h0 : 0 ≤ m) (h1 : m < 256) : dec m = some () := by
  have h : m ∈ List.range' 0 64 ∨ m ∈ List.range' 64 64 ∨ m ∈ List.range' 128 64 ∨ m ∈ List.range' 192 64 := by simp only [List.mem_range'_1]; omega
  rcases h with h | h | h | h
  · exact allOf_get dec_c0 h
  · exact allOf_get dec_c64 h
  · exact allOf_get dec_c128 h
  · exact allOf_get dec_c192 h
theorem cb_c0 : allOf cb (List.range' 0 64) = true := by kernel_rfl
theorem cb_c64 : allOf cb (List.range' 64 64) = true := by kernel_rfl
theorem cb_c128 : allOf cb (List.range' 128 64) = true := by kernel_rfl
theorem cb_c192 : allOf cb (List.range' 192 64) = true := by kernel_rfl
theorem cb_get {m : Nat} (h0 : 0 ≤ m) (h1 : m < 256) : cb m = some () := by
  have h : m ∈ List.range' 0 64 ∨ m ∈ List.range' 64 64 ∨ m ∈ List.range' 128 64 ∨ m ∈ List.range' 192 64 := by simp only [List.mem_range'_1]; omega
  rcases h with h | h | h | h
  · exact allOf_get cb_c0 h
  · exact allOf_get cb_c64 h
  · exact allOf_get cb_c128 h
  · exact allOf_get cb_c192 h
theorem dec_ok {m : Nat} (hm : m < 256) : ∃ l, nth decTab m = some l ∧ ∀ w, PureGoes Go.Proofs.Try.prog w 12 [u8A (m : Int)] (formA l) := tab_of tblP_ok (fun _ => callOK_none) (dec_get (Nat.zero_le _) hm)
theorem cb_ok {m : Nat} (hm : m < 256) : ∃ l, nth cbTab m = some l ∧ ∀ w, PureGoes Go.Proofs.Try.prog w 14 [u8A (m : Int)] (formA l) := tab_of tblP_ok (fun _ => callOK_none) (cb_get (Nat.zero_le _) hm)
/-- the two readers are known -/
noncomputable def knD {R : Type} (g : FuncId) (args : List AV) (k : KA R) : Option R :=
  if g = 12 then ask decTab args k else if g = 14 then ask cbTab args k else none
theorem knD_ok {R : Type} : KnownOK Go.Proofs.Try.prog (knD (R := R)) := by
  intro g args k r h
  unfold knD at h
  split at h
  · rename_i e; subst e; exact ask_ok dec_ok h
  · split at h
    · rename_i e; subst e; exact ask_ok cb_ok h
    · simp at h

end Go.Proofs.Ytihngfbkkhneeaa.E
