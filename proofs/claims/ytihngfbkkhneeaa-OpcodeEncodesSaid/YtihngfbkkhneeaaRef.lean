/- What the document says of each opcode is what the table has; so its two readers may be taken as known. Conditions: none. -/
import Derived.Test.YtihngfbkkhneeaaRef0
import Derived.Test.YtihngfbkkhneeaaRef1
namespace Go.Proofs.Ytihngfbkkhneeaa.E
open Go Go.Ev Go.RowKit
set_option linter.unusedVariables false
set_option linter.unusedSimpArgs false
set_option maxRecDepth 100000
noncomputable def tblC : FuncId → Option Func
  | 15 => some Go.Proofs.Try.f15
  | _ => none
theorem tblC_ok : TblOK Go.Proofs.Try.prog tblC := by
  intro g fn h
  unfold tblC at h
  split at h
  · simp only [Option.some.injEq] at h; subst h; exact ⟨Go.Proofs.Try.func15, by kernel_rfl⟩
  · simp at h

noncomputable def refcb (m : Nat) : Option Unit := match nth cbTab m with
  | some l => evCall Go.Proofs.Try.prog tblC (known knF) 300 4 15 [u8A (m : Int)] [] (isA (formA l))
  | none => none
theorem refcb_c0 : allOf refcb (List.range' 0 64) = true := by kernel_rfl
theorem refcb_c64 : allOf refcb (List.range' 64 64) = true := by kernel_rfl
theorem refcb_c128 : allOf refcb (List.range' 128 64) = true := by kernel_rfl
theorem refcb_c192 : allOf refcb (List.range' 192 64) = true := by kernel_rfl
theorem refcb_get {m : Nat} (h0 : 0 ≤ m) (h1 : m < 256) : refcb m = some () := by
  have h : m ∈ List.range' 0 64 ∨ m ∈ List.range' 64 64 ∨ m ∈ List.range' 128 64 ∨ m ∈ List.range' 192 64 := by simp only [List.mem_range'_1]; omega
  rcases h with h | h | h | h
  · exact allOf_get refcb_c0 h
  · exact allOf_get refcb_c64 h
  · exact allOf_get refcb_c128 h
  · exact allOf_get refcb_c192 h
theorem ref_ok {m : Nat} (hm : m < 256) : ∃ l, nth decTab m = some l ∧ ∀ w, PureGoes Go.Proofs.Try.prog w 13 [u8A (m : Int)] (formA l) := by
  rcases Nat.lt_or_ge m 128 with h | h
  · exact tab_of tblR0_ok (fun _ => known_ok knF_ok) (ref0_get (Nat.zero_le _) h)
  · exact tab_of tblR1_ok (fun _ => known_ok knF_ok) (ref1_get h hm)
theorem refcb_ok {m : Nat} (hm : m < 256) : ∃ l, nth cbTab m = some l ∧ ∀ w, PureGoes Go.Proofs.Try.prog w 15 [u8A (m : Int)] (formA l) := tab_of tblC_ok (fun _ => known_ok knF_ok) (refcb_get (Nat.zero_le _) hm)
/-- the document's readers are known, too -/
noncomputable def knR {R : Type} (g : FuncId) (args : List AV) (k : KA R) : Option R := if g = 13 then ask decTab args k else if g = 15 then ask cbTab args k else knF g args k
theorem knR_ok {R : Type} : KnownOK Go.Proofs.Try.prog (knR (R := R)) := by
  intro g args k r h
  unfold knR at h
  split at h
  · rename_i e; subst e; exact ask_ok ref_ok h
  · split at h
    · rename_i e; subst e; exact ask_ok refcb_ok h
    · exact knF_ok g args k r h

end Go.Proofs.Ytihngfbkkhneeaa.E
