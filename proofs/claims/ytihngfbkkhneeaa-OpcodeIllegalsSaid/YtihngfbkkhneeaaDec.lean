/- What the program says of each opcode is what the tables have; so both may be taken as known. Conditions: none. -/
import Derived.Test.YtihngfbkkhneeaaDec0
import Derived.Test.YtihngfbkkhneeaaDec1
import Derived.Test.YtihngfbkkhneeaaDec2
import Derived.Test.YtihngfbkkhneeaaDec3
namespace Go.Proofs.Ytihngfbkkhneeaa.E
open Go Go.Ev Go.RowKit
set_option linter.unusedVariables false
set_option linter.unusedSimpArgs false
set_option maxRecDepth 100000

theorem dec_ok {m : Nat} (hm : m < 256) : ∃ l, nth decTab m = some l ∧ ∀ w, PureGoes Go.Proofs.Try.prog w 12 [u8A (m : Int)] (formA l) := by
  rcases mem_range4 hm with h | h | h | h
  · exact dec0_ok h
  · exact dec1_ok h
  · exact dec2_ok h
  · exact dec3_ok h
theorem cb_ok {m : Nat} (hm : m < 256) : ∃ l, nth cbTab m = some l ∧ ∀ w, PureGoes Go.Proofs.Try.prog w 14 [u8A (m : Int)] (formA l) := by
  rcases mem_range4 hm with h | h | h | h
  · exact cb0_ok h
  · exact cb1_ok h
  · exact cb2_ok h
  · exact cb3_ok h
/-- a table asked -/
noncomputable def ask {R : Type} (tab : List (List Int)) (args : List AV) (k : KA R) : Option R :=
  match args with
  | [.one (.c (.v (.int .u8 (.ofNat m))))] => match nth tab m with
    | some l => if m < 256 then k (formA l) [] else none
    | none => none
  | _ => none
theorem ask_ok {R : Type} {g : FuncId} {tab : List (List Int)} (ht : ∀ {m : Nat}, m < 256 → ∃ l, nth tab m = some l ∧ ∀ w, PureGoes Go.Proofs.Try.prog w g [u8A (m : Int)] (formA l)) {args : List AV} {k : KA R} {r : R} (h : ask tab args k = some r) :
    ∃ v h, k v h = some r ∧ ∀ w, PureGoes Go.Proofs.Try.prog w g args v := by
  unfold ask at h
  split at h
  · rename_i m
    split at h
    · rename_i l hl
      split at h
      · rename_i hm
        obtain ⟨l', hl', hgo⟩ := ht hm
        rw [hl] at hl'; simp only [Option.some.injEq] at hl'; subst hl'
        exact ⟨_, _, h, hgo⟩
      · simp at h
    · simp at h
  · simp at h
/-- the two readers are known -/
noncomputable def knD {R : Type} (g : FuncId) (args : List AV) (k : KA R) : Option R :=
  if g = 12 then ask decTab args k else if g = 14 then ask cbTab args k else none
theorem knD_ok {R : Type} : KnownOK Go.Proofs.Try.prog (knD (R := R)) := by
  intro g args k r h
  unfold knD at h
  split at h
  · rename_i e; subst e; exact ask_ok dec_ok h
  · split at h
    · rename_i e; subst e; exact ask_ok cb_ok h
    · simp at h

end Go.Proofs.Ytihngfbkkhneeaa.E
