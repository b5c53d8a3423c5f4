/- Which opcodes are illegal, as a list; so the question is known. Conditions: none. -/
import Derived.Test.YtihngfbkkhneeaaShown
namespace Go.Proofs.Ytihngfbkkhneeaa.E
open Go Go.Ev Go.RowKit
set_option linter.unusedVariables false
set_option linter.unusedSimpArgs false
set_option maxRecDepth 100000
noncomputable def tblI : FuncId → Option Func
  | 16 => some Go.Proofs.Try.f16
  | _ => none
theorem tblI_ok : TblOK Go.Proofs.Try.prog tblI := by
  intro g fn h
  unfold tblI at h
  split at h
  · simp only [Option.some.injEq] at h; subst h; exact ⟨Go.Proofs.Try.func16, by kernel_rfl⟩
  · simp at h

def illF (m : Nat) : Bool := [211, 219, 221, 227, 228, 235, 236, 237, 244, 252, 253].elem m
noncomputable def ill (m : Nat) : Option Unit := evCall Go.Proofs.Try.prog tblI (known knS) 300 4 16 [u8A (m : Int)] [] (isA (boolA (illF m)))
theorem ill_c0 : allOf ill (List.range' 0 256) = true := by kernel_rfl
theorem ill_get {m : Nat} (h0 : 0 ≤ m) (h1 : m < 256) : ill m = some () := allOf_get ill_c0 (by simp only [List.mem_range'_1]; omega)

theorem ill_ok {m : Nat} (hm : m < 256) (w : World) : PureGoes Go.Proofs.Try.prog w 16 [u8A (m : Int)] (boolA (illF m)) := pure_of_eval tblI_ok (fun _ => known_ok knS_ok) rfl (ill_get (Nat.zero_le _) hm) w
/-- the question is known -/
noncomputable def knI {R : Type} (g : FuncId) (args : List AV) (k : KA R) : Option R :=
  if g = 16 then (match args with
    | [.one (.c (.v (.int .u8 (.ofNat m))))] => if m < 256 then k (boolA (illF m)) [] else none
    | _ => none)
  else knS g args k
theorem knI_ok {R : Type} : KnownOK Go.Proofs.Try.prog (knI (R := R)) := by
  intro g args k r h
  unfold knI at h
  split at h
  · rename_i e; subst e
    split at h
    · split at h
      · rename_i hc
        exact ⟨_, _, h, fun w => ill_ok hc w⟩
      · simp at h
    · simp at h
  · exact knS_ok g args k r h

end Go.Proofs.Ytihngfbkkhneeaa.E
