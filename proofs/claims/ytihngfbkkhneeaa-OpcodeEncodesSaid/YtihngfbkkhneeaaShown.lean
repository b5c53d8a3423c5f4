/- The document's examples hold. Conditions: none. -/
import Derived.Test.YtihngfbkkhneeaaDec
namespace Go.Proofs.Ytihngfbkkhneeaa.E
open Go Go.Ev Go.RowKit
set_option linter.unusedVariables false
set_option linter.unusedSimpArgs false
set_option maxRecDepth 100000
noncomputable def tblS : FuncId → Option Func
  | 11 => some Go.Proofs.Try.f11
  | 16 => some Go.Proofs.Try.f16
  | _ => none
theorem tblS_ok : TblOK Go.Proofs.Try.prog tblS := by
  intro g fn h
  unfold tblS at h
  split at h
  · simp only [Option.some.injEq] at h; subst h; exact ⟨Go.Proofs.Try.func11, by kernel_rfl⟩
  · simp only [Option.some.injEq] at h; subst h; exact ⟨Go.Proofs.Try.func16, by kernel_rfl⟩
  · simp at h

theorem shown_ok (w : World) : PureGoes Go.Proofs.Try.prog w 11 [] (boolA true) :=
  pure_of_eval (orc := known knD) tblS_ok (fun _ => known_ok knD_ok) (n := 300) (d := 12) rfl (by kernel_rfl) w
/-- the examples are known, too -/
noncomputable def knS {R : Type} (g : FuncId) (args : List AV) (k : KA R) : Option R :=
  if g = 11 then (match args with | [] => k (boolA true) [] | _ => none) else knD g args k
theorem knS_ok {R : Type} : KnownOK Go.Proofs.Try.prog (knS (R := R)) := by
  intro g args k r h
  unfold knS at h
  split at h
  · rename_i e; subst e
    split at h
    · exact ⟨_, _, h, shown_ok⟩
    · simp at h
  · exact knD_ok g args k r h

end Go.Proofs.Ytihngfbkkhneeaa.E
