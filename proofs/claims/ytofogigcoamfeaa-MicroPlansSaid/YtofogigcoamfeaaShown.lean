/- The document's examples hold. Conditions: none. -/
import Derived.Test.YtofogigcoamfeaaDec
namespace Go.Proofs.Ytofogigcoamfeaa.E
open Go Go.Ev Go.RowKit
set_option linter.unusedVariables false
set_option linter.unusedSimpArgs false
set_option maxRecDepth 100000
noncomputable def tblS : FuncId → Option Func
  | 8 => some Go.Proofs.Try.f8
  | 16 => some Go.Proofs.Try.f16
  | 27 => some Go.Proofs.Try.f27
  | 28 => some Go.Proofs.Try.f28
  | 29 => some Go.Proofs.Try.f29
  | 30 => some Go.Proofs.Try.f30
  | 31 => some Go.Proofs.Try.f31
  | 32 => some Go.Proofs.Try.f32
  | 17 => some Go.Proofs.Try.f17
  | 33 => some Go.Proofs.Try.f33
  | 18 => some Go.Proofs.Try.f18
  | 34 => some Go.Proofs.Try.f34
  | 35 => some Go.Proofs.Try.f35
  | 19 => some Go.Proofs.Try.f19
  | 10 => some Go.Proofs.Try.f10
  | _ => none
theorem tblS_ok : TblOK Go.Proofs.Try.prog tblS := by
  intro g fn h
  unfold tblS at h
  split at h
  · simp only [Option.some.injEq] at h; subst h; exact ⟨Go.Proofs.Try.func8, by kernel_rfl⟩
  · simp only [Option.some.injEq] at h; subst h; exact ⟨Go.Proofs.Try.func16, by kernel_rfl⟩
  · simp only [Option.some.injEq] at h; subst h; exact ⟨Go.Proofs.Try.func27, by kernel_rfl⟩
  · simp only [Option.some.injEq] at h; subst h; exact ⟨Go.Proofs.Try.func28, by kernel_rfl⟩
  · simp only [Option.some.injEq] at h; subst h; exact ⟨Go.Proofs.Try.func29, by kernel_rfl⟩
  · simp only [Option.some.injEq] at h; subst h; exact ⟨Go.Proofs.Try.func30, by kernel_rfl⟩
  · simp only [Option.some.injEq] at h; subst h; exact ⟨Go.Proofs.Try.func31, by kernel_rfl⟩
  · simp only [Option.some.injEq] at h; subst h; exact ⟨Go.Proofs.Try.func32, by kernel_rfl⟩
  · simp only [Option.some.injEq] at h; subst h; exact ⟨Go.Proofs.Try.func17, by kernel_rfl⟩
  · simp only [Option.some.injEq] at h; subst h; exact ⟨Go.Proofs.Try.func33, by kernel_rfl⟩
  · simp only [Option.some.injEq] at h; subst h; exact ⟨Go.Proofs.Try.func18, by kernel_rfl⟩
  · simp only [Option.some.injEq] at h; subst h; exact ⟨Go.Proofs.Try.func34, by kernel_rfl⟩
  · simp only [Option.some.injEq] at h; subst h; exact ⟨Go.Proofs.Try.func35, by kernel_rfl⟩
  · simp only [Option.some.injEq] at h; subst h; exact ⟨Go.Proofs.Try.func19, by kernel_rfl⟩
  · simp only [Option.some.injEq] at h; subst h; exact ⟨Go.Proofs.Try.func10, by kernel_rfl⟩
  · simp at h

theorem shown_ok (w : World) : PureGoes Go.Proofs.Try.prog w 8 [] (boolA true) :=
  pure_of_eval (orc := known knD) tblS_ok (fun _ => known_ok knD_ok) (n := 300) (d := 12) rfl (by kernel_rfl) w
/-- the examples are known, too -/
noncomputable def knS {R : Type} (g : FuncId) (args : List AV) (k : KA R) : Option R :=
  if g = 8 then (match args with | [] => k (boolA true) [] | _ => none) else knD g args k
theorem knS_ok {R : Type} : KnownOK Go.Proofs.Try.prog (knS (R := R)) := by
  intro g args k r h
  unfold knS at h
  split at h
  · rename_i e; subst e
    split at h
    · exact ⟨_, _, h, shown_ok⟩
    · simp at h
  · exact knD_ok g args k r h

end Go.Proofs.Ytofogigcoamfeaa.E
