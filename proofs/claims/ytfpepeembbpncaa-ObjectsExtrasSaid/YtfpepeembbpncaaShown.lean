/- The document's examples hold. Conditions: none. -/
import Derived.Test.YtfpepeembbpncaaEvD
import Derived.Test.YtfpepeembbpncaaProg
namespace Go.Proofs.Ytfpepeembbpncaa.E
open Go Go.Ev Go.RowKit
set_option linter.unusedVariables false
set_option linter.unusedSimpArgs false
set_option maxRecDepth 100000
noncomputable def tblS : FuncId → Option Func
  | 10 => some Go.Proofs.Try.f10
  | 26 => some Go.Proofs.Try.f26
  | 23 => some Go.Proofs.Try.f23
  | 12 => some Go.Proofs.Try.f12
  | 22 => some Go.Proofs.Try.f22
  | 14 => some Go.Proofs.Try.f14
  | 16 => some Go.Proofs.Try.f16
  | 18 => some Go.Proofs.Try.f18
  | _ => none
theorem tblS_ok : TblOK Go.Proofs.Try.prog tblS := by
  intro g fn h
  unfold tblS at h
  split at h
  · simp only [Option.some.injEq] at h; subst h; exact ⟨Go.Proofs.Try.func10, by kernel_rfl⟩
  · simp only [Option.some.injEq] at h; subst h; exact ⟨Go.Proofs.Try.func26, by kernel_rfl⟩
  · simp only [Option.some.injEq] at h; subst h; exact ⟨Go.Proofs.Try.func23, by kernel_rfl⟩
  · simp only [Option.some.injEq] at h; subst h; exact ⟨Go.Proofs.Try.func12, by kernel_rfl⟩
  · simp only [Option.some.injEq] at h; subst h; exact ⟨Go.Proofs.Try.func22, by kernel_rfl⟩
  · simp only [Option.some.injEq] at h; subst h; exact ⟨Go.Proofs.Try.func14, by kernel_rfl⟩
  · simp only [Option.some.injEq] at h; subst h; exact ⟨Go.Proofs.Try.func16, by kernel_rfl⟩
  · simp only [Option.some.injEq] at h; subst h; exact ⟨Go.Proofs.Try.func18, by kernel_rfl⟩
  · simp at h

theorem shown_ok (w : World) : PureGoes Go.Proofs.Try.prog w 10 [] (boolA true) :=
  pure_of_eval (orc := fun _ _ _ _ => none) tblS_ok (fun _ => callOK_none) (n := 300) (d := 12) rfl (by kernel_rfl) w

end Go.Proofs.Ytfpepeembbpncaa.E
