/- Functions of the program as plain Lean, and what they come to. Conditions: none. -/
import Derived.Test.YtfpepeembbpncaaEwD
import Derived.Test.YtfpepeembbpncaaRa
open Go Go.Ew
namespace Go.Proofs.Ytfpepeembbpncaa.E
set_option linter.unusedVariables false
set_option maxRecDepth 100000
/-! the examples -/
noncomputable def tblS : FuncId → Option Func
 | 10 => some Try.f10
 | 12 => some Try.f12
 | 14 => some Try.f14
 | 16 => some Try.f16
 | 18 => some Try.f18
 | 22 => some Try.f22
 | 23 => some Try.f23
 | 26 => some Try.f26
 | _ => none
theorem tblS_ok : TblOK Try.prog tblS := by
 intro g fn h
 unfold tblS at h
 split at h
 ·simp only [Option.some.injEq] at h; subst h; exact ⟨Try.func10, by kernel_rfl⟩
 ·simp only [Option.some.injEq] at h; subst h; exact ⟨Try.func12, by kernel_rfl⟩
 ·simp only [Option.some.injEq] at h; subst h; exact ⟨Try.func14, by kernel_rfl⟩
 ·simp only [Option.some.injEq] at h; subst h; exact ⟨Try.func16, by kernel_rfl⟩
 ·simp only [Option.some.injEq] at h; subst h; exact ⟨Try.func18, by kernel_rfl⟩
 ·simp only [Option.some.injEq] at h; subst h; exact ⟨Try.func22, by kernel_rfl⟩
 ·simp only [Option.some.injEq] at h; subst h; exact ⟨Try.func23, by kernel_rfl⟩
 ·simp only [Option.some.injEq] at h; subst h; exact ⟨Try.func26, by kernel_rfl⟩
 ·simp at h
@[reducible] def law16_shown.as : List Shp := []
@[reducible] def law16_shown.rs : List Shp := [.k .b]
noncomputable def law16_shown.F : Unit → Option (Bool × Unit) := fun _ => some (true, ())
theorem law16_shown.ok : PureOK Try.prog 10 law16_shown.as law16_shown.rs law16_shown.F :=
 fn_gen tblS_ok (ks := []) (ls := []) (n := 300) (d := 12) (by rfl) (fun x => by kernel_rfl)
end Go.Proofs.Ytfpepeembbpncaa.E
