/- The law OpcodeEncodes comes to true at each form. Conditions: none. -/
import Derived.Test.YtihngfbkkhneeaaEncRef
namespace Go.Proofs.Ytihngfbkkhneeaa.E
open Go Go.Ev Go.RowKit
set_option linter.unusedVariables false
set_option linter.unusedSimpArgs false
set_option maxRecDepth 100000
noncomputable def tblL : FuncId → Option Func
  | 9 => some Go.Proofs.Try.f9
  | _ => none
theorem tblL_ok : TblOK Go.Proofs.Try.prog tblL := by
  intro g fn h
  unfold tblL at h
  split at h
  · simp only [Option.some.injEq] at h; subst h; exact ⟨Go.Proofs.Try.func9, by kernel_rfl⟩
  · simp at h

noncomputable def knEE (EP : Int → Int → Int → Int → Int → Int → Nat × Bool × Nat) {R : Type} (g : FuncId) (args : List AV) (k : KA R) : Option R :=
  if g = 18 then (match args with
    | [.one (.agg [.v (.int .i64 a), .v (.int .i64 x), .v (.int .i64 y), .v (.int .i64 b), .v (.int .i64 c), .v (.int .i64 t)])] => k (resA (EP a x y b c t)) []
    | _ => none)
  else if g = 19 then (match args with
    | [.one (.agg [.v (.int .i64 a), .v (.int .i64 x), .v (.int .i64 y), .v (.int .i64 b), .v (.int .i64 c), .v (.int .i64 t)])] => k (resA (EP a x y b c t)) []
    | _ => none)
  else knS g args k
theorem knEE_ok {R : Type} : KnownOK Go.Proofs.Try.prog (knEE encP (R := R)) := by
  intro g args k r h
  unfold knEE at h
  split at h
  · rename_i e; subst e
    split at h
    · exact ⟨_, _, h, fun w => enc_ok _ _ _ _ _ _ w⟩
    · simp at h
  split at h
  · rename_i e; subst e
    split at h
    · exact ⟨_, _, h, fun w => refenc_ok _ _ _ _ _ _ w⟩
    · simp at h
  · exact knS_ok g args k r h
def eeR (p : Nat × Bool × Nat) : Option Unit := if (((.ofNat p.1 : Int) == (.ofNat p.1 : Int)) == true) = true then (if ((p.2.1 == p.2.1) == true) = true then (if ((.ofNat p.2.2 : Int) == (.ofNat p.2.2 : Int)) = true then some () else none) else none) else none
theorem ee_eq (EP : Int → Int → Int → Int → Int → Int → Nat × Bool × Nat) (k x y b c t : Int) : evCall Go.Proofs.Try.prog tblL (known (knEE EP)) 300 3 9 [formA [k, x, y, b, c, t]] [] isTrue = eeR (EP k x y b c t) := by kernel_rfl
theorem opcodeEncodes_walk (k x y b c t : Int) (w : World) (h0 : (Lit.int .i64 k).wf = true) (h1 : (Lit.int .i64 x).wf = true) (h2 : (Lit.int .i64 y).wf = true) (h3 : (Lit.int .i64 b).wf = true) (h4 : (Lit.int .i64 c).wf = true) (h5 : (Lit.int .i64 t).wf = true) :
    Calls Go.Proofs.Try.prog 9 #[.agg #[.int .i64 k, .int .i64 x, .int .i64 y, .int .i64 b, .int .i64 c, .int .i64 t]] w fun e w' => e = .returned (.bool true) ∧ Below w.heap.size w w' := by
  refine law_of (n := 300) (d := 3) tblL_ok (known_ok knEE_ok) (args := [formA [k, x, y, b, c, t]]) ?_ ⟨⟨[.int .i64 k, .int .i64 x, .int .i64 y, .int .i64 b, .int .i64 c, .int .i64 t], ⟨⟨rfl, rfl⟩, ⟨rfl, rfl⟩, ⟨rfl, rfl⟩, ⟨rfl, rfl⟩, ⟨rfl, rfl⟩, ⟨rfl, rfl⟩, trivial⟩, rfl⟩, trivial⟩
  rw [ee_eq]
  unfold eeR
  rw [if_pos (by simp), if_pos (by simp), if_pos (by simp)]

end Go.Proofs.Ytihngfbkkhneeaa.E
