/- The law OpcodeTimes comes to true at each opcode. Conditions: none. -/
import Derived.Test.YtihngfbkkhneeaaShown
namespace Go.Proofs.Ytihngfbkkhneeaa.E
open Go Go.Ev Go.RowKit
set_option linter.unusedVariables false
set_option linter.unusedSimpArgs false
set_option maxRecDepth 100000
noncomputable def tblL : FuncId → Option Func
  | 6 => some Go.Proofs.Try.f6
  | _ => none
theorem tblL_ok : TblOK Go.Proofs.Try.prog tblL := by
  intro g fn h
  unfold tblL at h
  split at h
  · simp only [Option.some.injEq] at h; subst h; exact ⟨Go.Proofs.Try.func6, by kernel_rfl⟩
  · simp at h

noncomputable def law (m : Nat) : Option Unit := evCall Go.Proofs.Try.prog tblL (known knS) 300 4 6 [u8A (m : Int)] [] isTrue
theorem law_all : allOf law (List.range 256) = true := by kernel_rfl
theorem opcodeTimes_walk (a0 : Int) (w : World) (h0 : (Lit.int .u8 a0).wf = true) : Calls Go.Proofs.Try.prog 6 #[.int .u8 a0] w fun e w' => e = .returned (.bool true) ∧ Below w.heap.size w w' := by
  obtain ⟨m, hm, rfl⟩ := nat_of h0
  exact law_of tblL_ok (known_ok knS_ok) (allOf_get law_all (List.mem_range.2 hm)) ⟨u8A_R [] _, trivial⟩

end Go.Proofs.Ytihngfbkkhneeaa.E
