/- Functions of the program as plain Lean, and what they come to. Conditions: none. -/
import Derived.Test.YtmhkjafcfpgikaaGreatEwD
import Derived.Test.YtmhkjafcfpgikaaGreatProg
import Derived.KernelRfl
import Derived.Test.YtmhkjafcfpgikaaGreatPureU
open Go Go.Ew
namespace Go.Proofs.YtmhkjafcfpgikaaGreat.T
set_option linter.unusedVariables false
set_option maxRecDepth 100000
noncomputable def tblQ : FuncId → Option Func
  | _ => none
theorem tblQ_ok : TblOK Go.Proofs.Tryz.prog tblQ := by
  intro g fn h
  unfold tblQ at h
  split at h
  · simp at h

/-! ref21_Plan -/
end Go.Proofs.YtmhkjafcfpgikaaGreat.T
