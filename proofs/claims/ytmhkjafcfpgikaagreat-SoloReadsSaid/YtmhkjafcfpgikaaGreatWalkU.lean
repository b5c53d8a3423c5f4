/- Functions of the program as plain Lean, and what they come to. Conditions: none. -/
import Derived.Test.YtmhkjafcfpgikaaGreatEwD
import Derived.Test.YtmhkjafcfpgikaaGreatProg
import Derived.KernelRfl
import Derived.Test.YtmhkjafcfpgikaaGreatPureT
open Go Go.Ew
namespace Go.Proofs.YtmhkjafcfpgikaaGreat.T
set_option linter.unusedVariables false
set_option maxRecDepth 100000
/-! ref05_Decode -/
/-! ref05_DecodeCB -/
end Go.Proofs.YtmhkjafcfpgikaaGreat.T
