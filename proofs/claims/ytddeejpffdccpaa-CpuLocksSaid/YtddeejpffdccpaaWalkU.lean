/- Functions of the program as plain Lean, and what they come to. Conditions: none. -/
import Derived.Test.YtddeejpffdccpaaEwD
import Derived.Test.YtddeejpffdccpaaProg
import Derived.KernelRfl
import Derived.Test.YtddeejpffdccpaaPureT
open Go Go.Ew
namespace Go.Proofs.Ytddeejpffdccpaa.T
set_option linter.unusedVariables false
set_option maxRecDepth 100000
/-! ref05_Decode -/
/-! ref05_DecodeCB -/
end Go.Proofs.Ytddeejpffdccpaa.T
