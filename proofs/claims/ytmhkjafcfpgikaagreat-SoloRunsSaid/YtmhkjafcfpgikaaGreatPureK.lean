/- Functions of the program as plain Lean, and what they come to. Conditions: none. -/
import Derived.Test.YtmhkjafcfpgikaaGreatEwD
import Derived.Test.YtmhkjafcfpgikaaGreatPureH
import Derived.Test.YtmhkjafcfpgikaaGreatPureJ
open Go Go.Ew
namespace Go.Proofs.YtmhkjafcfpgikaaGreat.E
set_option linter.unusedVariables false
set_option linter.unusedSimpArgs false
set_option maxRecDepth 100000
/-! instructions of one cycle, from a beginning -/
theorem beg_ok {s : St} (h : sok s) (p : Int) : sok (begS s p).1 := by
 unfold begS
 split
 ·exact ⟨h.r, h.op, byte0, h.lo, h.hi⟩
 ·exact ⟨h.r, h.op, byte0, h.lo, h.hi⟩
end Go.Proofs.YtmhkjafcfpgikaaGreat.E
