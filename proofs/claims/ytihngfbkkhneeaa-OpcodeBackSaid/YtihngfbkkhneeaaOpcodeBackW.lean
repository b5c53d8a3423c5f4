/- The law OpcodeBack comes to true at each opcode. Conditions: none. -/
import Derived.Test.YtihngfbkkhneeaaOpcodeBackW0
import Derived.Test.YtihngfbkkhneeaaOpcodeBackW1
namespace Go.Proofs.Ytihngfbkkhneeaa.E
open Go Go.Ev Go.RowKit
set_option linter.unusedVariables false
set_option linter.unusedSimpArgs false
set_option maxRecDepth 100000

theorem opcodeBack_walk (a0 : Int) (w : World) (h0 : (Lit.int .u8 a0).wf = true) : Calls Go.Proofs.Try.prog 10 #[.int .u8 a0] w fun e w' => e = .returned (.bool true) ∧ Below w.heap.size w w' := by
  obtain ⟨m, hm, rfl⟩ := nat_of h0
  rcases Nat.lt_or_ge m 128 with h0 | h0
  · exact law_of tblL0_ok (known_ok knE_ok) (law0_get (by omega) (by omega)) ⟨u8A_R [] _, trivial⟩
  exact law_of tblL1_ok (known_ok knE_ok) (law1_get (by omega) (by omega)) ⟨u8A_R [] _, trivial⟩

end Go.Proofs.Ytihngfbkkhneeaa.E
