/- The law OpcodeCounts comes to true at each opcode. Conditions: none. -/
import Derived.Test.YtihngfbkkhneeaaOpcodeCountsW0
import Derived.Test.YtihngfbkkhneeaaOpcodeCountsW1
import Derived.Test.YtihngfbkkhneeaaOpcodeCountsW2
import Derived.Test.YtihngfbkkhneeaaOpcodeCountsW3
import Derived.Test.YtihngfbkkhneeaaOpcodeCountsW4
import Derived.Test.YtihngfbkkhneeaaOpcodeCountsW5
import Derived.Test.YtihngfbkkhneeaaOpcodeCountsW6
import Derived.Test.YtihngfbkkhneeaaOpcodeCountsW7
namespace Go.Proofs.Ytihngfbkkhneeaa.E
open Go Go.Ev Go.RowKit
set_option linter.unusedVariables false
set_option linter.unusedSimpArgs false
set_option maxRecDepth 100000

theorem opcodeCounts_walk (a0 : Int) (w : World) (h0 : (Lit.int .u8 a0).wf = true) : Calls Go.Proofs.Try.prog 8 #[.int .u8 a0] w fun e w' => e = .returned (.bool true) ∧ Below w.heap.size w w' := by
  obtain ⟨m, hm, rfl⟩ := nat_of h0
  rcases Nat.lt_or_ge m 32 with h0 | h0
  · exact law_of tblL0_ok (known_ok knI_ok) (law0_get (by omega) (by omega)) ⟨u8A_R [] _, trivial⟩
  rcases Nat.lt_or_ge m 64 with h1 | h1
  · exact law_of tblL1_ok (known_ok knI_ok) (law1_get (by omega) (by omega)) ⟨u8A_R [] _, trivial⟩
  rcases Nat.lt_or_ge m 96 with h2 | h2
  · exact law_of tblL2_ok (known_ok knI_ok) (law2_get (by omega) (by omega)) ⟨u8A_R [] _, trivial⟩
  rcases Nat.lt_or_ge m 128 with h3 | h3
  · exact law_of tblL3_ok (known_ok knI_ok) (law3_get (by omega) (by omega)) ⟨u8A_R [] _, trivial⟩
  rcases Nat.lt_or_ge m 160 with h4 | h4
  · exact law_of tblL4_ok (known_ok knI_ok) (law4_get (by omega) (by omega)) ⟨u8A_R [] _, trivial⟩
  rcases Nat.lt_or_ge m 192 with h5 | h5
  · exact law_of tblL5_ok (known_ok knI_ok) (law5_get (by omega) (by omega)) ⟨u8A_R [] _, trivial⟩
  rcases Nat.lt_or_ge m 224 with h6 | h6
  · exact law_of tblL6_ok (known_ok knI_ok) (law6_get (by omega) (by omega)) ⟨u8A_R [] _, trivial⟩
  exact law_of tblL7_ok (known_ok knI_ok) (law7_get (by omega) (by omega)) ⟨u8A_R [] _, trivial⟩

end Go.Proofs.Ytihngfbkkhneeaa.E
