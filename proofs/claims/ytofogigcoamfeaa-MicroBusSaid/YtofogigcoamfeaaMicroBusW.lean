/- The law MicroBus comes to true at each opcode. Conditions: none. -/
import Derived.Test.YtofogigcoamfeaaMicroBusW0
import Derived.Test.YtofogigcoamfeaaMicroBusW1
import Derived.Test.YtofogigcoamfeaaMicroBusW2
import Derived.Test.YtofogigcoamfeaaMicroBusW3
namespace Go.Proofs.Ytofogigcoamfeaa.E
open Go Go.Ev Go.RowKit
set_option linter.unusedVariables false
set_option linter.unusedSimpArgs false
set_option maxRecDepth 100000
theorem walk0 (i : Nat) (h0 : 0 ≤ i) (h1 : i < 256) (w : World) : Calls Go.Proofs.Try.prog 5 #[.int .u8 ((i / 4 : Nat) : Int), .bool (i / 2 % 2 == 1), .bool (i / 1 % 2 == 1)] w fun e w' => e = .returned (.bool true) ∧ Below w.heap.size w w' :=
  law_of tblL0_ok (known_ok knS_ok) (law0_get h0 h1) ⟨u8A_R [] _, boolA_R [] _, boolA_R [] _, trivial⟩
theorem walk1 (i : Nat) (h0 : 256 ≤ i) (h1 : i < 512) (w : World) : Calls Go.Proofs.Try.prog 5 #[.int .u8 ((i / 4 : Nat) : Int), .bool (i / 2 % 2 == 1), .bool (i / 1 % 2 == 1)] w fun e w' => e = .returned (.bool true) ∧ Below w.heap.size w w' :=
  law_of tblL1_ok (known_ok knS_ok) (law1_get h0 h1) ⟨u8A_R [] _, boolA_R [] _, boolA_R [] _, trivial⟩
theorem walk2 (i : Nat) (h0 : 512 ≤ i) (h1 : i < 768) (w : World) : Calls Go.Proofs.Try.prog 5 #[.int .u8 ((i / 4 : Nat) : Int), .bool (i / 2 % 2 == 1), .bool (i / 1 % 2 == 1)] w fun e w' => e = .returned (.bool true) ∧ Below w.heap.size w w' :=
  law_of tblL2_ok (known_ok knS_ok) (law2_get h0 h1) ⟨u8A_R [] _, boolA_R [] _, boolA_R [] _, trivial⟩
theorem walk3 (i : Nat) (h0 : 768 ≤ i) (h1 : i < 1024) (w : World) : Calls Go.Proofs.Try.prog 5 #[.int .u8 ((i / 4 : Nat) : Int), .bool (i / 2 % 2 == 1), .bool (i / 1 % 2 == 1)] w fun e w' => e = .returned (.bool true) ∧ Below w.heap.size w w' :=
  law_of tblL3_ok (known_ok knS_ok) (law3_get h0 h1) ⟨u8A_R [] _, boolA_R [] _, boolA_R [] _, trivial⟩
theorem walkA (i : Nat) (h1 : i < 1024) (w : World) : Calls Go.Proofs.Try.prog 5 #[.int .u8 ((i / 4 : Nat) : Int), .bool (i / 2 % 2 == 1), .bool (i / 1 % 2 == 1)] w fun e w' => e = .returned (.bool true) ∧ Below w.heap.size w w' := by
  rcases Nat.lt_or_ge i 256 with h | h
  · exact walk0 i (Nat.zero_le _) h w
  rcases Nat.lt_or_ge i 512 with h2 | h2
  · exact walk1 i h h2 w
  rcases Nat.lt_or_ge i 768 with h3 | h3
  · exact walk2 i h2 h3 w
  · exact walk3 i h3 h1 w
theorem microBus_walk (a0 : Int) (b0 : Bool) (b1 : Bool) (w : World) (h0 : (Lit.int .u8 a0).wf = true) : Calls Go.Proofs.Try.prog 5 #[.int .u8 a0, .bool b0, .bool b1] w fun e w' => e = .returned (.bool true) ∧ Below w.heap.size w w' := by
  obtain ⟨m, hm, rfl⟩ := nat_of h0
  have c0 := walkA (4 * m + 0) (by omega) w
  rw [show (4 * m + 0) / 4 = m by omega, show ((4 * m + 0) / 2 % 2 == 1) = false by rw [beq_eq_false_iff_ne]; omega, show ((4 * m + 0) / 1 % 2 == 1) = false by rw [beq_eq_false_iff_ne]; omega] at c0
  have c1 := walkA (4 * m + 1) (by omega) w
  rw [show (4 * m + 1) / 4 = m by omega, show ((4 * m + 1) / 2 % 2 == 1) = false by rw [beq_eq_false_iff_ne]; omega, show ((4 * m + 1) / 1 % 2 == 1) = true by rw [beq_iff_eq]; omega] at c1
  have c2 := walkA (4 * m + 2) (by omega) w
  rw [show (4 * m + 2) / 4 = m by omega, show ((4 * m + 2) / 2 % 2 == 1) = true by rw [beq_iff_eq]; omega, show ((4 * m + 2) / 1 % 2 == 1) = false by rw [beq_eq_false_iff_ne]; omega] at c2
  have c3 := walkA (4 * m + 3) (by omega) w
  rw [show (4 * m + 3) / 4 = m by omega, show ((4 * m + 3) / 2 % 2 == 1) = true by rw [beq_iff_eq]; omega, show ((4 * m + 3) / 1 % 2 == 1) = true by rw [beq_iff_eq]; omega] at c3
  cases b0 <;> cases b1
  · exact c0
  · exact c1
  · exact c2
  · exact c3

end Go.Proofs.Ytofogigcoamfeaa.E
