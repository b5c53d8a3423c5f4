/-
  No cell of these rows narrows 'for every input' (looked for: loops, veiled, ifaces, maps, wideKeys, modest, calm, conditions, laid).
  DERIVED. THE GIVEN ROWS OF THIS SEAT. 5 by the template 'for every input the law returns true; each argument reads behind the call as it read before'; 0 by the template 'total and deterministic' (their statements: YtofogigcoamfeaaTotals.lean).
  GIVEN WITH THE SEED: the statements are not yours to turn. If you find one false, say at which input.
  Laid BY PROGRAM, IN A SANDBOX (cutbox-rows.mjs): the forced cells as the released guide's own fill.sh prints them over the translation 2b0ab2872a101f08… (all of the seat's roots in one cut). By AI agents, Wed Nov 11 2026. No macro, syntax, notation, axiom, sorry.
-/
import Derived.Test.YtofogigcoamfeaaChecked
import GoSem.Claim
import GoSem.ClaimJoined
import GoSem.ClaimMapViews
import Derived.JoinedTies
import Derived.KernelRfl
namespace Go.Proofs.Ytofogigcoamfeaa
/- THE CELL 'sum', in the pinned program and in every row, IS THE sha256 OF THE DUMP (.gsa) THAT YtofogigcoamfeaaProg.lean LOADS. Nothing in Lean hashes anything: it is a label: what it is worth is what the hold of that sum in a sandbox is worth. -/
noncomputable def Try.pinned : Pinned := { name := "ytofogigcoamfeaa", sum := "2b0ab2872a101f08289539c700ed74233bf4eed9e4d0c957616bd2967c014af7", checked := Try.checked }
namespace Rows
def none {H : Type} : Left H := { results := [], args := [] }

/-- 'whirligiglaw21.MicroPlans': WHATEVER THE INPUT: true; the input reads as it did. -/
def microPlansSpec : ChangeSpec := { name := "microPlans", fn := fun _ => fun
  | [d1, d2, d3] => { results := [.lit (.bool true)], args := [d1, d2, d3] }
  | _ => none }
def microPlansRow : OpenClaim := { program := "ytofogigcoamfeaa", sum := "2b0ab2872a101f08289539c700ed74233bf4eed9e4d0c957616bd2967c014af7", func := "whirligig/whirligiglaw21.MicroPlans", spec := "microPlans", unfollowed := true, recurses := true, apart := false }
def MicroPlansSaid : Prop := microPlansRow.holds Try.pinned (OpenSpec.ofChange microPlansSpec)

/-- ITS FALSE NEIGHBOUR: 'it returns false'. Refute it at one input. -/
def microPlansWrong : ChangeSpec := { name := "microPlans", fn := fun _ => fun
  | [d1, d2, d3] => { results := [.lit (.bool false)], args := [d1, d2, d3] }
  | _ => none }
def MicroPlansWrongFalsely : Prop := microPlansRow.holds Try.pinned (OpenSpec.ofChange microPlansWrong)

/-- 'whirligiglaw21.MicroBytes': WHATEVER THE INPUT: true; the input reads as it did. -/
def microBytesSpec : ChangeSpec := { name := "microBytes", fn := fun _ => fun
  | [d1, d2, d3] => { results := [.lit (.bool true)], args := [d1, d2, d3] }
  | _ => none }
def microBytesRow : OpenClaim := { program := "ytofogigcoamfeaa", sum := "2b0ab2872a101f08289539c700ed74233bf4eed9e4d0c957616bd2967c014af7", func := "whirligig/whirligiglaw21.MicroBytes", spec := "microBytes", unfollowed := true, recurses := true, apart := false }
def MicroBytesSaid : Prop := microBytesRow.holds Try.pinned (OpenSpec.ofChange microBytesSpec)

/-- ITS FALSE NEIGHBOUR: 'it returns false'. Refute it at one input. -/
def microBytesWrong : ChangeSpec := { name := "microBytes", fn := fun _ => fun
  | [d1, d2, d3] => { results := [.lit (.bool false)], args := [d1, d2, d3] }
  | _ => none }
def MicroBytesWrongFalsely : Prop := microBytesRow.holds Try.pinned (OpenSpec.ofChange microBytesWrong)

/-- 'whirligiglaw21.MicroBus': WHATEVER THE INPUT: true; the input reads as it did. -/
def microBusSpec : ChangeSpec := { name := "microBus", fn := fun _ => fun
  | [d1, d2, d3] => { results := [.lit (.bool true)], args := [d1, d2, d3] }
  | _ => none }
def microBusRow : OpenClaim := { program := "ytofogigcoamfeaa", sum := "2b0ab2872a101f08289539c700ed74233bf4eed9e4d0c957616bd2967c014af7", func := "whirligig/whirligiglaw21.MicroBus", spec := "microBus", unfollowed := true, recurses := true, apart := false }
def MicroBusSaid : Prop := microBusRow.holds Try.pinned (OpenSpec.ofChange microBusSpec)

/-- ITS FALSE NEIGHBOUR: 'it returns false'. Refute it at one input. -/
def microBusWrong : ChangeSpec := { name := "microBus", fn := fun _ => fun
  | [d1, d2, d3] => { results := [.lit (.bool false)], args := [d1, d2, d3] }
  | _ => none }
def MicroBusWrongFalsely : Prop := microBusRow.holds Try.pinned (OpenSpec.ofChange microBusWrong)

/-- 'whirligiglaw21.MicroAsks': WHATEVER THE INPUT: true; the input reads as it did. -/
def microAsksSpec : ChangeSpec := { name := "microAsks", fn := fun _ => fun
  | [d1, d2] => { results := [.lit (.bool true)], args := [d1, d2] }
  | _ => none }
def microAsksRow : OpenClaim := { program := "ytofogigcoamfeaa", sum := "2b0ab2872a101f08289539c700ed74233bf4eed9e4d0c957616bd2967c014af7", func := "whirligig/whirligiglaw21.MicroAsks", spec := "microAsks", unfollowed := true, recurses := true, apart := false }
def MicroAsksSaid : Prop := microAsksRow.holds Try.pinned (OpenSpec.ofChange microAsksSpec)

/-- ITS FALSE NEIGHBOUR: 'it returns false'. Refute it at one input. -/
def microAsksWrong : ChangeSpec := { name := "microAsks", fn := fun _ => fun
  | [d1, d2] => { results := [.lit (.bool false)], args := [d1, d2] }
  | _ => none }
def MicroAsksWrongFalsely : Prop := microAsksRow.holds Try.pinned (OpenSpec.ofChange microAsksWrong)

/-- 'whirligiglaw21.MicroTimes': WHATEVER THE INPUT: true; the input reads as it did. -/
def microTimesSpec : ChangeSpec := { name := "microTimes", fn := fun _ => fun
  | [d1, d2] => { results := [.lit (.bool true)], args := [d1, d2] }
  | _ => none }
def microTimesRow : OpenClaim := { program := "ytofogigcoamfeaa", sum := "2b0ab2872a101f08289539c700ed74233bf4eed9e4d0c957616bd2967c014af7", func := "whirligig/whirligiglaw21.MicroTimes", spec := "microTimes", unfollowed := true, recurses := true, apart := false }
def MicroTimesSaid : Prop := microTimesRow.holds Try.pinned (OpenSpec.ofChange microTimesSpec)

/-- ITS FALSE NEIGHBOUR: 'it returns false'. Refute it at one input. -/
def microTimesWrong : ChangeSpec := { name := "microTimes", fn := fun _ => fun
  | [d1, d2] => { results := [.lit (.bool false)], args := [d1, d2] }
  | _ => none }
def MicroTimesWrongFalsely : Prop := microTimesRow.holds Try.pinned (OpenSpec.ofChange microTimesWrong)

/- THE SECOND FORM. 'bulk': how many values and letters a reading holds, each counted each time it is reached (what is shared counts as often as it is met; a slice's spare places count too). A statement '..UptoSaid' is the law's where the arguments, and the package variables that the reading takes, are together of bulk at most 1048576: NARROWER than '..Said'. Prove '..Said' where nothing that the law and all that it calls make is longer than what came in: it says more and counts as full. Else prove '..UptoSaid'. A law counts once. -/
mutual
def uptoBulk {H : Type} : DataW H → Nat
  | .lit (.string bytes) => bytes.length + 1
  | .lit _ => 1
  | .nil => 1
  | .ptr d => uptoBulk d + 1
  | .slice elems spare => uptoBulkAll elems + uptoBulkAll spare + 1
  | .agg parts => uptoBulkAll parts + 1
  | .iface _ d => uptoBulk d + 1
  | .map entries => uptoBulkEntries entries + 1
  | .held _ => 1
def uptoBulkAll {H : Type} : List (DataW H) → Nat
  | [] => 0
  | d :: r => uptoBulk d + uptoBulkAll r
def uptoBulkEntries {H : Type} : List (Lit × DataW H) → Nat
  | [] => 0
  | x :: r => uptoBulkEntry x + uptoBulkEntries r
def uptoBulkEntry {H : Type} : Lit × DataW H → Nat
  | (.string bytes, d) => bytes.length + uptoBulk d + 1
  | (_, d) => uptoBulk d + 1
 end
def uptoSmall : (H : Type) → List (DataW H) → Bool := fun _ ds => decide (uptoBulkAll ds ≤ 1048576)
def OpenSpec.upto (s : _root_.Go.ChangeSpec) : _root_.Go.OpenSpec := { _root_.Go.OpenSpec.ofChange s with cond := some uptoSmall }

/-- 'whirligiglaw21.MicroPlans', WHERE WHAT IT READS IS OF BULK AT MOST 1048576: true; the input reads as it did. -/
def microPlansUptoRow : OpenClaim := { program := "ytofogigcoamfeaa", sum := "2b0ab2872a101f08289539c700ed74233bf4eed9e4d0c957616bd2967c014af7", func := "whirligig/whirligiglaw21.MicroPlans", spec := "microPlans", unfollowed := true, recurses := true, apart := false, narrowed := true }
def MicroPlansUptoSaid : Prop := microPlansUptoRow.holds Try.pinned (OpenSpec.upto microPlansSpec)

/-- 'whirligiglaw21.MicroBytes', WHERE WHAT IT READS IS OF BULK AT MOST 1048576: true; the input reads as it did. -/
def microBytesUptoRow : OpenClaim := { program := "ytofogigcoamfeaa", sum := "2b0ab2872a101f08289539c700ed74233bf4eed9e4d0c957616bd2967c014af7", func := "whirligig/whirligiglaw21.MicroBytes", spec := "microBytes", unfollowed := true, recurses := true, apart := false, narrowed := true }
def MicroBytesUptoSaid : Prop := microBytesUptoRow.holds Try.pinned (OpenSpec.upto microBytesSpec)

/-- 'whirligiglaw21.MicroBus', WHERE WHAT IT READS IS OF BULK AT MOST 1048576: true; the input reads as it did. -/
def microBusUptoRow : OpenClaim := { program := "ytofogigcoamfeaa", sum := "2b0ab2872a101f08289539c700ed74233bf4eed9e4d0c957616bd2967c014af7", func := "whirligig/whirligiglaw21.MicroBus", spec := "microBus", unfollowed := true, recurses := true, apart := false, narrowed := true }
def MicroBusUptoSaid : Prop := microBusUptoRow.holds Try.pinned (OpenSpec.upto microBusSpec)

/-- 'whirligiglaw21.MicroAsks', WHERE WHAT IT READS IS OF BULK AT MOST 1048576: true; the input reads as it did. -/
def microAsksUptoRow : OpenClaim := { program := "ytofogigcoamfeaa", sum := "2b0ab2872a101f08289539c700ed74233bf4eed9e4d0c957616bd2967c014af7", func := "whirligig/whirligiglaw21.MicroAsks", spec := "microAsks", unfollowed := true, recurses := true, apart := false, narrowed := true }
def MicroAsksUptoSaid : Prop := microAsksUptoRow.holds Try.pinned (OpenSpec.upto microAsksSpec)

/-- 'whirligiglaw21.MicroTimes', WHERE WHAT IT READS IS OF BULK AT MOST 1048576: true; the input reads as it did. -/
def microTimesUptoRow : OpenClaim := { program := "ytofogigcoamfeaa", sum := "2b0ab2872a101f08289539c700ed74233bf4eed9e4d0c957616bd2967c014af7", func := "whirligig/whirligiglaw21.MicroTimes", spec := "microTimes", unfollowed := true, recurses := true, apart := false, narrowed := true }
def MicroTimesUptoSaid : Prop := microTimesUptoRow.holds Try.pinned (OpenSpec.upto microTimesSpec)

end Rows
end Go.Proofs.Ytofogigcoamfeaa
