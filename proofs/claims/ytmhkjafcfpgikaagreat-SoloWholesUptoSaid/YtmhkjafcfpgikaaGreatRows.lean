/-
  No cell of these rows narrows 'for every input' (looked for: loops, veiled, ifaces, maps, wideKeys, modest, calm, conditions, laid).
  DERIVED. THE GIVEN ROWS OF THIS SEAT. 5 by the template 'for every input the law returns true; each argument reads behind the call as it read before'; 0 by the template 'total and deterministic' (their statements: YtmhkjafcfpgikaaGreatTotals.lean).
  GIVEN WITH THE SEED: the statements are not yours to turn. If you find one false, say at which input.
  Laid BY PROGRAM, IN A SANDBOX (cutbox-rows.mjs): the forced cells as the released guide's own fill.sh prints them over the translation bd840529f310c159… (all of the seat's roots in one cut). By AI agents, Wed Nov 11 2026. No macro, syntax, notation, axiom, sorry.
-/
import Derived.Test.YtmhkjafcfpgikaaGreatChecked
import GoSem.Claim
import GoSem.ClaimJoined
import GoSem.ClaimMapViews
import Derived.JoinedTies
import Derived.KernelRfl
namespace Go.Proofs.YtmhkjafcfpgikaaGreat
/- THE CELL 'sum', in the pinned program and in every row, IS THE sha256 OF THE DUMP (.gsa) THAT YtmhkjafcfpgikaaGreatProg.lean LOADS. Nothing in Lean hashes anything: it is a label: what it is worth is what the hold of that sum in a sandbox is worth. -/
noncomputable def Tryz.pinned : Pinned := { name := "ytmhkjafcfpgikaagreat", sum := "bd840529f310c159e89c828d4c89157d3eda6318e8a3b0a7239f38b7f99d7016", checked := Tryz.checked }
namespace Rows
def none {H : Type} : Left H := { results := [], args := [] }

/-- 'whirligiglaw23.SoloRuns': WHATEVER THE INPUT: true; the input reads as it did. -/
def soloRunsSpec : ChangeSpec := { name := "soloRuns", fn := fun _ => fun
  | [d1, d2, d3, d4] => { results := [.lit (.bool true)], args := [d1, d2, d3, d4] }
  | _ => none }
def soloRunsRow : OpenClaim := { program := "ytmhkjafcfpgikaagreat", sum := "bd840529f310c159e89c828d4c89157d3eda6318e8a3b0a7239f38b7f99d7016", func := "whirligig/whirligiglaw23.SoloRuns", spec := "soloRuns", unfollowed := true, recurses := true, apart := false }
def SoloRunsSaid : Prop := soloRunsRow.holds Tryz.pinned (OpenSpec.ofChange soloRunsSpec)

/-- ITS FALSE NEIGHBOUR: 'it returns false'. Refute it at one input. -/
def soloRunsWrong : ChangeSpec := { name := "soloRuns", fn := fun _ => fun
  | [d1, d2, d3, d4] => { results := [.lit (.bool false)], args := [d1, d2, d3, d4] }
  | _ => none }
def SoloRunsWrongFalsely : Prop := soloRunsRow.holds Tryz.pinned (OpenSpec.ofChange soloRunsWrong)

/-- 'whirligiglaw23.SoloTraces': WHATEVER THE INPUT: true; the input reads as it did. -/
def soloTracesSpec : ChangeSpec := { name := "soloTraces", fn := fun _ => fun
  | [d] => { results := [.lit (.bool true)], args := [d] }
  | _ => none }
def soloTracesRow : OpenClaim := { program := "ytmhkjafcfpgikaagreat", sum := "bd840529f310c159e89c828d4c89157d3eda6318e8a3b0a7239f38b7f99d7016", func := "whirligig/whirligiglaw23.SoloTraces", spec := "soloTraces", unfollowed := true, recurses := true, apart := false }
def SoloTracesSaid : Prop := soloTracesRow.holds Tryz.pinned (OpenSpec.ofChange soloTracesSpec)

/-- ITS FALSE NEIGHBOUR: 'it returns false'. Refute it at one input. -/
def soloTracesWrong : ChangeSpec := { name := "soloTraces", fn := fun _ => fun
  | [d] => { results := [.lit (.bool false)], args := [d] }
  | _ => none }
def SoloTracesWrongFalsely : Prop := soloTracesRow.holds Tryz.pinned (OpenSpec.ofChange soloTracesWrong)

/-- 'whirligiglaw23.SoloSplits': WHATEVER THE INPUT: true; the input reads as it did. -/
def soloSplitsSpec : ChangeSpec := { name := "soloSplits", fn := fun _ => fun
  | [d1, d2, d3, d4, d5] => { results := [.lit (.bool true)], args := [d1, d2, d3, d4, d5] }
  | _ => none }
def soloSplitsRow : OpenClaim := { program := "ytmhkjafcfpgikaagreat", sum := "bd840529f310c159e89c828d4c89157d3eda6318e8a3b0a7239f38b7f99d7016", func := "whirligig/whirligiglaw23.SoloSplits", spec := "soloSplits", unfollowed := true, recurses := true, apart := false }
def SoloSplitsSaid : Prop := soloSplitsRow.holds Tryz.pinned (OpenSpec.ofChange soloSplitsSpec)

/-- ITS FALSE NEIGHBOUR: 'it returns false'. Refute it at one input. -/
def soloSplitsWrong : ChangeSpec := { name := "soloSplits", fn := fun _ => fun
  | [d1, d2, d3, d4, d5] => { results := [.lit (.bool false)], args := [d1, d2, d3, d4, d5] }
  | _ => none }
def SoloSplitsWrongFalsely : Prop := soloSplitsRow.holds Tryz.pinned (OpenSpec.ofChange soloSplitsWrong)

/-- 'whirligiglaw23.SoloReads': WHATEVER THE INPUT: true; the input reads as it did. -/
def soloReadsSpec : ChangeSpec := { name := "soloReads", fn := fun _ => fun
  | [d1, d2, d3, d4] => { results := [.lit (.bool true)], args := [d1, d2, d3, d4] }
  | _ => none }
def soloReadsRow : OpenClaim := { program := "ytmhkjafcfpgikaagreat", sum := "bd840529f310c159e89c828d4c89157d3eda6318e8a3b0a7239f38b7f99d7016", func := "whirligig/whirligiglaw23.SoloReads", spec := "soloReads", unfollowed := true, recurses := true, apart := false }
def SoloReadsSaid : Prop := soloReadsRow.holds Tryz.pinned (OpenSpec.ofChange soloReadsSpec)

/-- ITS FALSE NEIGHBOUR: 'it returns false'. Refute it at one input. -/
def soloReadsWrong : ChangeSpec := { name := "soloReads", fn := fun _ => fun
  | [d1, d2, d3, d4] => { results := [.lit (.bool false)], args := [d1, d2, d3, d4] }
  | _ => none }
def SoloReadsWrongFalsely : Prop := soloReadsRow.holds Tryz.pinned (OpenSpec.ofChange soloReadsWrong)

/-- 'whirligiglaw23.SoloWholes': WHATEVER THE INPUT: true; the input reads as it did. -/
def soloWholesSpec : ChangeSpec := { name := "soloWholes", fn := fun _ => fun
  | [d1, d2, d3] => { results := [.lit (.bool true)], args := [d1, d2, d3] }
  | _ => none }
def soloWholesRow : OpenClaim := { program := "ytmhkjafcfpgikaagreat", sum := "bd840529f310c159e89c828d4c89157d3eda6318e8a3b0a7239f38b7f99d7016", func := "whirligig/whirligiglaw23.SoloWholes", spec := "soloWholes", unfollowed := true, recurses := true, apart := false }
def SoloWholesSaid : Prop := soloWholesRow.holds Tryz.pinned (OpenSpec.ofChange soloWholesSpec)

/-- ITS FALSE NEIGHBOUR: 'it returns false'. Refute it at one input. -/
def soloWholesWrong : ChangeSpec := { name := "soloWholes", fn := fun _ => fun
  | [d1, d2, d3] => { results := [.lit (.bool false)], args := [d1, d2, d3] }
  | _ => none }
def SoloWholesWrongFalsely : Prop := soloWholesRow.holds Tryz.pinned (OpenSpec.ofChange soloWholesWrong)

/- THE SECOND FORM. 'bulk': how many values and letters a reading holds, each counted each time it is reached (what is shared counts as often as it is met; a slice's spare places count too). A statement '..UptoSaid' is the law's where the arguments, and the package variables that the reading takes, are together of bulk at most 1048576: NARROWER than '..Said'. Prove '..Said' where nothing that the law and all that it calls make is longer than what came in: it says more and counts as full. Else prove '..UptoSaid'. A law counts once. -/
mutual
def uptoBulk {H : Type} : DataW H → Nat
  | .lit (.string bytes) => bytes.length + 1
  | .lit _ => 1
  | .nil => 1
  | .ptr d => uptoBulk d + 1
  | .slice elems spare => uptoBulkAll elems + uptoBulkAll spare + 1
  | .agg parts => uptoBulkAll parts + 1
  | .iface _ d => uptoBulk d + 1
  | .map entries => uptoBulkEntries entries + 1
  | .held _ => 1
def uptoBulkAll {H : Type} : List (DataW H) → Nat
  | [] => 0
  | d :: r => uptoBulk d + uptoBulkAll r
def uptoBulkEntries {H : Type} : List (Lit × DataW H) → Nat
  | [] => 0
  | x :: r => uptoBulkEntry x + uptoBulkEntries r
def uptoBulkEntry {H : Type} : Lit × DataW H → Nat
  | (.string bytes, d) => bytes.length + uptoBulk d + 1
  | (_, d) => uptoBulk d + 1
 end
def uptoSmall : (H : Type) → List (DataW H) → Bool := fun _ ds => decide (uptoBulkAll ds ≤ 1048576)
def OpenSpec.upto (s : _root_.Go.ChangeSpec) : _root_.Go.OpenSpec := { _root_.Go.OpenSpec.ofChange s with cond := some uptoSmall }

/-- 'whirligiglaw23.SoloRuns', WHERE WHAT IT READS IS OF BULK AT MOST 1048576: true; the input reads as it did. -/
def soloRunsUptoRow : OpenClaim := { program := "ytmhkjafcfpgikaagreat", sum := "bd840529f310c159e89c828d4c89157d3eda6318e8a3b0a7239f38b7f99d7016", func := "whirligig/whirligiglaw23.SoloRuns", spec := "soloRuns", unfollowed := true, recurses := true, apart := false, narrowed := true }
def SoloRunsUptoSaid : Prop := soloRunsUptoRow.holds Tryz.pinned (OpenSpec.upto soloRunsSpec)

/-- 'whirligiglaw23.SoloTraces', WHERE WHAT IT READS IS OF BULK AT MOST 1048576: true; the input reads as it did. -/
def soloTracesUptoRow : OpenClaim := { program := "ytmhkjafcfpgikaagreat", sum := "bd840529f310c159e89c828d4c89157d3eda6318e8a3b0a7239f38b7f99d7016", func := "whirligig/whirligiglaw23.SoloTraces", spec := "soloTraces", unfollowed := true, recurses := true, apart := false, narrowed := true }
def SoloTracesUptoSaid : Prop := soloTracesUptoRow.holds Tryz.pinned (OpenSpec.upto soloTracesSpec)

/-- 'whirligiglaw23.SoloSplits', WHERE WHAT IT READS IS OF BULK AT MOST 1048576: true; the input reads as it did. -/
def soloSplitsUptoRow : OpenClaim := { program := "ytmhkjafcfpgikaagreat", sum := "bd840529f310c159e89c828d4c89157d3eda6318e8a3b0a7239f38b7f99d7016", func := "whirligig/whirligiglaw23.SoloSplits", spec := "soloSplits", unfollowed := true, recurses := true, apart := false, narrowed := true }
def SoloSplitsUptoSaid : Prop := soloSplitsUptoRow.holds Tryz.pinned (OpenSpec.upto soloSplitsSpec)

/-- 'whirligiglaw23.SoloReads', WHERE WHAT IT READS IS OF BULK AT MOST 1048576: true; the input reads as it did. -/
def soloReadsUptoRow : OpenClaim := { program := "ytmhkjafcfpgikaagreat", sum := "bd840529f310c159e89c828d4c89157d3eda6318e8a3b0a7239f38b7f99d7016", func := "whirligig/whirligiglaw23.SoloReads", spec := "soloReads", unfollowed := true, recurses := true, apart := false, narrowed := true }
def SoloReadsUptoSaid : Prop := soloReadsUptoRow.holds Tryz.pinned (OpenSpec.upto soloReadsSpec)

/-- 'whirligiglaw23.SoloWholes', WHERE WHAT IT READS IS OF BULK AT MOST 1048576: true; the input reads as it did. -/
def soloWholesUptoRow : OpenClaim := { program := "ytmhkjafcfpgikaagreat", sum := "bd840529f310c159e89c828d4c89157d3eda6318e8a3b0a7239f38b7f99d7016", func := "whirligig/whirligiglaw23.SoloWholes", spec := "soloWholes", unfollowed := true, recurses := true, apart := false, narrowed := true }
def SoloWholesUptoSaid : Prop := soloWholesUptoRow.holds Tryz.pinned (OpenSpec.upto soloWholesSpec)

end Rows
end Go.Proofs.YtmhkjafcfpgikaaGreat
