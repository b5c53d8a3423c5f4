/-
  No cell of these rows narrows 'for every input' (looked for: loops, veiled, ifaces, maps, wideKeys, modest, calm, conditions, laid).
  DERIVED. THE GIVEN ROWS OF THIS SEAT. 4 by the template 'for every input the law returns true; each argument reads behind the call as it read before'; 0 by the template 'total and deterministic' (their statements: YtddeejpffdccpaaGreatTotals.lean).
  GIVEN WITH THE SEED: the statements are not yours to turn. If you find one false, say at which input.
  Laid BY PROGRAM, IN A SANDBOX (cutbox-rows.mjs): the forced cells as the released guide's own fill.sh prints them over the translation d20fb5090f72253e… (all of the seat's roots in one cut). By AI agents, Wed Nov 11 2026. No macro, syntax, notation, axiom, sorry.
-/
import Derived.Test.YtddeejpffdccpaaGreatChecked
import GoSem.Claim
import GoSem.ClaimJoined
import GoSem.ClaimMapViews
import Derived.JoinedTies
import Derived.KernelRfl
namespace Go.Proofs.YtddeejpffdccpaaGreat
/- THE CELL 'sum', in the pinned program and in every row, IS THE sha256 OF THE DUMP (.gsa) THAT YtddeejpffdccpaaGreatProg.lean LOADS. Nothing in Lean hashes anything: it is a label: what it is worth is what the hold of that sum in a sandbox is worth. -/
noncomputable def Tryz.pinned : Pinned := { name := "ytddeejpffdccpaagreat", sum := "d20fb5090f72253ea387b5c3745dcb86a8201f0a379d66f64e6000dc404f8b0d", checked := Tryz.checked }
namespace Rows
def none {H : Type} : Left H := { results := [], args := [] }

/-- 'whirligiglaw22.CpuBusies': WHATEVER THE INPUT: true; the input reads as it did. -/
def cpuBusiesSpec : ChangeSpec := { name := "cpuBusies", fn := fun _ => fun
  | [d] => { results := [.lit (.bool true)], args := [d] }
  | _ => none }
def cpuBusiesRow : OpenClaim := { program := "ytddeejpffdccpaagreat", sum := "d20fb5090f72253ea387b5c3745dcb86a8201f0a379d66f64e6000dc404f8b0d", func := "whirligig/whirligiglaw22.CpuBusies", spec := "cpuBusies", unfollowed := true, recurses := true, apart := false }
def CpuBusiesSaid : Prop := cpuBusiesRow.holds Tryz.pinned (OpenSpec.ofChange cpuBusiesSpec)

/-- ITS FALSE NEIGHBOUR: 'it returns false'. Refute it at one input. -/
def cpuBusiesWrong : ChangeSpec := { name := "cpuBusies", fn := fun _ => fun
  | [d] => { results := [.lit (.bool false)], args := [d] }
  | _ => none }
def CpuBusiesWrongFalsely : Prop := cpuBusiesRow.holds Tryz.pinned (OpenSpec.ofChange cpuBusiesWrong)

/-- 'whirligiglaw22.CpuWants': WHATEVER THE INPUT: true; the input reads as it did. -/
def cpuWantsSpec : ChangeSpec := { name := "cpuWants", fn := fun _ => fun
  | [d1, d2] => { results := [.lit (.bool true)], args := [d1, d2] }
  | _ => none }
def cpuWantsRow : OpenClaim := { program := "ytddeejpffdccpaagreat", sum := "d20fb5090f72253ea387b5c3745dcb86a8201f0a379d66f64e6000dc404f8b0d", func := "whirligig/whirligiglaw22.CpuWants", spec := "cpuWants", unfollowed := true, recurses := true, apart := false }
def CpuWantsSaid : Prop := cpuWantsRow.holds Tryz.pinned (OpenSpec.ofChange cpuWantsSpec)

/-- ITS FALSE NEIGHBOUR: 'it returns false'. Refute it at one input. -/
def cpuWantsWrong : ChangeSpec := { name := "cpuWants", fn := fun _ => fun
  | [d1, d2] => { results := [.lit (.bool false)], args := [d1, d2] }
  | _ => none }
def CpuWantsWrongFalsely : Prop := cpuWantsRow.holds Tryz.pinned (OpenSpec.ofChange cpuWantsWrong)

/-- 'whirligiglaw22.CpuDones': WHATEVER THE INPUT: true; the input reads as it did. -/
def cpuDonesSpec : ChangeSpec := { name := "cpuDones", fn := fun _ => fun
  | [d1, d2, d3] => { results := [.lit (.bool true)], args := [d1, d2, d3] }
  | _ => none }
def cpuDonesRow : OpenClaim := { program := "ytddeejpffdccpaagreat", sum := "d20fb5090f72253ea387b5c3745dcb86a8201f0a379d66f64e6000dc404f8b0d", func := "whirligig/whirligiglaw22.CpuDones", spec := "cpuDones", unfollowed := true, recurses := true, apart := false }
def CpuDonesSaid : Prop := cpuDonesRow.holds Tryz.pinned (OpenSpec.ofChange cpuDonesSpec)

/-- ITS FALSE NEIGHBOUR: 'it returns false'. Refute it at one input. -/
def cpuDonesWrong : ChangeSpec := { name := "cpuDones", fn := fun _ => fun
  | [d1, d2, d3] => { results := [.lit (.bool false)], args := [d1, d2, d3] }
  | _ => none }
def CpuDonesWrongFalsely : Prop := cpuDonesRow.holds Tryz.pinned (OpenSpec.ofChange cpuDonesWrong)

/-- 'whirligiglaw22.CpuWhole': WHATEVER THE INPUT: true; the input reads as it did. -/
def cpuWholeSpec : ChangeSpec := { name := "cpuWhole", fn := fun _ => fun
  | [d1, d2] => { results := [.lit (.bool true)], args := [d1, d2] }
  | _ => none }
def cpuWholeRow : OpenClaim := { program := "ytddeejpffdccpaagreat", sum := "d20fb5090f72253ea387b5c3745dcb86a8201f0a379d66f64e6000dc404f8b0d", func := "whirligig/whirligiglaw22.CpuWhole", spec := "cpuWhole", unfollowed := true, recurses := true, apart := false }
def CpuWholeSaid : Prop := cpuWholeRow.holds Tryz.pinned (OpenSpec.ofChange cpuWholeSpec)

/-- ITS FALSE NEIGHBOUR: 'it returns false'. Refute it at one input. -/
def cpuWholeWrong : ChangeSpec := { name := "cpuWhole", fn := fun _ => fun
  | [d1, d2] => { results := [.lit (.bool false)], args := [d1, d2] }
  | _ => none }
def CpuWholeWrongFalsely : Prop := cpuWholeRow.holds Tryz.pinned (OpenSpec.ofChange cpuWholeWrong)

/- THE SECOND FORM. 'bulk': how many values and letters a reading holds, each counted each time it is reached (what is shared counts as often as it is met; a slice's spare places count too). A statement '..UptoSaid' is the law's where the arguments, and the package variables that the reading takes, are together of bulk at most 1048576: NARROWER than '..Said'. Prove '..Said' where nothing that the law and all that it calls make is longer than what came in: it says more and counts as full. Else prove '..UptoSaid'. A law counts once. -/
mutual
def uptoBulk {H : Type} : DataW H → Nat
  | .lit (.string bytes) => bytes.length + 1
  | .lit _ => 1
  | .nil => 1
  | .ptr d => uptoBulk d + 1
  | .slice elems spare => uptoBulkAll elems + uptoBulkAll spare + 1
  | .agg parts => uptoBulkAll parts + 1
  | .iface _ d => uptoBulk d + 1
  | .map entries => uptoBulkEntries entries + 1
  | .held _ => 1
def uptoBulkAll {H : Type} : List (DataW H) → Nat
  | [] => 0
  | d :: r => uptoBulk d + uptoBulkAll r
def uptoBulkEntries {H : Type} : List (Lit × DataW H) → Nat
  | [] => 0
  | x :: r => uptoBulkEntry x + uptoBulkEntries r
def uptoBulkEntry {H : Type} : Lit × DataW H → Nat
  | (.string bytes, d) => bytes.length + uptoBulk d + 1
  | (_, d) => uptoBulk d + 1
 end
def uptoSmall : (H : Type) → List (DataW H) → Bool := fun _ ds => decide (uptoBulkAll ds ≤ 1048576)
def OpenSpec.upto (s : _root_.Go.ChangeSpec) : _root_.Go.OpenSpec := { _root_.Go.OpenSpec.ofChange s with cond := some uptoSmall }

/-- 'whirligiglaw22.CpuBusies', WHERE WHAT IT READS IS OF BULK AT MOST 1048576: true; the input reads as it did. -/
def cpuBusiesUptoRow : OpenClaim := { program := "ytddeejpffdccpaagreat", sum := "d20fb5090f72253ea387b5c3745dcb86a8201f0a379d66f64e6000dc404f8b0d", func := "whirligig/whirligiglaw22.CpuBusies", spec := "cpuBusies", unfollowed := true, recurses := true, apart := false, narrowed := true }
def CpuBusiesUptoSaid : Prop := cpuBusiesUptoRow.holds Tryz.pinned (OpenSpec.upto cpuBusiesSpec)

/-- 'whirligiglaw22.CpuWants', WHERE WHAT IT READS IS OF BULK AT MOST 1048576: true; the input reads as it did. -/
def cpuWantsUptoRow : OpenClaim := { program := "ytddeejpffdccpaagreat", sum := "d20fb5090f72253ea387b5c3745dcb86a8201f0a379d66f64e6000dc404f8b0d", func := "whirligig/whirligiglaw22.CpuWants", spec := "cpuWants", unfollowed := true, recurses := true, apart := false, narrowed := true }
def CpuWantsUptoSaid : Prop := cpuWantsUptoRow.holds Tryz.pinned (OpenSpec.upto cpuWantsSpec)

/-- 'whirligiglaw22.CpuDones', WHERE WHAT IT READS IS OF BULK AT MOST 1048576: true; the input reads as it did. -/
def cpuDonesUptoRow : OpenClaim := { program := "ytddeejpffdccpaagreat", sum := "d20fb5090f72253ea387b5c3745dcb86a8201f0a379d66f64e6000dc404f8b0d", func := "whirligig/whirligiglaw22.CpuDones", spec := "cpuDones", unfollowed := true, recurses := true, apart := false, narrowed := true }
def CpuDonesUptoSaid : Prop := cpuDonesUptoRow.holds Tryz.pinned (OpenSpec.upto cpuDonesSpec)

/-- 'whirligiglaw22.CpuWhole', WHERE WHAT IT READS IS OF BULK AT MOST 1048576: true; the input reads as it did. -/
def cpuWholeUptoRow : OpenClaim := { program := "ytddeejpffdccpaagreat", sum := "d20fb5090f72253ea387b5c3745dcb86a8201f0a379d66f64e6000dc404f8b0d", func := "whirligig/whirligiglaw22.CpuWhole", spec := "cpuWhole", unfollowed := true, recurses := true, apart := false, narrowed := true }
def CpuWholeUptoSaid : Prop := cpuWholeUptoRow.holds Tryz.pinned (OpenSpec.upto cpuWholeSpec)

end Rows
end Go.Proofs.YtddeejpffdccpaaGreat
