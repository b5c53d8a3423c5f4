/-
  No cell of these rows narrows 'for every input' (looked for: loops, veiled, ifaces, maps, wideKeys, modest, calm, conditions, laid).
  DERIVED. THE GIVEN ROWS OF THIS SEAT. 5 by the template 'for every input the law returns true; each argument reads behind the call as it read before'; 0 by the template 'total and deterministic' (their statements: YtddeejpffdccpaaTotals.lean).
  GIVEN WITH THE SEED: the statements are not yours to turn. If you find one false, say at which input.
  Laid BY PROGRAM, IN A SANDBOX (cutbox-rows.mjs): the forced cells as the released guide's own fill.sh prints them over the translation e20da1ad120c3d2b… (all of the seat's roots in one cut). By AI agents, Wed Nov 11 2026. No macro, syntax, notation, axiom, sorry.
-/
import Derived.Test.YtddeejpffdccpaaChecked
import GoSem.Claim
import GoSem.ClaimJoined
import GoSem.ClaimMapViews
import Derived.JoinedTies
import Derived.KernelRfl
namespace Go.Proofs.Ytddeejpffdccpaa
/- THE CELL 'sum', in the pinned program and in every row, IS THE sha256 OF THE DUMP (.gsa) THAT YtddeejpffdccpaaProg.lean LOADS. Nothing in Lean hashes anything: it is a label: what it is worth is what the hold of that sum in a sandbox is worth. -/
noncomputable def Try.pinned : Pinned := { name := "ytddeejpffdccpaa", sum := "e20da1ad120c3d2bf11a72c4b2cc997b5beeb1cd0361872410c1b5bfdf930027", checked := Try.checked }
namespace Rows
def none {H : Type} : Left H := { results := [], args := [] }

/-- 'whirligiglaw22.CpuCalls': WHATEVER THE INPUT: true; the input reads as it did. -/
def cpuCallsSpec : ChangeSpec := { name := "cpuCalls", fn := fun _ => fun
  | [d1, d2, d3] => { results := [.lit (.bool true)], args := [d1, d2, d3] }
  | _ => none }
def cpuCallsRow : OpenClaim := { program := "ytddeejpffdccpaa", sum := "e20da1ad120c3d2bf11a72c4b2cc997b5beeb1cd0361872410c1b5bfdf930027", func := "whirligig/whirligiglaw22.CpuCalls", spec := "cpuCalls", unfollowed := true, recurses := true, apart := false }
def CpuCallsSaid : Prop := cpuCallsRow.holds Try.pinned (OpenSpec.ofChange cpuCallsSpec)

/-- ITS FALSE NEIGHBOUR: 'it returns false'. Refute it at one input. -/
def cpuCallsWrong : ChangeSpec := { name := "cpuCalls", fn := fun _ => fun
  | [d1, d2, d3] => { results := [.lit (.bool false)], args := [d1, d2, d3] }
  | _ => none }
def CpuCallsWrongFalsely : Prop := cpuCallsRow.holds Try.pinned (OpenSpec.ofChange cpuCallsWrong)

/-- 'whirligiglaw22.CpuHalts': WHATEVER THE INPUT: true; the input reads as it did. -/
def cpuHaltsSpec : ChangeSpec := { name := "cpuHalts", fn := fun _ => fun
  | [d1, d2, d3, d4] => { results := [.lit (.bool true)], args := [d1, d2, d3, d4] }
  | _ => none }
def cpuHaltsRow : OpenClaim := { program := "ytddeejpffdccpaa", sum := "e20da1ad120c3d2bf11a72c4b2cc997b5beeb1cd0361872410c1b5bfdf930027", func := "whirligig/whirligiglaw22.CpuHalts", spec := "cpuHalts", unfollowed := true, recurses := true, apart := false }
def CpuHaltsSaid : Prop := cpuHaltsRow.holds Try.pinned (OpenSpec.ofChange cpuHaltsSpec)

/-- ITS FALSE NEIGHBOUR: 'it returns false'. Refute it at one input. -/
def cpuHaltsWrong : ChangeSpec := { name := "cpuHalts", fn := fun _ => fun
  | [d1, d2, d3, d4] => { results := [.lit (.bool false)], args := [d1, d2, d3, d4] }
  | _ => none }
def CpuHaltsWrongFalsely : Prop := cpuHaltsRow.holds Try.pinned (OpenSpec.ofChange cpuHaltsWrong)

/-- 'whirligiglaw22.CpuArms': WHATEVER THE INPUT: true; the input reads as it did. -/
def cpuArmsSpec : ChangeSpec := { name := "cpuArms", fn := fun _ => fun
  | [d1, d2] => { results := [.lit (.bool true)], args := [d1, d2] }
  | _ => none }
def cpuArmsRow : OpenClaim := { program := "ytddeejpffdccpaa", sum := "e20da1ad120c3d2bf11a72c4b2cc997b5beeb1cd0361872410c1b5bfdf930027", func := "whirligig/whirligiglaw22.CpuArms", spec := "cpuArms", unfollowed := true, recurses := true, apart := false }
def CpuArmsSaid : Prop := cpuArmsRow.holds Try.pinned (OpenSpec.ofChange cpuArmsSpec)

/-- ITS FALSE NEIGHBOUR: 'it returns false'. Refute it at one input. -/
def cpuArmsWrong : ChangeSpec := { name := "cpuArms", fn := fun _ => fun
  | [d1, d2] => { results := [.lit (.bool false)], args := [d1, d2] }
  | _ => none }
def CpuArmsWrongFalsely : Prop := cpuArmsRow.holds Try.pinned (OpenSpec.ofChange cpuArmsWrong)

/-- 'whirligiglaw22.CpuLocks': WHATEVER THE INPUT: true; the input reads as it did. -/
def cpuLocksSpec : ChangeSpec := { name := "cpuLocks", fn := fun _ => fun
  | [d1, d2, d3, d4] => { results := [.lit (.bool true)], args := [d1, d2, d3, d4] }
  | _ => none }
def cpuLocksRow : OpenClaim := { program := "ytddeejpffdccpaa", sum := "e20da1ad120c3d2bf11a72c4b2cc997b5beeb1cd0361872410c1b5bfdf930027", func := "whirligig/whirligiglaw22.CpuLocks", spec := "cpuLocks", unfollowed := true, recurses := true, apart := false }
def CpuLocksSaid : Prop := cpuLocksRow.holds Try.pinned (OpenSpec.ofChange cpuLocksSpec)

/-- ITS FALSE NEIGHBOUR: 'it returns false'. Refute it at one input. -/
def cpuLocksWrong : ChangeSpec := { name := "cpuLocks", fn := fun _ => fun
  | [d1, d2, d3, d4] => { results := [.lit (.bool false)], args := [d1, d2, d3, d4] }
  | _ => none }
def CpuLocksWrongFalsely : Prop := cpuLocksRow.holds Try.pinned (OpenSpec.ofChange cpuLocksWrong)

/-- 'whirligiglaw22.CpuTimes': WHATEVER THE INPUT: true; the input reads as it did. -/
def cpuTimesSpec : ChangeSpec := { name := "cpuTimes", fn := fun _ => fun
  | [d1, d2] => { results := [.lit (.bool true)], args := [d1, d2] }
  | _ => none }
def cpuTimesRow : OpenClaim := { program := "ytddeejpffdccpaa", sum := "e20da1ad120c3d2bf11a72c4b2cc997b5beeb1cd0361872410c1b5bfdf930027", func := "whirligig/whirligiglaw22.CpuTimes", spec := "cpuTimes", unfollowed := true, recurses := true, apart := false }
def CpuTimesSaid : Prop := cpuTimesRow.holds Try.pinned (OpenSpec.ofChange cpuTimesSpec)

/-- ITS FALSE NEIGHBOUR: 'it returns false'. Refute it at one input. -/
def cpuTimesWrong : ChangeSpec := { name := "cpuTimes", fn := fun _ => fun
  | [d1, d2] => { results := [.lit (.bool false)], args := [d1, d2] }
  | _ => none }
def CpuTimesWrongFalsely : Prop := cpuTimesRow.holds Try.pinned (OpenSpec.ofChange cpuTimesWrong)

/- THE SECOND FORM. 'bulk': how many values and letters a reading holds, each counted each time it is reached (what is shared counts as often as it is met; a slice's spare places count too). A statement '..UptoSaid' is the law's where the arguments, and the package variables that the reading takes, are together of bulk at most 1048576: NARROWER than '..Said'. Prove '..Said' where nothing that the law and all that it calls make is longer than what came in: it says more and counts as full. Else prove '..UptoSaid'. A law counts once. -/
mutual
def uptoBulk {H : Type} : DataW H → Nat
  | .lit (.string bytes) => bytes.length + 1
  | .lit _ => 1
  | .nil => 1
  | .ptr d => uptoBulk d + 1
  | .slice elems spare => uptoBulkAll elems + uptoBulkAll spare + 1
  | .agg parts => uptoBulkAll parts + 1
  | .iface _ d => uptoBulk d + 1
  | .map entries => uptoBulkEntries entries + 1
  | .held _ => 1
def uptoBulkAll {H : Type} : List (DataW H) → Nat
  | [] => 0
  | d :: r => uptoBulk d + uptoBulkAll r
def uptoBulkEntries {H : Type} : List (Lit × DataW H) → Nat
  | [] => 0
  | x :: r => uptoBulkEntry x + uptoBulkEntries r
def uptoBulkEntry {H : Type} : Lit × DataW H → Nat
  | (.string bytes, d) => bytes.length + uptoBulk d + 1
  | (_, d) => uptoBulk d + 1
 end
def uptoSmall : (H : Type) → List (DataW H) → Bool := fun _ ds => decide (uptoBulkAll ds ≤ 1048576)
def OpenSpec.upto (s : _root_.Go.ChangeSpec) : _root_.Go.OpenSpec := { _root_.Go.OpenSpec.ofChange s with cond := some uptoSmall }

/-- 'whirligiglaw22.CpuCalls', WHERE WHAT IT READS IS OF BULK AT MOST 1048576: true; the input reads as it did. -/
def cpuCallsUptoRow : OpenClaim := { program := "ytddeejpffdccpaa", sum := "e20da1ad120c3d2bf11a72c4b2cc997b5beeb1cd0361872410c1b5bfdf930027", func := "whirligig/whirligiglaw22.CpuCalls", spec := "cpuCalls", unfollowed := true, recurses := true, apart := false, narrowed := true }
def CpuCallsUptoSaid : Prop := cpuCallsUptoRow.holds Try.pinned (OpenSpec.upto cpuCallsSpec)

/-- 'whirligiglaw22.CpuHalts', WHERE WHAT IT READS IS OF BULK AT MOST 1048576: true; the input reads as it did. -/
def cpuHaltsUptoRow : OpenClaim := { program := "ytddeejpffdccpaa", sum := "e20da1ad120c3d2bf11a72c4b2cc997b5beeb1cd0361872410c1b5bfdf930027", func := "whirligig/whirligiglaw22.CpuHalts", spec := "cpuHalts", unfollowed := true, recurses := true, apart := false, narrowed := true }
def CpuHaltsUptoSaid : Prop := cpuHaltsUptoRow.holds Try.pinned (OpenSpec.upto cpuHaltsSpec)

/-- 'whirligiglaw22.CpuArms', WHERE WHAT IT READS IS OF BULK AT MOST 1048576: true; the input reads as it did. -/
def cpuArmsUptoRow : OpenClaim := { program := "ytddeejpffdccpaa", sum := "e20da1ad120c3d2bf11a72c4b2cc997b5beeb1cd0361872410c1b5bfdf930027", func := "whirligig/whirligiglaw22.CpuArms", spec := "cpuArms", unfollowed := true, recurses := true, apart := false, narrowed := true }
def CpuArmsUptoSaid : Prop := cpuArmsUptoRow.holds Try.pinned (OpenSpec.upto cpuArmsSpec)

/-- 'whirligiglaw22.CpuLocks', WHERE WHAT IT READS IS OF BULK AT MOST 1048576: true; the input reads as it did. -/
def cpuLocksUptoRow : OpenClaim := { program := "ytddeejpffdccpaa", sum := "e20da1ad120c3d2bf11a72c4b2cc997b5beeb1cd0361872410c1b5bfdf930027", func := "whirligig/whirligiglaw22.CpuLocks", spec := "cpuLocks", unfollowed := true, recurses := true, apart := false, narrowed := true }
def CpuLocksUptoSaid : Prop := cpuLocksUptoRow.holds Try.pinned (OpenSpec.upto cpuLocksSpec)

/-- 'whirligiglaw22.CpuTimes', WHERE WHAT IT READS IS OF BULK AT MOST 1048576: true; the input reads as it did. -/
def cpuTimesUptoRow : OpenClaim := { program := "ytddeejpffdccpaa", sum := "e20da1ad120c3d2bf11a72c4b2cc997b5beeb1cd0361872410c1b5bfdf930027", func := "whirligig/whirligiglaw22.CpuTimes", spec := "cpuTimes", unfollowed := true, recurses := true, apart := false, narrowed := true }
def CpuTimesUptoSaid : Prop := cpuTimesUptoRow.holds Try.pinned (OpenSpec.upto cpuTimesSpec)

end Rows
end Go.Proofs.Ytddeejpffdccpaa
