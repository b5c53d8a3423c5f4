/-
  No cell of these rows narrows 'for every input' (looked for: loops, veiled, ifaces, maps, wideKeys, modest, calm, conditions, laid).
  DERIVED. THE GIVEN ROWS OF THIS SEAT. 7 by the template 'for every input the law returns true; each argument reads behind the call as it read before'; 0 by the template 'total and deterministic' (their statements: YtibgfodjecnnkaaTotals.lean).
  GIVEN WITH THE SEED: the statements are not yours to turn. If you find one false, say at which input.
  Laid BY PROGRAM, IN A SANDBOX (cutbox-rows.mjs): the forced cells as the released guide's own fill.sh prints them over the translation 584991f8bc513d64… (all of the seat's roots in one cut). By AI agents, Wed Nov 11 2026. No macro, syntax, notation, axiom, sorry.
-/
import Derived.Test.YtibgfodjecnnkaaChecked
import GoSem.Claim
import GoSem.ClaimJoined
import GoSem.ClaimMapViews
import Derived.JoinedTies
import Derived.KernelRfl
namespace Go.Proofs.Ytibgfodjecnnkaa
/- THE CELL 'sum', in the pinned program and in every row, IS THE sha256 OF THE DUMP (.gsa) THAT YtibgfodjecnnkaaProg.lean LOADS. Nothing in Lean hashes anything: it is a label: what it is worth is what the hold of that sum in a sandbox is worth. -/
noncomputable def Try.pinned : Pinned := { name := "ytibgfodjecnnkaa", sum := "584991f8bc513d64bb6fefaa5169e6e49686dc11a4567ecf7ad73e856573723c", checked := Try.checked }
namespace Rows
def none {H : Type} : Left H := { results := [], args := [] }

/-- 'whirligiglaw18.ScanWindows': WHATEVER THE INPUT: true; the input reads as it did. -/
def scanWindowsSpec : ChangeSpec := { name := "scanWindows", fn := fun _ => fun
  | [d1, d2] => { results := [.lit (.bool true)], args := [d1, d2] }
  | _ => none }
def scanWindowsRow : OpenClaim := { program := "ytibgfodjecnnkaa", sum := "584991f8bc513d64bb6fefaa5169e6e49686dc11a4567ecf7ad73e856573723c", func := "whirligig/whirligiglaw18.ScanWindows", spec := "scanWindows", unfollowed := true, recurses := true, apart := false }
def ScanWindowsSaid : Prop := scanWindowsRow.holds Try.pinned (OpenSpec.ofChange scanWindowsSpec)

/-- ITS FALSE NEIGHBOUR: 'it returns false'. Refute it at one input. -/
def scanWindowsWrong : ChangeSpec := { name := "scanWindows", fn := fun _ => fun
  | [d1, d2] => { results := [.lit (.bool false)], args := [d1, d2] }
  | _ => none }
def ScanWindowsWrongFalsely : Prop := scanWindowsRow.holds Try.pinned (OpenSpec.ofChange scanWindowsWrong)

/-- 'whirligiglaw18.ScanLines': WHATEVER THE INPUT: true; the input reads as it did. -/
def scanLinesSpec : ChangeSpec := { name := "scanLines", fn := fun _ => fun
  | [d1, d2, d3] => { results := [.lit (.bool true)], args := [d1, d2, d3] }
  | _ => none }
def scanLinesRow : OpenClaim := { program := "ytibgfodjecnnkaa", sum := "584991f8bc513d64bb6fefaa5169e6e49686dc11a4567ecf7ad73e856573723c", func := "whirligig/whirligiglaw18.ScanLines", spec := "scanLines", unfollowed := true, recurses := true, apart := false }
def ScanLinesSaid : Prop := scanLinesRow.holds Try.pinned (OpenSpec.ofChange scanLinesSpec)

/-- ITS FALSE NEIGHBOUR: 'it returns false'. Refute it at one input. -/
def scanLinesWrong : ChangeSpec := { name := "scanLines", fn := fun _ => fun
  | [d1, d2, d3] => { results := [.lit (.bool false)], args := [d1, d2, d3] }
  | _ => none }
def ScanLinesWrongFalsely : Prop := scanLinesRow.holds Try.pinned (OpenSpec.ofChange scanLinesWrong)

/-- 'whirligiglaw18.ScanTexts': WHATEVER THE INPUT: true; the input reads as it did. -/
def scanTextsSpec : ChangeSpec := { name := "scanTexts", fn := fun _ => fun
  | [d] => { results := [.lit (.bool true)], args := [d] }
  | _ => none }
def scanTextsRow : OpenClaim := { program := "ytibgfodjecnnkaa", sum := "584991f8bc513d64bb6fefaa5169e6e49686dc11a4567ecf7ad73e856573723c", func := "whirligig/whirligiglaw18.ScanTexts", spec := "scanTexts", unfollowed := true, recurses := true, apart := false }
def ScanTextsSaid : Prop := scanTextsRow.holds Try.pinned (OpenSpec.ofChange scanTextsSpec)

/-- ITS FALSE NEIGHBOUR: 'it returns false'. Refute it at one input. -/
def scanTextsWrong : ChangeSpec := { name := "scanTexts", fn := fun _ => fun
  | [d] => { results := [.lit (.bool false)], args := [d] }
  | _ => none }
def ScanTextsWrongFalsely : Prop := scanTextsRow.holds Try.pinned (OpenSpec.ofChange scanTextsWrong)

/-- 'whirligiglaw18.ScanShades': WHATEVER THE INPUT: true; the input reads as it did. -/
def scanShadesSpec : ChangeSpec := { name := "scanShades", fn := fun _ => fun
  | [d1, d2, d3] => { results := [.lit (.bool true)], args := [d1, d2, d3] }
  | _ => none }
def scanShadesRow : OpenClaim := { program := "ytibgfodjecnnkaa", sum := "584991f8bc513d64bb6fefaa5169e6e49686dc11a4567ecf7ad73e856573723c", func := "whirligig/whirligiglaw18.ScanShades", spec := "scanShades", unfollowed := true, recurses := true, apart := false }
def ScanShadesSaid : Prop := scanShadesRow.holds Try.pinned (OpenSpec.ofChange scanShadesSpec)

/-- ITS FALSE NEIGHBOUR: 'it returns false'. Refute it at one input. -/
def scanShadesWrong : ChangeSpec := { name := "scanShades", fn := fun _ => fun
  | [d1, d2, d3] => { results := [.lit (.bool false)], args := [d1, d2, d3] }
  | _ => none }
def ScanShadesWrongFalsely : Prop := scanShadesRow.holds Try.pinned (OpenSpec.ofChange scanShadesWrong)

/-- 'whirligiglaw18.ScanScrolls': WHATEVER THE INPUT: true; the input reads as it did. -/
def scanScrollsSpec : ChangeSpec := { name := "scanScrolls", fn := fun _ => fun
  | [d1, d2, d3, d4] => { results := [.lit (.bool true)], args := [d1, d2, d3, d4] }
  | _ => none }
def scanScrollsRow : OpenClaim := { program := "ytibgfodjecnnkaa", sum := "584991f8bc513d64bb6fefaa5169e6e49686dc11a4567ecf7ad73e856573723c", func := "whirligig/whirligiglaw18.ScanScrolls", spec := "scanScrolls", unfollowed := true, recurses := true, apart := false }
def ScanScrollsSaid : Prop := scanScrollsRow.holds Try.pinned (OpenSpec.ofChange scanScrollsSpec)

/-- ITS FALSE NEIGHBOUR: 'it returns false'. Refute it at one input. -/
def scanScrollsWrong : ChangeSpec := { name := "scanScrolls", fn := fun _ => fun
  | [d1, d2, d3, d4] => { results := [.lit (.bool false)], args := [d1, d2, d3, d4] }
  | _ => none }
def ScanScrollsWrongFalsely : Prop := scanScrollsRow.holds Try.pinned (OpenSpec.ofChange scanScrollsWrong)

/-- 'whirligiglaw18.ScanApart': WHATEVER THE INPUT: true; the input reads as it did. -/
def scanApartSpec : ChangeSpec := { name := "scanApart", fn := fun _ => fun
  | [d1, d2, d3, d4, d5] => { results := [.lit (.bool true)], args := [d1, d2, d3, d4, d5] }
  | _ => none }
def scanApartRow : OpenClaim := { program := "ytibgfodjecnnkaa", sum := "584991f8bc513d64bb6fefaa5169e6e49686dc11a4567ecf7ad73e856573723c", func := "whirligig/whirligiglaw18.ScanApart", spec := "scanApart", unfollowed := true, recurses := true, apart := false }
def ScanApartSaid : Prop := scanApartRow.holds Try.pinned (OpenSpec.ofChange scanApartSpec)

/-- ITS FALSE NEIGHBOUR: 'it returns false'. Refute it at one input. -/
def scanApartWrong : ChangeSpec := { name := "scanApart", fn := fun _ => fun
  | [d1, d2, d3, d4, d5] => { results := [.lit (.bool false)], args := [d1, d2, d3, d4, d5] }
  | _ => none }
def ScanApartWrongFalsely : Prop := scanApartRow.holds Try.pinned (OpenSpec.ofChange scanApartWrong)

/-- 'whirligiglaw18.ScanFrames': WHATEVER THE INPUT: true; the input reads as it did. -/
def scanFramesSpec : ChangeSpec := { name := "scanFrames", fn := fun _ => fun
  | [d] => { results := [.lit (.bool true)], args := [d] }
  | _ => none }
def scanFramesRow : OpenClaim := { program := "ytibgfodjecnnkaa", sum := "584991f8bc513d64bb6fefaa5169e6e49686dc11a4567ecf7ad73e856573723c", func := "whirligig/whirligiglaw18.ScanFrames", spec := "scanFrames", unfollowed := true, recurses := true, apart := false }
def ScanFramesSaid : Prop := scanFramesRow.holds Try.pinned (OpenSpec.ofChange scanFramesSpec)

/-- ITS FALSE NEIGHBOUR: 'it returns false'. Refute it at one input. -/
def scanFramesWrong : ChangeSpec := { name := "scanFrames", fn := fun _ => fun
  | [d] => { results := [.lit (.bool false)], args := [d] }
  | _ => none }
def ScanFramesWrongFalsely : Prop := scanFramesRow.holds Try.pinned (OpenSpec.ofChange scanFramesWrong)

/- THE SECOND FORM. 'bulk': how many values and letters a reading holds, each counted each time it is reached (what is shared counts as often as it is met; a slice's spare places count too). A statement '..UptoSaid' is the law's where the arguments, and the package variables that the reading takes, are together of bulk at most 1048576: NARROWER than '..Said'. Prove '..Said' where nothing that the law and all that it calls make is longer than what came in: it says more and counts as full. Else prove '..UptoSaid'. A law counts once. -/
mutual
def uptoBulk {H : Type} : DataW H → Nat
  | .lit (.string bytes) => bytes.length + 1
  | .lit _ => 1
  | .nil => 1
  | .ptr d => uptoBulk d + 1
  | .slice elems spare => uptoBulkAll elems + uptoBulkAll spare + 1
  | .agg parts => uptoBulkAll parts + 1
  | .iface _ d => uptoBulk d + 1
  | .map entries => uptoBulkEntries entries + 1
  | .held _ => 1
def uptoBulkAll {H : Type} : List (DataW H) → Nat
  | [] => 0
  | d :: r => uptoBulk d + uptoBulkAll r
def uptoBulkEntries {H : Type} : List (Lit × DataW H) → Nat
  | [] => 0
  | x :: r => uptoBulkEntry x + uptoBulkEntries r
def uptoBulkEntry {H : Type} : Lit × DataW H → Nat
  | (.string bytes, d) => bytes.length + uptoBulk d + 1
  | (_, d) => uptoBulk d + 1
 end
def uptoSmall : (H : Type) → List (DataW H) → Bool := fun _ ds => decide (uptoBulkAll ds ≤ 1048576)
def OpenSpec.upto (s : _root_.Go.ChangeSpec) : _root_.Go.OpenSpec := { _root_.Go.OpenSpec.ofChange s with cond := some uptoSmall }

/-- 'whirligiglaw18.ScanWindows', WHERE WHAT IT READS IS OF BULK AT MOST 1048576: true; the input reads as it did. -/
def scanWindowsUptoRow : OpenClaim := { program := "ytibgfodjecnnkaa", sum := "584991f8bc513d64bb6fefaa5169e6e49686dc11a4567ecf7ad73e856573723c", func := "whirligig/whirligiglaw18.ScanWindows", spec := "scanWindows", unfollowed := true, recurses := true, apart := false, narrowed := true }
def ScanWindowsUptoSaid : Prop := scanWindowsUptoRow.holds Try.pinned (OpenSpec.upto scanWindowsSpec)

/-- 'whirligiglaw18.ScanLines', WHERE WHAT IT READS IS OF BULK AT MOST 1048576: true; the input reads as it did. -/
def scanLinesUptoRow : OpenClaim := { program := "ytibgfodjecnnkaa", sum := "584991f8bc513d64bb6fefaa5169e6e49686dc11a4567ecf7ad73e856573723c", func := "whirligig/whirligiglaw18.ScanLines", spec := "scanLines", unfollowed := true, recurses := true, apart := false, narrowed := true }
def ScanLinesUptoSaid : Prop := scanLinesUptoRow.holds Try.pinned (OpenSpec.upto scanLinesSpec)

/-- 'whirligiglaw18.ScanTexts', WHERE WHAT IT READS IS OF BULK AT MOST 1048576: true; the input reads as it did. -/
def scanTextsUptoRow : OpenClaim := { program := "ytibgfodjecnnkaa", sum := "584991f8bc513d64bb6fefaa5169e6e49686dc11a4567ecf7ad73e856573723c", func := "whirligig/whirligiglaw18.ScanTexts", spec := "scanTexts", unfollowed := true, recurses := true, apart := false, narrowed := true }
def ScanTextsUptoSaid : Prop := scanTextsUptoRow.holds Try.pinned (OpenSpec.upto scanTextsSpec)

/-- 'whirligiglaw18.ScanShades', WHERE WHAT IT READS IS OF BULK AT MOST 1048576: true; the input reads as it did. -/
def scanShadesUptoRow : OpenClaim := { program := "ytibgfodjecnnkaa", sum := "584991f8bc513d64bb6fefaa5169e6e49686dc11a4567ecf7ad73e856573723c", func := "whirligig/whirligiglaw18.ScanShades", spec := "scanShades", unfollowed := true, recurses := true, apart := false, narrowed := true }
def ScanShadesUptoSaid : Prop := scanShadesUptoRow.holds Try.pinned (OpenSpec.upto scanShadesSpec)

/-- 'whirligiglaw18.ScanScrolls', WHERE WHAT IT READS IS OF BULK AT MOST 1048576: true; the input reads as it did. -/
def scanScrollsUptoRow : OpenClaim := { program := "ytibgfodjecnnkaa", sum := "584991f8bc513d64bb6fefaa5169e6e49686dc11a4567ecf7ad73e856573723c", func := "whirligig/whirligiglaw18.ScanScrolls", spec := "scanScrolls", unfollowed := true, recurses := true, apart := false, narrowed := true }
def ScanScrollsUptoSaid : Prop := scanScrollsUptoRow.holds Try.pinned (OpenSpec.upto scanScrollsSpec)

/-- 'whirligiglaw18.ScanApart', WHERE WHAT IT READS IS OF BULK AT MOST 1048576: true; the input reads as it did. -/
def scanApartUptoRow : OpenClaim := { program := "ytibgfodjecnnkaa", sum := "584991f8bc513d64bb6fefaa5169e6e49686dc11a4567ecf7ad73e856573723c", func := "whirligig/whirligiglaw18.ScanApart", spec := "scanApart", unfollowed := true, recurses := true, apart := false, narrowed := true }
def ScanApartUptoSaid : Prop := scanApartUptoRow.holds Try.pinned (OpenSpec.upto scanApartSpec)

/-- 'whirligiglaw18.ScanFrames', WHERE WHAT IT READS IS OF BULK AT MOST 1048576: true; the input reads as it did. -/
def scanFramesUptoRow : OpenClaim := { program := "ytibgfodjecnnkaa", sum := "584991f8bc513d64bb6fefaa5169e6e49686dc11a4567ecf7ad73e856573723c", func := "whirligig/whirligiglaw18.ScanFrames", spec := "scanFrames", unfollowed := true, recurses := true, apart := false, narrowed := true }
def ScanFramesUptoSaid : Prop := scanFramesUptoRow.holds Try.pinned (OpenSpec.upto scanFramesSpec)

end Rows
end Go.Proofs.Ytibgfodjecnnkaa
