/-
  No cell of these rows narrows 'for every input' (looked for: loops, veiled, ifaces, maps, wideKeys, modest, calm, conditions, laid).
  DERIVED. THE GIVEN ROWS OF THIS SEAT. 7 by the template 'for every input the law returns true; each argument reads behind the call as it read before'; 0 by the template 'total and deterministic' (their statements: YtfpepeembbpncaaTotals.lean).
  GIVEN WITH THE SEED: the statements are not yours to turn. If you find one false, say at which input.
  Laid BY PROGRAM, IN A SANDBOX (cutbox-rows.mjs): the forced cells as the released guide's own fill.sh prints them over the translation 31ac7d2c74edbe87… (all of the seat's roots in one cut). By AI agents, Wed Nov 11 2026. No macro, syntax, notation, axiom, sorry.
-/
import Derived.Test.YtfpepeembbpncaaChecked
import GoSem.Claim
import GoSem.ClaimJoined
import GoSem.ClaimMapViews
import Derived.JoinedTies
import Derived.KernelRfl
namespace Go.Proofs.Ytfpepeembbpncaa
/- THE CELL 'sum', in the pinned program and in every row, IS THE sha256 OF THE DUMP (.gsa) THAT YtfpepeembbpncaaProg.lean LOADS. Nothing in Lean hashes anything: it is a label: what it is worth is what the hold of that sum in a sandbox is worth. -/
noncomputable def Try.pinned : Pinned := { name := "ytfpepeembbpncaa", sum := "31ac7d2c74edbe872ecb15f8f97e9677ad6ff9942d8c51cdffcdf588c380836c", checked := Try.checked }
namespace Rows
def none {H : Type} : Left H := { results := [], args := [] }

/-- 'whirligiglaw16.ObjectsScans': WHATEVER THE INPUT: true; the input reads as it did. -/
def objectsScansSpec : ChangeSpec := { name := "objectsScans", fn := fun _ => fun
  | [d1, d2, d3] => { results := [.lit (.bool true)], args := [d1, d2, d3] }
  | _ => none }
def objectsScansRow : OpenClaim := { program := "ytfpepeembbpncaa", sum := "31ac7d2c74edbe872ecb15f8f97e9677ad6ff9942d8c51cdffcdf588c380836c", func := "whirligig/whirligiglaw16.ObjectsScans", spec := "objectsScans", unfollowed := true, recurses := true, apart := false }
def ObjectsScansSaid : Prop := objectsScansRow.holds Try.pinned (OpenSpec.ofChange objectsScansSpec)

/-- ITS FALSE NEIGHBOUR: 'it returns false'. Refute it at one input. -/
def objectsScansWrong : ChangeSpec := { name := "objectsScans", fn := fun _ => fun
  | [d1, d2, d3] => { results := [.lit (.bool false)], args := [d1, d2, d3] }
  | _ => none }
def ObjectsScansWrongFalsely : Prop := objectsScansRow.holds Try.pinned (OpenSpec.ofChange objectsScansWrong)

/-- 'whirligiglaw16.ObjectsRows': WHATEVER THE INPUT: true; the input reads as it did. -/
def objectsRowsSpec : ChangeSpec := { name := "objectsRows", fn := fun _ => fun
  | [d1, d2, d3] => { results := [.lit (.bool true)], args := [d1, d2, d3] }
  | _ => none }
def objectsRowsRow : OpenClaim := { program := "ytfpepeembbpncaa", sum := "31ac7d2c74edbe872ecb15f8f97e9677ad6ff9942d8c51cdffcdf588c380836c", func := "whirligig/whirligiglaw16.ObjectsRows", spec := "objectsRows", unfollowed := true, recurses := true, apart := false }
def ObjectsRowsSaid : Prop := objectsRowsRow.holds Try.pinned (OpenSpec.ofChange objectsRowsSpec)

/-- ITS FALSE NEIGHBOUR: 'it returns false'. Refute it at one input. -/
def objectsRowsWrong : ChangeSpec := { name := "objectsRows", fn := fun _ => fun
  | [d1, d2, d3] => { results := [.lit (.bool false)], args := [d1, d2, d3] }
  | _ => none }
def ObjectsRowsWrongFalsely : Prop := objectsRowsRow.holds Try.pinned (OpenSpec.ofChange objectsRowsWrong)

/-- 'whirligiglaw16.ObjectsExtras': WHATEVER THE INPUT: true; the input reads as it did. -/
def objectsExtrasSpec : ChangeSpec := { name := "objectsExtras", fn := fun _ => fun
  | [d1, d2] => { results := [.lit (.bool true)], args := [d1, d2] }
  | _ => none }
def objectsExtrasRow : OpenClaim := { program := "ytfpepeembbpncaa", sum := "31ac7d2c74edbe872ecb15f8f97e9677ad6ff9942d8c51cdffcdf588c380836c", func := "whirligig/whirligiglaw16.ObjectsExtras", spec := "objectsExtras", unfollowed := true, recurses := true, apart := false }
def ObjectsExtrasSaid : Prop := objectsExtrasRow.holds Try.pinned (OpenSpec.ofChange objectsExtrasSpec)

/-- ITS FALSE NEIGHBOUR: 'it returns false'. Refute it at one input. -/
def objectsExtrasWrong : ChangeSpec := { name := "objectsExtras", fn := fun _ => fun
  | [d1, d2] => { results := [.lit (.bool false)], args := [d1, d2] }
  | _ => none }
def ObjectsExtrasWrongFalsely : Prop := objectsExtrasRow.holds Try.pinned (OpenSpec.ofChange objectsExtrasWrong)

/-- 'whirligiglaw16.ObjectsTen': WHATEVER THE INPUT: true; the input reads as it did. -/
def objectsTenSpec : ChangeSpec := { name := "objectsTen", fn := fun _ => fun
  | [d1, d2, d3] => { results := [.lit (.bool true)], args := [d1, d2, d3] }
  | _ => none }
def objectsTenRow : OpenClaim := { program := "ytfpepeembbpncaa", sum := "31ac7d2c74edbe872ecb15f8f97e9677ad6ff9942d8c51cdffcdf588c380836c", func := "whirligig/whirligiglaw16.ObjectsTen", spec := "objectsTen", unfollowed := true, recurses := true, apart := false }
def ObjectsTenSaid : Prop := objectsTenRow.holds Try.pinned (OpenSpec.ofChange objectsTenSpec)

/-- ITS FALSE NEIGHBOUR: 'it returns false'. Refute it at one input. -/
def objectsTenWrong : ChangeSpec := { name := "objectsTen", fn := fun _ => fun
  | [d1, d2, d3] => { results := [.lit (.bool false)], args := [d1, d2, d3] }
  | _ => none }
def ObjectsTenWrongFalsely : Prop := objectsTenRow.holds Try.pinned (OpenSpec.ofChange objectsTenWrong)

/-- 'whirligiglaw16.ObjectsLines': WHATEVER THE INPUT: true; the input reads as it did. -/
def objectsLinesSpec : ChangeSpec := { name := "objectsLines", fn := fun _ => fun
  | [d1, d2] => { results := [.lit (.bool true)], args := [d1, d2] }
  | _ => none }
def objectsLinesRow : OpenClaim := { program := "ytfpepeembbpncaa", sum := "31ac7d2c74edbe872ecb15f8f97e9677ad6ff9942d8c51cdffcdf588c380836c", func := "whirligig/whirligiglaw16.ObjectsLines", spec := "objectsLines", unfollowed := true, recurses := true, apart := false }
def ObjectsLinesSaid : Prop := objectsLinesRow.holds Try.pinned (OpenSpec.ofChange objectsLinesSpec)

/-- ITS FALSE NEIGHBOUR: 'it returns false'. Refute it at one input. -/
def objectsLinesWrong : ChangeSpec := { name := "objectsLines", fn := fun _ => fun
  | [d1, d2] => { results := [.lit (.bool false)], args := [d1, d2] }
  | _ => none }
def ObjectsLinesWrongFalsely : Prop := objectsLinesRow.holds Try.pinned (OpenSpec.ofChange objectsLinesWrong)

/-- 'whirligiglaw16.ObjectsOrders': WHATEVER THE INPUT: true; the input reads as it did. -/
def objectsOrdersSpec : ChangeSpec := { name := "objectsOrders", fn := fun _ => fun
  | [d] => { results := [.lit (.bool true)], args := [d] }
  | _ => none }
def objectsOrdersRow : OpenClaim := { program := "ytfpepeembbpncaa", sum := "31ac7d2c74edbe872ecb15f8f97e9677ad6ff9942d8c51cdffcdf588c380836c", func := "whirligig/whirligiglaw16.ObjectsOrders", spec := "objectsOrders", unfollowed := true, recurses := true, apart := false }
def ObjectsOrdersSaid : Prop := objectsOrdersRow.holds Try.pinned (OpenSpec.ofChange objectsOrdersSpec)

/-- ITS FALSE NEIGHBOUR: 'it returns false'. Refute it at one input. -/
def objectsOrdersWrong : ChangeSpec := { name := "objectsOrders", fn := fun _ => fun
  | [d] => { results := [.lit (.bool false)], args := [d] }
  | _ => none }
def ObjectsOrdersWrongFalsely : Prop := objectsOrdersRow.holds Try.pinned (OpenSpec.ofChange objectsOrdersWrong)

/-- 'whirligiglaw16.ObjectsSorted': WHATEVER THE INPUT: true; the input reads as it did. -/
def objectsSortedSpec : ChangeSpec := { name := "objectsSorted", fn := fun _ => fun
  | [d] => { results := [.lit (.bool true)], args := [d] }
  | _ => none }
def objectsSortedRow : OpenClaim := { program := "ytfpepeembbpncaa", sum := "31ac7d2c74edbe872ecb15f8f97e9677ad6ff9942d8c51cdffcdf588c380836c", func := "whirligig/whirligiglaw16.ObjectsSorted", spec := "objectsSorted", unfollowed := true, recurses := true, apart := false }
def ObjectsSortedSaid : Prop := objectsSortedRow.holds Try.pinned (OpenSpec.ofChange objectsSortedSpec)

/-- ITS FALSE NEIGHBOUR: 'it returns false'. Refute it at one input. -/
def objectsSortedWrong : ChangeSpec := { name := "objectsSorted", fn := fun _ => fun
  | [d] => { results := [.lit (.bool false)], args := [d] }
  | _ => none }
def ObjectsSortedWrongFalsely : Prop := objectsSortedRow.holds Try.pinned (OpenSpec.ofChange objectsSortedWrong)

/- THE SECOND FORM. 'bulk': how many values and letters a reading holds, each counted each time it is reached (what is shared counts as often as it is met; a slice's spare places count too). A statement '..UptoSaid' is the law's where the arguments, and the package variables that the reading takes, are together of bulk at most 1048576: NARROWER than '..Said'. Prove '..Said' where nothing that the law and all that it calls make is longer than what came in: it says more and counts as full. Else prove '..UptoSaid'. A law counts once. -/
mutual
def uptoBulk {H : Type} : DataW H → Nat
  | .lit (.string bytes) => bytes.length + 1
  | .lit _ => 1
  | .nil => 1
  | .ptr d => uptoBulk d + 1
  | .slice elems spare => uptoBulkAll elems + uptoBulkAll spare + 1
  | .agg parts => uptoBulkAll parts + 1
  | .iface _ d => uptoBulk d + 1
  | .map entries => uptoBulkEntries entries + 1
  | .held _ => 1
def uptoBulkAll {H : Type} : List (DataW H) → Nat
  | [] => 0
  | d :: r => uptoBulk d + uptoBulkAll r
def uptoBulkEntries {H : Type} : List (Lit × DataW H) → Nat
  | [] => 0
  | x :: r => uptoBulkEntry x + uptoBulkEntries r
def uptoBulkEntry {H : Type} : Lit × DataW H → Nat
  | (.string bytes, d) => bytes.length + uptoBulk d + 1
  | (_, d) => uptoBulk d + 1
 end
def uptoSmall : (H : Type) → List (DataW H) → Bool := fun _ ds => decide (uptoBulkAll ds ≤ 1048576)
def OpenSpec.upto (s : _root_.Go.ChangeSpec) : _root_.Go.OpenSpec := { _root_.Go.OpenSpec.ofChange s with cond := some uptoSmall }

/-- 'whirligiglaw16.ObjectsScans', WHERE WHAT IT READS IS OF BULK AT MOST 1048576: true; the input reads as it did. -/
def objectsScansUptoRow : OpenClaim := { program := "ytfpepeembbpncaa", sum := "31ac7d2c74edbe872ecb15f8f97e9677ad6ff9942d8c51cdffcdf588c380836c", func := "whirligig/whirligiglaw16.ObjectsScans", spec := "objectsScans", unfollowed := true, recurses := true, apart := false, narrowed := true }
def ObjectsScansUptoSaid : Prop := objectsScansUptoRow.holds Try.pinned (OpenSpec.upto objectsScansSpec)

/-- 'whirligiglaw16.ObjectsRows', WHERE WHAT IT READS IS OF BULK AT MOST 1048576: true; the input reads as it did. -/
def objectsRowsUptoRow : OpenClaim := { program := "ytfpepeembbpncaa", sum := "31ac7d2c74edbe872ecb15f8f97e9677ad6ff9942d8c51cdffcdf588c380836c", func := "whirligig/whirligiglaw16.ObjectsRows", spec := "objectsRows", unfollowed := true, recurses := true, apart := false, narrowed := true }
def ObjectsRowsUptoSaid : Prop := objectsRowsUptoRow.holds Try.pinned (OpenSpec.upto objectsRowsSpec)

/-- 'whirligiglaw16.ObjectsExtras', WHERE WHAT IT READS IS OF BULK AT MOST 1048576: true; the input reads as it did. -/
def objectsExtrasUptoRow : OpenClaim := { program := "ytfpepeembbpncaa", sum := "31ac7d2c74edbe872ecb15f8f97e9677ad6ff9942d8c51cdffcdf588c380836c", func := "whirligig/whirligiglaw16.ObjectsExtras", spec := "objectsExtras", unfollowed := true, recurses := true, apart := false, narrowed := true }
def ObjectsExtrasUptoSaid : Prop := objectsExtrasUptoRow.holds Try.pinned (OpenSpec.upto objectsExtrasSpec)

/-- 'whirligiglaw16.ObjectsTen', WHERE WHAT IT READS IS OF BULK AT MOST 1048576: true; the input reads as it did. -/
def objectsTenUptoRow : OpenClaim := { program := "ytfpepeembbpncaa", sum := "31ac7d2c74edbe872ecb15f8f97e9677ad6ff9942d8c51cdffcdf588c380836c", func := "whirligig/whirligiglaw16.ObjectsTen", spec := "objectsTen", unfollowed := true, recurses := true, apart := false, narrowed := true }
def ObjectsTenUptoSaid : Prop := objectsTenUptoRow.holds Try.pinned (OpenSpec.upto objectsTenSpec)

/-- 'whirligiglaw16.ObjectsLines', WHERE WHAT IT READS IS OF BULK AT MOST 1048576: true; the input reads as it did. -/
def objectsLinesUptoRow : OpenClaim := { program := "ytfpepeembbpncaa", sum := "31ac7d2c74edbe872ecb15f8f97e9677ad6ff9942d8c51cdffcdf588c380836c", func := "whirligig/whirligiglaw16.ObjectsLines", spec := "objectsLines", unfollowed := true, recurses := true, apart := false, narrowed := true }
def ObjectsLinesUptoSaid : Prop := objectsLinesUptoRow.holds Try.pinned (OpenSpec.upto objectsLinesSpec)

/-- 'whirligiglaw16.ObjectsOrders', WHERE WHAT IT READS IS OF BULK AT MOST 1048576: true; the input reads as it did. -/
def objectsOrdersUptoRow : OpenClaim := { program := "ytfpepeembbpncaa", sum := "31ac7d2c74edbe872ecb15f8f97e9677ad6ff9942d8c51cdffcdf588c380836c", func := "whirligig/whirligiglaw16.ObjectsOrders", spec := "objectsOrders", unfollowed := true, recurses := true, apart := false, narrowed := true }
def ObjectsOrdersUptoSaid : Prop := objectsOrdersUptoRow.holds Try.pinned (OpenSpec.upto objectsOrdersSpec)

/-- 'whirligiglaw16.ObjectsSorted', WHERE WHAT IT READS IS OF BULK AT MOST 1048576: true; the input reads as it did. -/
def objectsSortedUptoRow : OpenClaim := { program := "ytfpepeembbpncaa", sum := "31ac7d2c74edbe872ecb15f8f97e9677ad6ff9942d8c51cdffcdf588c380836c", func := "whirligig/whirligiglaw16.ObjectsSorted", spec := "objectsSorted", unfollowed := true, recurses := true, apart := false, narrowed := true }
def ObjectsSortedUptoSaid : Prop := objectsSortedUptoRow.holds Try.pinned (OpenSpec.upto objectsSortedSpec)

end Rows
end Go.Proofs.Ytfpepeembbpncaa
