/-
  No cell of these rows narrows 'for every input' (looked for: loops, veiled, ifaces, maps, wideKeys, modest, calm, conditions, laid).
  DERIVED. THE GIVEN ROWS OF THIS SEAT. 8 by the template 'for every input the law returns true; each argument reads behind the call as it read before'; 0 by the template 'total and deterministic' (their statements: YtihngfbkkhneeaaTotals.lean).
  GIVEN WITH THE SEED: the statements are not yours to turn. If you find one false, say at which input.
  Laid BY PROGRAM, IN A SANDBOX (cutbox-rows.mjs): the forced cells as the released guide's own fill.sh prints them over the translation 420887185f40f093… (all of the seat's roots in one cut). By AI agents, Wed Nov 11 2026. No macro, syntax, notation, axiom, sorry.
-/
import Derived.Test.YtihngfbkkhneeaaChecked
import GoSem.Claim
import GoSem.ClaimJoined
import GoSem.ClaimMapViews
import Derived.JoinedTies
import Derived.KernelRfl
namespace Go.Proofs.Ytihngfbkkhneeaa
/- THE CELL 'sum', in the pinned program and in every row, IS THE sha256 OF THE DUMP (.gsa) THAT YtihngfbkkhneeaaProg.lean LOADS. Nothing in Lean hashes anything: it is a label: what it is worth is what the hold of that sum in a sandbox is worth. -/
noncomputable def Try.pinned : Pinned := { name := "ytihngfbkkhneeaa", sum := "420887185f40f0932aaaa4de9f9d839156777e858e5fa0d25322823b891e9aab", checked := Try.checked }
namespace Rows
def none {H : Type} : Left H := { results := [], args := [] }

/-- 'whirligiglaw05.OpcodeDecodes': WHATEVER THE INPUT: true; the input reads as it did. -/
def opcodeDecodesSpec : ChangeSpec := { name := "opcodeDecodes", fn := fun _ => fun
  | [d] => { results := [.lit (.bool true)], args := [d] }
  | _ => none }
def opcodeDecodesRow : OpenClaim := { program := "ytihngfbkkhneeaa", sum := "420887185f40f0932aaaa4de9f9d839156777e858e5fa0d25322823b891e9aab", func := "whirligig/whirligiglaw05.OpcodeDecodes", spec := "opcodeDecodes", unfollowed := true, recurses := true, apart := false }
def OpcodeDecodesSaid : Prop := opcodeDecodesRow.holds Try.pinned (OpenSpec.ofChange opcodeDecodesSpec)

/-- ITS FALSE NEIGHBOUR: 'it returns false'. Refute it at one input. -/
def opcodeDecodesWrong : ChangeSpec := { name := "opcodeDecodes", fn := fun _ => fun
  | [d] => { results := [.lit (.bool false)], args := [d] }
  | _ => none }
def OpcodeDecodesWrongFalsely : Prop := opcodeDecodesRow.holds Try.pinned (OpenSpec.ofChange opcodeDecodesWrong)

/-- 'whirligiglaw05.OpcodePrefixes': WHATEVER THE INPUT: true; the input reads as it did. -/
def opcodePrefixesSpec : ChangeSpec := { name := "opcodePrefixes", fn := fun _ => fun
  | [d] => { results := [.lit (.bool true)], args := [d] }
  | _ => none }
def opcodePrefixesRow : OpenClaim := { program := "ytihngfbkkhneeaa", sum := "420887185f40f0932aaaa4de9f9d839156777e858e5fa0d25322823b891e9aab", func := "whirligig/whirligiglaw05.OpcodePrefixes", spec := "opcodePrefixes", unfollowed := true, recurses := true, apart := false }
def OpcodePrefixesSaid : Prop := opcodePrefixesRow.holds Try.pinned (OpenSpec.ofChange opcodePrefixesSpec)

/-- ITS FALSE NEIGHBOUR: 'it returns false'. Refute it at one input. -/
def opcodePrefixesWrong : ChangeSpec := { name := "opcodePrefixes", fn := fun _ => fun
  | [d] => { results := [.lit (.bool false)], args := [d] }
  | _ => none }
def OpcodePrefixesWrongFalsely : Prop := opcodePrefixesRow.holds Try.pinned (OpenSpec.ofChange opcodePrefixesWrong)

/-- 'whirligiglaw05.OpcodeIllegals': WHATEVER THE INPUT: true; the input reads as it did. -/
def opcodeIllegalsSpec : ChangeSpec := { name := "opcodeIllegals", fn := fun _ => fun
  | [d] => { results := [.lit (.bool true)], args := [d] }
  | _ => none }
def opcodeIllegalsRow : OpenClaim := { program := "ytihngfbkkhneeaa", sum := "420887185f40f0932aaaa4de9f9d839156777e858e5fa0d25322823b891e9aab", func := "whirligig/whirligiglaw05.OpcodeIllegals", spec := "opcodeIllegals", unfollowed := true, recurses := true, apart := false }
def OpcodeIllegalsSaid : Prop := opcodeIllegalsRow.holds Try.pinned (OpenSpec.ofChange opcodeIllegalsSpec)

/-- ITS FALSE NEIGHBOUR: 'it returns false'. Refute it at one input. -/
def opcodeIllegalsWrong : ChangeSpec := { name := "opcodeIllegals", fn := fun _ => fun
  | [d] => { results := [.lit (.bool false)], args := [d] }
  | _ => none }
def OpcodeIllegalsWrongFalsely : Prop := opcodeIllegalsRow.holds Try.pinned (OpenSpec.ofChange opcodeIllegalsWrong)

/-- 'whirligiglaw05.OpcodeTimes': WHATEVER THE INPUT: true; the input reads as it did. -/
def opcodeTimesSpec : ChangeSpec := { name := "opcodeTimes", fn := fun _ => fun
  | [d] => { results := [.lit (.bool true)], args := [d] }
  | _ => none }
def opcodeTimesRow : OpenClaim := { program := "ytihngfbkkhneeaa", sum := "420887185f40f0932aaaa4de9f9d839156777e858e5fa0d25322823b891e9aab", func := "whirligig/whirligiglaw05.OpcodeTimes", spec := "opcodeTimes", unfollowed := true, recurses := true, apart := false }
def OpcodeTimesSaid : Prop := opcodeTimesRow.holds Try.pinned (OpenSpec.ofChange opcodeTimesSpec)

/-- ITS FALSE NEIGHBOUR: 'it returns false'. Refute it at one input. -/
def opcodeTimesWrong : ChangeSpec := { name := "opcodeTimes", fn := fun _ => fun
  | [d] => { results := [.lit (.bool false)], args := [d] }
  | _ => none }
def OpcodeTimesWrongFalsely : Prop := opcodeTimesRow.holds Try.pinned (OpenSpec.ofChange opcodeTimesWrong)

/-- 'whirligiglaw05.OpcodeApart': WHATEVER THE INPUT: true; the input reads as it did. -/
def opcodeApartSpec : ChangeSpec := { name := "opcodeApart", fn := fun _ => fun
  | [d1, d2] => { results := [.lit (.bool true)], args := [d1, d2] }
  | _ => none }
def opcodeApartRow : OpenClaim := { program := "ytihngfbkkhneeaa", sum := "420887185f40f0932aaaa4de9f9d839156777e858e5fa0d25322823b891e9aab", func := "whirligig/whirligiglaw05.OpcodeApart", spec := "opcodeApart", unfollowed := true, recurses := true, apart := false }
def OpcodeApartSaid : Prop := opcodeApartRow.holds Try.pinned (OpenSpec.ofChange opcodeApartSpec)

/-- ITS FALSE NEIGHBOUR: 'it returns false'. Refute it at one input. -/
def opcodeApartWrong : ChangeSpec := { name := "opcodeApart", fn := fun _ => fun
  | [d1, d2] => { results := [.lit (.bool false)], args := [d1, d2] }
  | _ => none }
def OpcodeApartWrongFalsely : Prop := opcodeApartRow.holds Try.pinned (OpenSpec.ofChange opcodeApartWrong)

/-- 'whirligiglaw05.OpcodeCounts': WHATEVER THE INPUT: true; the input reads as it did. -/
def opcodeCountsSpec : ChangeSpec := { name := "opcodeCounts", fn := fun _ => fun
  | [d] => { results := [.lit (.bool true)], args := [d] }
  | _ => none }
def opcodeCountsRow : OpenClaim := { program := "ytihngfbkkhneeaa", sum := "420887185f40f0932aaaa4de9f9d839156777e858e5fa0d25322823b891e9aab", func := "whirligig/whirligiglaw05.OpcodeCounts", spec := "opcodeCounts", unfollowed := true, recurses := true, apart := false }
def OpcodeCountsSaid : Prop := opcodeCountsRow.holds Try.pinned (OpenSpec.ofChange opcodeCountsSpec)

/-- ITS FALSE NEIGHBOUR: 'it returns false'. Refute it at one input. -/
def opcodeCountsWrong : ChangeSpec := { name := "opcodeCounts", fn := fun _ => fun
  | [d] => { results := [.lit (.bool false)], args := [d] }
  | _ => none }
def OpcodeCountsWrongFalsely : Prop := opcodeCountsRow.holds Try.pinned (OpenSpec.ofChange opcodeCountsWrong)

/-- 'whirligiglaw05.OpcodeEncodes': WHATEVER THE INPUT: true; the input reads as it did. -/
def opcodeEncodesSpec : ChangeSpec := { name := "opcodeEncodes", fn := fun _ => fun
  | [d] => { results := [.lit (.bool true)], args := [d] }
  | _ => none }
def opcodeEncodesRow : OpenClaim := { program := "ytihngfbkkhneeaa", sum := "420887185f40f0932aaaa4de9f9d839156777e858e5fa0d25322823b891e9aab", func := "whirligig/whirligiglaw05.OpcodeEncodes", spec := "opcodeEncodes", unfollowed := true, recurses := true, apart := false }
def OpcodeEncodesSaid : Prop := opcodeEncodesRow.holds Try.pinned (OpenSpec.ofChange opcodeEncodesSpec)

/-- ITS FALSE NEIGHBOUR: 'it returns false'. Refute it at one input. -/
def opcodeEncodesWrong : ChangeSpec := { name := "opcodeEncodes", fn := fun _ => fun
  | [d] => { results := [.lit (.bool false)], args := [d] }
  | _ => none }
def OpcodeEncodesWrongFalsely : Prop := opcodeEncodesRow.holds Try.pinned (OpenSpec.ofChange opcodeEncodesWrong)

/-- 'whirligiglaw05.OpcodeBack': WHATEVER THE INPUT: true; the input reads as it did. -/
def opcodeBackSpec : ChangeSpec := { name := "opcodeBack", fn := fun _ => fun
  | [d] => { results := [.lit (.bool true)], args := [d] }
  | _ => none }
def opcodeBackRow : OpenClaim := { program := "ytihngfbkkhneeaa", sum := "420887185f40f0932aaaa4de9f9d839156777e858e5fa0d25322823b891e9aab", func := "whirligig/whirligiglaw05.OpcodeBack", spec := "opcodeBack", unfollowed := true, recurses := true, apart := false }
def OpcodeBackSaid : Prop := opcodeBackRow.holds Try.pinned (OpenSpec.ofChange opcodeBackSpec)

/-- ITS FALSE NEIGHBOUR: 'it returns false'. Refute it at one input. -/
def opcodeBackWrong : ChangeSpec := { name := "opcodeBack", fn := fun _ => fun
  | [d] => { results := [.lit (.bool false)], args := [d] }
  | _ => none }
def OpcodeBackWrongFalsely : Prop := opcodeBackRow.holds Try.pinned (OpenSpec.ofChange opcodeBackWrong)

/- THE SECOND FORM. 'bulk': how many values and letters a reading holds, each counted each time it is reached (what is shared counts as often as it is met; a slice's spare places count too). A statement '..UptoSaid' is the law's where the arguments, and the package variables that the reading takes, are together of bulk at most 1048576: NARROWER than '..Said'. Prove '..Said' where nothing that the law and all that it calls make is longer than what came in: it says more and counts as full. Else prove '..UptoSaid'. A law counts once. -/
mutual
def uptoBulk {H : Type} : DataW H → Nat
  | .lit (.string bytes) => bytes.length + 1
  | .lit _ => 1
  | .nil => 1
  | .ptr d => uptoBulk d + 1
  | .slice elems spare => uptoBulkAll elems + uptoBulkAll spare + 1
  | .agg parts => uptoBulkAll parts + 1
  | .iface _ d => uptoBulk d + 1
  | .map entries => uptoBulkEntries entries + 1
  | .held _ => 1
def uptoBulkAll {H : Type} : List (DataW H) → Nat
  | [] => 0
  | d :: r => uptoBulk d + uptoBulkAll r
def uptoBulkEntries {H : Type} : List (Lit × DataW H) → Nat
  | [] => 0
  | x :: r => uptoBulkEntry x + uptoBulkEntries r
def uptoBulkEntry {H : Type} : Lit × DataW H → Nat
  | (.string bytes, d) => bytes.length + uptoBulk d + 1
  | (_, d) => uptoBulk d + 1
 end
def uptoSmall : (H : Type) → List (DataW H) → Bool := fun _ ds => decide (uptoBulkAll ds ≤ 1048576)
def OpenSpec.upto (s : _root_.Go.ChangeSpec) : _root_.Go.OpenSpec := { _root_.Go.OpenSpec.ofChange s with cond := some uptoSmall }

/-- 'whirligiglaw05.OpcodeDecodes', WHERE WHAT IT READS IS OF BULK AT MOST 1048576: true; the input reads as it did. -/
def opcodeDecodesUptoRow : OpenClaim := { program := "ytihngfbkkhneeaa", sum := "420887185f40f0932aaaa4de9f9d839156777e858e5fa0d25322823b891e9aab", func := "whirligig/whirligiglaw05.OpcodeDecodes", spec := "opcodeDecodes", unfollowed := true, recurses := true, apart := false, narrowed := true }
def OpcodeDecodesUptoSaid : Prop := opcodeDecodesUptoRow.holds Try.pinned (OpenSpec.upto opcodeDecodesSpec)

/-- 'whirligiglaw05.OpcodePrefixes', WHERE WHAT IT READS IS OF BULK AT MOST 1048576: true; the input reads as it did. -/
def opcodePrefixesUptoRow : OpenClaim := { program := "ytihngfbkkhneeaa", sum := "420887185f40f0932aaaa4de9f9d839156777e858e5fa0d25322823b891e9aab", func := "whirligig/whirligiglaw05.OpcodePrefixes", spec := "opcodePrefixes", unfollowed := true, recurses := true, apart := false, narrowed := true }
def OpcodePrefixesUptoSaid : Prop := opcodePrefixesUptoRow.holds Try.pinned (OpenSpec.upto opcodePrefixesSpec)

/-- 'whirligiglaw05.OpcodeIllegals', WHERE WHAT IT READS IS OF BULK AT MOST 1048576: true; the input reads as it did. -/
def opcodeIllegalsUptoRow : OpenClaim := { program := "ytihngfbkkhneeaa", sum := "420887185f40f0932aaaa4de9f9d839156777e858e5fa0d25322823b891e9aab", func := "whirligig/whirligiglaw05.OpcodeIllegals", spec := "opcodeIllegals", unfollowed := true, recurses := true, apart := false, narrowed := true }
def OpcodeIllegalsUptoSaid : Prop := opcodeIllegalsUptoRow.holds Try.pinned (OpenSpec.upto opcodeIllegalsSpec)

/-- 'whirligiglaw05.OpcodeTimes', WHERE WHAT IT READS IS OF BULK AT MOST 1048576: true; the input reads as it did. -/
def opcodeTimesUptoRow : OpenClaim := { program := "ytihngfbkkhneeaa", sum := "420887185f40f0932aaaa4de9f9d839156777e858e5fa0d25322823b891e9aab", func := "whirligig/whirligiglaw05.OpcodeTimes", spec := "opcodeTimes", unfollowed := true, recurses := true, apart := false, narrowed := true }
def OpcodeTimesUptoSaid : Prop := opcodeTimesUptoRow.holds Try.pinned (OpenSpec.upto opcodeTimesSpec)

/-- 'whirligiglaw05.OpcodeApart', WHERE WHAT IT READS IS OF BULK AT MOST 1048576: true; the input reads as it did. -/
def opcodeApartUptoRow : OpenClaim := { program := "ytihngfbkkhneeaa", sum := "420887185f40f0932aaaa4de9f9d839156777e858e5fa0d25322823b891e9aab", func := "whirligig/whirligiglaw05.OpcodeApart", spec := "opcodeApart", unfollowed := true, recurses := true, apart := false, narrowed := true }
def OpcodeApartUptoSaid : Prop := opcodeApartUptoRow.holds Try.pinned (OpenSpec.upto opcodeApartSpec)

/-- 'whirligiglaw05.OpcodeCounts', WHERE WHAT IT READS IS OF BULK AT MOST 1048576: true; the input reads as it did. -/
def opcodeCountsUptoRow : OpenClaim := { program := "ytihngfbkkhneeaa", sum := "420887185f40f0932aaaa4de9f9d839156777e858e5fa0d25322823b891e9aab", func := "whirligig/whirligiglaw05.OpcodeCounts", spec := "opcodeCounts", unfollowed := true, recurses := true, apart := false, narrowed := true }
def OpcodeCountsUptoSaid : Prop := opcodeCountsUptoRow.holds Try.pinned (OpenSpec.upto opcodeCountsSpec)

/-- 'whirligiglaw05.OpcodeEncodes', WHERE WHAT IT READS IS OF BULK AT MOST 1048576: true; the input reads as it did. -/
def opcodeEncodesUptoRow : OpenClaim := { program := "ytihngfbkkhneeaa", sum := "420887185f40f0932aaaa4de9f9d839156777e858e5fa0d25322823b891e9aab", func := "whirligig/whirligiglaw05.OpcodeEncodes", spec := "opcodeEncodes", unfollowed := true, recurses := true, apart := false, narrowed := true }
def OpcodeEncodesUptoSaid : Prop := opcodeEncodesUptoRow.holds Try.pinned (OpenSpec.upto opcodeEncodesSpec)

/-- 'whirligiglaw05.OpcodeBack', WHERE WHAT IT READS IS OF BULK AT MOST 1048576: true; the input reads as it did. -/
def opcodeBackUptoRow : OpenClaim := { program := "ytihngfbkkhneeaa", sum := "420887185f40f0932aaaa4de9f9d839156777e858e5fa0d25322823b891e9aab", func := "whirligig/whirligiglaw05.OpcodeBack", spec := "opcodeBack", unfollowed := true, recurses := true, apart := false, narrowed := true }
def OpcodeBackUptoSaid : Prop := opcodeBackUptoRow.holds Try.pinned (OpenSpec.upto opcodeBackSpec)

end Rows
end Go.Proofs.Ytihngfbkkhneeaa
