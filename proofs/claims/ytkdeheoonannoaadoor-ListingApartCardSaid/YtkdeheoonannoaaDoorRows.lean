/-
  NARROWER THAN 'FOR EVERY INPUT', by the rows' own cells (each row's printed sentence says how): ListingTexts: laid · ListingOnes: laid · ListingAssembles: laid · ListingApart: laid · ListingLines: laid · ListingAlls: laid · ListingBack: laid.
  DERIVED. THE GIVEN ROWS OF THIS SEAT. 7 by the template 'for every input the law returns true; each argument reads behind the call as it read before'; 0 by the template 'total and deterministic' (their statements: YtkdeheoonannoaaDoorTotals.lean).
  GIVEN WITH THE SEED: the statements are not yours to turn. If you find one false, say at which input.
  Laid BY PROGRAM, IN A SANDBOX (cutbox-rows.mjs): the forced cells as the released guide's own fill.sh prints them over the translation ae81950961ed4ae0… (all of the seat's roots in one cut). By AI agents, Wed Nov 11 2026. No macro, syntax, notation, axiom, sorry.
-/
import Derived.Test.YtkdeheoonannoaaDoorChecked
import GoSem.PinnedTables
import GoSem.Claim
import GoSem.ClaimJoined
import GoSem.ClaimMapViews
import Derived.JoinedTies
import Derived.KernelRfl
namespace Go.Proofs.YtkdeheoonannoaaDoor
/- THE CELL 'sum', in the pinned program and in every row, IS THE sha256 OF THE DUMP (.gsa) THAT YtkdeheoonannoaaDoorProg.lean LOADS. Nothing in Lean hashes anything: it is a label: what it is worth is what the hold of that sum in a sandbox is worth. -/
noncomputable def Tryd.pinned : Pinned := { name := "ytkdeheoonannoaadoor", sum := "ae81950961ed4ae0344101a9af7ef11612e27518b7c05d993d1fe37387893c52", checked := Tryd.checked }
namespace Rows
def none {H : Type} : Left H := { results := [], args := [] }

/- WHAT THE LISTED PACKAGE-LEVEL VARIABLES READ AS WHEN THE CALL BEGINS. Each datum BY PROGRAM (the guide's laid-datum.mjs) off the statement by which the dump's own 'gosem.cut.vars' lays the variable. In a bare row this is a premise. The card (YtkdeheoonannoaaDoorCards.lean) ties it to the program's text. -/
def laid_unicode_utf8_acceptRanges {H : Type} : DataW H := .agg [.agg [.lit (.int .u8 128), .lit (.int .u8 191)], .agg [.lit (.int .u8 160), .lit (.int .u8 191)], .agg [.lit (.int .u8 128), .lit (.int .u8 159)], .agg [.lit (.int .u8 144), .lit (.int .u8 191)], .agg [.lit (.int .u8 128), .lit (.int .u8 143)], .agg [.lit (.int .u8 0), .lit (.int .u8 0)], .agg [.lit (.int .u8 0), .lit (.int .u8 0)], .agg [.lit (.int .u8 0), .lit (.int .u8 0)], .agg [.lit (.int .u8 0), .lit (.int .u8 0)], .agg [.lit (.int .u8 0), .lit (.int .u8 0)], .agg [.lit (.int .u8 0), .lit (.int .u8 0)], .agg [.lit (.int .u8 0), .lit (.int .u8 0)], .agg [.lit (.int .u8 0), .lit (.int .u8 0)], .agg [.lit (.int .u8 0), .lit (.int .u8 0)], .agg [.lit (.int .u8 0), .lit (.int .u8 0)], .agg [.lit (.int .u8 0), .lit (.int .u8 0)]]
/-- One of Go's own tables, pinned by name: the form's constant. -/
def laid_unicode_CaseRanges : DataW Unit := Go.Pinned.caseRanges
/-- One of Go's own tables, pinned by name: the form's constant. -/
def laid_unicode_utf8_first : DataW Unit := Go.Pinned.utf8First

/-- 'whirligiglaw06.ListingTexts': WHATEVER THE INPUT: true; the input reads as it did. -/
def listingTextsSpec : ChangeSpec := { name := "listingTexts", fn := fun _ => fun
  | [d1, d2, d3] => { results := [.lit (.bool true)], args := [d1, d2, d3] }
  | _ => none }
def listingTextsRow : OpenClaim := { program := "ytkdeheoonannoaadoor", sum := "ae81950961ed4ae0344101a9af7ef11612e27518b7c05d993d1fe37387893c52", func := "whirligig/whirligiglaw06.ListingTexts", spec := "listingTexts", inPlace := ["internal/abi.NoEscape", "internal/bytealg.MakeNoZero", "internal/bytealg.IndexByteString"], unfollowed := true, recurses := true, named := ["unicode/utf8.first", "unicode/utf8.acceptRanges", "unicode.CaseRanges"], apart := false, laid := [("unicode/utf8.acceptRanges", laid_unicode_utf8_acceptRanges), ("unicode.CaseRanges", laid_unicode_CaseRanges), ("unicode/utf8.first", laid_unicode_utf8_first)] }
def ListingTextsSaid : Prop := listingTextsRow.holds Tryd.pinned (OpenSpec.ofChange listingTextsSpec)

/-- ITS FALSE NEIGHBOUR: 'it returns false'. Refute it at one input. -/
def listingTextsWrong : ChangeSpec := { name := "listingTexts", fn := fun _ => fun
  | [d1, d2, d3] => { results := [.lit (.bool false)], args := [d1, d2, d3] }
  | _ => none }
def ListingTextsWrongFalsely : Prop := listingTextsRow.holds Tryd.pinned (OpenSpec.ofChange listingTextsWrong)

/-- 'whirligiglaw06.ListingOnes': WHATEVER THE INPUT: true; the input reads as it did. -/
def listingOnesSpec : ChangeSpec := { name := "listingOnes", fn := fun _ => fun
  | [d] => { results := [.lit (.bool true)], args := [d] }
  | _ => none }
def listingOnesRow : OpenClaim := { program := "ytkdeheoonannoaadoor", sum := "ae81950961ed4ae0344101a9af7ef11612e27518b7c05d993d1fe37387893c52", func := "whirligig/whirligiglaw06.ListingOnes", spec := "listingOnes", inPlace := ["internal/abi.NoEscape", "internal/bytealg.MakeNoZero", "internal/bytealg.IndexByteString"], unfollowed := true, recurses := true, named := ["unicode/utf8.first", "unicode/utf8.acceptRanges", "unicode.CaseRanges"], apart := false, laid := [("unicode/utf8.acceptRanges", laid_unicode_utf8_acceptRanges), ("unicode.CaseRanges", laid_unicode_CaseRanges), ("unicode/utf8.first", laid_unicode_utf8_first)] }
def ListingOnesSaid : Prop := listingOnesRow.holds Tryd.pinned (OpenSpec.ofChange listingOnesSpec)

/-- ITS FALSE NEIGHBOUR: 'it returns false'. Refute it at one input. -/
def listingOnesWrong : ChangeSpec := { name := "listingOnes", fn := fun _ => fun
  | [d] => { results := [.lit (.bool false)], args := [d] }
  | _ => none }
def ListingOnesWrongFalsely : Prop := listingOnesRow.holds Tryd.pinned (OpenSpec.ofChange listingOnesWrong)

/-- 'whirligiglaw06.ListingAssembles': WHATEVER THE INPUT: true; the input reads as it did. -/
def listingAssemblesSpec : ChangeSpec := { name := "listingAssembles", fn := fun _ => fun
  | [d] => { results := [.lit (.bool true)], args := [d] }
  | _ => none }
def listingAssemblesRow : OpenClaim := { program := "ytkdeheoonannoaadoor", sum := "ae81950961ed4ae0344101a9af7ef11612e27518b7c05d993d1fe37387893c52", func := "whirligig/whirligiglaw06.ListingAssembles", spec := "listingAssembles", inPlace := ["internal/abi.NoEscape", "internal/bytealg.MakeNoZero", "internal/bytealg.IndexByteString"], unfollowed := true, recurses := true, named := ["unicode/utf8.first", "unicode/utf8.acceptRanges", "unicode.CaseRanges"], apart := false, laid := [("unicode/utf8.acceptRanges", laid_unicode_utf8_acceptRanges), ("unicode.CaseRanges", laid_unicode_CaseRanges), ("unicode/utf8.first", laid_unicode_utf8_first)] }
def ListingAssemblesSaid : Prop := listingAssemblesRow.holds Tryd.pinned (OpenSpec.ofChange listingAssemblesSpec)

/-- ITS FALSE NEIGHBOUR: 'it returns false'. Refute it at one input. -/
def listingAssemblesWrong : ChangeSpec := { name := "listingAssembles", fn := fun _ => fun
  | [d] => { results := [.lit (.bool false)], args := [d] }
  | _ => none }
def ListingAssemblesWrongFalsely : Prop := listingAssemblesRow.holds Tryd.pinned (OpenSpec.ofChange listingAssemblesWrong)

/-- 'whirligiglaw06.ListingApart': WHATEVER THE INPUT: true; the input reads as it did. -/
def listingApartSpec : ChangeSpec := { name := "listingApart", fn := fun _ => fun
  | [d1, d2] => { results := [.lit (.bool true)], args := [d1, d2] }
  | _ => none }
def listingApartRow : OpenClaim := { program := "ytkdeheoonannoaadoor", sum := "ae81950961ed4ae0344101a9af7ef11612e27518b7c05d993d1fe37387893c52", func := "whirligig/whirligiglaw06.ListingApart", spec := "listingApart", inPlace := ["internal/abi.NoEscape", "internal/bytealg.MakeNoZero", "internal/bytealg.IndexByteString"], unfollowed := true, recurses := true, named := ["unicode/utf8.first", "unicode/utf8.acceptRanges", "unicode.CaseRanges"], apart := false, laid := [("unicode/utf8.acceptRanges", laid_unicode_utf8_acceptRanges), ("unicode.CaseRanges", laid_unicode_CaseRanges), ("unicode/utf8.first", laid_unicode_utf8_first)] }
def ListingApartSaid : Prop := listingApartRow.holds Tryd.pinned (OpenSpec.ofChange listingApartSpec)

/-- ITS FALSE NEIGHBOUR: 'it returns false'. Refute it at one input. -/
def listingApartWrong : ChangeSpec := { name := "listingApart", fn := fun _ => fun
  | [d1, d2] => { results := [.lit (.bool false)], args := [d1, d2] }
  | _ => none }
def ListingApartWrongFalsely : Prop := listingApartRow.holds Tryd.pinned (OpenSpec.ofChange listingApartWrong)

/-- 'whirligiglaw06.ListingLines': WHATEVER THE INPUT: true; the input reads as it did. -/
def listingLinesSpec : ChangeSpec := { name := "listingLines", fn := fun _ => fun
  | [d] => { results := [.lit (.bool true)], args := [d] }
  | _ => none }
def listingLinesRow : OpenClaim := { program := "ytkdeheoonannoaadoor", sum := "ae81950961ed4ae0344101a9af7ef11612e27518b7c05d993d1fe37387893c52", func := "whirligig/whirligiglaw06.ListingLines", spec := "listingLines", inPlace := ["internal/abi.NoEscape", "internal/bytealg.MakeNoZero", "internal/bytealg.IndexByteString"], unfollowed := true, recurses := true, named := ["unicode/utf8.first", "unicode/utf8.acceptRanges", "unicode.CaseRanges"], apart := false, laid := [("unicode/utf8.acceptRanges", laid_unicode_utf8_acceptRanges), ("unicode.CaseRanges", laid_unicode_CaseRanges), ("unicode/utf8.first", laid_unicode_utf8_first)] }
def ListingLinesSaid : Prop := listingLinesRow.holds Tryd.pinned (OpenSpec.ofChange listingLinesSpec)

/-- ITS FALSE NEIGHBOUR: 'it returns false'. Refute it at one input. -/
def listingLinesWrong : ChangeSpec := { name := "listingLines", fn := fun _ => fun
  | [d] => { results := [.lit (.bool false)], args := [d] }
  | _ => none }
def ListingLinesWrongFalsely : Prop := listingLinesRow.holds Tryd.pinned (OpenSpec.ofChange listingLinesWrong)

/-- 'whirligiglaw06.ListingAlls': WHATEVER THE INPUT: true; the input reads as it did. -/
def listingAllsSpec : ChangeSpec := { name := "listingAlls", fn := fun _ => fun
  | [d] => { results := [.lit (.bool true)], args := [d] }
  | _ => none }
def listingAllsRow : OpenClaim := { program := "ytkdeheoonannoaadoor", sum := "ae81950961ed4ae0344101a9af7ef11612e27518b7c05d993d1fe37387893c52", func := "whirligig/whirligiglaw06.ListingAlls", spec := "listingAlls", inPlace := ["internal/abi.NoEscape", "internal/bytealg.MakeNoZero", "internal/bytealg.IndexByteString"], unfollowed := true, recurses := true, named := ["unicode/utf8.first", "unicode/utf8.acceptRanges", "unicode.CaseRanges"], apart := false, laid := [("unicode/utf8.acceptRanges", laid_unicode_utf8_acceptRanges), ("unicode.CaseRanges", laid_unicode_CaseRanges), ("unicode/utf8.first", laid_unicode_utf8_first)] }
def ListingAllsSaid : Prop := listingAllsRow.holds Tryd.pinned (OpenSpec.ofChange listingAllsSpec)

/-- ITS FALSE NEIGHBOUR: 'it returns false'. Refute it at one input. -/
def listingAllsWrong : ChangeSpec := { name := "listingAlls", fn := fun _ => fun
  | [d] => { results := [.lit (.bool false)], args := [d] }
  | _ => none }
def ListingAllsWrongFalsely : Prop := listingAllsRow.holds Tryd.pinned (OpenSpec.ofChange listingAllsWrong)

/-- 'whirligiglaw06.ListingBack': WHATEVER THE INPUT: true; the input reads as it did. -/
def listingBackSpec : ChangeSpec := { name := "listingBack", fn := fun _ => fun
  | [d] => { results := [.lit (.bool true)], args := [d] }
  | _ => none }
def listingBackRow : OpenClaim := { program := "ytkdeheoonannoaadoor", sum := "ae81950961ed4ae0344101a9af7ef11612e27518b7c05d993d1fe37387893c52", func := "whirligig/whirligiglaw06.ListingBack", spec := "listingBack", inPlace := ["internal/abi.NoEscape", "internal/bytealg.MakeNoZero", "internal/bytealg.IndexByteString"], unfollowed := true, recurses := true, named := ["unicode/utf8.first", "unicode/utf8.acceptRanges", "unicode.CaseRanges"], apart := false, laid := [("unicode/utf8.acceptRanges", laid_unicode_utf8_acceptRanges), ("unicode.CaseRanges", laid_unicode_CaseRanges), ("unicode/utf8.first", laid_unicode_utf8_first)] }
def ListingBackSaid : Prop := listingBackRow.holds Tryd.pinned (OpenSpec.ofChange listingBackSpec)

/-- ITS FALSE NEIGHBOUR: 'it returns false'. Refute it at one input. -/
def listingBackWrong : ChangeSpec := { name := "listingBack", fn := fun _ => fun
  | [d] => { results := [.lit (.bool false)], args := [d] }
  | _ => none }
def ListingBackWrongFalsely : Prop := listingBackRow.holds Tryd.pinned (OpenSpec.ofChange listingBackWrong)

/- THE SECOND FORM. 'bulk': how many values and letters a reading holds, each counted each time it is reached (what is shared counts as often as it is met; a slice's spare places count too). A statement '..UptoSaid' is the law's where the arguments, and the package variables that the reading takes, are together of bulk at most 1048576: NARROWER than '..Said'. Prove '..Said' where nothing that the law and all that it calls make is longer than what came in: it says more and counts as full. Else prove '..UptoSaid'. A law counts once. -/
mutual
def uptoBulk {H : Type} : DataW H → Nat
  | .lit (.string bytes) => bytes.length + 1
  | .lit _ => 1
  | .nil => 1
  | .ptr d => uptoBulk d + 1
  | .slice elems spare => uptoBulkAll elems + uptoBulkAll spare + 1
  | .agg parts => uptoBulkAll parts + 1
  | .iface _ d => uptoBulk d + 1
  | .map entries => uptoBulkEntries entries + 1
  | .held _ => 1
def uptoBulkAll {H : Type} : List (DataW H) → Nat
  | [] => 0
  | d :: r => uptoBulk d + uptoBulkAll r
def uptoBulkEntries {H : Type} : List (Lit × DataW H) → Nat
  | [] => 0
  | x :: r => uptoBulkEntry x + uptoBulkEntries r
def uptoBulkEntry {H : Type} : Lit × DataW H → Nat
  | (.string bytes, d) => bytes.length + uptoBulk d + 1
  | (_, d) => uptoBulk d + 1
 end
def uptoSmall : (H : Type) → List (DataW H) → Bool := fun _ ds => decide (uptoBulkAll ds ≤ 1048576)
def OpenSpec.upto (s : _root_.Go.ChangeSpec) : _root_.Go.OpenSpec := { _root_.Go.OpenSpec.ofChange s with cond := some uptoSmall }

/-- 'whirligiglaw06.ListingTexts', WHERE WHAT IT READS IS OF BULK AT MOST 1048576: true; the input reads as it did. -/
def listingTextsUptoRow : OpenClaim := { program := "ytkdeheoonannoaadoor", sum := "ae81950961ed4ae0344101a9af7ef11612e27518b7c05d993d1fe37387893c52", func := "whirligig/whirligiglaw06.ListingTexts", spec := "listingTexts", inPlace := ["internal/abi.NoEscape", "internal/bytealg.MakeNoZero", "internal/bytealg.IndexByteString"], unfollowed := true, recurses := true, named := ["unicode/utf8.first", "unicode/utf8.acceptRanges", "unicode.CaseRanges"], apart := false, laid := [("unicode/utf8.acceptRanges", laid_unicode_utf8_acceptRanges), ("unicode.CaseRanges", laid_unicode_CaseRanges), ("unicode/utf8.first", laid_unicode_utf8_first)], narrowed := true }
def ListingTextsUptoSaid : Prop := listingTextsUptoRow.holds Tryd.pinned (OpenSpec.upto listingTextsSpec)

/-- 'whirligiglaw06.ListingOnes', WHERE WHAT IT READS IS OF BULK AT MOST 1048576: true; the input reads as it did. -/
def listingOnesUptoRow : OpenClaim := { program := "ytkdeheoonannoaadoor", sum := "ae81950961ed4ae0344101a9af7ef11612e27518b7c05d993d1fe37387893c52", func := "whirligig/whirligiglaw06.ListingOnes", spec := "listingOnes", inPlace := ["internal/abi.NoEscape", "internal/bytealg.MakeNoZero", "internal/bytealg.IndexByteString"], unfollowed := true, recurses := true, named := ["unicode/utf8.first", "unicode/utf8.acceptRanges", "unicode.CaseRanges"], apart := false, laid := [("unicode/utf8.acceptRanges", laid_unicode_utf8_acceptRanges), ("unicode.CaseRanges", laid_unicode_CaseRanges), ("unicode/utf8.first", laid_unicode_utf8_first)], narrowed := true }
def ListingOnesUptoSaid : Prop := listingOnesUptoRow.holds Tryd.pinned (OpenSpec.upto listingOnesSpec)

/-- 'whirligiglaw06.ListingAssembles', WHERE WHAT IT READS IS OF BULK AT MOST 1048576: true; the input reads as it did. -/
def listingAssemblesUptoRow : OpenClaim := { program := "ytkdeheoonannoaadoor", sum := "ae81950961ed4ae0344101a9af7ef11612e27518b7c05d993d1fe37387893c52", func := "whirligig/whirligiglaw06.ListingAssembles", spec := "listingAssembles", inPlace := ["internal/abi.NoEscape", "internal/bytealg.MakeNoZero", "internal/bytealg.IndexByteString"], unfollowed := true, recurses := true, named := ["unicode/utf8.first", "unicode/utf8.acceptRanges", "unicode.CaseRanges"], apart := false, laid := [("unicode/utf8.acceptRanges", laid_unicode_utf8_acceptRanges), ("unicode.CaseRanges", laid_unicode_CaseRanges), ("unicode/utf8.first", laid_unicode_utf8_first)], narrowed := true }
def ListingAssemblesUptoSaid : Prop := listingAssemblesUptoRow.holds Tryd.pinned (OpenSpec.upto listingAssemblesSpec)

/-- 'whirligiglaw06.ListingApart', WHERE WHAT IT READS IS OF BULK AT MOST 1048576: true; the input reads as it did. -/
def listingApartUptoRow : OpenClaim := { program := "ytkdeheoonannoaadoor", sum := "ae81950961ed4ae0344101a9af7ef11612e27518b7c05d993d1fe37387893c52", func := "whirligig/whirligiglaw06.ListingApart", spec := "listingApart", inPlace := ["internal/abi.NoEscape", "internal/bytealg.MakeNoZero", "internal/bytealg.IndexByteString"], unfollowed := true, recurses := true, named := ["unicode/utf8.first", "unicode/utf8.acceptRanges", "unicode.CaseRanges"], apart := false, laid := [("unicode/utf8.acceptRanges", laid_unicode_utf8_acceptRanges), ("unicode.CaseRanges", laid_unicode_CaseRanges), ("unicode/utf8.first", laid_unicode_utf8_first)], narrowed := true }
def ListingApartUptoSaid : Prop := listingApartUptoRow.holds Tryd.pinned (OpenSpec.upto listingApartSpec)

/-- 'whirligiglaw06.ListingLines', WHERE WHAT IT READS IS OF BULK AT MOST 1048576: true; the input reads as it did. -/
def listingLinesUptoRow : OpenClaim := { program := "ytkdeheoonannoaadoor", sum := "ae81950961ed4ae0344101a9af7ef11612e27518b7c05d993d1fe37387893c52", func := "whirligig/whirligiglaw06.ListingLines", spec := "listingLines", inPlace := ["internal/abi.NoEscape", "internal/bytealg.MakeNoZero", "internal/bytealg.IndexByteString"], unfollowed := true, recurses := true, named := ["unicode/utf8.first", "unicode/utf8.acceptRanges", "unicode.CaseRanges"], apart := false, laid := [("unicode/utf8.acceptRanges", laid_unicode_utf8_acceptRanges), ("unicode.CaseRanges", laid_unicode_CaseRanges), ("unicode/utf8.first", laid_unicode_utf8_first)], narrowed := true }
def ListingLinesUptoSaid : Prop := listingLinesUptoRow.holds Tryd.pinned (OpenSpec.upto listingLinesSpec)

/-- 'whirligiglaw06.ListingAlls', WHERE WHAT IT READS IS OF BULK AT MOST 1048576: true; the input reads as it did. -/
def listingAllsUptoRow : OpenClaim := { program := "ytkdeheoonannoaadoor", sum := "ae81950961ed4ae0344101a9af7ef11612e27518b7c05d993d1fe37387893c52", func := "whirligig/whirligiglaw06.ListingAlls", spec := "listingAlls", inPlace := ["internal/abi.NoEscape", "internal/bytealg.MakeNoZero", "internal/bytealg.IndexByteString"], unfollowed := true, recurses := true, named := ["unicode/utf8.first", "unicode/utf8.acceptRanges", "unicode.CaseRanges"], apart := false, laid := [("unicode/utf8.acceptRanges", laid_unicode_utf8_acceptRanges), ("unicode.CaseRanges", laid_unicode_CaseRanges), ("unicode/utf8.first", laid_unicode_utf8_first)], narrowed := true }
def ListingAllsUptoSaid : Prop := listingAllsUptoRow.holds Tryd.pinned (OpenSpec.upto listingAllsSpec)

/-- 'whirligiglaw06.ListingBack', WHERE WHAT IT READS IS OF BULK AT MOST 1048576: true; the input reads as it did. -/
def listingBackUptoRow : OpenClaim := { program := "ytkdeheoonannoaadoor", sum := "ae81950961ed4ae0344101a9af7ef11612e27518b7c05d993d1fe37387893c52", func := "whirligig/whirligiglaw06.ListingBack", spec := "listingBack", inPlace := ["internal/abi.NoEscape", "internal/bytealg.MakeNoZero", "internal/bytealg.IndexByteString"], unfollowed := true, recurses := true, named := ["unicode/utf8.first", "unicode/utf8.acceptRanges", "unicode.CaseRanges"], apart := false, laid := [("unicode/utf8.acceptRanges", laid_unicode_utf8_acceptRanges), ("unicode.CaseRanges", laid_unicode_CaseRanges), ("unicode/utf8.first", laid_unicode_utf8_first)], narrowed := true }
def ListingBackUptoSaid : Prop := listingBackUptoRow.holds Tryd.pinned (OpenSpec.upto listingBackSpec)

end Rows
end Go.Proofs.YtkdeheoonannoaaDoor
