/- Functions of the program as plain Lean, and what they come to. Conditions: none. -/
import Derived.Test.YtkdeheoonannoaaDoorEwD
import Derived.KernelRfl
import Derived.Test.YtkdeheoonannoaaDoorPureU
open Go Go.Ew
set_option maxRecDepth 100000
namespace Go.Proofs.YtkdeheoonannoaaDoor.E
/-! tables, under the names that the walk asks for -/
@[reducible] def opcode_Decode.as : List Shp := T.opcode_Decode.as
@[reducible] def opcode_Decode.rs : List Shp := T.opcode_Decode.rs
noncomputable def opcode_Decode.F := T.opcode_Decode.F
theorem opcode_Decode.ok : PureOK Tryd.prog 30 opcode_Decode.as opcode_Decode.rs opcode_Decode.F := T.opcode_Decode.ok
@[reducible] def opcode_DecodeCB.as : List Shp := T.opcode_DecodeCB.as
@[reducible] def opcode_DecodeCB.rs : List Shp := T.opcode_DecodeCB.rs
noncomputable def opcode_DecodeCB.F := T.opcode_DecodeCB.F
theorem opcode_DecodeCB.ok : PureOK Tryd.prog 31 opcode_DecodeCB.as opcode_DecodeCB.rs opcode_DecodeCB.F := T.opcode_DecodeCB.ok
@[reducible] def ref05_Decode.as : List Shp := T.ref05_Decode.as
@[reducible] def ref05_Decode.rs : List Shp := T.ref05_Decode.rs
noncomputable def ref05_Decode.F := T.ref05_Decode.F
theorem ref05_Decode.ok : PureOK Tryd.prog 43 ref05_Decode.as ref05_Decode.rs ref05_Decode.F := T.ref05_Decode.ok
@[reducible] def ref05_DecodeCB.as : List Shp := T.ref05_DecodeCB.as
@[reducible] def ref05_DecodeCB.rs : List Shp := T.ref05_DecodeCB.rs
noncomputable def ref05_DecodeCB.F := T.ref05_DecodeCB.F
theorem ref05_DecodeCB.ok : PureOK Tryd.prog 42 ref05_DecodeCB.as ref05_DecodeCB.rs ref05_DecodeCB.F := T.ref05_DecodeCB.ok
end Go.Proofs.YtkdeheoonannoaaDoor.E
