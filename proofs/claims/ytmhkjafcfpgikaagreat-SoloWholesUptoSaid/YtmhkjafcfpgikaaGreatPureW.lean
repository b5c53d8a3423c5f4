/- Functions of the program as plain Lean, and what they come to. Conditions: none. -/
import Derived.Test.YtmhkjafcfpgikaaGreatEwD
import Derived.KernelRfl
import Derived.Test.YtmhkjafcfpgikaaGreatPureV
import Derived.Test.YtmhkjafcfpgikaaGreatPureI
open Go Go.Ew
set_option maxRecDepth 100000
namespace Go.Proofs.YtmhkjafcfpgikaaGreat.E
@[reducible] def micro_Plan.as:List Shp:=T.micro_Plan.as
@[reducible] def micro_Plan.rs:List Shp:=T.micro_Plan.rs
noncomputable def micro_Plan.F:=T.micro_Plan.F
theorem micro_Plan.ok:PureOK Tryz.prog 61 micro_Plan.as micro_Plan.rs micro_Plan.F:=T.micro_Plan.ok
@[reducible] def opcode_Decode.as:List Shp:=T.opcode_Decode.as
@[reducible] def opcode_Decode.rs:List Shp:=T.opcode_Decode.rs
noncomputable def opcode_Decode.F:=T.opcode_Decode.F
theorem opcode_Decode.ok:PureOK Tryz.prog 102 opcode_Decode.as opcode_Decode.rs opcode_Decode.F:=T.opcode_Decode.ok
@[reducible] def opcode_DecodeCB.as:List Shp:=T.opcode_DecodeCB.as
@[reducible] def opcode_DecodeCB.rs:List Shp:=T.opcode_DecodeCB.rs
noncomputable def opcode_DecodeCB.F:=T.opcode_DecodeCB.F
theorem opcode_DecodeCB.ok:PureOK Tryz.prog 101 opcode_DecodeCB.as opcode_DecodeCB.rs opcode_DecodeCB.F:=T.opcode_DecodeCB.ok
@[reducible] def ref05_Decode.as:List Shp:=T.ref05_Decode.as
@[reducible] def ref05_Decode.rs:List Shp:=T.ref05_Decode.rs
noncomputable def ref05_Decode.F:=T.ref05_Decode.F
theorem ref05_Decode.ok:PureOK Tryz.prog 83 ref05_Decode.as ref05_Decode.rs ref05_Decode.F:=T.ref05_Decode.ok
@[reducible] def ref05_DecodeCB.as:List Shp:=T.ref05_DecodeCB.as
@[reducible] def ref05_DecodeCB.rs:List Shp:=T.ref05_DecodeCB.rs
noncomputable def ref05_DecodeCB.F:=T.ref05_DecodeCB.F
theorem ref05_DecodeCB.ok:PureOK Tryz.prog 82 ref05_DecodeCB.as ref05_DecodeCB.rs ref05_DecodeCB.F:=T.ref05_DecodeCB.ok
@[reducible] def irq_First.as:List Shp:=[.k (.i .u8)]
@[reducible] def irq_First.rs:List Shp:=[.k (.i .i64), .k .b]
noncomputable def irq_First.F:Int×Unit→Option (Int×Bool×Unit):=I.firstF
theorem irq_First.ok:PureOK Tryz.prog 59 irq_First.as irq_First.rs irq_First.F:=I.first_ok
end Go.Proofs.YtmhkjafcfpgikaaGreat.E
