/- Functions of the program as plain Lean, and what they come to. Conditions: none. -/
import Derived.Test.YtmhkjafcfpgikaaGreatEwD
import Derived.Test.YtmhkjafcfpgikaaGreatProg
import Derived.KernelRfl
import Derived.Test.YtmhkjafcfpgikaaGreatWalkB
open Go Go.Ew
namespace Go.Proofs.YtmhkjafcfpgikaaGreat.E
open Go.IntKind (wrap)
noncomputable section
set_option linter.unusedVariables false
set_option maxRecDepth 100000
@[reducible] def ref21_Form.as:List Shp:=[.k (.i .u8), .k .b]
@[reducible] def ref21_Form.rs:List Shp:=[.agg ⟨.i .i64,[.i .i64, .i .i64, .i .i64, .i .i64, .i .i64]⟩]
def ref21_Form.G (ref05_Decode_F:(Int×Unit)→Option ((Int×Int×Int×Int×Int×Int)×Unit)) (ref05_DecodeCB_F:(Int×Unit)→Option ((Int×Int×Int×Int×Int×Int)×Unit)) (a0:Int) (a1:Bool):Option ((Int×Int×Int×Int×Int×Int)×Unit):=
 if a1=true then (ref05_DecodeCB_F (a0,())).bind fun y0=>some y0 else (ref05_Decode_F (a0,())).bind fun y0=>some y0
theorem ref21_Form.gen (ref05_Decode_F:(Int×Unit)→Option ((Int×Int×Int×Int×Int×Int)×Unit)) (ref05_Decode_ok:PureOK Tryz.prog 83 ref05_Decode.as ref05_Decode.rs ref05_Decode_F) (ref05_DecodeCB_F:(Int×Unit)→Option ((Int×Int×Int×Int×Int×Int)×Unit)) (ref05_DecodeCB_ok:PureOK Tryz.prog 82 ref05_DecodeCB.as ref05_DecodeCB.rs ref05_DecodeCB_F):PureOK Tryz.prog 54 ref21_Form.as ref21_Form.rs (fun x=>ref21_Form.G ref05_Decode_F ref05_DecodeCB_F x.1 x.2.1):=
 fn_gen (tbl:=tblOf tblI 54 Tryz.f54) (ks:=[knView (P:=Tryz.prog) 83 ref05_Decode.as ref05_Decode.rs ref05_Decode_F ref05_Decode_ok (by rfl) (by rfl) (by rfl),knView (P:=Tryz.prog) 82 ref05_DecodeCB.as ref05_DecodeCB.rs ref05_DecodeCB_F ref05_DecodeCB_ok (by rfl) (by rfl) (by rfl)]) (ls:=[]) (n:=200) (d:=6) (tblOf_ok tblI_ok Tryz.func54 (by kernel_rfl)) (by rfl) (fun x=>by kernel_rfl)
abbrev ref21_Form.T:=(Int×Bool×Unit)→Option ((Int×Int×Int×Int×Int×Int)×Unit)
def ref21_Form.F:ref21_Form.T:=fun x=>ref21_Form.G ref05_Decode.F ref05_DecodeCB.F x.1 x.2.1
theorem ref21_Form.ok:PureOK Tryz.prog 54 ref21_Form.as ref21_Form.rs ref21_Form.F:=ref21_Form.gen ref05_Decode.F ref05_Decode.ok ref05_DecodeCB.F ref05_DecodeCB.ok
@[reducible] def ref22_more.as:List Shp:=[.k (.i .u16), .k (.i .i64)]
@[reducible] def ref22_more.rs:List Shp:=[.k (.i .u16)]
def ref22_more.G (a0:Int) (a1:Int):Option (Int×Unit):=
 some (wrap .u16 (Int.tmod (wrap .i64 (wrap .i64 (wrap .i64 a0+a1)+(65536:Int))) (65536:Int)),())
theorem ref22_more.gen:PureOK Tryz.prog 51 ref22_more.as ref22_more.rs (fun x=>ref22_more.G x.1 x.2.1):=
 fn_gen (tbl:=tblOf tblI 51 Tryz.f51) (ks:=[]) (ls:=[]) (n:=200) (d:=6) (tblOf_ok tblI_ok Tryz.func51 (by kernel_rfl)) (by rfl) (fun x=>by kernel_rfl)
abbrev ref22_more.T:=(Int×Int×Unit)→Option (Int×Unit)
def ref22_more.F:ref22_more.T:=fun x=>ref22_more.G x.1 x.2.1
theorem ref22_more.ok:PureOK Tryz.prog 51 ref22_more.as ref22_more.rs ref22_more.F:=ref22_more.gen
end
end Go.Proofs.YtmhkjafcfpgikaaGreat.E
