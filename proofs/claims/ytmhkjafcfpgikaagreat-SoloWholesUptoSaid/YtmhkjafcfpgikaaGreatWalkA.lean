/- Functions of the program as plain Lean, and what they come to. Conditions: none. -/
import Derived.Test.YtmhkjafcfpgikaaGreatEwD
import Derived.Test.YtmhkjafcfpgikaaGreatProg
import Derived.KernelRfl
import Derived.Test.YtmhkjafcfpgikaaGreatPureW
open Go Go.Ew
namespace Go.Proofs.YtmhkjafcfpgikaaGreat.E
open Go.IntKind (wrap)
noncomputable section
@[reducible] def sCC:Shp:= .agg ⟨.i .u8,[.i .u8, .i .u8, .i .u8, .i .u8, .i .u8, .i .u8, .i .u8, .i .u16, .i .u16, .b, .b, .b, .i .u8, .i .u8, .b, .i .u8, .i .u8, .i .u8]⟩
@[reducible] def sR10:Shp:= .agg ⟨.i .u8,[.i .u8, .i .u8, .i .u8, .i .u8, .i .u8, .i .u8, .i .u8, .i .u16, .i .u16]⟩
abbrev _root_.Prod.x5 {A0 A1 A2 A3 A4 A5 A6:Type} (x:A0×A1×A2×A3×A4×A5×A6):A5:=x.2.2.2.2.2.1
abbrev _root_.Prod.x6 {A0 A1 A2 A3 A4 A5 A6 A7:Type} (x:A0×A1×A2×A3×A4×A5×A6×A7):A6:=x.2.2.2.2.2.2.1
abbrev _root_.Prod.x7 {A0 A1 A2 A3 A4 A5 A6 A7 A8:Type} (x:A0×A1×A2×A3×A4×A5×A6×A7×A8):A7:=x.2.2.2.2.2.2.2.1
abbrev _root_.Prod.x8 {A0 A1 A2 A3 A4 A5 A6 A7 A8 A9:Type} (x:A0×A1×A2×A3×A4×A5×A6×A7×A8×A9):A8:=x.2.2.2.2.2.2.2.2.1
abbrev _root_.Prod.x9 {A0 A1 A2 A3 A4 A5 A6 A7 A8 A9 A10:Type} (x:A0×A1×A2×A3×A4×A5×A6×A7×A8×A9×A10):A9:=x.2.2.2.2.2.2.2.2.2.1
abbrev _root_.Prod.x10 {A0 A1 A2 A3 A4 A5 A6 A7 A8 A9 A10 A11:Type} (x:A0×A1×A2×A3×A4×A5×A6×A7×A8×A9×A10×A11):A10:=x.2.2.2.2.2.2.2.2.2.2.1
abbrev _root_.Prod.x11 {A0 A1 A2 A3 A4 A5 A6 A7 A8 A9 A10 A11 A12:Type} (x:A0×A1×A2×A3×A4×A5×A6×A7×A8×A9×A10×A11×A12):A11:=x.2.2.2.2.2.2.2.2.2.2.2.1
abbrev _root_.Prod.x12 {A0 A1 A2 A3 A4 A5 A6 A7 A8 A9 A10 A11 A12 A13:Type} (x:A0×A1×A2×A3×A4×A5×A6×A7×A8×A9×A10×A11×A12×A13):A12:=x.2.2.2.2.2.2.2.2.2.2.2.2.1
abbrev _root_.Prod.x13 {A0 A1 A2 A3 A4 A5 A6 A7 A8 A9 A10 A11 A12 A13 A14:Type} (x:A0×A1×A2×A3×A4×A5×A6×A7×A8×A9×A10×A11×A12×A13×A14):A13:=x.2.2.2.2.2.2.2.2.2.2.2.2.2.1
abbrev _root_.Prod.x14 {A0 A1 A2 A3 A4 A5 A6 A7 A8 A9 A10 A11 A12 A13 A14 A15:Type} (x:A0×A1×A2×A3×A4×A5×A6×A7×A8×A9×A10×A11×A12×A13×A14×A15):A14:=x.2.2.2.2.2.2.2.2.2.2.2.2.2.2.1
abbrev _root_.Prod.x15 {A0 A1 A2 A3 A4 A5 A6 A7 A8 A9 A10 A11 A12 A13 A14 A15 A16:Type} (x:A0×A1×A2×A3×A4×A5×A6×A7×A8×A9×A10×A11×A12×A13×A14×A15×A16):A15:=x.2.2.2.2.2.2.2.2.2.2.2.2.2.2.2.1
abbrev _root_.Prod.x16 {A0 A1 A2 A3 A4 A5 A6 A7 A8 A9 A10 A11 A12 A13 A14 A15 A16 A17:Type} (x:A0×A1×A2×A3×A4×A5×A6×A7×A8×A9×A10×A11×A12×A13×A14×A15×A16×A17):A16:=x.2.2.2.2.2.2.2.2.2.2.2.2.2.2.2.2.1
abbrev _root_.Prod.x17 {A0 A1 A2 A3 A4 A5 A6 A7 A8 A9 A10 A11 A12 A13 A14 A15 A16 A17 A18:Type} (x:A0×A1×A2×A3×A4×A5×A6×A7×A8×A9×A10×A11×A12×A13×A14×A15×A16×A17×A18):A17:=x.2.2.2.2.2.2.2.2.2.2.2.2.2.2.2.2.2.1
abbrev _root_.Prod.x18 {A0 A1 A2 A3 A4 A5 A6 A7 A8 A9 A10 A11 A12 A13 A14 A15 A16 A17 A18 A19:Type} (x:A0×A1×A2×A3×A4×A5×A6×A7×A8×A9×A10×A11×A12×A13×A14×A15×A16×A17×A18×A19):A18:=x.2.2.2.2.2.2.2.2.2.2.2.2.2.2.2.2.2.2.1
abbrev _root_.Prod.x19 {A0 A1 A2 A3 A4 A5 A6 A7 A8 A9 A10 A11 A12 A13 A14 A15 A16 A17 A18 A19 A20:Type} (x:A0×A1×A2×A3×A4×A5×A6×A7×A8×A9×A10×A11×A12×A13×A14×A15×A16×A17×A18×A19×A20):A19:=x.2.2.2.2.2.2.2.2.2.2.2.2.2.2.2.2.2.2.2.1
abbrev _root_.Prod.z5 {A0 A1 A2 A3 A4 A5:Type} (x:A0×A1×A2×A3×A4×A5):A5:=x.2.2.2.2.2
abbrev _root_.Prod.z6 {A0 A1 A2 A3 A4 A5 A6:Type} (x:A0×A1×A2×A3×A4×A5×A6):A6:=x.2.2.2.2.2.2
abbrev _root_.Prod.z7 {A0 A1 A2 A3 A4 A5 A6 A7:Type} (x:A0×A1×A2×A3×A4×A5×A6×A7):A7:=x.2.2.2.2.2.2.2
abbrev _root_.Prod.z8 {A0 A1 A2 A3 A4 A5 A6 A7 A8:Type} (x:A0×A1×A2×A3×A4×A5×A6×A7×A8):A8:=x.2.2.2.2.2.2.2.2
abbrev _root_.Prod.z9 {A0 A1 A2 A3 A4 A5 A6 A7 A8 A9:Type} (x:A0×A1×A2×A3×A4×A5×A6×A7×A8×A9):A9:=x.2.2.2.2.2.2.2.2.2
abbrev _root_.Prod.z10 {A0 A1 A2 A3 A4 A5 A6 A7 A8 A9 A10:Type} (x:A0×A1×A2×A3×A4×A5×A6×A7×A8×A9×A10):A10:=x.2.2.2.2.2.2.2.2.2.2
abbrev _root_.Prod.z11 {A0 A1 A2 A3 A4 A5 A6 A7 A8 A9 A10 A11:Type} (x:A0×A1×A2×A3×A4×A5×A6×A7×A8×A9×A10×A11):A11:=x.2.2.2.2.2.2.2.2.2.2.2
abbrev _root_.Prod.z15 {A0 A1 A2 A3 A4 A5 A6 A7 A8 A9 A10 A11 A12 A13 A14 A15:Type} (x:A0×A1×A2×A3×A4×A5×A6×A7×A8×A9×A10×A11×A12×A13×A14×A15):A15:=x.2.2.2.2.2.2.2.2.2.2.2.2.2.2.2
abbrev _root_.Prod.z17 {A0 A1 A2 A3 A4 A5 A6 A7 A8 A9 A10 A11 A12 A13 A14 A15 A16 A17:Type} (x:A0×A1×A2×A3×A4×A5×A6×A7×A8×A9×A10×A11×A12×A13×A14×A15×A16×A17):A17:=x.2.2.2.2.2.2.2.2.2.2.2.2.2.2.2.2.2
abbrev _root_.Prod.z18 {A0 A1 A2 A3 A4 A5 A6 A7 A8 A9 A10 A11 A12 A13 A14 A15 A16 A17 A18:Type} (x:A0×A1×A2×A3×A4×A5×A6×A7×A8×A9×A10×A11×A12×A13×A14×A15×A16×A17×A18):A18:=x.2.2.2.2.2.2.2.2.2.2.2.2.2.2.2.2.2.2
abbrev _root_.Prod.z19 {A0 A1 A2 A3 A4 A5 A6 A7 A8 A9 A10 A11 A12 A13 A14 A15 A16 A17 A18 A19:Type} (x:A0×A1×A2×A3×A4×A5×A6×A7×A8×A9×A10×A11×A12×A13×A14×A15×A16×A17×A18×A19):A19:=x.2.2.2.2.2.2.2.2.2.2.2.2.2.2.2.2.2.2.2
abbrev R10:=Int×Int×Int×Int×Int×Int×Int×Int×Int×Int
abbrev CB:=Int×Int×Int×Int×Int×Int×Int×Int×Int×Int×Bool×Bool×Bool×Int×Int×Bool×Int×Int×Int×Unit
abbrev CC:=Int×Int×Int×Int×Int×Int×Int×Int×Int×Int×Bool×Bool×Bool×Int×Int×Bool×Int×Int×Int
abbrev RB:=Int×Int×Int×Int×Int×Int×Int×Int×Int×Int×Unit
@[reducible] def c2b10 (c:R10):RB:=(c.1,c.2.1,c.2.2.1,c.2.2.2.1,c.2.2.2.2.1,c.x5,c.x6,c.x7,c.x8,c.z9,())
@[reducible] def b2c10 {A:Type} (c:Int×Int×Int×Int×Int×Int×Int×Int×Int×Int×A):R10:=(c.1,c.2.1,c.2.2.1,c.2.2.2.1,c.2.2.2.2.1,c.x5,c.x6,c.x7,c.x8,c.x9)
@[reducible] def c2b19 (c:CC):CB:=(c.1,c.2.1,c.2.2.1,c.2.2.2.1,c.2.2.2.2.1,c.x5,c.x6,c.x7,c.x8,c.x9,c.x10,c.x11,c.x12,c.x13,c.x14,c.x15,c.x16,c.x17,c.z18,())
@[reducible] def b2c19 (c:CB):CC:=(c.1,c.2.1,c.2.2.1,c.2.2.2.1,c.2.2.2.2.1,c.x5,c.x6,c.x7,c.x8,c.x9,c.x10,c.x11,c.x12,c.x13,c.x14,c.x15,c.x16,c.x17,c.x18)
set_option linter.unusedVariables false
set_option maxRecDepth 100000
def tblI:FuncId→Option Func
 | 94=>some Tryz.f94
 | 95=>some Tryz.f95
 | 96=>some Tryz.f96
 | 97=>some Tryz.f97
 | 165=>some Tryz.f165
 | 166=>some Tryz.f166
 | 167=>some Tryz.f167
 | 168=>some Tryz.f168
 | 169=>some Tryz.f169
 | 170=>some Tryz.f170
 | 171=>some Tryz.f171
 | 172=>some Tryz.f172
 | 173=>some Tryz.f173
 | 174=>some Tryz.f174
 | 175=>some Tryz.f175
 | 180=>some Tryz.f180
 | 176=>some Tryz.f176
 | 177=>some Tryz.f177
 | 205=>some Tryz.f205
 | 206=>some Tryz.f206
 | 178=>some Tryz.f178
 | 204=>some Tryz.f204
 | 179=>some Tryz.f179
 | 110=>some Tryz.f110
 | 100=>some Tryz.f100
 | 188=>some Tryz.f188
 | 113=>some Tryz.f113
 | 189=>some Tryz.f189
 | 191=>some Tryz.f191
 | 198=>some Tryz.f198
 | 209=>some Tryz.f209
 | 196=>some Tryz.f196
 | 60=>some Tryz.f60
 | 64=>some Tryz.f64
 | 38=>some Tryz.f38
 | 184=>some Tryz.f184
 | 185=>some Tryz.f185
 | 187=>some Tryz.f187
 | 121=>some Tryz.f121
 | _=>none
theorem tblI_ok:TblOK Tryz.prog tblI:=by
 intro g fn h
 unfold tblI at h
 split at h
 ·simp only [Option.some.injEq] at h;subst h;exact ⟨Tryz.func94,by kernel_rfl⟩
 ·simp only [Option.some.injEq] at h;subst h;exact ⟨Tryz.func95,by kernel_rfl⟩
 ·simp only [Option.some.injEq] at h;subst h;exact ⟨Tryz.func96,by kernel_rfl⟩
 ·simp only [Option.some.injEq] at h;subst h;exact ⟨Tryz.func97,by kernel_rfl⟩
 ·simp only [Option.some.injEq] at h;subst h;exact ⟨Tryz.func165,by kernel_rfl⟩
 ·simp only [Option.some.injEq] at h;subst h;exact ⟨Tryz.func166,by kernel_rfl⟩
 ·simp only [Option.some.injEq] at h;subst h;exact ⟨Tryz.func167,by kernel_rfl⟩
 ·simp only [Option.some.injEq] at h;subst h;exact ⟨Tryz.func168,by kernel_rfl⟩
 ·simp only [Option.some.injEq] at h;subst h;exact ⟨Tryz.func169,by kernel_rfl⟩
 ·simp only [Option.some.injEq] at h;subst h;exact ⟨Tryz.func170,by kernel_rfl⟩
 ·simp only [Option.some.injEq] at h;subst h;exact ⟨Tryz.func171,by kernel_rfl⟩
 ·simp only [Option.some.injEq] at h;subst h;exact ⟨Tryz.func172,by kernel_rfl⟩
 ·simp only [Option.some.injEq] at h;subst h;exact ⟨Tryz.func173,by kernel_rfl⟩
 ·simp only [Option.some.injEq] at h;subst h;exact ⟨Tryz.func174,by kernel_rfl⟩
 ·simp only [Option.some.injEq] at h;subst h;exact ⟨Tryz.func175,by kernel_rfl⟩
 ·simp only [Option.some.injEq] at h;subst h;exact ⟨Tryz.func180,by kernel_rfl⟩
 ·simp only [Option.some.injEq] at h;subst h;exact ⟨Tryz.func176,by kernel_rfl⟩
 ·simp only [Option.some.injEq] at h;subst h;exact ⟨Tryz.func177,by kernel_rfl⟩
 ·simp only [Option.some.injEq] at h;subst h;exact ⟨Tryz.func205,by kernel_rfl⟩
 ·simp only [Option.some.injEq] at h;subst h;exact ⟨Tryz.func206,by kernel_rfl⟩
 ·simp only [Option.some.injEq] at h;subst h;exact ⟨Tryz.func178,by kernel_rfl⟩
 ·simp only [Option.some.injEq] at h;subst h;exact ⟨Tryz.func204,by kernel_rfl⟩
 ·simp only [Option.some.injEq] at h;subst h;exact ⟨Tryz.func179,by kernel_rfl⟩
 ·simp only [Option.some.injEq] at h;subst h;exact ⟨Tryz.func110,by kernel_rfl⟩
 ·simp only [Option.some.injEq] at h;subst h;exact ⟨Tryz.func100,by kernel_rfl⟩
 ·simp only [Option.some.injEq] at h;subst h;exact ⟨Tryz.func188,by kernel_rfl⟩
 ·simp only [Option.some.injEq] at h;subst h;exact ⟨Tryz.func113,by kernel_rfl⟩
 ·simp only [Option.some.injEq] at h;subst h;exact ⟨Tryz.func189,by kernel_rfl⟩
 ·simp only [Option.some.injEq] at h;subst h;exact ⟨Tryz.func191,by kernel_rfl⟩
 ·simp only [Option.some.injEq] at h;subst h;exact ⟨Tryz.func198,by kernel_rfl⟩
 ·simp only [Option.some.injEq] at h;subst h;exact ⟨Tryz.func209,by kernel_rfl⟩
 ·simp only [Option.some.injEq] at h;subst h;exact ⟨Tryz.func196,by kernel_rfl⟩
 ·simp only [Option.some.injEq] at h;subst h;exact ⟨Tryz.func60,by kernel_rfl⟩
 ·simp only [Option.some.injEq] at h;subst h;exact ⟨Tryz.func64,by kernel_rfl⟩
 ·simp only [Option.some.injEq] at h;subst h;exact ⟨Tryz.func38,by kernel_rfl⟩
 ·simp only [Option.some.injEq] at h;subst h;exact ⟨Tryz.func184,by kernel_rfl⟩
 ·simp only [Option.some.injEq] at h;subst h;exact ⟨Tryz.func185,by kernel_rfl⟩
 ·simp only [Option.some.injEq] at h;subst h;exact ⟨Tryz.func187,by kernel_rfl⟩
 ·simp only [Option.some.injEq] at h;subst h;exact ⟨Tryz.func121,by kernel_rfl⟩
 ·simp at h

@[reducible] def ref01_power.as:List Shp:=[.k (.i .i64)]
@[reducible] def ref01_power.rs:List Shp:=[.k (.i .i64)]
@[reducible] def ref01_power.L0.s:LSh:=(⟨13,[(0, .k (.i .i64)),(3, .k (.i .i64)),(4, .k (.i .i64))],[],[]⟩:LSh)
@[reducible] def ref01_power.L0.xs:List (Ex×LSh):=([(.exit 0,⟨13,[(3, .k (.i .i64))],[],[]⟩)]:List (Ex×LSh))
def ref01_power.L0.step (t0:Int) (t3:Int) (t4:Int):Option (((Int×Int×Int×Unit)×Unit×Unit)⊕((Int×Unit)×Unit×Unit)):=
 if decide (t4<t0)=true then some (Sum.inl ((t0,wrap .i64 (t3*(2:Int)),wrap .i64 (t4+(1:Int)),()),(),())) else some (Sum.inr ((t3,()),(),()))
theorem ref01_power.L0.gen:LoopOK Tryz.prog 207 0 ref01_power.L0.s ref01_power.L0.xs (iterU fun x=>ref01_power.L0.step x.1.1 x.1.2.1 x.1.2.2.1):=
 loop_gen (tbl:=tblOf tblI 207 Tryz.f207) (ks:=[]) (ls:=[]) (n:=200) (d:=6) (fn:=Tryz.f207) (tblOf_ok tblI_ok Tryz.func207 (by kernel_rfl)) (by rfl) (by rfl) (fun x=>by kernel_rfl)
abbrev ref01_power.L0.T:=((Int×Int×Int×Unit)×Unit×Unit)→Option ((Int×Unit)×Unit×Unit)
def ref01_power.L0.F:ref01_power.L0.T:=iterU fun x=>ref01_power.L0.step x.1.1 x.1.2.1 x.1.2.2.1
theorem ref01_power.L0.ok:LoopOK Tryz.prog 207 0 ref01_power.L0.s ref01_power.L0.xs ref01_power.L0.F:=ref01_power.L0.gen
abbrev ref01_power.L0.K (F:ref01_power.L0.T):Prop:=LoopOK Tryz.prog 207 0 ref01_power.L0.s ref01_power.L0.xs F
abbrev ref01_power.L0.V (F:ref01_power.L0.T) (h:ref01_power.L0.K F):=lk (P:=Tryz.prog) 207 0 ref01_power.L0.s ref01_power.L0.xs F h (by rfl)
def ref01_power.G (ref01_power_L0_F:ref01_power.L0.T) (a0:Int):Option (Int×Unit):=
 (ref01_power_L0_F ((a0,1,0,()),(),())).bind fun y0=>some y0.1
theorem ref01_power.gen (ref01_power_L0_F:ref01_power.L0.T) (ref01_power_L0_ok:ref01_power.L0.K ref01_power_L0_F):PureOK Tryz.prog 207 ref01_power.as ref01_power.rs (fun x=>ref01_power.G ref01_power_L0_F x.1):=
 fn_gen (tbl:=tblOf tblI 207 Tryz.f207) (ks:=[]) (ls:=[ref01_power.L0.V ref01_power_L0_F ref01_power_L0_ok]) (n:=200) (d:=6) (tblOf_ok tblI_ok Tryz.func207 (by kernel_rfl)) (by rfl) (fun x=>by kernel_rfl)
abbrev ref01_power.T:=(Int×Unit)→Option (Int×Unit)
def ref01_power.F:ref01_power.T:=fun x=>ref01_power.G ref01_power.L0.F x.1
theorem ref01_power.ok:PureOK Tryz.prog 207 ref01_power.as ref01_power.rs ref01_power.F:=ref01_power.gen ref01_power.L0.F ref01_power.L0.ok
abbrev ref01_power.K (F:ref01_power.T):Prop:=PureOK Tryz.prog 207 ref01_power.as ref01_power.rs F
abbrev ref01_power.V (F:ref01_power.T) (h:ref01_power.K F):=knView (P:=Tryz.prog) 207 ref01_power.as ref01_power.rs F h (by rfl) (by rfl) (by rfl)
@[reducible] def ref01_Bit.as:List Shp:=[.k (.i .u8), .k (.i .i64)]
@[reducible] def ref01_Bit.rs:List Shp:=[.k .b]
def ref01_Bit.G (ref01_power_F:ref01_power.T) (a0:Int) (a1:Int):Option (Bool×Unit):=
 if (decide (a1<0)==false)=true then if decide (a1>7)=true then some (false,()) else (ref01_power_F (a1,())).bind fun y0=>if (!decide (y0.1=(0:Int)))=true then some (Int.tmod (wrap .i64 (Int.tdiv (wrap .i64 a0) y0.1)) (2:Int)==(1:Int),()) else none else some (false,())
theorem ref01_Bit.gen (ref01_power_F:ref01_power.T) (ref01_power_ok:ref01_power.K ref01_power_F):PureOK Tryz.prog 195 ref01_Bit.as ref01_Bit.rs (fun x=>ref01_Bit.G ref01_power_F x.1 x.2.1):=
 fn_gen (tbl:=tblOf tblI 195 Tryz.f195) (ks:=[ref01_power.V ref01_power_F ref01_power_ok]) (ls:=[]) (n:=200) (d:=6) (tblOf_ok tblI_ok Tryz.func195 (by kernel_rfl)) (by rfl) (fun x=>by kernel_rfl)
abbrev ref01_Bit.T:=(Int×Int×Unit)→Option (Bool×Unit)
def ref01_Bit.F:ref01_Bit.T:=fun x=>ref01_Bit.G ref01_power.F x.1 x.2.1
theorem ref01_Bit.ok:PureOK Tryz.prog 195 ref01_Bit.as ref01_Bit.rs ref01_Bit.F:=ref01_Bit.gen ref01_power.F ref01_power.ok
abbrev ref01_Bit.K (F:ref01_Bit.T):Prop:=PureOK Tryz.prog 195 ref01_Bit.as ref01_Bit.rs F
abbrev ref01_Bit.V (F:ref01_Bit.T) (h:ref01_Bit.K F):=knView (P:=Tryz.prog) 195 ref01_Bit.as ref01_Bit.rs F h (by rfl) (by rfl) (by rfl)
@[reducible] def ref01_Put.as:List Shp:=[.k (.i .u8), .k (.i .i64), .k .b]
@[reducible] def ref01_Put.rs:List Shp:=[.k (.i .u8)]
def ref01_Put.G (ref01_power_F:ref01_power.T) (ref01_Bit_F:ref01_Bit.T) (a0:Int) (a1:Int) (a2:Bool):Option (Int×Unit):=
 if (decide (a1<0)==false)=true then if decide (a1>7)=true then some (a0,()) else (ref01_Bit_F (a0,a1,())).bind fun y0=>if y0.1=true then (ref01_power_F (a1,())).bind fun y1=>if a2=true then (ref01_power_F (a1,())).bind fun y2=>some (wrap .u8 (wrap .i64 (wrap .i64 (wrap .i64 a0 - y1.1)+y2.1)),()) else some (wrap .u8 (wrap .i64 (wrap .i64 a0 - y1.1)),()) else if a2=true then (ref01_power_F (a1,())).bind fun y1=>some (wrap .u8 (wrap .i64 (wrap .i64 a0+y1.1)),()) else some (wrap .u8 (wrap .i64 a0),()) else some (a0,())
theorem ref01_Put.gen (ref01_power_F:ref01_power.T) (ref01_power_ok:ref01_power.K ref01_power_F) (ref01_Bit_F:ref01_Bit.T) (ref01_Bit_ok:ref01_Bit.K ref01_Bit_F):PureOK Tryz.prog 201 ref01_Put.as ref01_Put.rs (fun x=>ref01_Put.G ref01_power_F ref01_Bit_F x.1 x.2.1 x.2.2.1):=
 fn_gen (tbl:=tblOf tblI 201 Tryz.f201) (ks:=[ref01_power.V ref01_power_F ref01_power_ok,ref01_Bit.V ref01_Bit_F ref01_Bit_ok]) (ls:=[]) (n:=200) (d:=6) (tblOf_ok tblI_ok Tryz.func201 (by kernel_rfl)) (by rfl) (fun x=>by kernel_rfl)
abbrev ref01_Put.T:=(Int×Int×Bool×Unit)→Option (Int×Unit)
def ref01_Put.F:ref01_Put.T:=fun x=>ref01_Put.G ref01_power.F ref01_Bit.F x.1 x.2.1 x.2.2.1
theorem ref01_Put.ok:PureOK Tryz.prog 201 ref01_Put.as ref01_Put.rs ref01_Put.F:=ref01_Put.gen ref01_power.F ref01_power.ok ref01_Bit.F ref01_Bit.ok
abbrev ref01_Put.K (F:ref01_Put.T):Prop:=PureOK Tryz.prog 201 ref01_Put.as ref01_Put.rs F
abbrev ref01_Put.V (F:ref01_Put.T) (h:ref01_Put.K F):=knView (P:=Tryz.prog) 201 ref01_Put.as ref01_Put.rs F h (by rfl) (by rfl) (by rfl)
@[reducible] def ref01_Join.as:List Shp:=[.k (.i .u8), .k (.i .u8)]
@[reducible] def ref01_Join.rs:List Shp:=[.k (.i .u16)]
def ref01_Join.G (a0:Int) (a1:Int):Option (Int×Unit):=
 some (wrap .u16 (wrap .i64 (wrap .i64 (wrap .i64 a0*(256:Int))+wrap .i64 a1)),())
theorem ref01_Join.gen:PureOK Tryz.prog 77 ref01_Join.as ref01_Join.rs (fun x=>ref01_Join.G x.1 x.2.1):=
 fn_gen (tbl:=tblOf tblI 77 Tryz.f77) (ks:=[]) (ls:=[]) (n:=200) (d:=6) (tblOf_ok tblI_ok Tryz.func77 (by kernel_rfl)) (by rfl) (fun x=>by kernel_rfl)
abbrev ref01_Join.T:=(Int×Int×Unit)→Option (Int×Unit)
def ref01_Join.F:ref01_Join.T:=fun x=>ref01_Join.G x.1 x.2.1
theorem ref01_Join.ok:PureOK Tryz.prog 77 ref01_Join.as ref01_Join.rs ref01_Join.F:=ref01_Join.gen
abbrev ref01_Join.K (F:ref01_Join.T):Prop:=PureOK Tryz.prog 77 ref01_Join.as ref01_Join.rs F
abbrev ref01_Join.V (F:ref01_Join.T) (h:ref01_Join.K F):=knView (P:=Tryz.prog) 77 ref01_Join.as ref01_Join.rs F h (by rfl) (by rfl) (by rfl)
@[reducible] def ref01_Split.as:List Shp:=[.k (.i .u16)]
@[reducible] def ref01_Split.rs:List Shp:=[.k (.i .u8), .k (.i .u8)]
def ref01_Split.G (a0:Int):Option (Int×Int×Unit):=
 some (wrap .u8 (wrap .i64 (Int.tdiv (wrap .i64 a0) (256:Int))),wrap .u8 (Int.tmod (wrap .i64 a0) (256:Int)),())
theorem ref01_Split.gen:PureOK Tryz.prog 73 ref01_Split.as ref01_Split.rs (fun x=>ref01_Split.G x.1):=
 fn_gen (tbl:=tblOf tblI 73 Tryz.f73) (ks:=[]) (ls:=[]) (n:=200) (d:=6) (tblOf_ok tblI_ok Tryz.func73 (by kernel_rfl)) (by rfl) (fun x=>by kernel_rfl)
abbrev ref01_Split.T:=(Int×Unit)→Option (Int×Int×Unit)
def ref01_Split.F:ref01_Split.T:=fun x=>ref01_Split.G x.1
theorem ref01_Split.ok:PureOK Tryz.prog 73 ref01_Split.as ref01_Split.rs ref01_Split.F:=ref01_Split.gen
abbrev ref01_Split.K (F:ref01_Split.T):Prop:=PureOK Tryz.prog 73 ref01_Split.as ref01_Split.rs F
abbrev ref01_Split.V (F:ref01_Split.T) (h:ref01_Split.K F):=knView (P:=Tryz.prog) 73 ref01_Split.as ref01_Split.rs F h (by rfl) (by rfl) (by rfl)
@[reducible] def ref01_Signed.as:List Shp:=[.k (.i .u8)]
@[reducible] def ref01_Signed.rs:List Shp:=[.k (.i .i64)]
def ref01_Signed.G (a0:Int):Option (Int×Unit):=
 if decide (a0<128)=true then some (wrap .i64 a0,()) else some (wrap .i64 (wrap .i64 a0 - (256:Int)),())
theorem ref01_Signed.gen:PureOK Tryz.prog 139 ref01_Signed.as ref01_Signed.rs (fun x=>ref01_Signed.G x.1):=
 fn_gen (tbl:=tblOf tblI 139 Tryz.f139) (ks:=[]) (ls:=[]) (n:=200) (d:=6) (tblOf_ok tblI_ok Tryz.func139 (by kernel_rfl)) (by rfl) (fun x=>by kernel_rfl)
abbrev ref01_Signed.T:=(Int×Unit)→Option (Int×Unit)
def ref01_Signed.F:ref01_Signed.T:=fun x=>ref01_Signed.G x.1
theorem ref01_Signed.ok:PureOK Tryz.prog 139 ref01_Signed.as ref01_Signed.rs ref01_Signed.F:=ref01_Signed.gen
abbrev ref01_Signed.K (F:ref01_Signed.T):Prop:=PureOK Tryz.prog 139 ref01_Signed.as ref01_Signed.rs F
abbrev ref01_Signed.V (F:ref01_Signed.T) (h:ref01_Signed.K F):=knView (P:=Tryz.prog) 139 ref01_Signed.as ref01_Signed.rs F h (by rfl) (by rfl) (by rfl)
@[reducible] def ref02_Op.as:List Shp:=[.k (.i .i64)]
@[reducible] def ref02_Op.rs:List Shp:=[.k (.i .i64)]
def ref02_Op.G (a0:Int):Option (Int×Unit):=
 if decide (Int.tmod a0 (8:Int)<0)=true then some (wrap .i64 (Int.tmod a0 (8:Int)+(8:Int)),()) else some (Int.tmod a0 (8:Int),())
theorem ref02_Op.gen:PureOK Tryz.prog 199 ref02_Op.as ref02_Op.rs (fun x=>ref02_Op.G x.1):=
 fn_gen (tbl:=tblOf tblI 199 Tryz.f199) (ks:=[]) (ls:=[]) (n:=200) (d:=6) (tblOf_ok tblI_ok Tryz.func199 (by kernel_rfl)) (by rfl) (fun x=>by kernel_rfl)
abbrev ref02_Op.T:=(Int×Unit)→Option (Int×Unit)
def ref02_Op.F:ref02_Op.T:=fun x=>ref02_Op.G x.1
theorem ref02_Op.ok:PureOK Tryz.prog 199 ref02_Op.as ref02_Op.rs ref02_Op.F:=ref02_Op.gen
abbrev ref02_Op.K (F:ref02_Op.T):Prop:=PureOK Tryz.prog 199 ref02_Op.as ref02_Op.rs F
abbrev ref02_Op.V (F:ref02_Op.T) (h:ref02_Op.K F):=knView (P:=Tryz.prog) 199 ref02_Op.as ref02_Op.rs F h (by rfl) (by rfl) (by rfl)
@[reducible] def ref02_Of.as:List Shp:=[.k (.i .u8)]
@[reducible] def ref02_Of.rs:List Shp:=[.agg ⟨.b,[.b, .b, .b]⟩]
def ref02_Of.G (ref01_Bit_F:ref01_Bit.T) (a0:Int):Option ((Bool×Bool×Bool×Bool)×Unit):=
 (ref01_Bit_F (a0,7,())).bind fun y0=>(ref01_Bit_F (a0,6,())).bind fun y1=>(ref01_Bit_F (a0,5,())).bind fun y2=>(ref01_Bit_F (a0,4,())).bind fun y3=>some ((y0.1,y1.1,y2.1,y3.1),())
theorem ref02_Of.gen (ref01_Bit_F:ref01_Bit.T) (ref01_Bit_ok:ref01_Bit.K ref01_Bit_F):PureOK Tryz.prog 197 ref02_Of.as ref02_Of.rs (fun x=>ref02_Of.G ref01_Bit_F x.1):=
 fn_gen (tbl:=tblOf tblI 197 Tryz.f197) (ks:=[ref01_Bit.V ref01_Bit_F ref01_Bit_ok]) (ls:=[]) (n:=200) (d:=6) (tblOf_ok tblI_ok Tryz.func197 (by kernel_rfl)) (by rfl) (fun x=>by kernel_rfl)
abbrev ref02_Of.T:=(Int×Unit)→Option ((Bool×Bool×Bool×Bool)×Unit)
def ref02_Of.F:ref02_Of.T:=fun x=>ref02_Of.G ref01_Bit.F x.1
theorem ref02_Of.ok:PureOK Tryz.prog 197 ref02_Of.as ref02_Of.rs ref02_Of.F:=ref02_Of.gen ref01_Bit.F ref01_Bit.ok
abbrev ref02_Of.K (F:ref02_Of.T):Prop:=PureOK Tryz.prog 197 ref02_Of.as ref02_Of.rs F
abbrev ref02_Of.V (F:ref02_Of.T) (h:ref02_Of.K F):=knView (P:=Tryz.prog) 197 ref02_Of.as ref02_Of.rs F h (by rfl) (by rfl) (by rfl)
@[reducible] def ref02_Byte.as:List Shp:=[.agg ⟨.b,[.b, .b, .b]⟩]
@[reducible] def ref02_Byte.rs:List Shp:=[.k (.i .u8)]
def ref02_Byte.G (a0:(Bool×Bool×Bool×Bool)):Option (Int×Unit):=
 if a0.1=true then if a0.2.1=true then if a0.2.2.1=true then if a0.2.2.2=true then some (240,()) else some (224,()) else if a0.2.2.2=true then some (208,()) else some (192,()) else if a0.2.2.1=true then if a0.2.2.2=true then some (176,()) else some (160,()) else if a0.2.2.2=true then some (144,()) else some (128,()) else if a0.2.1=true then if a0.2.2.1=true then if a0.2.2.2=true then some (112,()) else some (96,()) else if a0.2.2.2=true then some (80,()) else some (64,()) else if a0.2.2.1=true then if a0.2.2.2=true then some (48,()) else some (32,()) else if a0.2.2.2=true then some (16,()) else some (0,())
theorem ref02_Byte.gen:PureOK Tryz.prog 208 ref02_Byte.as ref02_Byte.rs (fun x=>ref02_Byte.G x.1):=
 fn_gen (tbl:=tblOf tblI 208 Tryz.f208) (ks:=[]) (ls:=[]) (n:=200) (d:=6) (tblOf_ok tblI_ok Tryz.func208 (by kernel_rfl)) (by rfl) (fun x=>by kernel_rfl)
abbrev ref02_Byte.T:=((Bool×Bool×Bool×Bool)×Unit)→Option (Int×Unit)
def ref02_Byte.F:ref02_Byte.T:=fun x=>ref02_Byte.G x.1
theorem ref02_Byte.ok:PureOK Tryz.prog 208 ref02_Byte.as ref02_Byte.rs ref02_Byte.F:=ref02_Byte.gen
abbrev ref02_Byte.K (F:ref02_Byte.T):Prop:=PureOK Tryz.prog 208 ref02_Byte.as ref02_Byte.rs F
abbrev ref02_Byte.V (F:ref02_Byte.T) (h:ref02_Byte.K F):=knView (P:=Tryz.prog) 208 ref02_Byte.as ref02_Byte.rs F h (by rfl) (by rfl) (by rfl)
@[reducible] def ref02_each.as:List Shp:=[.k (.i .i64), .k (.i .u8), .k (.i .u8)]
@[reducible] def ref02_each.rs:List Shp:=[.k (.i .u8)]
@[reducible] def ref02_each.L0.s:LSh:=(⟨42,[(0, .k (.i .i64)),(1, .k (.i .u8)),(2, .k (.i .u8)),(7, .k (.i .u8)),(8, .k (.i .i64))],[],[]⟩:LSh)
@[reducible] def ref02_each.L0.xs:List (Ex×LSh):=([(.exit 0,⟨42,[(7, .k (.i .u8))],[],[]⟩)]:List (Ex×LSh))
def ref02_each.L0.step (ref01_Bit_F:ref01_Bit.T) (ref01_Put_F:ref01_Put.T) (t0:Int) (t1:Int) (t2:Int) (t7:Int) (t8:Int):Option (((Int×Int×Int×Int×Int×Unit)×Unit×Unit)⊕((Int×Unit)×Unit×Unit)):=
 if decide (t8<8)=true then (ref01_Bit_F (t1,t8,())).bind fun y0=>(ref01_Bit_F (t2,t8,())).bind fun y1=>if (y0.1==false)=true then if (t0==4)=true then if (y0.1==true)=true then if (t0==5)=true then (ref01_Put_F (t7,t8,!y0.1==y1.1,())).bind fun y2=>some (Sum.inl ((t0,t1,t2,y2.1,wrap .i64 (t8+(1:Int)),()),(),())) else (ref01_Put_F (t7,t8,y1)).bind fun y2=>some (Sum.inl ((t0,t1,t2,y2.1,wrap .i64 (t8+(1:Int)),()),(),())) else if (t0==5)=true then (ref01_Put_F (t7,t8,!y0.1==y1.1,())).bind fun y2=>some (Sum.inl ((t0,t1,t2,y2.1,wrap .i64 (t8+(1:Int)),()),(),())) else (ref01_Put_F (t7,t8,false,())).bind fun y2=>some (Sum.inl ((t0,t1,t2,y2.1,wrap .i64 (t8+(1:Int)),()),(),())) else if (t0==5)=true then (ref01_Put_F (t7,t8,!y0.1==y1.1,())).bind fun y2=>some (Sum.inl ((t0,t1,t2,y2.1,wrap .i64 (t8+(1:Int)),()),(),())) else (ref01_Put_F (t7,t8,y1)).bind fun y2=>some (Sum.inl ((t0,t1,t2,y2.1,wrap .i64 (t8+(1:Int)),()),(),())) else if (t0==4)=true then if (y0.1==true)=true then if (t0==5)=true then (ref01_Put_F (t7,t8,!y0.1==y1.1,())).bind fun y2=>some (Sum.inl ((t0,t1,t2,y2.1,wrap .i64 (t8+(1:Int)),()),(),())) else (ref01_Put_F (t7,t8,y1)).bind fun y2=>some (Sum.inl ((t0,t1,t2,y2.1,wrap .i64 (t8+(1:Int)),()),(),())) else if (t0==5)=true then (ref01_Put_F (t7,t8,!y0.1==y1.1,())).bind fun y2=>some (Sum.inl ((t0,t1,t2,y2.1,wrap .i64 (t8+(1:Int)),()),(),())) else (ref01_Put_F (t7,t8,false,())).bind fun y2=>some (Sum.inl ((t0,t1,t2,y2.1,wrap .i64 (t8+(1:Int)),()),(),())) else if (t0==5)=true then (ref01_Put_F (t7,t8,!y0.1==y1.1,())).bind fun y2=>some (Sum.inl ((t0,t1,t2,y2.1,wrap .i64 (t8+(1:Int)),()),(),())) else (ref01_Put_F (t7,t8,true,())).bind fun y2=>some (Sum.inl ((t0,t1,t2,y2.1,wrap .i64 (t8+(1:Int)),()),(),())) else some (Sum.inr ((t7,()),(),()))
theorem ref02_each.L0.gen (ref01_Bit_F:ref01_Bit.T) (ref01_Bit_ok:ref01_Bit.K ref01_Bit_F) (ref01_Put_F:ref01_Put.T) (ref01_Put_ok:ref01_Put.K ref01_Put_F):LoopOK Tryz.prog 203 0 ref02_each.L0.s ref02_each.L0.xs (iterU fun x=>ref02_each.L0.step ref01_Bit_F ref01_Put_F x.1.1 x.1.2.1 x.1.2.2.1 x.1.2.2.2.1 x.1.2.2.2.2.1):=
 loop_gen (tbl:=tblOf tblI 203 Tryz.f203) (ks:=[ref01_Bit.V ref01_Bit_F ref01_Bit_ok,ref01_Put.V ref01_Put_F ref01_Put_ok]) (ls:=[]) (n:=200) (d:=6) (fn:=Tryz.f203) (tblOf_ok tblI_ok Tryz.func203 (by kernel_rfl)) (by rfl) (by rfl) (fun x=>by kernel_rfl)
abbrev ref02_each.L0.T:=((Int×Int×Int×Int×Int×Unit)×Unit×Unit)→Option ((Int×Unit)×Unit×Unit)
def ref02_each.L0.F:ref02_each.L0.T:=iterU fun x=>ref02_each.L0.step ref01_Bit.F ref01_Put.F x.1.1 x.1.2.1 x.1.2.2.1 x.1.2.2.2.1 x.1.2.2.2.2.1
theorem ref02_each.L0.ok:LoopOK Tryz.prog 203 0 ref02_each.L0.s ref02_each.L0.xs ref02_each.L0.F:=ref02_each.L0.gen ref01_Bit.F ref01_Bit.ok ref01_Put.F ref01_Put.ok
abbrev ref02_each.L0.K (F:ref02_each.L0.T):Prop:=LoopOK Tryz.prog 203 0 ref02_each.L0.s ref02_each.L0.xs F
abbrev ref02_each.L0.V (F:ref02_each.L0.T) (h:ref02_each.L0.K F):=lk (P:=Tryz.prog) 203 0 ref02_each.L0.s ref02_each.L0.xs F h (by rfl)
def ref02_each.G (ref02_each_L0_F:ref02_each.L0.T) (a0:Int) (a1:Int) (a2:Int):Option (Int×Unit):=
 (ref02_each_L0_F ((a0,a1,a2,0,0,()),(),())).bind fun y0=>some y0.1
theorem ref02_each.gen (ref02_each_L0_F:ref02_each.L0.T) (ref02_each_L0_ok:ref02_each.L0.K ref02_each_L0_F):PureOK Tryz.prog 203 ref02_each.as ref02_each.rs (fun x=>ref02_each.G ref02_each_L0_F x.1 x.2.1 x.2.2.1):=
 fn_gen (tbl:=tblOf tblI 203 Tryz.f203) (ks:=[]) (ls:=[ref02_each.L0.V ref02_each_L0_F ref02_each_L0_ok]) (n:=200) (d:=6) (tblOf_ok tblI_ok Tryz.func203 (by kernel_rfl)) (by rfl) (fun x=>by kernel_rfl)
abbrev ref02_each.T:=(Int×Int×Int×Unit)→Option (Int×Unit)
def ref02_each.F:ref02_each.T:=fun x=>ref02_each.G ref02_each.L0.F x.1 x.2.1 x.2.2.1
theorem ref02_each.ok:PureOK Tryz.prog 203 ref02_each.as ref02_each.rs ref02_each.F:=ref02_each.gen ref02_each.L0.F ref02_each.L0.ok
abbrev ref02_each.K (F:ref02_each.T):Prop:=PureOK Tryz.prog 203 ref02_each.as ref02_each.rs F
abbrev ref02_each.V (F:ref02_each.T) (h:ref02_each.K F):=knView (P:=Tryz.prog) 203 ref02_each.as ref02_each.rs F h (by rfl) (by rfl) (by rfl)
@[reducible] def ref02_Do.as:List Shp:=[.k (.i .i64), .k (.i .u8), .k (.i .u8), .agg ⟨.b,[.b, .b, .b]⟩]
@[reducible] def ref02_Do.rs:List Shp:=[.k (.i .u8), .agg ⟨.b,[.b, .b, .b]⟩]
def ref02_Do.G (ref02_Op_F:ref02_Op.T) (ref02_each_F:ref02_each.T) (a0:Int) (a1:Int) (a2:Int) (a3:(Bool×Bool×Bool×Bool)):Option (Int×(Bool×Bool×Bool×Bool)×Unit):=
 (ref02_Op_F (a0,())).bind fun y0=>if ((y0.1==1)==false)=true then if ((y0.1==3)==true)=true then if a3.2.2.2=true then if decide (y0.1<2)=true then some (wrap .u8 (Int.tmod (wrap .i64 (wrap .i64 (wrap .i64 a1+wrap .i64 a2)+(1:Int))) (256:Int)),(Int.tmod (wrap .i64 (wrap .i64 (wrap .i64 a1+wrap .i64 a2)+(1:Int))) (256:Int)==(0:Int),false,decide (wrap .i64 (wrap .i64 (Int.tmod (wrap .i64 a1) (16:Int)+Int.tmod (wrap .i64 a2) (16:Int))+(1:Int))>15),decide (wrap .i64 (wrap .i64 (wrap .i64 a1+wrap .i64 a2)+(1:Int))>255)),()) else if ((y0.1==2)==false)=true then if ((y0.1==3)==false)=true then if (y0.1==7)=true then if (y0.1==7)=true then some (a1,(Int.tmod (wrap .i64 (wrap .i64 (wrap .i64 (wrap .i64 a1 - wrap .i64 a2) - (1:Int))+(512:Int))) (256:Int)==(0:Int),true,decide (Int.tmod (wrap .i64 a1) (16:Int)<wrap .i64 (Int.tmod (wrap .i64 a2) (16:Int)+(1:Int))),decide (wrap .i64 a1<wrap .i64 (wrap .i64 a2+(1:Int)))),()) else some (wrap .u8 (Int.tmod (wrap .i64 (wrap .i64 (wrap .i64 (wrap .i64 a1 - wrap .i64 a2) - (1:Int))+(512:Int))) (256:Int)),(Int.tmod (wrap .i64 (wrap .i64 (wrap .i64 (wrap .i64 a1 - wrap .i64 a2) - (1:Int))+(512:Int))) (256:Int)==(0:Int),true,decide (Int.tmod (wrap .i64 a1) (16:Int)<wrap .i64 (Int.tmod (wrap .i64 a2) (16:Int)+(1:Int))),decide (wrap .i64 a1<wrap .i64 (wrap .i64 a2+(1:Int)))),()) else (ref02_each_F (y0.1,a1,a2,())).bind fun y1=>some (y1.1,(y1.1==(0:Int),false,y0.1==(4:Int),false),()) else if (y0.1==7)=true then some (a1,(Int.tmod (wrap .i64 (wrap .i64 (wrap .i64 (wrap .i64 a1 - wrap .i64 a2) - (1:Int))+(512:Int))) (256:Int)==(0:Int),true,decide (Int.tmod (wrap .i64 a1) (16:Int)<wrap .i64 (Int.tmod (wrap .i64 a2) (16:Int)+(1:Int))),decide (wrap .i64 a1<wrap .i64 (wrap .i64 a2+(1:Int)))),()) else some (wrap .u8 (Int.tmod (wrap .i64 (wrap .i64 (wrap .i64 (wrap .i64 a1 - wrap .i64 a2) - (1:Int))+(512:Int))) (256:Int)),(Int.tmod (wrap .i64 (wrap .i64 (wrap .i64 (wrap .i64 a1 - wrap .i64 a2) - (1:Int))+(512:Int))) (256:Int)==(0:Int),true,decide (Int.tmod (wrap .i64 a1) (16:Int)<wrap .i64 (Int.tmod (wrap .i64 a2) (16:Int)+(1:Int))),decide (wrap .i64 a1<wrap .i64 (wrap .i64 a2+(1:Int)))),()) else if (y0.1==7)=true then some (a1,(Int.tmod (wrap .i64 (wrap .i64 (wrap .i64 (wrap .i64 a1 - wrap .i64 a2) - (1:Int))+(512:Int))) (256:Int)==(0:Int),true,decide (Int.tmod (wrap .i64 a1) (16:Int)<wrap .i64 (Int.tmod (wrap .i64 a2) (16:Int)+(1:Int))),decide (wrap .i64 a1<wrap .i64 (wrap .i64 a2+(1:Int)))),()) else some (wrap .u8 (Int.tmod (wrap .i64 (wrap .i64 (wrap .i64 (wrap .i64 a1 - wrap .i64 a2) - (1:Int))+(512:Int))) (256:Int)),(Int.tmod (wrap .i64 (wrap .i64 (wrap .i64 (wrap .i64 a1 - wrap .i64 a2) - (1:Int))+(512:Int))) (256:Int)==(0:Int),true,decide (Int.tmod (wrap .i64 a1) (16:Int)<wrap .i64 (Int.tmod (wrap .i64 a2) (16:Int)+(1:Int))),decide (wrap .i64 a1<wrap .i64 (wrap .i64 a2+(1:Int)))),()) else if decide (y0.1<2)=true then some (wrap .u8 (Int.tmod (wrap .i64 (wrap .i64 (wrap .i64 a1+wrap .i64 a2)+(0:Int))) (256:Int)),(Int.tmod (wrap .i64 (wrap .i64 (wrap .i64 a1+wrap .i64 a2)+(0:Int))) (256:Int)==(0:Int),false,decide (wrap .i64 (wrap .i64 (Int.tmod (wrap .i64 a1) (16:Int)+Int.tmod (wrap .i64 a2) (16:Int))+(0:Int))>15),decide (wrap .i64 (wrap .i64 (wrap .i64 a1+wrap .i64 a2)+(0:Int))>255)),()) else if ((y0.1==2)==false)=true then if ((y0.1==3)==false)=true then if (y0.1==7)=true then if (y0.1==7)=true then some (a1,(Int.tmod (wrap .i64 (wrap .i64 (wrap .i64 (wrap .i64 a1 - wrap .i64 a2) - (0:Int))+(512:Int))) (256:Int)==(0:Int),true,decide (Int.tmod (wrap .i64 a1) (16:Int)<wrap .i64 (Int.tmod (wrap .i64 a2) (16:Int)+(0:Int))),decide (wrap .i64 a1<wrap .i64 (wrap .i64 a2+(0:Int)))),()) else some (wrap .u8 (Int.tmod (wrap .i64 (wrap .i64 (wrap .i64 (wrap .i64 a1 - wrap .i64 a2) - (0:Int))+(512:Int))) (256:Int)),(Int.tmod (wrap .i64 (wrap .i64 (wrap .i64 (wrap .i64 a1 - wrap .i64 a2) - (0:Int))+(512:Int))) (256:Int)==(0:Int),true,decide (Int.tmod (wrap .i64 a1) (16:Int)<wrap .i64 (Int.tmod (wrap .i64 a2) (16:Int)+(0:Int))),decide (wrap .i64 a1<wrap .i64 (wrap .i64 a2+(0:Int)))),()) else (ref02_each_F (y0.1,a1,a2,())).bind fun y1=>some (y1.1,(y1.1==(0:Int),false,y0.1==(4:Int),false),()) else if (y0.1==7)=true then some (a1,(Int.tmod (wrap .i64 (wrap .i64 (wrap .i64 (wrap .i64 a1 - wrap .i64 a2) - (0:Int))+(512:Int))) (256:Int)==(0:Int),true,decide (Int.tmod (wrap .i64 a1) (16:Int)<wrap .i64 (Int.tmod (wrap .i64 a2) (16:Int)+(0:Int))),decide (wrap .i64 a1<wrap .i64 (wrap .i64 a2+(0:Int)))),()) else some (wrap .u8 (Int.tmod (wrap .i64 (wrap .i64 (wrap .i64 (wrap .i64 a1 - wrap .i64 a2) - (0:Int))+(512:Int))) (256:Int)),(Int.tmod (wrap .i64 (wrap .i64 (wrap .i64 (wrap .i64 a1 - wrap .i64 a2) - (0:Int))+(512:Int))) (256:Int)==(0:Int),true,decide (Int.tmod (wrap .i64 a1) (16:Int)<wrap .i64 (Int.tmod (wrap .i64 a2) (16:Int)+(0:Int))),decide (wrap .i64 a1<wrap .i64 (wrap .i64 a2+(0:Int)))),()) else if (y0.1==7)=true then some (a1,(Int.tmod (wrap .i64 (wrap .i64 (wrap .i64 (wrap .i64 a1 - wrap .i64 a2) - (0:Int))+(512:Int))) (256:Int)==(0:Int),true,decide (Int.tmod (wrap .i64 a1) (16:Int)<wrap .i64 (Int.tmod (wrap .i64 a2) (16:Int)+(0:Int))),decide (wrap .i64 a1<wrap .i64 (wrap .i64 a2+(0:Int)))),()) else some (wrap .u8 (Int.tmod (wrap .i64 (wrap .i64 (wrap .i64 (wrap .i64 a1 - wrap .i64 a2) - (0:Int))+(512:Int))) (256:Int)),(Int.tmod (wrap .i64 (wrap .i64 (wrap .i64 (wrap .i64 a1 - wrap .i64 a2) - (0:Int))+(512:Int))) (256:Int)==(0:Int),true,decide (Int.tmod (wrap .i64 a1) (16:Int)<wrap .i64 (Int.tmod (wrap .i64 a2) (16:Int)+(0:Int))),decide (wrap .i64 a1<wrap .i64 (wrap .i64 a2+(0:Int)))),()) else if decide (y0.1<2)=true then some (wrap .u8 (Int.tmod (wrap .i64 (wrap .i64 (wrap .i64 a1+wrap .i64 a2)+(0:Int))) (256:Int)),(Int.tmod (wrap .i64 (wrap .i64 (wrap .i64 a1+wrap .i64 a2)+(0:Int))) (256:Int)==(0:Int),false,decide (wrap .i64 (wrap .i64 (Int.tmod (wrap .i64 a1) (16:Int)+Int.tmod (wrap .i64 a2) (16:Int))+(0:Int))>15),decide (wrap .i64 (wrap .i64 (wrap .i64 a1+wrap .i64 a2)+(0:Int))>255)),()) else if ((y0.1==2)==false)=true then if ((y0.1==3)==false)=true then if (y0.1==7)=true then if (y0.1==7)=true then some (a1,(Int.tmod (wrap .i64 (wrap .i64 (wrap .i64 (wrap .i64 a1 - wrap .i64 a2) - (0:Int))+(512:Int))) (256:Int)==(0:Int),true,decide (Int.tmod (wrap .i64 a1) (16:Int)<wrap .i64 (Int.tmod (wrap .i64 a2) (16:Int)+(0:Int))),decide (wrap .i64 a1<wrap .i64 (wrap .i64 a2+(0:Int)))),()) else some (wrap .u8 (Int.tmod (wrap .i64 (wrap .i64 (wrap .i64 (wrap .i64 a1 - wrap .i64 a2) - (0:Int))+(512:Int))) (256:Int)),(Int.tmod (wrap .i64 (wrap .i64 (wrap .i64 (wrap .i64 a1 - wrap .i64 a2) - (0:Int))+(512:Int))) (256:Int)==(0:Int),true,decide (Int.tmod (wrap .i64 a1) (16:Int)<wrap .i64 (Int.tmod (wrap .i64 a2) (16:Int)+(0:Int))),decide (wrap .i64 a1<wrap .i64 (wrap .i64 a2+(0:Int)))),()) else (ref02_each_F (y0.1,a1,a2,())).bind fun y1=>some (y1.1,(y1.1==(0:Int),false,y0.1==(4:Int),false),()) else if (y0.1==7)=true then some (a1,(Int.tmod (wrap .i64 (wrap .i64 (wrap .i64 (wrap .i64 a1 - wrap .i64 a2) - (0:Int))+(512:Int))) (256:Int)==(0:Int),true,decide (Int.tmod (wrap .i64 a1) (16:Int)<wrap .i64 (Int.tmod (wrap .i64 a2) (16:Int)+(0:Int))),decide (wrap .i64 a1<wrap .i64 (wrap .i64 a2+(0:Int)))),()) else some (wrap .u8 (Int.tmod (wrap .i64 (wrap .i64 (wrap .i64 (wrap .i64 a1 - wrap .i64 a2) - (0:Int))+(512:Int))) (256:Int)),(Int.tmod (wrap .i64 (wrap .i64 (wrap .i64 (wrap .i64 a1 - wrap .i64 a2) - (0:Int))+(512:Int))) (256:Int)==(0:Int),true,decide (Int.tmod (wrap .i64 a1) (16:Int)<wrap .i64 (Int.tmod (wrap .i64 a2) (16:Int)+(0:Int))),decide (wrap .i64 a1<wrap .i64 (wrap .i64 a2+(0:Int)))),()) else if (y0.1==7)=true then some (a1,(Int.tmod (wrap .i64 (wrap .i64 (wrap .i64 (wrap .i64 a1 - wrap .i64 a2) - (0:Int))+(512:Int))) (256:Int)==(0:Int),true,decide (Int.tmod (wrap .i64 a1) (16:Int)<wrap .i64 (Int.tmod (wrap .i64 a2) (16:Int)+(0:Int))),decide (wrap .i64 a1<wrap .i64 (wrap .i64 a2+(0:Int)))),()) else some (wrap .u8 (Int.tmod (wrap .i64 (wrap .i64 (wrap .i64 (wrap .i64 a1 - wrap .i64 a2) - (0:Int))+(512:Int))) (256:Int)),(Int.tmod (wrap .i64 (wrap .i64 (wrap .i64 (wrap .i64 a1 - wrap .i64 a2) - (0:Int))+(512:Int))) (256:Int)==(0:Int),true,decide (Int.tmod (wrap .i64 a1) (16:Int)<wrap .i64 (Int.tmod (wrap .i64 a2) (16:Int)+(0:Int))),decide (wrap .i64 a1<wrap .i64 (wrap .i64 a2+(0:Int)))),()) else if a3.2.2.2=true then if decide (y0.1<2)=true then some (wrap .u8 (Int.tmod (wrap .i64 (wrap .i64 (wrap .i64 a1+wrap .i64 a2)+(1:Int))) (256:Int)),(Int.tmod (wrap .i64 (wrap .i64 (wrap .i64 a1+wrap .i64 a2)+(1:Int))) (256:Int)==(0:Int),false,decide (wrap .i64 (wrap .i64 (Int.tmod (wrap .i64 a1) (16:Int)+Int.tmod (wrap .i64 a2) (16:Int))+(1:Int))>15),decide (wrap .i64 (wrap .i64 (wrap .i64 a1+wrap .i64 a2)+(1:Int))>255)),()) else if ((y0.1==2)==false)=true then if ((y0.1==3)==false)=true then if (y0.1==7)=true then if (y0.1==7)=true then some (a1,(Int.tmod (wrap .i64 (wrap .i64 (wrap .i64 (wrap .i64 a1 - wrap .i64 a2) - (1:Int))+(512:Int))) (256:Int)==(0:Int),true,decide (Int.tmod (wrap .i64 a1) (16:Int)<wrap .i64 (Int.tmod (wrap .i64 a2) (16:Int)+(1:Int))),decide (wrap .i64 a1<wrap .i64 (wrap .i64 a2+(1:Int)))),()) else some (wrap .u8 (Int.tmod (wrap .i64 (wrap .i64 (wrap .i64 (wrap .i64 a1 - wrap .i64 a2) - (1:Int))+(512:Int))) (256:Int)),(Int.tmod (wrap .i64 (wrap .i64 (wrap .i64 (wrap .i64 a1 - wrap .i64 a2) - (1:Int))+(512:Int))) (256:Int)==(0:Int),true,decide (Int.tmod (wrap .i64 a1) (16:Int)<wrap .i64 (Int.tmod (wrap .i64 a2) (16:Int)+(1:Int))),decide (wrap .i64 a1<wrap .i64 (wrap .i64 a2+(1:Int)))),()) else (ref02_each_F (y0.1,a1,a2,())).bind fun y1=>some (y1.1,(y1.1==(0:Int),false,y0.1==(4:Int),false),()) else if (y0.1==7)=true then some (a1,(Int.tmod (wrap .i64 (wrap .i64 (wrap .i64 (wrap .i64 a1 - wrap .i64 a2) - (1:Int))+(512:Int))) (256:Int)==(0:Int),true,decide (Int.tmod (wrap .i64 a1) (16:Int)<wrap .i64 (Int.tmod (wrap .i64 a2) (16:Int)+(1:Int))),decide (wrap .i64 a1<wrap .i64 (wrap .i64 a2+(1:Int)))),()) else some (wrap .u8 (Int.tmod (wrap .i64 (wrap .i64 (wrap .i64 (wrap .i64 a1 - wrap .i64 a2) - (1:Int))+(512:Int))) (256:Int)),(Int.tmod (wrap .i64 (wrap .i64 (wrap .i64 (wrap .i64 a1 - wrap .i64 a2) - (1:Int))+(512:Int))) (256:Int)==(0:Int),true,decide (Int.tmod (wrap .i64 a1) (16:Int)<wrap .i64 (Int.tmod (wrap .i64 a2) (16:Int)+(1:Int))),decide (wrap .i64 a1<wrap .i64 (wrap .i64 a2+(1:Int)))),()) else if (y0.1==7)=true then some (a1,(Int.tmod (wrap .i64 (wrap .i64 (wrap .i64 (wrap .i64 a1 - wrap .i64 a2) - (1:Int))+(512:Int))) (256:Int)==(0:Int),true,decide (Int.tmod (wrap .i64 a1) (16:Int)<wrap .i64 (Int.tmod (wrap .i64 a2) (16:Int)+(1:Int))),decide (wrap .i64 a1<wrap .i64 (wrap .i64 a2+(1:Int)))),()) else some (wrap .u8 (Int.tmod (wrap .i64 (wrap .i64 (wrap .i64 (wrap .i64 a1 - wrap .i64 a2) - (1:Int))+(512:Int))) (256:Int)),(Int.tmod (wrap .i64 (wrap .i64 (wrap .i64 (wrap .i64 a1 - wrap .i64 a2) - (1:Int))+(512:Int))) (256:Int)==(0:Int),true,decide (Int.tmod (wrap .i64 a1) (16:Int)<wrap .i64 (Int.tmod (wrap .i64 a2) (16:Int)+(1:Int))),decide (wrap .i64 a1<wrap .i64 (wrap .i64 a2+(1:Int)))),()) else if decide (y0.1<2)=true then some (wrap .u8 (Int.tmod (wrap .i64 (wrap .i64 (wrap .i64 a1+wrap .i64 a2)+(0:Int))) (256:Int)),(Int.tmod (wrap .i64 (wrap .i64 (wrap .i64 a1+wrap .i64 a2)+(0:Int))) (256:Int)==(0:Int),false,decide (wrap .i64 (wrap .i64 (Int.tmod (wrap .i64 a1) (16:Int)+Int.tmod (wrap .i64 a2) (16:Int))+(0:Int))>15),decide (wrap .i64 (wrap .i64 (wrap .i64 a1+wrap .i64 a2)+(0:Int))>255)),()) else if ((y0.1==2)==false)=true then if ((y0.1==3)==false)=true then if (y0.1==7)=true then if (y0.1==7)=true then some (a1,(Int.tmod (wrap .i64 (wrap .i64 (wrap .i64 (wrap .i64 a1 - wrap .i64 a2) - (0:Int))+(512:Int))) (256:Int)==(0:Int),true,decide (Int.tmod (wrap .i64 a1) (16:Int)<wrap .i64 (Int.tmod (wrap .i64 a2) (16:Int)+(0:Int))),decide (wrap .i64 a1<wrap .i64 (wrap .i64 a2+(0:Int)))),()) else some (wrap .u8 (Int.tmod (wrap .i64 (wrap .i64 (wrap .i64 (wrap .i64 a1 - wrap .i64 a2) - (0:Int))+(512:Int))) (256:Int)),(Int.tmod (wrap .i64 (wrap .i64 (wrap .i64 (wrap .i64 a1 - wrap .i64 a2) - (0:Int))+(512:Int))) (256:Int)==(0:Int),true,decide (Int.tmod (wrap .i64 a1) (16:Int)<wrap .i64 (Int.tmod (wrap .i64 a2) (16:Int)+(0:Int))),decide (wrap .i64 a1<wrap .i64 (wrap .i64 a2+(0:Int)))),()) else (ref02_each_F (y0.1,a1,a2,())).bind fun y1=>some (y1.1,(y1.1==(0:Int),false,y0.1==(4:Int),false),()) else if (y0.1==7)=true then some (a1,(Int.tmod (wrap .i64 (wrap .i64 (wrap .i64 (wrap .i64 a1 - wrap .i64 a2) - (0:Int))+(512:Int))) (256:Int)==(0:Int),true,decide (Int.tmod (wrap .i64 a1) (16:Int)<wrap .i64 (Int.tmod (wrap .i64 a2) (16:Int)+(0:Int))),decide (wrap .i64 a1<wrap .i64 (wrap .i64 a2+(0:Int)))),()) else some (wrap .u8 (Int.tmod (wrap .i64 (wrap .i64 (wrap .i64 (wrap .i64 a1 - wrap .i64 a2) - (0:Int))+(512:Int))) (256:Int)),(Int.tmod (wrap .i64 (wrap .i64 (wrap .i64 (wrap .i64 a1 - wrap .i64 a2) - (0:Int))+(512:Int))) (256:Int)==(0:Int),true,decide (Int.tmod (wrap .i64 a1) (16:Int)<wrap .i64 (Int.tmod (wrap .i64 a2) (16:Int)+(0:Int))),decide (wrap .i64 a1<wrap .i64 (wrap .i64 a2+(0:Int)))),()) else if (y0.1==7)=true then some (a1,(Int.tmod (wrap .i64 (wrap .i64 (wrap .i64 (wrap .i64 a1 - wrap .i64 a2) - (0:Int))+(512:Int))) (256:Int)==(0:Int),true,decide (Int.tmod (wrap .i64 a1) (16:Int)<wrap .i64 (Int.tmod (wrap .i64 a2) (16:Int)+(0:Int))),decide (wrap .i64 a1<wrap .i64 (wrap .i64 a2+(0:Int)))),()) else some (wrap .u8 (Int.tmod (wrap .i64 (wrap .i64 (wrap .i64 (wrap .i64 a1 - wrap .i64 a2) - (0:Int))+(512:Int))) (256:Int)),(Int.tmod (wrap .i64 (wrap .i64 (wrap .i64 (wrap .i64 a1 - wrap .i64 a2) - (0:Int))+(512:Int))) (256:Int)==(0:Int),true,decide (Int.tmod (wrap .i64 a1) (16:Int)<wrap .i64 (Int.tmod (wrap .i64 a2) (16:Int)+(0:Int))),decide (wrap .i64 a1<wrap .i64 (wrap .i64 a2+(0:Int)))),())
theorem ref02_Do.gen (ref02_Op_F:ref02_Op.T) (ref02_Op_ok:ref02_Op.K ref02_Op_F) (ref02_each_F:ref02_each.T) (ref02_each_ok:ref02_each.K ref02_each_F):PureOK Tryz.prog 143 ref02_Do.as ref02_Do.rs (fun x=>ref02_Do.G ref02_Op_F ref02_each_F x.1 x.2.1 x.2.2.1 x.2.2.2.1):=
 fn_gen (tbl:=tblOf tblI 143 Tryz.f143) (ks:=[ref02_Op.V ref02_Op_F ref02_Op_ok,ref02_each.V ref02_each_F ref02_each_ok]) (ls:=[]) (n:=200) (d:=6) (tblOf_ok tblI_ok Tryz.func143 (by kernel_rfl)) (by rfl) (fun x=>by kernel_rfl)
abbrev ref02_Do.T:=(Int×Int×Int×(Bool×Bool×Bool×Bool)×Unit)→Option (Int×(Bool×Bool×Bool×Bool)×Unit)
def ref02_Do.F:ref02_Do.T:=fun x=>ref02_Do.G ref02_Op.F ref02_each.F x.1 x.2.1 x.2.2.1 x.2.2.2.1
theorem ref02_Do.ok:PureOK Tryz.prog 143 ref02_Do.as ref02_Do.rs ref02_Do.F:=ref02_Do.gen ref02_Op.F ref02_Op.ok ref02_each.F ref02_each.ok
@[reducible] def ref02_Inc.as:List Shp:=[.k (.i .u8), .agg ⟨.b,[.b, .b, .b]⟩]
@[reducible] def ref02_Inc.rs:List Shp:=[.k (.i .u8), .agg ⟨.b,[.b, .b, .b]⟩]
def ref02_Inc.G (a0:Int) (a1:(Bool×Bool×Bool×Bool)):Option (Int×(Bool×Bool×Bool×Bool)×Unit):=
 some (wrap .u8 (Int.tmod (wrap .i64 (wrap .i64 a0+(1:Int))) (256:Int)),(Int.tmod (wrap .i64 (wrap .i64 a0+(1:Int))) (256:Int)==(0:Int),false,Int.tmod (wrap .i64 a0) (16:Int)==(15:Int),a1.2.2.2),())
theorem ref02_Inc.gen:PureOK Tryz.prog 129 ref02_Inc.as ref02_Inc.rs (fun x=>ref02_Inc.G x.1 x.2.1):=
 fn_gen (tbl:=tblOf tblI 129 Tryz.f129) (ks:=[]) (ls:=[]) (n:=200) (d:=6) (tblOf_ok tblI_ok Tryz.func129 (by kernel_rfl)) (by rfl) (fun x=>by kernel_rfl)
abbrev ref02_Inc.T:=(Int×(Bool×Bool×Bool×Bool)×Unit)→Option (Int×(Bool×Bool×Bool×Bool)×Unit)
def ref02_Inc.F:ref02_Inc.T:=fun x=>ref02_Inc.G x.1 x.2.1
theorem ref02_Inc.ok:PureOK Tryz.prog 129 ref02_Inc.as ref02_Inc.rs ref02_Inc.F:=ref02_Inc.gen
@[reducible] def ref02_Dec.as:List Shp:=[.k (.i .u8), .agg ⟨.b,[.b, .b, .b]⟩]
@[reducible] def ref02_Dec.rs:List Shp:=[.k (.i .u8), .agg ⟨.b,[.b, .b, .b]⟩]
def ref02_Dec.G (a0:Int) (a1:(Bool×Bool×Bool×Bool)):Option (Int×(Bool×Bool×Bool×Bool)×Unit):=
 some (wrap .u8 (Int.tmod (wrap .i64 (wrap .i64 a0+(255:Int))) (256:Int)),(Int.tmod (wrap .i64 (wrap .i64 a0+(255:Int))) (256:Int)==(0:Int),true,Int.tmod (wrap .i64 a0) (16:Int)==(0:Int),a1.2.2.2),())
theorem ref02_Dec.gen:PureOK Tryz.prog 130 ref02_Dec.as ref02_Dec.rs (fun x=>ref02_Dec.G x.1 x.2.1):=
 fn_gen (tbl:=tblOf tblI 130 Tryz.f130) (ks:=[]) (ls:=[]) (n:=200) (d:=6) (tblOf_ok tblI_ok Tryz.func130 (by kernel_rfl)) (by rfl) (fun x=>by kernel_rfl)
abbrev ref02_Dec.T:=(Int×(Bool×Bool×Bool×Bool)×Unit)→Option (Int×(Bool×Bool×Bool×Bool)×Unit)
def ref02_Dec.F:ref02_Dec.T:=fun x=>ref02_Dec.G x.1 x.2.1
theorem ref02_Dec.ok:PureOK Tryz.prog 130 ref02_Dec.as ref02_Dec.rs ref02_Dec.F:=ref02_Dec.gen
@[reducible] def ref02_Daa.as:List Shp:=[.k (.i .u8), .agg ⟨.b,[.b, .b, .b]⟩]
@[reducible] def ref02_Daa.rs:List Shp:=[.k (.i .u8), .agg ⟨.b,[.b, .b, .b]⟩]
def ref02_Daa.G (a0:Int) (a1:(Bool×Bool×Bool×Bool)):Option (Int×(Bool×Bool×Bool×Bool)×Unit):=
 if (a1.2.2.2==false)=true then if ((!a1.2.1)==true)=true then if decide (a0>153)=true then if (a1.2.2.1==false)=true then if ((!a1.2.1)==true)=true then if decide (Int.tmod (wrap .i64 a0) (16:Int)>9)=true then if a1.2.1=true then some (wrap .u8 (Int.tmod (wrap .i64 (wrap .i64 (wrap .i64 a0 - (102:Int))+(256:Int))) (256:Int)),(Int.tmod (wrap .i64 (wrap .i64 (wrap .i64 a0 - (102:Int))+(256:Int))) (256:Int)==(0:Int),a1.2.1,false,a1.2.2.2),()) else some (wrap .u8 (Int.tmod (wrap .i64 (wrap .i64 a0+(102:Int))) (256:Int)),(Int.tmod (wrap .i64 (wrap .i64 a0+(102:Int))) (256:Int)==(0:Int),a1.2.1,false,true),()) else if a1.2.1=true then some (wrap .u8 (Int.tmod (wrap .i64 (wrap .i64 (wrap .i64 a0 - (96:Int))+(256:Int))) (256:Int)),(Int.tmod (wrap .i64 (wrap .i64 (wrap .i64 a0 - (96:Int))+(256:Int))) (256:Int)==(0:Int),a1.2.1,false,a1.2.2.2),()) else some (wrap .u8 (Int.tmod (wrap .i64 (wrap .i64 a0+(96:Int))) (256:Int)),(Int.tmod (wrap .i64 (wrap .i64 a0+(96:Int))) (256:Int)==(0:Int),a1.2.1,false,true),()) else if a1.2.1=true then some (wrap .u8 (Int.tmod (wrap .i64 (wrap .i64 (wrap .i64 a0 - (96:Int))+(256:Int))) (256:Int)),(Int.tmod (wrap .i64 (wrap .i64 (wrap .i64 a0 - (96:Int))+(256:Int))) (256:Int)==(0:Int),a1.2.1,false,a1.2.2.2),()) else some (wrap .u8 (Int.tmod (wrap .i64 (wrap .i64 a0+(96:Int))) (256:Int)),(Int.tmod (wrap .i64 (wrap .i64 a0+(96:Int))) (256:Int)==(0:Int),a1.2.1,false,true),()) else if a1.2.1=true then some (wrap .u8 (Int.tmod (wrap .i64 (wrap .i64 (wrap .i64 a0 - (102:Int))+(256:Int))) (256:Int)),(Int.tmod (wrap .i64 (wrap .i64 (wrap .i64 a0 - (102:Int))+(256:Int))) (256:Int)==(0:Int),a1.2.1,false,a1.2.2.2),()) else some (wrap .u8 (Int.tmod (wrap .i64 (wrap .i64 a0+(102:Int))) (256:Int)),(Int.tmod (wrap .i64 (wrap .i64 a0+(102:Int))) (256:Int)==(0:Int),a1.2.1,false,true),()) else if (a1.2.2.1==false)=true then if ((!a1.2.1)==true)=true then if decide (Int.tmod (wrap .i64 a0) (16:Int)>9)=true then if a1.2.1=true then some (wrap .u8 (Int.tmod (wrap .i64 (wrap .i64 (wrap .i64 a0 - (6:Int))+(256:Int))) (256:Int)),(Int.tmod (wrap .i64 (wrap .i64 (wrap .i64 a0 - (6:Int))+(256:Int))) (256:Int)==(0:Int),a1.2.1,false,a1.2.2.2),()) else some (wrap .u8 (Int.tmod (wrap .i64 (wrap .i64 a0+(6:Int))) (256:Int)),(Int.tmod (wrap .i64 (wrap .i64 a0+(6:Int))) (256:Int)==(0:Int),a1.2.1,false,false),()) else if a1.2.1=true then some (wrap .u8 (Int.tmod (wrap .i64 (wrap .i64 (wrap .i64 a0 - (0:Int))+(256:Int))) (256:Int)),(Int.tmod (wrap .i64 (wrap .i64 (wrap .i64 a0 - (0:Int))+(256:Int))) (256:Int)==(0:Int),a1.2.1,false,a1.2.2.2),()) else some (wrap .u8 (Int.tmod (wrap .i64 (wrap .i64 a0+(0:Int))) (256:Int)),(Int.tmod (wrap .i64 (wrap .i64 a0+(0:Int))) (256:Int)==(0:Int),a1.2.1,false,false),()) else if a1.2.1=true then some (wrap .u8 (Int.tmod (wrap .i64 (wrap .i64 (wrap .i64 a0 - (0:Int))+(256:Int))) (256:Int)),(Int.tmod (wrap .i64 (wrap .i64 (wrap .i64 a0 - (0:Int))+(256:Int))) (256:Int)==(0:Int),a1.2.1,false,a1.2.2.2),()) else some (wrap .u8 (Int.tmod (wrap .i64 (wrap .i64 a0+(0:Int))) (256:Int)),(Int.tmod (wrap .i64 (wrap .i64 a0+(0:Int))) (256:Int)==(0:Int),a1.2.1,false,false),()) else if a1.2.1=true then some (wrap .u8 (Int.tmod (wrap .i64 (wrap .i64 (wrap .i64 a0 - (6:Int))+(256:Int))) (256:Int)),(Int.tmod (wrap .i64 (wrap .i64 (wrap .i64 a0 - (6:Int))+(256:Int))) (256:Int)==(0:Int),a1.2.1,false,a1.2.2.2),()) else some (wrap .u8 (Int.tmod (wrap .i64 (wrap .i64 a0+(6:Int))) (256:Int)),(Int.tmod (wrap .i64 (wrap .i64 a0+(6:Int))) (256:Int)==(0:Int),a1.2.1,false,false),()) else if (a1.2.2.1==false)=true then if ((!a1.2.1)==true)=true then if decide (Int.tmod (wrap .i64 a0) (16:Int)>9)=true then if a1.2.1=true then some (wrap .u8 (Int.tmod (wrap .i64 (wrap .i64 (wrap .i64 a0 - (6:Int))+(256:Int))) (256:Int)),(Int.tmod (wrap .i64 (wrap .i64 (wrap .i64 a0 - (6:Int))+(256:Int))) (256:Int)==(0:Int),a1.2.1,false,a1.2.2.2),()) else some (wrap .u8 (Int.tmod (wrap .i64 (wrap .i64 a0+(6:Int))) (256:Int)),(Int.tmod (wrap .i64 (wrap .i64 a0+(6:Int))) (256:Int)==(0:Int),a1.2.1,false,false),()) else if a1.2.1=true then some (wrap .u8 (Int.tmod (wrap .i64 (wrap .i64 (wrap .i64 a0 - (0:Int))+(256:Int))) (256:Int)),(Int.tmod (wrap .i64 (wrap .i64 (wrap .i64 a0 - (0:Int))+(256:Int))) (256:Int)==(0:Int),a1.2.1,false,a1.2.2.2),()) else some (wrap .u8 (Int.tmod (wrap .i64 (wrap .i64 a0+(0:Int))) (256:Int)),(Int.tmod (wrap .i64 (wrap .i64 a0+(0:Int))) (256:Int)==(0:Int),a1.2.1,false,false),()) else if a1.2.1=true then some (wrap .u8 (Int.tmod (wrap .i64 (wrap .i64 (wrap .i64 a0 - (0:Int))+(256:Int))) (256:Int)),(Int.tmod (wrap .i64 (wrap .i64 (wrap .i64 a0 - (0:Int))+(256:Int))) (256:Int)==(0:Int),a1.2.1,false,a1.2.2.2),()) else some (wrap .u8 (Int.tmod (wrap .i64 (wrap .i64 a0+(0:Int))) (256:Int)),(Int.tmod (wrap .i64 (wrap .i64 a0+(0:Int))) (256:Int)==(0:Int),a1.2.1,false,false),()) else if a1.2.1=true then some (wrap .u8 (Int.tmod (wrap .i64 (wrap .i64 (wrap .i64 a0 - (6:Int))+(256:Int))) (256:Int)),(Int.tmod (wrap .i64 (wrap .i64 (wrap .i64 a0 - (6:Int))+(256:Int))) (256:Int)==(0:Int),a1.2.1,false,a1.2.2.2),()) else some (wrap .u8 (Int.tmod (wrap .i64 (wrap .i64 a0+(6:Int))) (256:Int)),(Int.tmod (wrap .i64 (wrap .i64 a0+(6:Int))) (256:Int)==(0:Int),a1.2.1,false,false),()) else if (a1.2.2.1==false)=true then if ((!a1.2.1)==true)=true then if decide (Int.tmod (wrap .i64 a0) (16:Int)>9)=true then if a1.2.1=true then some (wrap .u8 (Int.tmod (wrap .i64 (wrap .i64 (wrap .i64 a0 - (102:Int))+(256:Int))) (256:Int)),(Int.tmod (wrap .i64 (wrap .i64 (wrap .i64 a0 - (102:Int))+(256:Int))) (256:Int)==(0:Int),a1.2.1,false,a1.2.2.2),()) else some (wrap .u8 (Int.tmod (wrap .i64 (wrap .i64 a0+(102:Int))) (256:Int)),(Int.tmod (wrap .i64 (wrap .i64 a0+(102:Int))) (256:Int)==(0:Int),a1.2.1,false,true),()) else if a1.2.1=true then some (wrap .u8 (Int.tmod (wrap .i64 (wrap .i64 (wrap .i64 a0 - (96:Int))+(256:Int))) (256:Int)),(Int.tmod (wrap .i64 (wrap .i64 (wrap .i64 a0 - (96:Int))+(256:Int))) (256:Int)==(0:Int),a1.2.1,false,a1.2.2.2),()) else some (wrap .u8 (Int.tmod (wrap .i64 (wrap .i64 a0+(96:Int))) (256:Int)),(Int.tmod (wrap .i64 (wrap .i64 a0+(96:Int))) (256:Int)==(0:Int),a1.2.1,false,true),()) else if a1.2.1=true then some (wrap .u8 (Int.tmod (wrap .i64 (wrap .i64 (wrap .i64 a0 - (96:Int))+(256:Int))) (256:Int)),(Int.tmod (wrap .i64 (wrap .i64 (wrap .i64 a0 - (96:Int))+(256:Int))) (256:Int)==(0:Int),a1.2.1,false,a1.2.2.2),()) else some (wrap .u8 (Int.tmod (wrap .i64 (wrap .i64 a0+(96:Int))) (256:Int)),(Int.tmod (wrap .i64 (wrap .i64 a0+(96:Int))) (256:Int)==(0:Int),a1.2.1,false,true),()) else if a1.2.1=true then some (wrap .u8 (Int.tmod (wrap .i64 (wrap .i64 (wrap .i64 a0 - (102:Int))+(256:Int))) (256:Int)),(Int.tmod (wrap .i64 (wrap .i64 (wrap .i64 a0 - (102:Int))+(256:Int))) (256:Int)==(0:Int),a1.2.1,false,a1.2.2.2),()) else some (wrap .u8 (Int.tmod (wrap .i64 (wrap .i64 a0+(102:Int))) (256:Int)),(Int.tmod (wrap .i64 (wrap .i64 a0+(102:Int))) (256:Int)==(0:Int),a1.2.1,false,true),())
theorem ref02_Daa.gen:PureOK Tryz.prog 145 ref02_Daa.as ref02_Daa.rs (fun x=>ref02_Daa.G x.1 x.2.1):=
 fn_gen (tbl:=tblOf tblI 145 Tryz.f145) (ks:=[]) (ls:=[]) (n:=200) (d:=6) (tblOf_ok tblI_ok Tryz.func145 (by kernel_rfl)) (by rfl) (fun x=>by kernel_rfl)
abbrev ref02_Daa.T:=(Int×(Bool×Bool×Bool×Bool)×Unit)→Option (Int×(Bool×Bool×Bool×Bool)×Unit)
def ref02_Daa.F:ref02_Daa.T:=fun x=>ref02_Daa.G x.1 x.2.1
theorem ref02_Daa.ok:PureOK Tryz.prog 145 ref02_Daa.as ref02_Daa.rs ref02_Daa.F:=ref02_Daa.gen
@[reducible] def ref02_Cpl.as:List Shp:=[.k (.i .u8), .agg ⟨.b,[.b, .b, .b]⟩]
@[reducible] def ref02_Cpl.rs:List Shp:=[.k (.i .u8), .agg ⟨.b,[.b, .b, .b]⟩]
def ref02_Cpl.G (a0:Int) (a1:(Bool×Bool×Bool×Bool)):Option (Int×(Bool×Bool×Bool×Bool)×Unit):=
 some (wrap .u8 (wrap .i64 ((255:Int) - wrap .i64 a0)),(a1.1,true,true,a1.2.2.2),())
theorem ref02_Cpl.gen:PureOK Tryz.prog 146 ref02_Cpl.as ref02_Cpl.rs (fun x=>ref02_Cpl.G x.1 x.2.1):=
 fn_gen (tbl:=tblOf tblI 146 Tryz.f146) (ks:=[]) (ls:=[]) (n:=200) (d:=6) (tblOf_ok tblI_ok Tryz.func146 (by kernel_rfl)) (by rfl) (fun x=>by kernel_rfl)
abbrev ref02_Cpl.T:=(Int×(Bool×Bool×Bool×Bool)×Unit)→Option (Int×(Bool×Bool×Bool×Bool)×Unit)
def ref02_Cpl.F:ref02_Cpl.T:=fun x=>ref02_Cpl.G x.1 x.2.1
theorem ref02_Cpl.ok:PureOK Tryz.prog 146 ref02_Cpl.as ref02_Cpl.rs ref02_Cpl.F:=ref02_Cpl.gen
@[reducible] def ref02_Scf.as:List Shp:=[.agg ⟨.b,[.b, .b, .b]⟩]
@[reducible] def ref02_Scf.rs:List Shp:=[.agg ⟨.b,[.b, .b, .b]⟩]
def ref02_Scf.G (a0:(Bool×Bool×Bool×Bool)):Option ((Bool×Bool×Bool×Bool)×Unit):=
 some ((a0.1,false,false,true),())
theorem ref02_Scf.gen:PureOK Tryz.prog 147 ref02_Scf.as ref02_Scf.rs (fun x=>ref02_Scf.G x.1):=
 fn_gen (tbl:=tblOf tblI 147 Tryz.f147) (ks:=[]) (ls:=[]) (n:=200) (d:=6) (tblOf_ok tblI_ok Tryz.func147 (by kernel_rfl)) (by rfl) (fun x=>by kernel_rfl)
abbrev ref02_Scf.T:=((Bool×Bool×Bool×Bool)×Unit)→Option ((Bool×Bool×Bool×Bool)×Unit)
def ref02_Scf.F:ref02_Scf.T:=fun x=>ref02_Scf.G x.1
theorem ref02_Scf.ok:PureOK Tryz.prog 147 ref02_Scf.as ref02_Scf.rs ref02_Scf.F:=ref02_Scf.gen
@[reducible] def ref02_Ccf.as:List Shp:=[.agg ⟨.b,[.b, .b, .b]⟩]
@[reducible] def ref02_Ccf.rs:List Shp:=[.agg ⟨.b,[.b, .b, .b]⟩]
def ref02_Ccf.G (a0:(Bool×Bool×Bool×Bool)):Option ((Bool×Bool×Bool×Bool)×Unit):=
 some ((a0.1,false,false,!a0.2.2.2),())
theorem ref02_Ccf.gen:PureOK Tryz.prog 148 ref02_Ccf.as ref02_Ccf.rs (fun x=>ref02_Ccf.G x.1):=
 fn_gen (tbl:=tblOf tblI 148 Tryz.f148) (ks:=[]) (ls:=[]) (n:=200) (d:=6) (tblOf_ok tblI_ok Tryz.func148 (by kernel_rfl)) (by rfl) (fun x=>by kernel_rfl)
abbrev ref02_Ccf.T:=((Bool×Bool×Bool×Bool)×Unit)→Option ((Bool×Bool×Bool×Bool)×Unit)
def ref02_Ccf.F:ref02_Ccf.T:=fun x=>ref02_Ccf.G x.1
theorem ref02_Ccf.ok:PureOK Tryz.prog 148 ref02_Ccf.as ref02_Ccf.rs ref02_Ccf.F:=ref02_Ccf.gen
@[reducible] def ref02_AddWords.as:List Shp:=[.k (.i .u16), .k (.i .u16), .agg ⟨.b,[.b, .b, .b]⟩]
@[reducible] def ref02_AddWords.rs:List Shp:=[.k (.i .u16), .agg ⟨.b,[.b, .b, .b]⟩]
def ref02_AddWords.G (a0:Int) (a1:Int) (a2:(Bool×Bool×Bool×Bool)):Option (Int×(Bool×Bool×Bool×Bool)×Unit):=
 some (wrap .u16 (Int.tmod (wrap .i64 (wrap .i64 a0+wrap .i64 a1)) (65536:Int)),(a2.1,false,decide (wrap .i64 (Int.tmod (wrap .i64 a0) (4096:Int)+Int.tmod (wrap .i64 a1) (4096:Int))>4095),decide (wrap .i64 (wrap .i64 a0+wrap .i64 a1)>65535)),())
theorem ref02_AddWords.gen:PureOK Tryz.prog 142 ref02_AddWords.as ref02_AddWords.rs (fun x=>ref02_AddWords.G x.1 x.2.1 x.2.2.1):=
 fn_gen (tbl:=tblOf tblI 142 Tryz.f142) (ks:=[]) (ls:=[]) (n:=200) (d:=6) (tblOf_ok tblI_ok Tryz.func142 (by kernel_rfl)) (by rfl) (fun x=>by kernel_rfl)
abbrev ref02_AddWords.T:=(Int×Int×(Bool×Bool×Bool×Bool)×Unit)→Option (Int×(Bool×Bool×Bool×Bool)×Unit)
def ref02_AddWords.F:ref02_AddWords.T:=fun x=>ref02_AddWords.G x.1 x.2.1 x.2.2.1
theorem ref02_AddWords.ok:PureOK Tryz.prog 142 ref02_AddWords.as ref02_AddWords.rs ref02_AddWords.F:=ref02_AddWords.gen
@[reducible] def ref02_AddSigned.as:List Shp:=[.k (.i .u16), .k (.i .u8)]
@[reducible] def ref02_AddSigned.rs:List Shp:=[.k (.i .u16), .agg ⟨.b,[.b, .b, .b]⟩]
def ref02_AddSigned.G (ref01_Signed_F:ref01_Signed.T) (a0:Int) (a1:Int):Option (Int×(Bool×Bool×Bool×Bool)×Unit):=
 (ref01_Signed_F (a1,())).bind fun y0=>some (wrap .u16 (Int.tmod (wrap .i64 (wrap .i64 (wrap .i64 a0+y0.1)+(65536:Int))) (65536:Int)),(false,false,decide (wrap .i64 (Int.tmod (wrap .i64 a0) (16:Int)+Int.tmod (wrap .i64 a1) (16:Int))>15),decide (wrap .i64 (Int.tmod (wrap .i64 a0) (256:Int)+wrap .i64 a1)>255)),())
theorem ref02_AddSigned.gen (ref01_Signed_F:ref01_Signed.T) (ref01_Signed_ok:ref01_Signed.K ref01_Signed_F):PureOK Tryz.prog 140 ref02_AddSigned.as ref02_AddSigned.rs (fun x=>ref02_AddSigned.G ref01_Signed_F x.1 x.2.1):=
 fn_gen (tbl:=tblOf tblI 140 Tryz.f140) (ks:=[ref01_Signed.V ref01_Signed_F ref01_Signed_ok]) (ls:=[]) (n:=200) (d:=6) (tblOf_ok tblI_ok Tryz.func140 (by kernel_rfl)) (by rfl) (fun x=>by kernel_rfl)
abbrev ref02_AddSigned.T:=(Int×Int×Unit)→Option (Int×(Bool×Bool×Bool×Bool)×Unit)
def ref02_AddSigned.F:ref02_AddSigned.T:=fun x=>ref02_AddSigned.G ref01_Signed.F x.1 x.2.1
theorem ref02_AddSigned.ok:PureOK Tryz.prog 140 ref02_AddSigned.as ref02_AddSigned.rs ref02_AddSigned.F:=ref02_AddSigned.gen ref01_Signed.F ref01_Signed.ok
@[reducible] def ref03_move.as:List Shp:=[.k (.i .u8), .k .b, .k .b]
@[reducible] def ref03_move.rs:List Shp:=[.k (.i .u8)]
@[reducible] def ref03_move.L0.s:LSh:=(⟨35,[(0, .k (.i .u8)),(1, .k (.b)),(2, .k (.b)),(7, .k (.i .u8)),(8, .k (.i .i64))],[],[]⟩:LSh)
@[reducible] def ref03_move.L0.xs:List (Ex×LSh):=([(.exit 0,⟨35,[(7, .k (.i .u8))],[],[]⟩)]:List (Ex×LSh))
def ref03_move.L0.step (ref01_Bit_F:ref01_Bit.T) (ref01_Put_F:ref01_Put.T) (t0:Int) (t1:Bool) (t2:Bool) (t7:Int) (t8:Int):Option (((Int×Bool×Bool×Int×Int×Unit)×Unit×Unit)⊕((Int×Unit)×Unit×Unit)):=
 if decide (t8<8)=true then if t1=true then if (decide (wrap .i64 (t8 - (1:Int))≥0)==true)=true then if decide (wrap .i64 (t8 - (1:Int))<8)=true then (ref01_Bit_F (t0,wrap .i64 (t8 - (1:Int)),())).bind fun y0=>(ref01_Put_F (t7,t8,y0)).bind fun y1=>some (Sum.inl ((t0,t1,t2,y1.1,wrap .i64 (t8+(1:Int)),()),(),())) else (ref01_Put_F (t7,t8,t2,())).bind fun y0=>some (Sum.inl ((t0,t1,t2,y0.1,wrap .i64 (t8+(1:Int)),()),(),())) else (ref01_Put_F (t7,t8,t2,())).bind fun y0=>some (Sum.inl ((t0,t1,t2,y0.1,wrap .i64 (t8+(1:Int)),()),(),())) else if (decide (wrap .i64 (t8+(1:Int))≥0)==true)=true then if decide (wrap .i64 (t8+(1:Int))<8)=true then (ref01_Bit_F (t0,wrap .i64 (t8+(1:Int)),())).bind fun y0=>(ref01_Put_F (t7,t8,y0)).bind fun y1=>some (Sum.inl ((t0,t1,t2,y1.1,wrap .i64 (t8+(1:Int)),()),(),())) else (ref01_Put_F (t7,t8,t2,())).bind fun y0=>some (Sum.inl ((t0,t1,t2,y0.1,wrap .i64 (t8+(1:Int)),()),(),())) else (ref01_Put_F (t7,t8,t2,())).bind fun y0=>some (Sum.inl ((t0,t1,t2,y0.1,wrap .i64 (t8+(1:Int)),()),(),())) else some (Sum.inr ((t7,()),(),()))
theorem ref03_move.L0.gen (ref01_Bit_F:ref01_Bit.T) (ref01_Bit_ok:ref01_Bit.K ref01_Bit_F) (ref01_Put_F:ref01_Put.T) (ref01_Put_ok:ref01_Put.K ref01_Put_F):LoopOK Tryz.prog 200 0 ref03_move.L0.s ref03_move.L0.xs (iterU fun x=>ref03_move.L0.step ref01_Bit_F ref01_Put_F x.1.1 x.1.2.1 x.1.2.2.1 x.1.2.2.2.1 x.1.2.2.2.2.1):=
 loop_gen (tbl:=tblOf tblI 200 Tryz.f200) (ks:=[ref01_Bit.V ref01_Bit_F ref01_Bit_ok,ref01_Put.V ref01_Put_F ref01_Put_ok]) (ls:=[]) (n:=200) (d:=6) (fn:=Tryz.f200) (tblOf_ok tblI_ok Tryz.func200 (by kernel_rfl)) (by rfl) (by rfl) (fun x=>by kernel_rfl)
abbrev ref03_move.L0.T:=((Int×Bool×Bool×Int×Int×Unit)×Unit×Unit)→Option ((Int×Unit)×Unit×Unit)
def ref03_move.L0.F:ref03_move.L0.T:=iterU fun x=>ref03_move.L0.step ref01_Bit.F ref01_Put.F x.1.1 x.1.2.1 x.1.2.2.1 x.1.2.2.2.1 x.1.2.2.2.2.1
theorem ref03_move.L0.ok:LoopOK Tryz.prog 200 0 ref03_move.L0.s ref03_move.L0.xs ref03_move.L0.F:=ref03_move.L0.gen ref01_Bit.F ref01_Bit.ok ref01_Put.F ref01_Put.ok
abbrev ref03_move.L0.K (F:ref03_move.L0.T):Prop:=LoopOK Tryz.prog 200 0 ref03_move.L0.s ref03_move.L0.xs F
abbrev ref03_move.L0.V (F:ref03_move.L0.T) (h:ref03_move.L0.K F):=lk (P:=Tryz.prog) 200 0 ref03_move.L0.s ref03_move.L0.xs F h (by rfl)
def ref03_move.G (ref03_move_L0_F:ref03_move.L0.T) (a0:Int) (a1:Bool) (a2:Bool):Option (Int×Unit):=
 (ref03_move_L0_F ((a0,a1,a2,0,0,()),(),())).bind fun y0=>some y0.1
theorem ref03_move.gen (ref03_move_L0_F:ref03_move.L0.T) (ref03_move_L0_ok:ref03_move.L0.K ref03_move_L0_F):PureOK Tryz.prog 200 ref03_move.as ref03_move.rs (fun x=>ref03_move.G ref03_move_L0_F x.1 x.2.1 x.2.2.1):=
 fn_gen (tbl:=tblOf tblI 200 Tryz.f200) (ks:=[]) (ls:=[ref03_move.L0.V ref03_move_L0_F ref03_move_L0_ok]) (n:=200) (d:=6) (tblOf_ok tblI_ok Tryz.func200 (by kernel_rfl)) (by rfl) (fun x=>by kernel_rfl)
abbrev ref03_move.T:=(Int×Bool×Bool×Unit)→Option (Int×Unit)
def ref03_move.F:ref03_move.T:=fun x=>ref03_move.G ref03_move.L0.F x.1 x.2.1 x.2.2.1
theorem ref03_move.ok:PureOK Tryz.prog 200 ref03_move.as ref03_move.rs ref03_move.F:=ref03_move.gen ref03_move.L0.F ref03_move.L0.ok
abbrev ref03_move.K (F:ref03_move.T):Prop:=PureOK Tryz.prog 200 ref03_move.as ref03_move.rs F
abbrev ref03_move.V (F:ref03_move.T) (h:ref03_move.K F):=knView (P:=Tryz.prog) 200 ref03_move.as ref03_move.rs F h (by rfl) (by rfl) (by rfl)
@[reducible] def ref03_Do.as:List Shp:=[.k (.i .i64), .k (.i .u8), .agg ⟨.b,[.b, .b, .b]⟩]
@[reducible] def ref03_Do.rs:List Shp:=[.k (.i .u8), .agg ⟨.b,[.b, .b, .b]⟩]
def ref03_Do.G (ref01_Bit_F:ref01_Bit.T) (ref02_Op_F:ref02_Op.T) (ref03_move_F:ref03_move.T) (a0:Int) (a1:Int) (a2:(Bool×Bool×Bool×Bool)):Option (Int×(Bool×Bool×Bool×Bool)×Unit):=
 (ref02_Op_F (a0,())).bind fun y0=>if (y0.1==6)=true then some (wrap .u8 (wrap .i64 (wrap .i64 (Int.tmod (wrap .i64 a1) (16:Int)*(16:Int))+wrap .i64 (Int.tdiv (wrap .i64 a1) (16:Int)))),(wrap .u8 (wrap .i64 (wrap .i64 (Int.tmod (wrap .i64 a1) (16:Int)*(16:Int))+wrap .i64 (Int.tdiv (wrap .i64 a1) (16:Int))))==(0:Int),false,false,false),()) else if ((y0.1==0)==false)=true then if ((y0.1==2)==false)=true then (ref01_Bit_F (a1,0,())).bind fun y1=>if (y0.1==4)=true then (ref01_Bit_F (a1,7,())).bind fun y2=>if (y0.1==0)=true then (ref03_move_F (a1,y0.1==(4:Int),y2)).bind fun y3=>some (y3.1,(y3.1==(0:Int),false,false,y2.1),()) else if (y0.1==1)=true then (ref03_move_F (a1,y0.1==(4:Int),y2)).bind fun y3=>some (y3.1,(y3.1==(0:Int),false,false,y2.1),()) else if (y0.1==2)=true then (ref03_move_F (a1,y0.1==(4:Int),a2.2.2.2,())).bind fun y3=>some (y3.1,(y3.1==(0:Int),false,false,y2.1),()) else if (y0.1==3)=true then (ref03_move_F (a1,y0.1==(4:Int),a2.2.2.2,())).bind fun y3=>some (y3.1,(y3.1==(0:Int),false,false,y2.1),()) else if (y0.1==5)=true then (ref01_Bit_F (a1,7,())).bind fun y3=>(ref03_move_F (a1,y0.1==(4:Int),y3)).bind fun y4=>some (y4.1,(y4.1==(0:Int),false,false,y2.1),()) else (ref03_move_F (a1,y0.1==(4:Int),false,())).bind fun y3=>some (y3.1,(y3.1==(0:Int),false,false,y2.1),()) else if (y0.1==0)=true then (ref03_move_F (a1,y0.1==(4:Int),y1)).bind fun y2=>some (y2.1,(y2.1==(0:Int),false,false,y1.1),()) else if (y0.1==1)=true then (ref03_move_F (a1,y0.1==(4:Int),y1)).bind fun y2=>some (y2.1,(y2.1==(0:Int),false,false,y1.1),()) else if (y0.1==2)=true then (ref03_move_F (a1,y0.1==(4:Int),a2.2.2.2,())).bind fun y2=>some (y2.1,(y2.1==(0:Int),false,false,y1.1),()) else if (y0.1==3)=true then (ref03_move_F (a1,y0.1==(4:Int),a2.2.2.2,())).bind fun y2=>some (y2.1,(y2.1==(0:Int),false,false,y1.1),()) else if (y0.1==5)=true then (ref01_Bit_F (a1,7,())).bind fun y2=>(ref03_move_F (a1,y0.1==(4:Int),y2)).bind fun y3=>some (y3.1,(y3.1==(0:Int),false,false,y1.1),()) else (ref03_move_F (a1,y0.1==(4:Int),false,())).bind fun y2=>some (y2.1,(y2.1==(0:Int),false,false,y1.1),()) else (ref01_Bit_F (a1,0,())).bind fun y1=>(ref01_Bit_F (a1,7,())).bind fun y2=>if (y0.1==0)=true then (ref03_move_F (a1,true,y2)).bind fun y3=>some (y3.1,(y3.1==(0:Int),false,false,y2.1),()) else if (y0.1==1)=true then (ref03_move_F (a1,true,y2)).bind fun y3=>some (y3.1,(y3.1==(0:Int),false,false,y2.1),()) else if (y0.1==2)=true then (ref03_move_F (a1,true,a2.2.2.2,())).bind fun y3=>some (y3.1,(y3.1==(0:Int),false,false,y2.1),()) else if (y0.1==3)=true then (ref03_move_F (a1,true,a2.2.2.2,())).bind fun y3=>some (y3.1,(y3.1==(0:Int),false,false,y2.1),()) else if (y0.1==5)=true then (ref01_Bit_F (a1,7,())).bind fun y3=>(ref03_move_F (a1,true,y3)).bind fun y4=>some (y4.1,(y4.1==(0:Int),false,false,y2.1),()) else (ref03_move_F (a1,true,false,())).bind fun y3=>some (y3.1,(y3.1==(0:Int),false,false,y2.1),()) else (ref01_Bit_F (a1,0,())).bind fun y1=>(ref01_Bit_F (a1,7,())).bind fun y2=>if (y0.1==0)=true then (ref03_move_F (a1,true,y2)).bind fun y3=>some (y3.1,(y3.1==(0:Int),false,false,y2.1),()) else if (y0.1==1)=true then (ref03_move_F (a1,true,y2)).bind fun y3=>some (y3.1,(y3.1==(0:Int),false,false,y2.1),()) else if (y0.1==2)=true then (ref03_move_F (a1,true,a2.2.2.2,())).bind fun y3=>some (y3.1,(y3.1==(0:Int),false,false,y2.1),()) else if (y0.1==3)=true then (ref03_move_F (a1,true,a2.2.2.2,())).bind fun y3=>some (y3.1,(y3.1==(0:Int),false,false,y2.1),()) else if (y0.1==5)=true then (ref01_Bit_F (a1,7,())).bind fun y3=>(ref03_move_F (a1,true,y3)).bind fun y4=>some (y4.1,(y4.1==(0:Int),false,false,y2.1),()) else (ref03_move_F (a1,true,false,())).bind fun y3=>some (y3.1,(y3.1==(0:Int),false,false,y2.1),())
theorem ref03_Do.gen (ref01_Bit_F:ref01_Bit.T) (ref01_Bit_ok:ref01_Bit.K ref01_Bit_F) (ref02_Op_F:ref02_Op.T) (ref02_Op_ok:ref02_Op.K ref02_Op_F) (ref03_move_F:ref03_move.T) (ref03_move_ok:ref03_move.K ref03_move_F):PureOK Tryz.prog 131 ref03_Do.as ref03_Do.rs (fun x=>ref03_Do.G ref01_Bit_F ref02_Op_F ref03_move_F x.1 x.2.1 x.2.2.1):=
 fn_gen (tbl:=tblOf tblI 131 Tryz.f131) (ks:=[ref01_Bit.V ref01_Bit_F ref01_Bit_ok,ref02_Op.V ref02_Op_F ref02_Op_ok,ref03_move.V ref03_move_F ref03_move_ok]) (ls:=[]) (n:=200) (d:=6) (tblOf_ok tblI_ok Tryz.func131 (by kernel_rfl)) (by rfl) (fun x=>by kernel_rfl)
abbrev ref03_Do.T:=(Int×Int×(Bool×Bool×Bool×Bool)×Unit)→Option (Int×(Bool×Bool×Bool×Bool)×Unit)
def ref03_Do.F:ref03_Do.T:=fun x=>ref03_Do.G ref01_Bit.F ref02_Op.F ref03_move.F x.1 x.2.1 x.2.2.1
theorem ref03_Do.ok:PureOK Tryz.prog 131 ref03_Do.as ref03_Do.rs ref03_Do.F:=ref03_Do.gen ref01_Bit.F ref01_Bit.ok ref02_Op.F ref02_Op.ok ref03_move.F ref03_move.ok
abbrev ref03_Do.K (F:ref03_Do.T):Prop:=PureOK Tryz.prog 131 ref03_Do.as ref03_Do.rs F
abbrev ref03_Do.V (F:ref03_Do.T) (h:ref03_Do.K F):=knView (P:=Tryz.prog) 131 ref03_Do.as ref03_Do.rs F h (by rfl) (by rfl) (by rfl)
@[reducible] def ref03_Fast.as:List Shp:=[.k (.i .i64), .k (.i .u8), .agg ⟨.b,[.b, .b, .b]⟩]
@[reducible] def ref03_Fast.rs:List Shp:=[.k (.i .u8), .agg ⟨.b,[.b, .b, .b]⟩]
def ref03_Fast.G (ref02_Op_F:ref02_Op.T) (ref03_Do_F:ref03_Do.T) (a0:Int) (a1:Int) (a2:(Bool×Bool×Bool×Bool)):Option (Int×(Bool×Bool×Bool×Bool)×Unit):=
 (ref02_Op_F (a0,())).bind fun y0=>(ref03_Do_F (Int.tmod y0.1 (4:Int),a1,a2,())).bind fun y1=>some (y1.1,(false,y1.2.1.2),())
theorem ref03_Fast.gen (ref02_Op_F:ref02_Op.T) (ref02_Op_ok:ref02_Op.K ref02_Op_F) (ref03_Do_F:ref03_Do.T) (ref03_Do_ok:ref03_Do.K ref03_Do_F):PureOK Tryz.prog 144 ref03_Fast.as ref03_Fast.rs (fun x=>ref03_Fast.G ref02_Op_F ref03_Do_F x.1 x.2.1 x.2.2.1):=
 fn_gen (tbl:=tblOf tblI 144 Tryz.f144) (ks:=[ref02_Op.V ref02_Op_F ref02_Op_ok,ref03_Do.V ref03_Do_F ref03_Do_ok]) (ls:=[]) (n:=200) (d:=6) (tblOf_ok tblI_ok Tryz.func144 (by kernel_rfl)) (by rfl) (fun x=>by kernel_rfl)
abbrev ref03_Fast.T:=(Int×Int×(Bool×Bool×Bool×Bool)×Unit)→Option (Int×(Bool×Bool×Bool×Bool)×Unit)
def ref03_Fast.F:ref03_Fast.T:=fun x=>ref03_Fast.G ref02_Op.F ref03_Do.F x.1 x.2.1 x.2.2.1
theorem ref03_Fast.ok:PureOK Tryz.prog 144 ref03_Fast.as ref03_Fast.rs ref03_Fast.F:=ref03_Fast.gen ref02_Op.F ref02_Op.ok ref03_Do.F ref03_Do.ok
@[reducible] def ref03_Test.as:List Shp:=[.k (.i .i64), .k (.i .u8), .agg ⟨.b,[.b, .b, .b]⟩]
@[reducible] def ref03_Test.rs:List Shp:=[.agg ⟨.b,[.b, .b, .b]⟩]
def ref03_Test.G (ref01_Bit_F:ref01_Bit.T) (ref02_Op_F:ref02_Op.T) (a0:Int) (a1:Int) (a2:(Bool×Bool×Bool×Bool)):Option ((Bool×Bool×Bool×Bool)×Unit):=
 (ref02_Op_F (a0,())).bind fun y0=>(ref01_Bit_F (a1,y0)).bind fun y1=>some ((!y1.1,false,true,a2.2.2.2),())
theorem ref03_Test.gen (ref01_Bit_F:ref01_Bit.T) (ref01_Bit_ok:ref01_Bit.K ref01_Bit_F) (ref02_Op_F:ref02_Op.T) (ref02_Op_ok:ref02_Op.K ref02_Op_F):PureOK Tryz.prog 149 ref03_Test.as ref03_Test.rs (fun x=>ref03_Test.G ref01_Bit_F ref02_Op_F x.1 x.2.1 x.2.2.1):=
 fn_gen (tbl:=tblOf tblI 149 Tryz.f149) (ks:=[ref01_Bit.V ref01_Bit_F ref01_Bit_ok,ref02_Op.V ref02_Op_F ref02_Op_ok]) (ls:=[]) (n:=200) (d:=6) (tblOf_ok tblI_ok Tryz.func149 (by kernel_rfl)) (by rfl) (fun x=>by kernel_rfl)
abbrev ref03_Test.T:=(Int×Int×(Bool×Bool×Bool×Bool)×Unit)→Option ((Bool×Bool×Bool×Bool)×Unit)
def ref03_Test.F:ref03_Test.T:=fun x=>ref03_Test.G ref01_Bit.F ref02_Op.F x.1 x.2.1 x.2.2.1
theorem ref03_Test.ok:PureOK Tryz.prog 149 ref03_Test.as ref03_Test.rs ref03_Test.F:=ref03_Test.gen ref01_Bit.F ref01_Bit.ok ref02_Op.F ref02_Op.ok
@[reducible] def ref03_Res.as:List Shp:=[.k (.i .i64), .k (.i .u8)]
@[reducible] def ref03_Res.rs:List Shp:=[.k (.i .u8)]
def ref03_Res.G (ref01_Put_F:ref01_Put.T) (ref02_Op_F:ref02_Op.T) (a0:Int) (a1:Int):Option (Int×Unit):=
 (ref02_Op_F (a0,())).bind fun y0=>(ref01_Put_F (a1,y0.1,false,())).bind fun y1=>some y1
theorem ref03_Res.gen (ref01_Put_F:ref01_Put.T) (ref01_Put_ok:ref01_Put.K ref01_Put_F) (ref02_Op_F:ref02_Op.T) (ref02_Op_ok:ref02_Op.K ref02_Op_F):PureOK Tryz.prog 132 ref03_Res.as ref03_Res.rs (fun x=>ref03_Res.G ref01_Put_F ref02_Op_F x.1 x.2.1):=
 fn_gen (tbl:=tblOf tblI 132 Tryz.f132) (ks:=[ref01_Put.V ref01_Put_F ref01_Put_ok,ref02_Op.V ref02_Op_F ref02_Op_ok]) (ls:=[]) (n:=200) (d:=6) (tblOf_ok tblI_ok Tryz.func132 (by kernel_rfl)) (by rfl) (fun x=>by kernel_rfl)
abbrev ref03_Res.T:=(Int×Int×Unit)→Option (Int×Unit)
def ref03_Res.F:ref03_Res.T:=fun x=>ref03_Res.G ref01_Put.F ref02_Op.F x.1 x.2.1
theorem ref03_Res.ok:PureOK Tryz.prog 132 ref03_Res.as ref03_Res.rs ref03_Res.F:=ref03_Res.gen ref01_Put.F ref01_Put.ok ref02_Op.F ref02_Op.ok
@[reducible] def ref03_Set.as:List Shp:=[.k (.i .i64), .k (.i .u8)]
@[reducible] def ref03_Set.rs:List Shp:=[.k (.i .u8)]
def ref03_Set.G (ref01_Put_F:ref01_Put.T) (ref02_Op_F:ref02_Op.T) (a0:Int) (a1:Int):Option (Int×Unit):=
 (ref02_Op_F (a0,())).bind fun y0=>(ref01_Put_F (a1,y0.1,true,())).bind fun y1=>some y1
theorem ref03_Set.gen (ref01_Put_F:ref01_Put.T) (ref01_Put_ok:ref01_Put.K ref01_Put_F) (ref02_Op_F:ref02_Op.T) (ref02_Op_ok:ref02_Op.K ref02_Op_F):PureOK Tryz.prog 133 ref03_Set.as ref03_Set.rs (fun x=>ref03_Set.G ref01_Put_F ref02_Op_F x.1 x.2.1):=
 fn_gen (tbl:=tblOf tblI 133 Tryz.f133) (ks:=[ref01_Put.V ref01_Put_F ref01_Put_ok,ref02_Op.V ref02_Op_F ref02_Op_ok]) (ls:=[]) (n:=200) (d:=6) (tblOf_ok tblI_ok Tryz.func133 (by kernel_rfl)) (by rfl) (fun x=>by kernel_rfl)
abbrev ref03_Set.T:=(Int×Int×Unit)→Option (Int×Unit)
def ref03_Set.F:ref03_Set.T:=fun x=>ref03_Set.G ref01_Put.F ref02_Op.F x.1 x.2.1
theorem ref03_Set.ok:PureOK Tryz.prog 133 ref03_Set.as ref03_Set.rs ref03_Set.F:=ref03_Set.gen ref01_Put.F ref01_Put.ok ref02_Op.F ref02_Op.ok
@[reducible] def ref04_Get.as:List Shp:=[sR10, .k (.i .i64)]
@[reducible] def ref04_Get.rs:List Shp:=[.k (.i .u8), .k (.i .i64)]
def ref04_Get.G (a0:R10) (a1:Int):Option (Int×Int×Unit):=
 if (a1==6)=true then some (0,7,()) else if (decide (a1<0)==false)=true then if decide (a1>7)=true then some (0,1,()) else if (a1==0)=true then some (a0.2.2.1,0,()) else if (a1==1)=true then some (a0.2.2.2.1,0,()) else if (a1==2)=true then some (a0.2.2.2.2.1,0,()) else if (a1==3)=true then some (a0.x5,0,()) else if (a1==4)=true then some (a0.x6,0,()) else if (a1==5)=true then some (a0.x7,0,()) else some (a0.1,0,()) else some (0,1,())
theorem ref04_Get.gen:PureOK Tryz.prog 128 ref04_Get.as ref04_Get.rs (fun x=>ref04_Get.G x.1 x.2.1):=
 fn_gen (tbl:=tblOf tblI 128 Tryz.f128) (ks:=[]) (ls:=[]) (n:=200) (d:=6) (tblOf_ok tblI_ok Tryz.func128 (by kernel_rfl)) (by rfl) (fun x=>by kernel_rfl)
abbrev ref04_Get.T:=(R10×Int×Unit)→Option (Int×Int×Unit)
def ref04_Get.F:ref04_Get.T:=fun x=>ref04_Get.G x.1 x.2.1
theorem ref04_Get.ok:PureOK Tryz.prog 128 ref04_Get.as ref04_Get.rs ref04_Get.F:=ref04_Get.gen
@[reducible] def ref04_Put.as:List Shp:=[sR10, .k (.i .i64), .k (.i .u8)]
@[reducible] def ref04_Put.rs:List Shp:=[sR10, .k (.i .i64)]
def ref04_Put.G (a0:R10) (a1:Int) (a2:Int):Option (R10×Int×Unit):=
 if (a1==6)=true then some ((0,0,0,0,0,0,0,0,0,0),7,()) else if (decide (a1<0)==false)=true then if decide (a1>7)=true then some ((0,0,0,0,0,0,0,0,0,0),1,()) else if (a1==0)=true then some ((a0.1,a0.2.1,a2,a0.2.2.2),0,()) else if (a1==1)=true then some ((a0.1,a0.2.1,a0.2.2.1,a2,a0.2.2.2.2),0,()) else if (a1==2)=true then some ((a0.1,a0.2.1,a0.2.2.1,a0.2.2.2.1,a2,a0.z5),0,()) else if (a1==3)=true then some ((a0.1,a0.2.1,a0.2.2.1,a0.2.2.2.1,a0.2.2.2.2.1,a2,a0.z6),0,()) else if (a1==4)=true then some ((a0.1,a0.2.1,a0.2.2.1,a0.2.2.2.1,a0.2.2.2.2.1,a0.x5,a2,a0.z7),0,()) else if (a1==5)=true then some ((a0.1,a0.2.1,a0.2.2.1,a0.2.2.2.1,a0.2.2.2.2.1,a0.x5,a0.x6,a2,a0.z8),0,()) else if (a1==7)=true then some ((a2,a0.2),0,()) else some (a0,0,()) else some ((0,0,0,0,0,0,0,0,0,0),1,())
theorem ref04_Put.gen:PureOK Tryz.prog 138 ref04_Put.as ref04_Put.rs (fun x=>ref04_Put.G x.1 x.2.1 x.2.2.1):=
 fn_gen (tbl:=tblOf tblI 138 Tryz.f138) (ks:=[]) (ls:=[]) (n:=200) (d:=6) (tblOf_ok tblI_ok Tryz.func138 (by kernel_rfl)) (by rfl) (fun x=>by kernel_rfl)
abbrev ref04_Put.T:=(R10×Int×Int×Unit)→Option (R10×Int×Unit)
def ref04_Put.F:ref04_Put.T:=fun x=>ref04_Put.G x.1 x.2.1 x.2.2.1
theorem ref04_Put.ok:PureOK Tryz.prog 138 ref04_Put.as ref04_Put.rs ref04_Put.F:=ref04_Put.gen
@[reducible] def ref04_Pair.as:List Shp:=[sR10, .k (.i .i64)]
@[reducible] def ref04_Pair.rs:List Shp:=[.k (.i .u16), .k (.i .i64)]
def ref04_Pair.G (ref01_Join_F:ref01_Join.T) (a0:R10) (a1:Int):Option (Int×Int×Unit):=
 if (a1==0)=true then (ref01_Join_F (a0.2.2.1,a0.2.2.2.1,())).bind fun y0=>some (y0.1,0,()) else if (a1==1)=true then (ref01_Join_F (a0.2.2.2.2.1,a0.x5,())).bind fun y0=>some (y0.1,0,()) else if (a1==2)=true then (ref01_Join_F (a0.x6,a0.x7,())).bind fun y0=>some (y0.1,0,()) else if (a1==3)=true then some (a0.x8,0,()) else if (a1==4)=true then (ref01_Join_F (a0.1,a0.2.1,())).bind fun y0=>some (y0.1,0,()) else some (0,1,())
theorem ref04_Pair.gen (ref01_Join_F:ref01_Join.T) (ref01_Join_ok:ref01_Join.K ref01_Join_F):PureOK Tryz.prog 127 ref04_Pair.as ref04_Pair.rs (fun x=>ref04_Pair.G ref01_Join_F x.1 x.2.1):=
 fn_gen (tbl:=tblOf tblI 127 Tryz.f127) (ks:=[ref01_Join.V ref01_Join_F ref01_Join_ok]) (ls:=[]) (n:=200) (d:=6) (tblOf_ok tblI_ok Tryz.func127 (by kernel_rfl)) (by rfl) (fun x=>by kernel_rfl)
abbrev ref04_Pair.T:=(R10×Int×Unit)→Option (Int×Int×Unit)
def ref04_Pair.F:ref04_Pair.T:=fun x=>ref04_Pair.G ref01_Join.F x.1 x.2.1
theorem ref04_Pair.ok:PureOK Tryz.prog 127 ref04_Pair.as ref04_Pair.rs ref04_Pair.F:=ref04_Pair.gen ref01_Join.F ref01_Join.ok
@[reducible] def ref04_PutPair.as:List Shp:=[sR10, .k (.i .i64), .k (.i .u16)]
@[reducible] def ref04_PutPair.rs:List Shp:=[sR10, .k (.i .i64)]
def ref04_PutPair.G (ref01_Split_F:ref01_Split.T) (a0:R10) (a1:Int) (a2:Int):Option (R10×Int×Unit):=
 (ref01_Split_F (a2,())).bind fun y0=>if (a1==0)=true then some ((a0.1,a0.2.1,y0.1,y0.2.1,a0.2.2.2.2),0,()) else if (a1==1)=true then some ((a0.1,a0.2.1,a0.2.2.1,a0.2.2.2.1,y0.1,y0.2.1,a0.z6),0,()) else if (a1==2)=true then some ((a0.1,a0.2.1,a0.2.2.1,a0.2.2.2.1,a0.2.2.2.2.1,a0.x5,y0.1,y0.2.1,a0.z8),0,()) else if (a1==3)=true then some ((a0.1,a0.2.1,a0.2.2.1,a0.2.2.2.1,a0.2.2.2.2.1,a0.x5,a0.x6,a0.x7,a2,a0.z9),0,()) else if (a1==4)=true then some ((y0.1,wrap .u8 (wrap .u8 (Int.tdiv y0.2.1 (16:Int))*(16:Int)),a0.2.2),0,()) else some ((0,0,0,0,0,0,0,0,0,0),1,())
theorem ref04_PutPair.gen (ref01_Split_F:ref01_Split.T) (ref01_Split_ok:ref01_Split.K ref01_Split_F):PureOK Tryz.prog 134 ref04_PutPair.as ref04_PutPair.rs (fun x=>ref04_PutPair.G ref01_Split_F x.1 x.2.1 x.2.2.1):=
 fn_gen (tbl:=tblOf tblI 134 Tryz.f134) (ks:=[ref01_Split.V ref01_Split_F ref01_Split_ok]) (ls:=[]) (n:=200) (d:=6) (tblOf_ok tblI_ok Tryz.func134 (by kernel_rfl)) (by rfl) (fun x=>by kernel_rfl)
abbrev ref04_PutPair.T:=(R10×Int×Int×Unit)→Option (R10×Int×Unit)
def ref04_PutPair.F:ref04_PutPair.T:=fun x=>ref04_PutPair.G ref01_Split.F x.1 x.2.1 x.2.2.1
theorem ref04_PutPair.ok:PureOK Tryz.prog 134 ref04_PutPair.as ref04_PutPair.rs ref04_PutPair.F:=ref04_PutPair.gen ref01_Split.F ref01_Split.ok
@[reducible] def ref04_Flags.as:List Shp:=[sR10]
@[reducible] def ref04_Flags.rs:List Shp:=[.agg ⟨.b,[.b, .b, .b]⟩]
def ref04_Flags.G (ref02_Of_F:ref02_Of.T) (a0:R10):Option ((Bool×Bool×Bool×Bool)×Unit):=
 (ref02_Of_F (a0.2.1,())).bind fun y0=>some y0
theorem ref04_Flags.gen (ref02_Of_F:ref02_Of.T) (ref02_Of_ok:ref02_Of.K ref02_Of_F):PureOK Tryz.prog 126 ref04_Flags.as ref04_Flags.rs (fun x=>ref04_Flags.G ref02_Of_F x.1):=
 fn_gen (tbl:=tblOf tblI 126 Tryz.f126) (ks:=[ref02_Of.V ref02_Of_F ref02_Of_ok]) (ls:=[]) (n:=200) (d:=6) (tblOf_ok tblI_ok Tryz.func126 (by kernel_rfl)) (by rfl) (fun x=>by kernel_rfl)
abbrev ref04_Flags.T:=(R10×Unit)→Option ((Bool×Bool×Bool×Bool)×Unit)
def ref04_Flags.F:ref04_Flags.T:=fun x=>ref04_Flags.G ref02_Of.F x.1
theorem ref04_Flags.ok:PureOK Tryz.prog 126 ref04_Flags.as ref04_Flags.rs ref04_Flags.F:=ref04_Flags.gen ref02_Of.F ref02_Of.ok
abbrev ref04_Flags.K (F:ref04_Flags.T):Prop:=PureOK Tryz.prog 126 ref04_Flags.as ref04_Flags.rs F
abbrev ref04_Flags.V (F:ref04_Flags.T) (h:ref04_Flags.K F):=knView (P:=Tryz.prog) 126 ref04_Flags.as ref04_Flags.rs F h (by rfl) (by rfl) (by rfl)
@[reducible] def ref04_WithFlags.as:List Shp:=[sR10, .agg ⟨.b,[.b, .b, .b]⟩]
@[reducible] def ref04_WithFlags.rs:List Shp:=[sR10]
def ref04_WithFlags.G (ref02_Byte_F:ref02_Byte.T) (a0:R10) (a1:(Bool×Bool×Bool×Bool)):Option (R10×Unit):=
 (ref02_Byte_F (a1,())).bind fun y0=>some ((a0.1,y0.1,a0.2.2),())
theorem ref04_WithFlags.gen (ref02_Byte_F:ref02_Byte.T) (ref02_Byte_ok:ref02_Byte.K ref02_Byte_F):PureOK Tryz.prog 202 ref04_WithFlags.as ref04_WithFlags.rs (fun x=>ref04_WithFlags.G ref02_Byte_F x.1 x.2.1):=
 fn_gen (tbl:=tblOf tblI 202 Tryz.f202) (ks:=[ref02_Byte.V ref02_Byte_F ref02_Byte_ok]) (ls:=[]) (n:=200) (d:=6) (tblOf_ok tblI_ok Tryz.func202 (by kernel_rfl)) (by rfl) (fun x=>by kernel_rfl)
abbrev ref04_WithFlags.T:=(R10×(Bool×Bool×Bool×Bool)×Unit)→Option (R10×Unit)
def ref04_WithFlags.F:ref04_WithFlags.T:=fun x=>ref04_WithFlags.G ref02_Byte.F x.1 x.2.1
theorem ref04_WithFlags.ok:PureOK Tryz.prog 202 ref04_WithFlags.as ref04_WithFlags.rs ref04_WithFlags.F:=ref04_WithFlags.gen ref02_Byte.F ref02_Byte.ok
@[reducible] def ref04_Holds.as:List Shp:=[sR10, .k (.i .i64)]
@[reducible] def ref04_Holds.rs:List Shp:=[.k .b]
def ref04_Holds.G (ref04_Flags_F:ref04_Flags.T) (a0:R10) (a1:Int):Option (Bool×Unit):=
 (ref04_Flags_F (a0,())).bind fun y0=>if (a1==0)=true then some (!y0.1.1,()) else if (a1==1)=true then some (y0.1.1,()) else if (a1==2)=true then some (!y0.1.2.2.2,()) else if (a1==3)=true then some (y0.1.2.2.2,()) else if (a1==4)=true then some (true,()) else some (false,())
theorem ref04_Holds.gen (ref04_Flags_F:ref04_Flags.T) (ref04_Flags_ok:ref04_Flags.K ref04_Flags_F):PureOK Tryz.prog 76 ref04_Holds.as ref04_Holds.rs (fun x=>ref04_Holds.G ref04_Flags_F x.1 x.2.1):=
 fn_gen (tbl:=tblOf tblI 76 Tryz.f76) (ks:=[ref04_Flags.V ref04_Flags_F ref04_Flags_ok]) (ls:=[]) (n:=200) (d:=6) (tblOf_ok tblI_ok Tryz.func76 (by kernel_rfl)) (by rfl) (fun x=>by kernel_rfl)
abbrev ref04_Holds.T:=(R10×Int×Unit)→Option (Bool×Unit)
def ref04_Holds.F:ref04_Holds.T:=fun x=>ref04_Holds.G ref04_Flags.F x.1 x.2.1
theorem ref04_Holds.ok:PureOK Tryz.prog 76 ref04_Holds.as ref04_Holds.rs ref04_Holds.F:=ref04_Holds.gen ref04_Flags.F ref04_Flags.ok
@[reducible] def alu_Of.as:List Shp:=[.k (.i .u8)]
@[reducible] def alu_Of.rs:List Shp:=[.agg ⟨.b,[.b, .b, .b]⟩]
def alu_Of.G (a0:Int):Option ((Bool×Bool×Bool×Bool)×Unit):=
 some ((bits BinOp.and IntKind.u8 a0 (128:Int)!=(0:Int),bits BinOp.and IntKind.u8 a0 (64:Int)!=(0:Int),bits BinOp.and IntKind.u8 a0 (32:Int)!=(0:Int),bits BinOp.and IntKind.u8 a0 (16:Int)!=0),())
theorem alu_Of.gen:PureOK Tryz.prog 181 alu_Of.as alu_Of.rs (fun x=>alu_Of.G x.1):=
 fn_gen (tbl:=tblOf tblI 181 Tryz.f181) (ks:=[]) (ls:=[]) (n:=200) (d:=6) (tblOf_ok tblI_ok Tryz.func181 (by kernel_rfl)) (by rfl) (fun x=>by kernel_rfl)
abbrev alu_Of.T:=(Int×Unit)→Option ((Bool×Bool×Bool×Bool)×Unit)
def alu_Of.F:alu_Of.T:=fun x=>alu_Of.G x.1
theorem alu_Of.ok:PureOK Tryz.prog 181 alu_Of.as alu_Of.rs alu_Of.F:=alu_Of.gen
abbrev alu_Of.K (F:alu_Of.T):Prop:=PureOK Tryz.prog 181 alu_Of.as alu_Of.rs F
abbrev alu_Of.V (F:alu_Of.T) (h:alu_Of.K F):=knView (P:=Tryz.prog) 181 alu_Of.as alu_Of.rs F h (by rfl) (by rfl) (by rfl)
@[reducible] def alu_Byte.as:List Shp:=[.agg ⟨.b,[.b, .b, .b]⟩]
@[reducible] def alu_Byte.rs:List Shp:=[.k (.i .u8)]
@[reducible] def alu_Byte.L0.s:LSh:=(⟨30,[(3, .k (.i .u8)),(18, .arr ⟨.b,[.i .u8]⟩ 4),(19, .k (.i .i64))],[none],[]⟩:LSh)
@[reducible] def alu_Byte.L0.xs:List (Ex×LSh):=([(.exit 0,⟨30,[(3, .k (.i .u8))],[none],[]⟩)]:List (Ex×LSh))
def alu_Byte.L0.step (t3:Int) (t18:List (Bool×Int)) (t19:Int):Option (((Int×(List (Bool×Int))×Int×Unit)×Unit×Unit)⊕((Int×Unit)×Unit×Unit)):=
 if decide (t19<4)=true then if (0:Int)≤t19∧t19<(4:Int) then if (List.getD t18 (Int.toNat t19) (false,0)).1=true then some (Sum.inl ((bits BinOp.or IntKind.u8 t3 (List.getD t18 (Int.toNat t19) (false,0)).2,t18,wrap .i64 (t19+(1:Int)),()),(),())) else some (Sum.inl ((t3,t18,wrap .i64 (t19+(1:Int)),()),(),())) else none else some (Sum.inr ((t3,()),(),()))
theorem alu_Byte.L0.gen:LoopOK Tryz.prog 194 0 alu_Byte.L0.s alu_Byte.L0.xs (iterU fun x=>alu_Byte.L0.step x.1.1 x.1.2.1 x.1.2.2.1):=
 loop_gen (tbl:=tblOf tblI 194 Tryz.f194) (ks:=[]) (ls:=[]) (n:=200) (d:=6) (fn:=Tryz.f194) (tblOf_ok tblI_ok Tryz.func194 (by kernel_rfl)) (by rfl) (by rfl) (fun x=>by kernel_rfl)
abbrev alu_Byte.L0.T:=((Int×(List (Bool×Int))×Int×Unit)×Unit×Unit)→Option ((Int×Unit)×Unit×Unit)
def alu_Byte.L0.F:alu_Byte.L0.T:=iterU fun x=>alu_Byte.L0.step x.1.1 x.1.2.1 x.1.2.2.1
theorem alu_Byte.L0.ok:LoopOK Tryz.prog 194 0 alu_Byte.L0.s alu_Byte.L0.xs alu_Byte.L0.F:=alu_Byte.L0.gen
abbrev alu_Byte.L0.K (F:alu_Byte.L0.T):Prop:=LoopOK Tryz.prog 194 0 alu_Byte.L0.s alu_Byte.L0.xs F
abbrev alu_Byte.L0.V (F:alu_Byte.L0.T) (h:alu_Byte.L0.K F):=lk (P:=Tryz.prog) 194 0 alu_Byte.L0.s alu_Byte.L0.xs F h (by rfl)
def alu_Byte.G (alu_Byte_L0_F:alu_Byte.L0.T) (a0:(Bool×Bool×Bool×Bool)):Option (Int×Unit):=
 (alu_Byte_L0_F ((0,[(a0.1,128),(a0.2.1,64),(a0.2.2.1,32),(a0.2.2.2,16)],0,()),(),())).bind fun y0=>some y0.1
theorem alu_Byte.gen (alu_Byte_L0_F:alu_Byte.L0.T) (alu_Byte_L0_ok:alu_Byte.L0.K alu_Byte_L0_F):PureOK Tryz.prog 194 alu_Byte.as alu_Byte.rs (fun x=>alu_Byte.G alu_Byte_L0_F x.1):=
 fn_gen (tbl:=tblOf tblI 194 Tryz.f194) (ks:=[]) (ls:=[alu_Byte.L0.V alu_Byte_L0_F alu_Byte_L0_ok]) (n:=200) (d:=6) (tblOf_ok tblI_ok Tryz.func194 (by kernel_rfl)) (by rfl) (fun x=>by kernel_rfl)
abbrev alu_Byte.T:=((Bool×Bool×Bool×Bool)×Unit)→Option (Int×Unit)
def alu_Byte.F:alu_Byte.T:=fun x=>alu_Byte.G alu_Byte.L0.F x.1
theorem alu_Byte.ok:PureOK Tryz.prog 194 alu_Byte.as alu_Byte.rs alu_Byte.F:=alu_Byte.gen alu_Byte.L0.F alu_Byte.L0.ok
abbrev alu_Byte.K (F:alu_Byte.T):Prop:=PureOK Tryz.prog 194 alu_Byte.as alu_Byte.rs F
abbrev alu_Byte.V (F:alu_Byte.T) (h:alu_Byte.K F):=knView (P:=Tryz.prog) 194 alu_Byte.as alu_Byte.rs F h (by rfl) (by rfl) (by rfl)
@[reducible] def alu_add.as:List Shp:=[.k (.i .u8), .k (.i .u8), .k (.i .u8)]
@[reducible] def alu_add.rs:List Shp:=[.k (.i .u8), .agg ⟨.b,[.b, .b, .b]⟩]
def alu_add.G (a0:Int) (a1:Int) (a2:Int):Option (Int×(Bool×Bool×Bool×Bool)×Unit):=
 some (wrap .u8 (wrap .u16 (wrap .u16 (wrap .u16 a0+wrap .u16 a1)+wrap .u16 a2)),(wrap .u8 (wrap .u16 (wrap .u16 (wrap .u16 a0+wrap .u16 a1)+wrap .u16 a2))==(0:Int),false,bits BinOp.and IntKind.u8 (bits BinOp.xor IntKind.u8 (bits BinOp.xor IntKind.u8 a0 a1) (wrap .u8 (wrap .u16 (wrap .u16 (wrap .u16 a0+wrap .u16 a1)+wrap .u16 a2)))) (16:Int)!=(0:Int),Int.fdiv (wrap .u16 (wrap .u16 (wrap .u16 a0+wrap .u16 a1)+wrap .u16 a2)) (256:Int)!=0),())
theorem alu_add.gen:PureOK Tryz.prog 182 alu_add.as alu_add.rs (fun x=>alu_add.G x.1 x.2.1 x.2.2.1):=
 fn_gen (tbl:=tblOf tblI 182 Tryz.f182) (ks:=[]) (ls:=[]) (n:=200) (d:=6) (tblOf_ok tblI_ok Tryz.func182 (by kernel_rfl)) (by rfl) (fun x=>by kernel_rfl)
abbrev alu_add.T:=(Int×Int×Int×Unit)→Option (Int×(Bool×Bool×Bool×Bool)×Unit)
def alu_add.F:alu_add.T:=fun x=>alu_add.G x.1 x.2.1 x.2.2.1
theorem alu_add.ok:PureOK Tryz.prog 182 alu_add.as alu_add.rs alu_add.F:=alu_add.gen
abbrev alu_add.K (F:alu_add.T):Prop:=PureOK Tryz.prog 182 alu_add.as alu_add.rs F
abbrev alu_add.V (F:alu_add.T) (h:alu_add.K F):=knView (P:=Tryz.prog) 182 alu_add.as alu_add.rs F h (by rfl) (by rfl) (by rfl)
@[reducible] def alu_sub.as:List Shp:=[.k (.i .u8), .k (.i .u8), .k (.i .u8)]
@[reducible] def alu_sub.rs:List Shp:=[.k (.i .u8), .agg ⟨.b,[.b, .b, .b]⟩]
def alu_sub.G (alu_add_F:alu_add.T) (a0:Int) (a1:Int) (a2:Int):Option (Int×(Bool×Bool×Bool×Bool)×Unit):=
 (alu_add_F (a0,bits BinOp.xor IntKind.u8 (255:Int) a1,wrap .u8 ((1:Int) - a2),())).bind fun y0=>some (y0.1,(y0.1==(0:Int),true,!y0.2.1.2.2.1,!y0.2.1.2.2.2),())
theorem alu_sub.gen (alu_add_F:alu_add.T) (alu_add_ok:alu_add.K alu_add_F):PureOK Tryz.prog 183 alu_sub.as alu_sub.rs (fun x=>alu_sub.G alu_add_F x.1 x.2.1 x.2.2.1):=
 fn_gen (tbl:=tblOf tblI 183 Tryz.f183) (ks:=[alu_add.V alu_add_F alu_add_ok]) (ls:=[]) (n:=200) (d:=6) (tblOf_ok tblI_ok Tryz.func183 (by kernel_rfl)) (by rfl) (fun x=>by kernel_rfl)
abbrev alu_sub.T:=(Int×Int×Int×Unit)→Option (Int×(Bool×Bool×Bool×Bool)×Unit)
def alu_sub.F:alu_sub.T:=fun x=>alu_sub.G alu_add.F x.1 x.2.1 x.2.2.1
theorem alu_sub.ok:PureOK Tryz.prog 183 alu_sub.as alu_sub.rs alu_sub.F:=alu_sub.gen alu_add.F alu_add.ok
abbrev alu_sub.K (F:alu_sub.T):Prop:=PureOK Tryz.prog 183 alu_sub.as alu_sub.rs F
abbrev alu_sub.V (F:alu_sub.T) (h:alu_sub.K F):=knView (P:=Tryz.prog) 183 alu_sub.as alu_sub.rs F h (by rfl) (by rfl) (by rfl)
@[reducible] def alu_Do.as:List Shp:=[.k (.i .i64), .k (.i .u8), .k (.i .u8), .agg ⟨.b,[.b, .b, .b]⟩]
@[reducible] def alu_Do.rs:List Shp:=[.k (.i .u8), .agg ⟨.b,[.b, .b, .b]⟩]
def alu_Do.G (alu_add_F:alu_add.T) (alu_sub_F:alu_sub.T) (a0:Int) (a1:Int) (a2:Int) (a3:(Bool×Bool×Bool×Bool)):Option (Int×(Bool×Bool×Bool×Bool)×Unit):=
 if (bits BinOp.and IntKind.i64 a0 (7:Int)==1)=true then if a3.2.2.2=true then (alu_add_F (a1,a2,1,())).bind fun y0=>some y0 else (alu_add_F (a1,a2,0,())).bind fun y0=>some y0 else if (bits BinOp.and IntKind.i64 a0 (7:Int)==0)=true then (alu_add_F (a1,a2,0,())).bind fun y0=>some y0 else if (bits BinOp.and IntKind.i64 a0 (7:Int)==3)=true then if a3.2.2.2=true then (alu_sub_F (a1,a2,1,())).bind fun y0=>some y0 else (alu_sub_F (a1,a2,0,())).bind fun y0=>some y0 else if (bits BinOp.and IntKind.i64 a0 (7:Int)==2)=true then (alu_sub_F (a1,a2,0,())).bind fun y0=>some y0 else if (bits BinOp.and IntKind.i64 a0 (7:Int)==7)=true then (alu_sub_F (a1,a2,0,())).bind fun y0=>some (a1,y0.2) else if (bits BinOp.and IntKind.i64 a0 (7:Int)==4)=true then some (bits BinOp.and IntKind.u8 a1 a2,(bits BinOp.and IntKind.u8 a1 a2==(0:Int),false,true,false),()) else if (bits BinOp.and IntKind.i64 a0 (7:Int)==5)=true then some (bits BinOp.xor IntKind.u8 a1 a2,(a1==a2,false,false,false),()) else some (bits BinOp.or IntKind.u8 a1 a2,(bits BinOp.or IntKind.u8 a1 a2==(0:Int),false,false,false),())
theorem alu_Do.gen (alu_add_F:alu_add.T) (alu_add_ok:alu_add.K alu_add_F) (alu_sub_F:alu_sub.T) (alu_sub_ok:alu_sub.K alu_sub_F):PureOK Tryz.prog 114 alu_Do.as alu_Do.rs (fun x=>alu_Do.G alu_add_F alu_sub_F x.1 x.2.1 x.2.2.1 x.2.2.2.1):=
 fn_gen (tbl:=tblOf tblI 114 Tryz.f114) (ks:=[alu_add.V alu_add_F alu_add_ok,alu_sub.V alu_sub_F alu_sub_ok]) (ls:=[]) (n:=200) (d:=6) (tblOf_ok tblI_ok Tryz.func114 (by kernel_rfl)) (by rfl) (fun x=>by kernel_rfl)
abbrev alu_Do.T:=(Int×Int×Int×(Bool×Bool×Bool×Bool)×Unit)→Option (Int×(Bool×Bool×Bool×Bool)×Unit)
def alu_Do.F:alu_Do.T:=fun x=>alu_Do.G alu_add.F alu_sub.F x.1 x.2.1 x.2.2.1 x.2.2.2.1
theorem alu_Do.ok:PureOK Tryz.prog 114 alu_Do.as alu_Do.rs alu_Do.F:=alu_Do.gen alu_add.F alu_add.ok alu_sub.F alu_sub.ok
abbrev alu_Do.K (F:alu_Do.T):Prop:=PureOK Tryz.prog 114 alu_Do.as alu_Do.rs F
abbrev alu_Do.V (F:alu_Do.T) (h:alu_Do.K F):=knView (P:=Tryz.prog) 114 alu_Do.as alu_Do.rs F h (by rfl) (by rfl) (by rfl)
@[reducible] def alu_Inc.as:List Shp:=[.k (.i .u8), .agg ⟨.b,[.b, .b, .b]⟩]
@[reducible] def alu_Inc.rs:List Shp:=[.k (.i .u8), .agg ⟨.b,[.b, .b, .b]⟩]
def alu_Inc.G (alu_add_F:alu_add.T) (a0:Int) (a1:(Bool×Bool×Bool×Bool)):Option (Int×(Bool×Bool×Bool×Bool)×Unit):=
 (alu_add_F (a0,1,0,())).bind fun y0=>some (y0.1,(y0.2.1.1,y0.2.1.2.1,y0.2.1.2.2.1,a1.2.2.2),())
theorem alu_Inc.gen (alu_add_F:alu_add.T) (alu_add_ok:alu_add.K alu_add_F):PureOK Tryz.prog 105 alu_Inc.as alu_Inc.rs (fun x=>alu_Inc.G alu_add_F x.1 x.2.1):=
 fn_gen (tbl:=tblOf tblI 105 Tryz.f105) (ks:=[alu_add.V alu_add_F alu_add_ok]) (ls:=[]) (n:=200) (d:=6) (tblOf_ok tblI_ok Tryz.func105 (by kernel_rfl)) (by rfl) (fun x=>by kernel_rfl)
abbrev alu_Inc.T:=(Int×(Bool×Bool×Bool×Bool)×Unit)→Option (Int×(Bool×Bool×Bool×Bool)×Unit)
def alu_Inc.F:alu_Inc.T:=fun x=>alu_Inc.G alu_add.F x.1 x.2.1
theorem alu_Inc.ok:PureOK Tryz.prog 105 alu_Inc.as alu_Inc.rs alu_Inc.F:=alu_Inc.gen alu_add.F alu_add.ok
abbrev alu_Inc.K (F:alu_Inc.T):Prop:=PureOK Tryz.prog 105 alu_Inc.as alu_Inc.rs F
abbrev alu_Inc.V (F:alu_Inc.T) (h:alu_Inc.K F):=knView (P:=Tryz.prog) 105 alu_Inc.as alu_Inc.rs F h (by rfl) (by rfl) (by rfl)
@[reducible] def alu_Dec.as:List Shp:=[.k (.i .u8), .agg ⟨.b,[.b, .b, .b]⟩]
@[reducible] def alu_Dec.rs:List Shp:=[.k (.i .u8), .agg ⟨.b,[.b, .b, .b]⟩]
def alu_Dec.G (alu_sub_F:alu_sub.T) (a0:Int) (a1:(Bool×Bool×Bool×Bool)):Option (Int×(Bool×Bool×Bool×Bool)×Unit):=
 (alu_sub_F (a0,1,0,())).bind fun y0=>some (y0.1,(y0.2.1.1,y0.2.1.2.1,y0.2.1.2.2.1,a1.2.2.2),())
theorem alu_Dec.gen (alu_sub_F:alu_sub.T) (alu_sub_ok:alu_sub.K alu_sub_F):PureOK Tryz.prog 106 alu_Dec.as alu_Dec.rs (fun x=>alu_Dec.G alu_sub_F x.1 x.2.1):=
 fn_gen (tbl:=tblOf tblI 106 Tryz.f106) (ks:=[alu_sub.V alu_sub_F alu_sub_ok]) (ls:=[]) (n:=200) (d:=6) (tblOf_ok tblI_ok Tryz.func106 (by kernel_rfl)) (by rfl) (fun x=>by kernel_rfl)
abbrev alu_Dec.T:=(Int×(Bool×Bool×Bool×Bool)×Unit)→Option (Int×(Bool×Bool×Bool×Bool)×Unit)
def alu_Dec.F:alu_Dec.T:=fun x=>alu_Dec.G alu_sub.F x.1 x.2.1
theorem alu_Dec.ok:PureOK Tryz.prog 106 alu_Dec.as alu_Dec.rs alu_Dec.F:=alu_Dec.gen alu_sub.F alu_sub.ok
abbrev alu_Dec.K (F:alu_Dec.T):Prop:=PureOK Tryz.prog 106 alu_Dec.as alu_Dec.rs F
abbrev alu_Dec.V (F:alu_Dec.T) (h:alu_Dec.K F):=knView (P:=Tryz.prog) 106 alu_Dec.as alu_Dec.rs F h (by rfl) (by rfl) (by rfl)
@[reducible] def alu_Daa.as:List Shp:=[.k (.i .u8), .agg ⟨.b,[.b, .b, .b]⟩]
@[reducible] def alu_Daa.rs:List Shp:=[.k (.i .u8), .agg ⟨.b,[.b, .b, .b]⟩]
def alu_Daa.G (a0:Int) (a1:(Bool×Bool×Bool×Bool)):Option (Int×(Bool×Bool×Bool×Bool)×Unit):=
 if (a1.2.2.1==false)=true then if ((!a1.2.1)==true)=true then if decide (bits BinOp.and IntKind.u8 a0 (15:Int)>9)=true then if (a1.2.2.2==false)=true then if ((!a1.2.1)==true)=true then if decide (a0>153)=true then if a1.2.1=true then some (wrap .u8 (a0 - (102:Int)),(wrap .u8 (a0 - (102:Int))==(0:Int),a1.2.1,false,true),()) else some (wrap .u8 (a0+(102:Int)),(wrap .u8 (a0+(102:Int))==(0:Int),a1.2.1,false,true),()) else if a1.2.1=true then some (wrap .u8 (a0 - (6:Int)),(wrap .u8 (a0 - (6:Int))==(0:Int),a1.2.1,false,a1.2.2.2),()) else some (wrap .u8 (a0+(6:Int)),(wrap .u8 (a0+(6:Int))==(0:Int),a1.2.1,false,a1.2.2.2),()) else if a1.2.1=true then some (wrap .u8 (a0 - (6:Int)),(wrap .u8 (a0 - (6:Int))==(0:Int),a1.2.1,false,a1.2.2.2),()) else some (wrap .u8 (a0+(6:Int)),(wrap .u8 (a0+(6:Int))==(0:Int),a1.2.1,false,a1.2.2.2),()) else if a1.2.1=true then some (wrap .u8 (a0 - (102:Int)),(wrap .u8 (a0 - (102:Int))==(0:Int),a1.2.1,false,true),()) else some (wrap .u8 (a0+(102:Int)),(wrap .u8 (a0+(102:Int))==(0:Int),a1.2.1,false,true),()) else if (a1.2.2.2==false)=true then if ((!a1.2.1)==true)=true then if decide (a0>153)=true then if a1.2.1=true then some (wrap .u8 (a0 - (96:Int)),(wrap .u8 (a0 - (96:Int))==(0:Int),a1.2.1,false,true),()) else some (wrap .u8 (a0+(96:Int)),(wrap .u8 (a0+(96:Int))==(0:Int),a1.2.1,false,true),()) else if a1.2.1=true then some (wrap .u8 (a0 - (0:Int)),(wrap .u8 (a0 - (0:Int))==(0:Int),a1.2.1,false,a1.2.2.2),()) else some (wrap .u8 (a0+(0:Int)),(wrap .u8 (a0+(0:Int))==(0:Int),a1.2.1,false,a1.2.2.2),()) else if a1.2.1=true then some (wrap .u8 (a0 - (0:Int)),(wrap .u8 (a0 - (0:Int))==(0:Int),a1.2.1,false,a1.2.2.2),()) else some (wrap .u8 (a0+(0:Int)),(wrap .u8 (a0+(0:Int))==(0:Int),a1.2.1,false,a1.2.2.2),()) else if a1.2.1=true then some (wrap .u8 (a0 - (96:Int)),(wrap .u8 (a0 - (96:Int))==(0:Int),a1.2.1,false,true),()) else some (wrap .u8 (a0+(96:Int)),(wrap .u8 (a0+(96:Int))==(0:Int),a1.2.1,false,true),()) else if (a1.2.2.2==false)=true then if ((!a1.2.1)==true)=true then if decide (a0>153)=true then if a1.2.1=true then some (wrap .u8 (a0 - (96:Int)),(wrap .u8 (a0 - (96:Int))==(0:Int),a1.2.1,false,true),()) else some (wrap .u8 (a0+(96:Int)),(wrap .u8 (a0+(96:Int))==(0:Int),a1.2.1,false,true),()) else if a1.2.1=true then some (wrap .u8 (a0 - (0:Int)),(wrap .u8 (a0 - (0:Int))==(0:Int),a1.2.1,false,a1.2.2.2),()) else some (wrap .u8 (a0+(0:Int)),(wrap .u8 (a0+(0:Int))==(0:Int),a1.2.1,false,a1.2.2.2),()) else if a1.2.1=true then some (wrap .u8 (a0 - (0:Int)),(wrap .u8 (a0 - (0:Int))==(0:Int),a1.2.1,false,a1.2.2.2),()) else some (wrap .u8 (a0+(0:Int)),(wrap .u8 (a0+(0:Int))==(0:Int),a1.2.1,false,a1.2.2.2),()) else if a1.2.1=true then some (wrap .u8 (a0 - (96:Int)),(wrap .u8 (a0 - (96:Int))==(0:Int),a1.2.1,false,true),()) else some (wrap .u8 (a0+(96:Int)),(wrap .u8 (a0+(96:Int))==(0:Int),a1.2.1,false,true),()) else if (a1.2.2.2==false)=true then if ((!a1.2.1)==true)=true then if decide (a0>153)=true then if a1.2.1=true then some (wrap .u8 (a0 - (102:Int)),(wrap .u8 (a0 - (102:Int))==(0:Int),a1.2.1,false,true),()) else some (wrap .u8 (a0+(102:Int)),(wrap .u8 (a0+(102:Int))==(0:Int),a1.2.1,false,true),()) else if a1.2.1=true then some (wrap .u8 (a0 - (6:Int)),(wrap .u8 (a0 - (6:Int))==(0:Int),a1.2.1,false,a1.2.2.2),()) else some (wrap .u8 (a0+(6:Int)),(wrap .u8 (a0+(6:Int))==(0:Int),a1.2.1,false,a1.2.2.2),()) else if a1.2.1=true then some (wrap .u8 (a0 - (6:Int)),(wrap .u8 (a0 - (6:Int))==(0:Int),a1.2.1,false,a1.2.2.2),()) else some (wrap .u8 (a0+(6:Int)),(wrap .u8 (a0+(6:Int))==(0:Int),a1.2.1,false,a1.2.2.2),()) else if a1.2.1=true then some (wrap .u8 (a0 - (102:Int)),(wrap .u8 (a0 - (102:Int))==(0:Int),a1.2.1,false,true),()) else some (wrap .u8 (a0+(102:Int)),(wrap .u8 (a0+(102:Int))==(0:Int),a1.2.1,false,true),())
theorem alu_Daa.gen:PureOK Tryz.prog 117 alu_Daa.as alu_Daa.rs (fun x=>alu_Daa.G x.1 x.2.1):=
 fn_gen (tbl:=tblOf tblI 117 Tryz.f117) (ks:=[]) (ls:=[]) (n:=200) (d:=6) (tblOf_ok tblI_ok Tryz.func117 (by kernel_rfl)) (by rfl) (fun x=>by kernel_rfl)
abbrev alu_Daa.T:=(Int×(Bool×Bool×Bool×Bool)×Unit)→Option (Int×(Bool×Bool×Bool×Bool)×Unit)
def alu_Daa.F:alu_Daa.T:=fun x=>alu_Daa.G x.1 x.2.1
theorem alu_Daa.ok:PureOK Tryz.prog 117 alu_Daa.as alu_Daa.rs alu_Daa.F:=alu_Daa.gen
abbrev alu_Daa.K (F:alu_Daa.T):Prop:=PureOK Tryz.prog 117 alu_Daa.as alu_Daa.rs F
abbrev alu_Daa.V (F:alu_Daa.T) (h:alu_Daa.K F):=knView (P:=Tryz.prog) 117 alu_Daa.as alu_Daa.rs F h (by rfl) (by rfl) (by rfl)
@[reducible] def alu_Cpl.as:List Shp:=[.k (.i .u8), .agg ⟨.b,[.b, .b, .b]⟩]
@[reducible] def alu_Cpl.rs:List Shp:=[.k (.i .u8), .agg ⟨.b,[.b, .b, .b]⟩]
def alu_Cpl.G (a0:Int) (a1:(Bool×Bool×Bool×Bool)):Option (Int×(Bool×Bool×Bool×Bool)×Unit):=
 some (bits BinOp.xor IntKind.u8 (255:Int) a0,(a1.1,true,true,a1.2.2.2),())
theorem alu_Cpl.gen:PureOK Tryz.prog 118 alu_Cpl.as alu_Cpl.rs (fun x=>alu_Cpl.G x.1 x.2.1):=
 fn_gen (tbl:=tblOf tblI 118 Tryz.f118) (ks:=[]) (ls:=[]) (n:=200) (d:=6) (tblOf_ok tblI_ok Tryz.func118 (by kernel_rfl)) (by rfl) (fun x=>by kernel_rfl)
abbrev alu_Cpl.T:=(Int×(Bool×Bool×Bool×Bool)×Unit)→Option (Int×(Bool×Bool×Bool×Bool)×Unit)
def alu_Cpl.F:alu_Cpl.T:=fun x=>alu_Cpl.G x.1 x.2.1
theorem alu_Cpl.ok:PureOK Tryz.prog 118 alu_Cpl.as alu_Cpl.rs alu_Cpl.F:=alu_Cpl.gen
abbrev alu_Cpl.K (F:alu_Cpl.T):Prop:=PureOK Tryz.prog 118 alu_Cpl.as alu_Cpl.rs F
abbrev alu_Cpl.V (F:alu_Cpl.T) (h:alu_Cpl.K F):=knView (P:=Tryz.prog) 118 alu_Cpl.as alu_Cpl.rs F h (by rfl) (by rfl) (by rfl)
@[reducible] def alu_Scf.as:List Shp:=[.agg ⟨.b,[.b, .b, .b]⟩]
@[reducible] def alu_Scf.rs:List Shp:=[.agg ⟨.b,[.b, .b, .b]⟩]
def alu_Scf.G (a0:(Bool×Bool×Bool×Bool)):Option ((Bool×Bool×Bool×Bool)×Unit):=
 some ((a0.1,false,false,true),())
theorem alu_Scf.gen:PureOK Tryz.prog 119 alu_Scf.as alu_Scf.rs (fun x=>alu_Scf.G x.1):=
 fn_gen (tbl:=tblOf tblI 119 Tryz.f119) (ks:=[]) (ls:=[]) (n:=200) (d:=6) (tblOf_ok tblI_ok Tryz.func119 (by kernel_rfl)) (by rfl) (fun x=>by kernel_rfl)
abbrev alu_Scf.T:=((Bool×Bool×Bool×Bool)×Unit)→Option ((Bool×Bool×Bool×Bool)×Unit)
def alu_Scf.F:alu_Scf.T:=fun x=>alu_Scf.G x.1
theorem alu_Scf.ok:PureOK Tryz.prog 119 alu_Scf.as alu_Scf.rs alu_Scf.F:=alu_Scf.gen
abbrev alu_Scf.K (F:alu_Scf.T):Prop:=PureOK Tryz.prog 119 alu_Scf.as alu_Scf.rs F
abbrev alu_Scf.V (F:alu_Scf.T) (h:alu_Scf.K F):=knView (P:=Tryz.prog) 119 alu_Scf.as alu_Scf.rs F h (by rfl) (by rfl) (by rfl)
@[reducible] def alu_Ccf.as:List Shp:=[.agg ⟨.b,[.b, .b, .b]⟩]
@[reducible] def alu_Ccf.rs:List Shp:=[.agg ⟨.b,[.b, .b, .b]⟩]
def alu_Ccf.G (a0:(Bool×Bool×Bool×Bool)):Option ((Bool×Bool×Bool×Bool)×Unit):=
 some ((a0.1,false,false,!a0.2.2.2),())
theorem alu_Ccf.gen:PureOK Tryz.prog 120 alu_Ccf.as alu_Ccf.rs (fun x=>alu_Ccf.G x.1):=
 fn_gen (tbl:=tblOf tblI 120 Tryz.f120) (ks:=[]) (ls:=[]) (n:=200) (d:=6) (tblOf_ok tblI_ok Tryz.func120 (by kernel_rfl)) (by rfl) (fun x=>by kernel_rfl)
abbrev alu_Ccf.T:=((Bool×Bool×Bool×Bool)×Unit)→Option ((Bool×Bool×Bool×Bool)×Unit)
def alu_Ccf.F:alu_Ccf.T:=fun x=>alu_Ccf.G x.1
theorem alu_Ccf.ok:PureOK Tryz.prog 120 alu_Ccf.as alu_Ccf.rs alu_Ccf.F:=alu_Ccf.gen
abbrev alu_Ccf.K (F:alu_Ccf.T):Prop:=PureOK Tryz.prog 120 alu_Ccf.as alu_Ccf.rs F
abbrev alu_Ccf.V (F:alu_Ccf.T) (h:alu_Ccf.K F):=knView (P:=Tryz.prog) 120 alu_Ccf.as alu_Ccf.rs F h (by rfl) (by rfl) (by rfl)
@[reducible] def alu_AddWords.as:List Shp:=[.k (.i .u16), .k (.i .u16), .agg ⟨.b,[.b, .b, .b]⟩]
@[reducible] def alu_AddWords.rs:List Shp:=[.k (.i .u16), .agg ⟨.b,[.b, .b, .b]⟩]
def alu_AddWords.G (a0:Int) (a1:Int) (a2:(Bool×Bool×Bool×Bool)):Option (Int×(Bool×Bool×Bool×Bool)×Unit):=
 some (wrap .u16 (wrap .u32 (wrap .u32 a0+wrap .u32 a1)),(a2.1,false,bits BinOp.and IntKind.u16 (bits BinOp.xor IntKind.u16 (bits BinOp.xor IntKind.u16 a0 a1) (wrap .u16 (wrap .u32 (wrap .u32 a0+wrap .u32 a1)))) (4096:Int)!=(0:Int),Int.fdiv (wrap .u32 (wrap .u32 a0+wrap .u32 a1)) (65536:Int)!=0),())
theorem alu_AddWords.gen:PureOK Tryz.prog 192 alu_AddWords.as alu_AddWords.rs (fun x=>alu_AddWords.G x.1 x.2.1 x.2.2.1):=
 fn_gen (tbl:=tblOf tblI 192 Tryz.f192) (ks:=[]) (ls:=[]) (n:=200) (d:=6) (tblOf_ok tblI_ok Tryz.func192 (by kernel_rfl)) (by rfl) (fun x=>by kernel_rfl)
abbrev alu_AddWords.T:=(Int×Int×(Bool×Bool×Bool×Bool)×Unit)→Option (Int×(Bool×Bool×Bool×Bool)×Unit)
def alu_AddWords.F:alu_AddWords.T:=fun x=>alu_AddWords.G x.1 x.2.1 x.2.2.1
theorem alu_AddWords.ok:PureOK Tryz.prog 192 alu_AddWords.as alu_AddWords.rs alu_AddWords.F:=alu_AddWords.gen
abbrev alu_AddWords.K (F:alu_AddWords.T):Prop:=PureOK Tryz.prog 192 alu_AddWords.as alu_AddWords.rs F
abbrev alu_AddWords.V (F:alu_AddWords.T) (h:alu_AddWords.K F):=knView (P:=Tryz.prog) 192 alu_AddWords.as alu_AddWords.rs F h (by rfl) (by rfl) (by rfl)
@[reducible] def alu_AddSigned.as:List Shp:=[.k (.i .u16), .k (.i .u8)]
@[reducible] def alu_AddSigned.rs:List Shp:=[.k (.i .u16), .agg ⟨.b,[.b, .b, .b]⟩]
def alu_AddSigned.G (alu_add_F:alu_add.T) (a0:Int) (a1:Int):Option (Int×(Bool×Bool×Bool×Bool)×Unit):=
 (alu_add_F (wrap .u8 a0,a1,0,())).bind fun y0=>some (wrap .u16 (a0+wrap .u16 (wrap .i16 (wrap .i8 a1))),(false,false,y0.2.1.2.2),())
theorem alu_AddSigned.gen (alu_add_F:alu_add.T) (alu_add_ok:alu_add.K alu_add_F):PureOK Tryz.prog 193 alu_AddSigned.as alu_AddSigned.rs (fun x=>alu_AddSigned.G alu_add_F x.1 x.2.1):=
 fn_gen (tbl:=tblOf tblI 193 Tryz.f193) (ks:=[alu_add.V alu_add_F alu_add_ok]) (ls:=[]) (n:=200) (d:=6) (tblOf_ok tblI_ok Tryz.func193 (by kernel_rfl)) (by rfl) (fun x=>by kernel_rfl)
abbrev alu_AddSigned.T:=(Int×Int×Unit)→Option (Int×(Bool×Bool×Bool×Bool)×Unit)
def alu_AddSigned.F:alu_AddSigned.T:=fun x=>alu_AddSigned.G alu_add.F x.1 x.2.1
theorem alu_AddSigned.ok:PureOK Tryz.prog 193 alu_AddSigned.as alu_AddSigned.rs alu_AddSigned.F:=alu_AddSigned.gen alu_add.F alu_add.ok
abbrev alu_AddSigned.K (F:alu_AddSigned.T):Prop:=PureOK Tryz.prog 193 alu_AddSigned.as alu_AddSigned.rs F
abbrev alu_AddSigned.V (F:alu_AddSigned.T) (h:alu_AddSigned.K F):=knView (P:=Tryz.prog) 193 alu_AddSigned.as alu_AddSigned.rs F h (by rfl) (by rfl) (by rfl)
@[reducible] def word_Put.as:List Shp:=[.k (.i .u8), .k (.i .i64), .k .b]
@[reducible] def word_Put.rs:List Shp:=[.k (.i .u8)]
def word_Put.G (a0:Int) (a1:Int) (a2:Bool):Option (Int×Unit):=
 if (decide (a1<0)==false)=true then if decide (a1>7)=true then some (a0,()) else if a2=true then if (!decide (a1<0))=true then some (bits BinOp.or IntKind.u8 a0 (wrap .u8 ((1:Int)*(2:Int) ^ min (Int.toNat a1) (8:Nat))),()) else none else if (!decide (a1<0))=true then some (bits BinOp.andNot IntKind.u8 a0 (wrap .u8 ((1:Int)*(2:Int) ^ min (Int.toNat a1) (8:Nat))),()) else none else some (a0,())
theorem word_Put.gen:PureOK Tryz.prog 186 word_Put.as word_Put.rs (fun x=>word_Put.G x.1 x.2.1 x.2.2.1):=
 fn_gen (tbl:=tblOf tblI 186 Tryz.f186) (ks:=[]) (ls:=[]) (n:=200) (d:=6) (tblOf_ok tblI_ok Tryz.func186 (by kernel_rfl)) (by rfl) (fun x=>by kernel_rfl)
abbrev word_Put.T:=(Int×Int×Bool×Unit)→Option (Int×Unit)
def word_Put.F:word_Put.T:=fun x=>word_Put.G x.1 x.2.1 x.2.2.1
theorem word_Put.ok:PureOK Tryz.prog 186 word_Put.as word_Put.rs word_Put.F:=word_Put.gen
abbrev word_Put.K (F:word_Put.T):Prop:=PureOK Tryz.prog 186 word_Put.as word_Put.rs F
abbrev word_Put.V (F:word_Put.T) (h:word_Put.K F):=knView (P:=Tryz.prog) 186 word_Put.as word_Put.rs F h (by rfl) (by rfl) (by rfl)
@[reducible] def shift_Do.as:List Shp:=[.k (.i .i64), .k (.i .u8), .agg ⟨.b,[.b, .b, .b]⟩]
@[reducible] def shift_Do.rs:List Shp:=[.k (.i .u8), .agg ⟨.b,[.b, .b, .b]⟩]
def shift_Do.G (word_Put_F:word_Put.T) (a0:Int) (a1:Int) (a2:(Bool×Bool×Bool×Bool)):Option (Int×(Bool×Bool×Bool×Bool)×Unit):=
 if (bits BinOp.and IntKind.i64 a0 (7:Int)==0)=true then (word_Put_F (wrap .u8 (a1*(2:Int)),0,bits BinOp.and IntKind.u8 a1 (128:Int)!=(0:Int),())).bind fun y0=>some (y0.1,(y0.1==(0:Int),false,false,bits BinOp.and IntKind.u8 a1 (128:Int)!=0),()) else if (bits BinOp.and IntKind.i64 a0 (7:Int)==1)=true then (word_Put_F (Int.fdiv a1 (2:Int),7,bits BinOp.and IntKind.u8 a1 (1:Int)!=(0:Int),())).bind fun y0=>some (y0.1,(y0.1==(0:Int),false,false,bits BinOp.and IntKind.u8 a1 (1:Int)!=0),()) else if (bits BinOp.and IntKind.i64 a0 (7:Int)==2)=true then (word_Put_F (wrap .u8 (a1*(2:Int)),0,a2.2.2.2,())).bind fun y0=>some (y0.1,(y0.1==(0:Int),false,false,bits BinOp.and IntKind.u8 a1 (128:Int)!=0),()) else if (bits BinOp.and IntKind.i64 a0 (7:Int)==3)=true then (word_Put_F (Int.fdiv a1 (2:Int),7,a2.2.2.2,())).bind fun y0=>some (y0.1,(y0.1==(0:Int),false,false,bits BinOp.and IntKind.u8 a1 (1:Int)!=0),()) else if (bits BinOp.and IntKind.i64 a0 (7:Int)==4)=true then (word_Put_F (wrap .u8 (a1*(2:Int)),0,false,())).bind fun y0=>some (y0.1,(y0.1==(0:Int),false,false,bits BinOp.and IntKind.u8 a1 (128:Int)!=0),()) else if (bits BinOp.and IntKind.i64 a0 (7:Int)==5)=true then (word_Put_F (Int.fdiv a1 (2:Int),7,bits BinOp.and IntKind.u8 a1 (128:Int)!=(0:Int),())).bind fun y0=>some (y0.1,(y0.1==(0:Int),false,false,bits BinOp.and IntKind.u8 a1 (1:Int)!=0),()) else if (bits BinOp.and IntKind.i64 a0 (7:Int)==6)=true then some (bits BinOp.or IntKind.u8 (wrap .u8 (a1*(16:Int))) (Int.fdiv a1 (16:Int)),(bits BinOp.or IntKind.u8 (wrap .u8 (a1*(16:Int))) (Int.fdiv a1 (16:Int))==(0:Int),false,false,false),()) else (word_Put_F (Int.fdiv a1 (2:Int),7,false,())).bind fun y0=>some (y0.1,(y0.1==(0:Int),false,false,bits BinOp.and IntKind.u8 a1 (1:Int)!=0),())
theorem shift_Do.gen (word_Put_F:word_Put.T) (word_Put_ok:word_Put.K word_Put_F):PureOK Tryz.prog 107 shift_Do.as shift_Do.rs (fun x=>shift_Do.G word_Put_F x.1 x.2.1 x.2.2.1):=
 fn_gen (tbl:=tblOf tblI 107 Tryz.f107) (ks:=[word_Put.V word_Put_F word_Put_ok]) (ls:=[]) (n:=200) (d:=6) (tblOf_ok tblI_ok Tryz.func107 (by kernel_rfl)) (by rfl) (fun x=>by kernel_rfl)
abbrev shift_Do.T:=(Int×Int×(Bool×Bool×Bool×Bool)×Unit)→Option (Int×(Bool×Bool×Bool×Bool)×Unit)
def shift_Do.F:shift_Do.T:=fun x=>shift_Do.G word_Put.F x.1 x.2.1 x.2.2.1
theorem shift_Do.ok:PureOK Tryz.prog 107 shift_Do.as shift_Do.rs shift_Do.F:=shift_Do.gen word_Put.F word_Put.ok
abbrev shift_Do.K (F:shift_Do.T):Prop:=PureOK Tryz.prog 107 shift_Do.as shift_Do.rs F
abbrev shift_Do.V (F:shift_Do.T) (h:shift_Do.K F):=knView (P:=Tryz.prog) 107 shift_Do.as shift_Do.rs F h (by rfl) (by rfl) (by rfl)
@[reducible] def shift_Fast.as:List Shp:=[.k (.i .i64), .k (.i .u8), .agg ⟨.b,[.b, .b, .b]⟩]
@[reducible] def shift_Fast.rs:List Shp:=[.k (.i .u8), .agg ⟨.b,[.b, .b, .b]⟩]
def shift_Fast.G (shift_Do_F:shift_Do.T) (a0:Int) (a1:Int) (a2:(Bool×Bool×Bool×Bool)):Option (Int×(Bool×Bool×Bool×Bool)×Unit):=
 (shift_Do_F (bits BinOp.and IntKind.i64 a0 (3:Int),a1,a2,())).bind fun y0=>some (y0.1,(false,y0.2.1.2),())
theorem shift_Fast.gen (shift_Do_F:shift_Do.T) (shift_Do_ok:shift_Do.K shift_Do_F):PureOK Tryz.prog 116 shift_Fast.as shift_Fast.rs (fun x=>shift_Fast.G shift_Do_F x.1 x.2.1 x.2.2.1):=
 fn_gen (tbl:=tblOf tblI 116 Tryz.f116) (ks:=[shift_Do.V shift_Do_F shift_Do_ok]) (ls:=[]) (n:=200) (d:=6) (tblOf_ok tblI_ok Tryz.func116 (by kernel_rfl)) (by rfl) (fun x=>by kernel_rfl)
abbrev shift_Fast.T:=(Int×Int×(Bool×Bool×Bool×Bool)×Unit)→Option (Int×(Bool×Bool×Bool×Bool)×Unit)
def shift_Fast.F:shift_Fast.T:=fun x=>shift_Fast.G shift_Do.F x.1 x.2.1 x.2.2.1
theorem shift_Fast.ok:PureOK Tryz.prog 116 shift_Fast.as shift_Fast.rs shift_Fast.F:=shift_Fast.gen shift_Do.F shift_Do.ok
abbrev shift_Fast.K (F:shift_Fast.T):Prop:=PureOK Tryz.prog 116 shift_Fast.as shift_Fast.rs F
abbrev shift_Fast.V (F:shift_Fast.T) (h:shift_Fast.K F):=knView (P:=Tryz.prog) 116 shift_Fast.as shift_Fast.rs F h (by rfl) (by rfl) (by rfl)
@[reducible] def shift_Test.as:List Shp:=[.k (.i .i64), .k (.i .u8), .agg ⟨.b,[.b, .b, .b]⟩]
@[reducible] def shift_Test.rs:List Shp:=[.agg ⟨.b,[.b, .b, .b]⟩]
def shift_Test.G (a0:Int) (a1:Int) (a2:(Bool×Bool×Bool×Bool)):Option ((Bool×Bool×Bool×Bool)×Unit):=
 if (decide (bits BinOp.and IntKind.i64 a0 (7:Int)≥0)==true)=true then if (decide (bits BinOp.and IntKind.i64 a0 (7:Int)<8)==true)=true then if (!decide (bits BinOp.and IntKind.i64 a0 (7:Int)<0))=true then some ((!bits BinOp.and IntKind.u8 (Int.fdiv a1 ((2:Int) ^ min (Int.toNat (bits BinOp.and IntKind.i64 a0 (7:Int))) (8:Nat))) (1:Int)==(1:Int),false,true,a2.2.2.2),()) else none else some ((true,false,true,a2.2.2.2),()) else some ((true,false,true,a2.2.2.2),())
theorem shift_Test.gen:PureOK Tryz.prog 115 shift_Test.as shift_Test.rs (fun x=>shift_Test.G x.1 x.2.1 x.2.2.1):=
 fn_gen (tbl:=tblOf tblI 115 Tryz.f115) (ks:=[]) (ls:=[]) (n:=200) (d:=6) (tblOf_ok tblI_ok Tryz.func115 (by kernel_rfl)) (by rfl) (fun x=>by kernel_rfl)
abbrev shift_Test.T:=(Int×Int×(Bool×Bool×Bool×Bool)×Unit)→Option ((Bool×Bool×Bool×Bool)×Unit)
def shift_Test.F:shift_Test.T:=fun x=>shift_Test.G x.1 x.2.1 x.2.2.1
theorem shift_Test.ok:PureOK Tryz.prog 115 shift_Test.as shift_Test.rs shift_Test.F:=shift_Test.gen
abbrev shift_Test.K (F:shift_Test.T):Prop:=PureOK Tryz.prog 115 shift_Test.as shift_Test.rs F
abbrev shift_Test.V (F:shift_Test.T) (h:shift_Test.K F):=knView (P:=Tryz.prog) 115 shift_Test.as shift_Test.rs F h (by rfl) (by rfl) (by rfl)
@[reducible] def shift_Res.as:List Shp:=[.k (.i .i64), .k (.i .u8)]
@[reducible] def shift_Res.rs:List Shp:=[.k (.i .u8)]
def shift_Res.G (word_Put_F:word_Put.T) (a0:Int) (a1:Int):Option (Int×Unit):=
 (word_Put_F (a1,bits BinOp.and IntKind.i64 a0 (7:Int),false,())).bind fun y0=>some y0
theorem shift_Res.gen (word_Put_F:word_Put.T) (word_Put_ok:word_Put.K word_Put_F):PureOK Tryz.prog 108 shift_Res.as shift_Res.rs (fun x=>shift_Res.G word_Put_F x.1 x.2.1):=
 fn_gen (tbl:=tblOf tblI 108 Tryz.f108) (ks:=[word_Put.V word_Put_F word_Put_ok]) (ls:=[]) (n:=200) (d:=6) (tblOf_ok tblI_ok Tryz.func108 (by kernel_rfl)) (by rfl) (fun x=>by kernel_rfl)
abbrev shift_Res.T:=(Int×Int×Unit)→Option (Int×Unit)
def shift_Res.F:shift_Res.T:=fun x=>shift_Res.G word_Put.F x.1 x.2.1
theorem shift_Res.ok:PureOK Tryz.prog 108 shift_Res.as shift_Res.rs shift_Res.F:=shift_Res.gen word_Put.F word_Put.ok
abbrev shift_Res.K (F:shift_Res.T):Prop:=PureOK Tryz.prog 108 shift_Res.as shift_Res.rs F
abbrev shift_Res.V (F:shift_Res.T) (h:shift_Res.K F):=knView (P:=Tryz.prog) 108 shift_Res.as shift_Res.rs F h (by rfl) (by rfl) (by rfl)
@[reducible] def shift_Set.as:List Shp:=[.k (.i .i64), .k (.i .u8)]
@[reducible] def shift_Set.rs:List Shp:=[.k (.i .u8)]
def shift_Set.G (word_Put_F:word_Put.T) (a0:Int) (a1:Int):Option (Int×Unit):=
 (word_Put_F (a1,bits BinOp.and IntKind.i64 a0 (7:Int),true,())).bind fun y0=>some y0
theorem shift_Set.gen (word_Put_F:word_Put.T) (word_Put_ok:word_Put.K word_Put_F):PureOK Tryz.prog 109 shift_Set.as shift_Set.rs (fun x=>shift_Set.G word_Put_F x.1 x.2.1):=
 fn_gen (tbl:=tblOf tblI 109 Tryz.f109) (ks:=[word_Put.V word_Put_F word_Put_ok]) (ls:=[]) (n:=200) (d:=6) (tblOf_ok tblI_ok Tryz.func109 (by kernel_rfl)) (by rfl) (fun x=>by kernel_rfl)
abbrev shift_Set.T:=(Int×Int×Unit)→Option (Int×Unit)
def shift_Set.F:shift_Set.T:=fun x=>shift_Set.G word_Put.F x.1 x.2.1
theorem shift_Set.ok:PureOK Tryz.prog 109 shift_Set.as shift_Set.rs shift_Set.F:=shift_Set.gen word_Put.F word_Put.ok
abbrev shift_Set.K (F:shift_Set.T):Prop:=PureOK Tryz.prog 109 shift_Set.as shift_Set.rs F
abbrev shift_Set.V (F:shift_Set.T) (h:shift_Set.K F):=knView (P:=Tryz.prog) 109 shift_Set.as shift_Set.rs F h (by rfl) (by rfl) (by rfl)
@[reducible] def regs_Get.as:List Shp:=[sR10, .k (.i .i64)]
@[reducible] def regs_Get.rs:List Shp:=[.k (.i .u8), .k (.i .i64)]
def regs_Get.G (a0:R10) (a1:Int):Option (Int×Int×Unit):=
 if (decide (a1<0)==false)=true then if decide (a1>7)=true then some (0,1,()) else if (a1==6)=true then some (0,7,()) else if (0:Int)≤a1∧a1<(8:Int) then some (List.getD [a0.2.2.1,a0.2.2.2.1,a0.2.2.2.2.1,a0.x5,a0.x6,a0.x7,a0.2.1,a0.1] (Int.toNat a1) (0:Int),0,()) else none else some (0,1,())
theorem regs_Get.gen:PureOK Tryz.prog 103 regs_Get.as regs_Get.rs (fun x=>regs_Get.G x.1 x.2.1):=
 fn_gen (tbl:=tblOf tblI 103 Tryz.f103) (ks:=[]) (ls:=[]) (n:=200) (d:=6) (tblOf_ok tblI_ok Tryz.func103 (by kernel_rfl)) (by rfl) (fun x=>by kernel_rfl)
abbrev regs_Get.T:=(R10×Int×Unit)→Option (Int×Int×Unit)
def regs_Get.F:regs_Get.T:=fun x=>regs_Get.G x.1 x.2.1
theorem regs_Get.ok:PureOK Tryz.prog 103 regs_Get.as regs_Get.rs regs_Get.F:=regs_Get.gen
abbrev regs_Get.K (F:regs_Get.T):Prop:=PureOK Tryz.prog 103 regs_Get.as regs_Get.rs F
abbrev regs_Get.V (F:regs_Get.T) (h:regs_Get.K F):=knView (P:=Tryz.prog) 103 regs_Get.as regs_Get.rs F h (by rfl) (by rfl) (by rfl)
@[reducible] def regs_Put.as:List Shp:=[sR10, .k (.i .i64), .k (.i .u8)]
@[reducible] def regs_Put.rs:List Shp:=[sR10, .k (.i .i64)]
def regs_Put.G (a0:R10) (a1:Int) (a2:Int):Option (R10×Int×Unit):=
 if (decide (a1<0)==false)=true then if decide (a1>7)=true then some ((0,0,0,0,0,0,0,0,0,0),1,()) else if (a1==6)=true then some ((0,0,0,0,0,0,0,0,0,0),7,()) else if (0:Int)≤a1∧a1<(8:Int) then some ((List.getD (List.set [a0.2.2.1,a0.2.2.2.1,a0.2.2.2.2.1,a0.x5,a0.x6,a0.x7,a0.2.1,a0.1] (Int.toNat a1) a2) (7:Nat) (0:Int),List.getD (List.set [a0.2.2.1,a0.2.2.2.1,a0.2.2.2.2.1,a0.x5,a0.x6,a0.x7,a0.2.1,a0.1] (Int.toNat a1) a2) (6:Nat) (0:Int),List.getD (List.set [a0.2.2.1,a0.2.2.2.1,a0.2.2.2.2.1,a0.x5,a0.x6,a0.x7,a0.2.1,a0.1] (Int.toNat a1) a2) (0:Nat) (0:Int),List.getD (List.set [a0.2.2.1,a0.2.2.2.1,a0.2.2.2.2.1,a0.x5,a0.x6,a0.x7,a0.2.1,a0.1] (Int.toNat a1) a2) (1:Nat) (0:Int),List.getD (List.set [a0.2.2.1,a0.2.2.2.1,a0.2.2.2.2.1,a0.x5,a0.x6,a0.x7,a0.2.1,a0.1] (Int.toNat a1) a2) (2:Nat) (0:Int),List.getD (List.set [a0.2.2.1,a0.2.2.2.1,a0.2.2.2.2.1,a0.x5,a0.x6,a0.x7,a0.2.1,a0.1] (Int.toNat a1) a2) (3:Nat) (0:Int),List.getD (List.set [a0.2.2.1,a0.2.2.2.1,a0.2.2.2.2.1,a0.x5,a0.x6,a0.x7,a0.2.1,a0.1] (Int.toNat a1) a2) (4:Nat) (0:Int),List.getD (List.set [a0.2.2.1,a0.2.2.2.1,a0.2.2.2.2.1,a0.x5,a0.x6,a0.x7,a0.2.1,a0.1] (Int.toNat a1) a2) (5:Nat) (0:Int),a0.z8),0,()) else none else some ((0,0,0,0,0,0,0,0,0,0),1,())
theorem regs_Put.gen:PureOK Tryz.prog 190 regs_Put.as regs_Put.rs (fun x=>regs_Put.G x.1 x.2.1 x.2.2.1):=
 fn_gen (tbl:=tblOf tblI 190 Tryz.f190) (ks:=[]) (ls:=[]) (n:=200) (d:=6) (tblOf_ok tblI_ok Tryz.func190 (by kernel_rfl)) (by rfl) (fun x=>by kernel_rfl)
abbrev regs_Put.T:=(R10×Int×Int×Unit)→Option (R10×Int×Unit)
def regs_Put.F:regs_Put.T:=fun x=>regs_Put.G x.1 x.2.1 x.2.2.1
theorem regs_Put.ok:PureOK Tryz.prog 190 regs_Put.as regs_Put.rs regs_Put.F:=regs_Put.gen
abbrev regs_Put.K (F:regs_Put.T):Prop:=PureOK Tryz.prog 190 regs_Put.as regs_Put.rs F
abbrev regs_Put.V (F:regs_Put.T) (h:regs_Put.K F):=knView (P:=Tryz.prog) 190 regs_Put.as regs_Put.rs F h (by rfl) (by rfl) (by rfl)
@[reducible] def regs_Pair.as:List Shp:=[sR10, .k (.i .i64)]
@[reducible] def regs_Pair.rs:List Shp:=[.k (.i .u16), .k (.i .i64)]
def regs_Pair.G (a0:R10) (a1:Int):Option (Int×Int×Unit):=
 if (decide (a1<0)==false)=true then if decide (a1>4)=true then some (0,1,()) else if (a1==3)=true then some (a0.x8,0,()) else if (a1==4)=true then some (bits BinOp.or IntKind.u16 (wrap .u16 (wrap .u16 (List.getD [a0.2.2.1,a0.2.2.2.1,a0.2.2.2.2.1,a0.x5,a0.x6,a0.x7,a0.2.1,a0.1] (7:Nat) (0:Int))*(256:Int))) (wrap .u16 (List.getD [a0.2.2.1,a0.2.2.2.1,a0.2.2.2.2.1,a0.x5,a0.x6,a0.x7,a0.2.1,a0.1] (6:Nat) (0:Int))),0,()) else if (0:Int)≤wrap .i64 ((2:Int)*a1)∧wrap .i64 ((2:Int)*a1)<(8:Int) then if (0:Int)≤wrap .i64 (wrap .i64 ((2:Int)*a1)+(1:Int))∧wrap .i64 (wrap .i64 ((2:Int)*a1)+(1:Int))<(8:Int) then some (bits BinOp.or IntKind.u16 (wrap .u16 (wrap .u16 (List.getD [a0.2.2.1,a0.2.2.2.1,a0.2.2.2.2.1,a0.x5,a0.x6,a0.x7,a0.2.1,a0.1] (Int.toNat (wrap .i64 ((2:Int)*a1))) (0:Int))*(256:Int))) (wrap .u16 (List.getD [a0.2.2.1,a0.2.2.2.1,a0.2.2.2.2.1,a0.x5,a0.x6,a0.x7,a0.2.1,a0.1] (Int.toNat (wrap .i64 (wrap .i64 ((2:Int)*a1)+(1:Int)))) (0:Int))),0,()) else none else none else some (0,1,())
theorem regs_Pair.gen:PureOK Tryz.prog 99 regs_Pair.as regs_Pair.rs (fun x=>regs_Pair.G x.1 x.2.1):=
 fn_gen (tbl:=tblOf tblI 99 Tryz.f99) (ks:=[]) (ls:=[]) (n:=200) (d:=6) (tblOf_ok tblI_ok Tryz.func99 (by kernel_rfl)) (by rfl) (fun x=>by kernel_rfl)
abbrev regs_Pair.T:=(R10×Int×Unit)→Option (Int×Int×Unit)
def regs_Pair.F:regs_Pair.T:=fun x=>regs_Pair.G x.1 x.2.1
theorem regs_Pair.ok:PureOK Tryz.prog 99 regs_Pair.as regs_Pair.rs regs_Pair.F:=regs_Pair.gen
abbrev regs_Pair.K (F:regs_Pair.T):Prop:=PureOK Tryz.prog 99 regs_Pair.as regs_Pair.rs F
abbrev regs_Pair.V (F:regs_Pair.T) (h:regs_Pair.K F):=knView (P:=Tryz.prog) 99 regs_Pair.as regs_Pair.rs F h (by rfl) (by rfl) (by rfl)
@[reducible] def regs_PutPair.as:List Shp:=[sR10, .k (.i .i64), .k (.i .u16)]
@[reducible] def regs_PutPair.rs:List Shp:=[sR10, .k (.i .i64)]
def regs_PutPair.G (a0:R10) (a1:Int) (a2:Int):Option (R10×Int×Unit):=
 if (decide (a1<0)==false)=true then if decide (a1>4)=true then some ((0,0,0,0,0,0,0,0,0,0),1,()) else if (a1==3)=true then some ((a0.1,a0.2.1,a0.2.2.1,a0.2.2.2.1,a0.2.2.2.2.1,a0.x5,a0.x6,a0.x7,a2,a0.z9),0,()) else if (a1==4)=true then if (a1==4)=true then some ((List.getD (List.set (List.set [a0.2.2.1,a0.2.2.2.1,a0.2.2.2.2.1,a0.x5,a0.x6,a0.x7,a0.2.1,a0.1] (7:Nat) (wrap .u8 (Int.fdiv (bits BinOp.andNot IntKind.u16 a2 (15:Int)) (256:Int)))) (6:Nat) (wrap .u8 (bits BinOp.andNot IntKind.u16 a2 (15:Int)))) (7:Nat) (0:Int),List.getD (List.set (List.set [a0.2.2.1,a0.2.2.2.1,a0.2.2.2.2.1,a0.x5,a0.x6,a0.x7,a0.2.1,a0.1] (7:Nat) (wrap .u8 (Int.fdiv (bits BinOp.andNot IntKind.u16 a2 (15:Int)) (256:Int)))) (6:Nat) (wrap .u8 (bits BinOp.andNot IntKind.u16 a2 (15:Int)))) (6:Nat) (0:Int),List.getD (List.set (List.set [a0.2.2.1,a0.2.2.2.1,a0.2.2.2.2.1,a0.x5,a0.x6,a0.x7,a0.2.1,a0.1] (7:Nat) (wrap .u8 (Int.fdiv (bits BinOp.andNot IntKind.u16 a2 (15:Int)) (256:Int)))) (6:Nat) (wrap .u8 (bits BinOp.andNot IntKind.u16 a2 (15:Int)))) (0:Nat) (0:Int),List.getD (List.set (List.set [a0.2.2.1,a0.2.2.2.1,a0.2.2.2.2.1,a0.x5,a0.x6,a0.x7,a0.2.1,a0.1] (7:Nat) (wrap .u8 (Int.fdiv (bits BinOp.andNot IntKind.u16 a2 (15:Int)) (256:Int)))) (6:Nat) (wrap .u8 (bits BinOp.andNot IntKind.u16 a2 (15:Int)))) (1:Nat) (0:Int),List.getD (List.set (List.set [a0.2.2.1,a0.2.2.2.1,a0.2.2.2.2.1,a0.x5,a0.x6,a0.x7,a0.2.1,a0.1] (7:Nat) (wrap .u8 (Int.fdiv (bits BinOp.andNot IntKind.u16 a2 (15:Int)) (256:Int)))) (6:Nat) (wrap .u8 (bits BinOp.andNot IntKind.u16 a2 (15:Int)))) (2:Nat) (0:Int),List.getD (List.set (List.set [a0.2.2.1,a0.2.2.2.1,a0.2.2.2.2.1,a0.x5,a0.x6,a0.x7,a0.2.1,a0.1] (7:Nat) (wrap .u8 (Int.fdiv (bits BinOp.andNot IntKind.u16 a2 (15:Int)) (256:Int)))) (6:Nat) (wrap .u8 (bits BinOp.andNot IntKind.u16 a2 (15:Int)))) (3:Nat) (0:Int),List.getD (List.set (List.set [a0.2.2.1,a0.2.2.2.1,a0.2.2.2.2.1,a0.x5,a0.x6,a0.x7,a0.2.1,a0.1] (7:Nat) (wrap .u8 (Int.fdiv (bits BinOp.andNot IntKind.u16 a2 (15:Int)) (256:Int)))) (6:Nat) (wrap .u8 (bits BinOp.andNot IntKind.u16 a2 (15:Int)))) (4:Nat) (0:Int),List.getD (List.set (List.set [a0.2.2.1,a0.2.2.2.1,a0.2.2.2.2.1,a0.x5,a0.x6,a0.x7,a0.2.1,a0.1] (7:Nat) (wrap .u8 (Int.fdiv (bits BinOp.andNot IntKind.u16 a2 (15:Int)) (256:Int)))) (6:Nat) (wrap .u8 (bits BinOp.andNot IntKind.u16 a2 (15:Int)))) (5:Nat) (0:Int),a0.z8),0,()) else if (0:Int)≤wrap .i64 ((2:Int)*a1)∧wrap .i64 ((2:Int)*a1)<(8:Int) then if (0:Int)≤wrap .i64 (wrap .i64 ((2:Int)*a1)+(1:Int))∧wrap .i64 (wrap .i64 ((2:Int)*a1)+(1:Int))<(8:Int) then some ((List.getD (List.set (List.set [a0.2.2.1,a0.2.2.2.1,a0.2.2.2.2.1,a0.x5,a0.x6,a0.x7,a0.2.1,a0.1] (Int.toNat (wrap .i64 ((2:Int)*a1))) (wrap .u8 (Int.fdiv (bits BinOp.andNot IntKind.u16 a2 (15:Int)) (256:Int)))) (Int.toNat (wrap .i64 (wrap .i64 ((2:Int)*a1)+(1:Int)))) (wrap .u8 (bits BinOp.andNot IntKind.u16 a2 (15:Int)))) (7:Nat) (0:Int),List.getD (List.set (List.set [a0.2.2.1,a0.2.2.2.1,a0.2.2.2.2.1,a0.x5,a0.x6,a0.x7,a0.2.1,a0.1] (Int.toNat (wrap .i64 ((2:Int)*a1))) (wrap .u8 (Int.fdiv (bits BinOp.andNot IntKind.u16 a2 (15:Int)) (256:Int)))) (Int.toNat (wrap .i64 (wrap .i64 ((2:Int)*a1)+(1:Int)))) (wrap .u8 (bits BinOp.andNot IntKind.u16 a2 (15:Int)))) (6:Nat) (0:Int),List.getD (List.set (List.set [a0.2.2.1,a0.2.2.2.1,a0.2.2.2.2.1,a0.x5,a0.x6,a0.x7,a0.2.1,a0.1] (Int.toNat (wrap .i64 ((2:Int)*a1))) (wrap .u8 (Int.fdiv (bits BinOp.andNot IntKind.u16 a2 (15:Int)) (256:Int)))) (Int.toNat (wrap .i64 (wrap .i64 ((2:Int)*a1)+(1:Int)))) (wrap .u8 (bits BinOp.andNot IntKind.u16 a2 (15:Int)))) (0:Nat) (0:Int),List.getD (List.set (List.set [a0.2.2.1,a0.2.2.2.1,a0.2.2.2.2.1,a0.x5,a0.x6,a0.x7,a0.2.1,a0.1] (Int.toNat (wrap .i64 ((2:Int)*a1))) (wrap .u8 (Int.fdiv (bits BinOp.andNot IntKind.u16 a2 (15:Int)) (256:Int)))) (Int.toNat (wrap .i64 (wrap .i64 ((2:Int)*a1)+(1:Int)))) (wrap .u8 (bits BinOp.andNot IntKind.u16 a2 (15:Int)))) (1:Nat) (0:Int),List.getD (List.set (List.set [a0.2.2.1,a0.2.2.2.1,a0.2.2.2.2.1,a0.x5,a0.x6,a0.x7,a0.2.1,a0.1] (Int.toNat (wrap .i64 ((2:Int)*a1))) (wrap .u8 (Int.fdiv (bits BinOp.andNot IntKind.u16 a2 (15:Int)) (256:Int)))) (Int.toNat (wrap .i64 (wrap .i64 ((2:Int)*a1)+(1:Int)))) (wrap .u8 (bits BinOp.andNot IntKind.u16 a2 (15:Int)))) (2:Nat) (0:Int),List.getD (List.set (List.set [a0.2.2.1,a0.2.2.2.1,a0.2.2.2.2.1,a0.x5,a0.x6,a0.x7,a0.2.1,a0.1] (Int.toNat (wrap .i64 ((2:Int)*a1))) (wrap .u8 (Int.fdiv (bits BinOp.andNot IntKind.u16 a2 (15:Int)) (256:Int)))) (Int.toNat (wrap .i64 (wrap .i64 ((2:Int)*a1)+(1:Int)))) (wrap .u8 (bits BinOp.andNot IntKind.u16 a2 (15:Int)))) (3:Nat) (0:Int),List.getD (List.set (List.set [a0.2.2.1,a0.2.2.2.1,a0.2.2.2.2.1,a0.x5,a0.x6,a0.x7,a0.2.1,a0.1] (Int.toNat (wrap .i64 ((2:Int)*a1))) (wrap .u8 (Int.fdiv (bits BinOp.andNot IntKind.u16 a2 (15:Int)) (256:Int)))) (Int.toNat (wrap .i64 (wrap .i64 ((2:Int)*a1)+(1:Int)))) (wrap .u8 (bits BinOp.andNot IntKind.u16 a2 (15:Int)))) (4:Nat) (0:Int),List.getD (List.set (List.set [a0.2.2.1,a0.2.2.2.1,a0.2.2.2.2.1,a0.x5,a0.x6,a0.x7,a0.2.1,a0.1] (Int.toNat (wrap .i64 ((2:Int)*a1))) (wrap .u8 (Int.fdiv (bits BinOp.andNot IntKind.u16 a2 (15:Int)) (256:Int)))) (Int.toNat (wrap .i64 (wrap .i64 ((2:Int)*a1)+(1:Int)))) (wrap .u8 (bits BinOp.andNot IntKind.u16 a2 (15:Int)))) (5:Nat) (0:Int),a0.z8),0,()) else none else none else if (a1==4)=true then some ((List.getD (List.set (List.set [a0.2.2.1,a0.2.2.2.1,a0.2.2.2.2.1,a0.x5,a0.x6,a0.x7,a0.2.1,a0.1] (7:Nat) (wrap .u8 (Int.fdiv a2 (256:Int)))) (6:Nat) (wrap .u8 a2)) (7:Nat) (0:Int),List.getD (List.set (List.set [a0.2.2.1,a0.2.2.2.1,a0.2.2.2.2.1,a0.x5,a0.x6,a0.x7,a0.2.1,a0.1] (7:Nat) (wrap .u8 (Int.fdiv a2 (256:Int)))) (6:Nat) (wrap .u8 a2)) (6:Nat) (0:Int),List.getD (List.set (List.set [a0.2.2.1,a0.2.2.2.1,a0.2.2.2.2.1,a0.x5,a0.x6,a0.x7,a0.2.1,a0.1] (7:Nat) (wrap .u8 (Int.fdiv a2 (256:Int)))) (6:Nat) (wrap .u8 a2)) (0:Nat) (0:Int),List.getD (List.set (List.set [a0.2.2.1,a0.2.2.2.1,a0.2.2.2.2.1,a0.x5,a0.x6,a0.x7,a0.2.1,a0.1] (7:Nat) (wrap .u8 (Int.fdiv a2 (256:Int)))) (6:Nat) (wrap .u8 a2)) (1:Nat) (0:Int),List.getD (List.set (List.set [a0.2.2.1,a0.2.2.2.1,a0.2.2.2.2.1,a0.x5,a0.x6,a0.x7,a0.2.1,a0.1] (7:Nat) (wrap .u8 (Int.fdiv a2 (256:Int)))) (6:Nat) (wrap .u8 a2)) (2:Nat) (0:Int),List.getD (List.set (List.set [a0.2.2.1,a0.2.2.2.1,a0.2.2.2.2.1,a0.x5,a0.x6,a0.x7,a0.2.1,a0.1] (7:Nat) (wrap .u8 (Int.fdiv a2 (256:Int)))) (6:Nat) (wrap .u8 a2)) (3:Nat) (0:Int),List.getD (List.set (List.set [a0.2.2.1,a0.2.2.2.1,a0.2.2.2.2.1,a0.x5,a0.x6,a0.x7,a0.2.1,a0.1] (7:Nat) (wrap .u8 (Int.fdiv a2 (256:Int)))) (6:Nat) (wrap .u8 a2)) (4:Nat) (0:Int),List.getD (List.set (List.set [a0.2.2.1,a0.2.2.2.1,a0.2.2.2.2.1,a0.x5,a0.x6,a0.x7,a0.2.1,a0.1] (7:Nat) (wrap .u8 (Int.fdiv a2 (256:Int)))) (6:Nat) (wrap .u8 a2)) (5:Nat) (0:Int),a0.z8),0,()) else if (0:Int)≤wrap .i64 ((2:Int)*a1)∧wrap .i64 ((2:Int)*a1)<(8:Int) then if (0:Int)≤wrap .i64 (wrap .i64 ((2:Int)*a1)+(1:Int))∧wrap .i64 (wrap .i64 ((2:Int)*a1)+(1:Int))<(8:Int) then some ((List.getD (List.set (List.set [a0.2.2.1,a0.2.2.2.1,a0.2.2.2.2.1,a0.x5,a0.x6,a0.x7,a0.2.1,a0.1] (Int.toNat (wrap .i64 ((2:Int)*a1))) (wrap .u8 (Int.fdiv a2 (256:Int)))) (Int.toNat (wrap .i64 (wrap .i64 ((2:Int)*a1)+(1:Int)))) (wrap .u8 a2)) (7:Nat) (0:Int),List.getD (List.set (List.set [a0.2.2.1,a0.2.2.2.1,a0.2.2.2.2.1,a0.x5,a0.x6,a0.x7,a0.2.1,a0.1] (Int.toNat (wrap .i64 ((2:Int)*a1))) (wrap .u8 (Int.fdiv a2 (256:Int)))) (Int.toNat (wrap .i64 (wrap .i64 ((2:Int)*a1)+(1:Int)))) (wrap .u8 a2)) (6:Nat) (0:Int),List.getD (List.set (List.set [a0.2.2.1,a0.2.2.2.1,a0.2.2.2.2.1,a0.x5,a0.x6,a0.x7,a0.2.1,a0.1] (Int.toNat (wrap .i64 ((2:Int)*a1))) (wrap .u8 (Int.fdiv a2 (256:Int)))) (Int.toNat (wrap .i64 (wrap .i64 ((2:Int)*a1)+(1:Int)))) (wrap .u8 a2)) (0:Nat) (0:Int),List.getD (List.set (List.set [a0.2.2.1,a0.2.2.2.1,a0.2.2.2.2.1,a0.x5,a0.x6,a0.x7,a0.2.1,a0.1] (Int.toNat (wrap .i64 ((2:Int)*a1))) (wrap .u8 (Int.fdiv a2 (256:Int)))) (Int.toNat (wrap .i64 (wrap .i64 ((2:Int)*a1)+(1:Int)))) (wrap .u8 a2)) (1:Nat) (0:Int),List.getD (List.set (List.set [a0.2.2.1,a0.2.2.2.1,a0.2.2.2.2.1,a0.x5,a0.x6,a0.x7,a0.2.1,a0.1] (Int.toNat (wrap .i64 ((2:Int)*a1))) (wrap .u8 (Int.fdiv a2 (256:Int)))) (Int.toNat (wrap .i64 (wrap .i64 ((2:Int)*a1)+(1:Int)))) (wrap .u8 a2)) (2:Nat) (0:Int),List.getD (List.set (List.set [a0.2.2.1,a0.2.2.2.1,a0.2.2.2.2.1,a0.x5,a0.x6,a0.x7,a0.2.1,a0.1] (Int.toNat (wrap .i64 ((2:Int)*a1))) (wrap .u8 (Int.fdiv a2 (256:Int)))) (Int.toNat (wrap .i64 (wrap .i64 ((2:Int)*a1)+(1:Int)))) (wrap .u8 a2)) (3:Nat) (0:Int),List.getD (List.set (List.set [a0.2.2.1,a0.2.2.2.1,a0.2.2.2.2.1,a0.x5,a0.x6,a0.x7,a0.2.1,a0.1] (Int.toNat (wrap .i64 ((2:Int)*a1))) (wrap .u8 (Int.fdiv a2 (256:Int)))) (Int.toNat (wrap .i64 (wrap .i64 ((2:Int)*a1)+(1:Int)))) (wrap .u8 a2)) (4:Nat) (0:Int),List.getD (List.set (List.set [a0.2.2.1,a0.2.2.2.1,a0.2.2.2.2.1,a0.x5,a0.x6,a0.x7,a0.2.1,a0.1] (Int.toNat (wrap .i64 ((2:Int)*a1))) (wrap .u8 (Int.fdiv a2 (256:Int)))) (Int.toNat (wrap .i64 (wrap .i64 ((2:Int)*a1)+(1:Int)))) (wrap .u8 a2)) (5:Nat) (0:Int),a0.z8),0,()) else none else none else some ((0,0,0,0,0,0,0,0,0,0),1,())
theorem regs_PutPair.gen:PureOK Tryz.prog 111 regs_PutPair.as regs_PutPair.rs (fun x=>regs_PutPair.G x.1 x.2.1 x.2.2.1):=
 fn_gen (tbl:=tblOf tblI 111 Tryz.f111) (ks:=[]) (ls:=[]) (n:=200) (d:=6) (tblOf_ok tblI_ok Tryz.func111 (by kernel_rfl)) (by rfl) (fun x=>by kernel_rfl)
abbrev regs_PutPair.T:=(R10×Int×Int×Unit)→Option (R10×Int×Unit)
def regs_PutPair.F:regs_PutPair.T:=fun x=>regs_PutPair.G x.1 x.2.1 x.2.2.1
theorem regs_PutPair.ok:PureOK Tryz.prog 111 regs_PutPair.as regs_PutPair.rs regs_PutPair.F:=regs_PutPair.gen
abbrev regs_PutPair.K (F:regs_PutPair.T):Prop:=PureOK Tryz.prog 111 regs_PutPair.as regs_PutPair.rs F
abbrev regs_PutPair.V (F:regs_PutPair.T) (h:regs_PutPair.K F):=knView (P:=Tryz.prog) 111 regs_PutPair.as regs_PutPair.rs F h (by rfl) (by rfl) (by rfl)
@[reducible] def regs_Flags.as:List Shp:=[sR10]
@[reducible] def regs_Flags.rs:List Shp:=[.agg ⟨.b,[.b, .b, .b]⟩]
def regs_Flags.G (alu_Of_F:alu_Of.T) (a0:R10):Option ((Bool×Bool×Bool×Bool)×Unit):=
 (alu_Of_F (a0.2.1,())).bind fun y0=>some y0
theorem regs_Flags.gen (alu_Of_F:alu_Of.T) (alu_Of_ok:alu_Of.K alu_Of_F):PureOK Tryz.prog 104 regs_Flags.as regs_Flags.rs (fun x=>regs_Flags.G alu_Of_F x.1):=
 fn_gen (tbl:=tblOf tblI 104 Tryz.f104) (ks:=[alu_Of.V alu_Of_F alu_Of_ok]) (ls:=[]) (n:=200) (d:=6) (tblOf_ok tblI_ok Tryz.func104 (by kernel_rfl)) (by rfl) (fun x=>by kernel_rfl)
abbrev regs_Flags.T:=(R10×Unit)→Option ((Bool×Bool×Bool×Bool)×Unit)
def regs_Flags.F:regs_Flags.T:=fun x=>regs_Flags.G alu_Of.F x.1
theorem regs_Flags.ok:PureOK Tryz.prog 104 regs_Flags.as regs_Flags.rs regs_Flags.F:=regs_Flags.gen alu_Of.F alu_Of.ok
abbrev regs_Flags.K (F:regs_Flags.T):Prop:=PureOK Tryz.prog 104 regs_Flags.as regs_Flags.rs F
abbrev regs_Flags.V (F:regs_Flags.T) (h:regs_Flags.K F):=knView (P:=Tryz.prog) 104 regs_Flags.as regs_Flags.rs F h (by rfl) (by rfl) (by rfl)
@[reducible] def regs_WithFlags.as:List Shp:=[sR10, .agg ⟨.b,[.b, .b, .b]⟩]
@[reducible] def regs_WithFlags.rs:List Shp:=[sR10]
def regs_WithFlags.G (alu_Byte_F:alu_Byte.T) (a0:R10) (a1:(Bool×Bool×Bool×Bool)):Option (R10×Unit):=
 (alu_Byte_F (a1,())).bind fun y0=>some ((a0.1,y0.1,a0.2.2),())
theorem regs_WithFlags.gen (alu_Byte_F:alu_Byte.T) (alu_Byte_ok:alu_Byte.K alu_Byte_F):PureOK Tryz.prog 122 regs_WithFlags.as regs_WithFlags.rs (fun x=>regs_WithFlags.G alu_Byte_F x.1 x.2.1):=
 fn_gen (tbl:=tblOf tblI 122 Tryz.f122) (ks:=[alu_Byte.V alu_Byte_F alu_Byte_ok]) (ls:=[]) (n:=200) (d:=6) (tblOf_ok tblI_ok Tryz.func122 (by kernel_rfl)) (by rfl) (fun x=>by kernel_rfl)
abbrev regs_WithFlags.T:=(R10×(Bool×Bool×Bool×Bool)×Unit)→Option (R10×Unit)
def regs_WithFlags.F:regs_WithFlags.T:=fun x=>regs_WithFlags.G alu_Byte.F x.1 x.2.1
theorem regs_WithFlags.ok:PureOK Tryz.prog 122 regs_WithFlags.as regs_WithFlags.rs regs_WithFlags.F:=regs_WithFlags.gen alu_Byte.F alu_Byte.ok
abbrev regs_WithFlags.K (F:regs_WithFlags.T):Prop:=PureOK Tryz.prog 122 regs_WithFlags.as regs_WithFlags.rs F
abbrev regs_WithFlags.V (F:regs_WithFlags.T) (h:regs_WithFlags.K F):=knView (P:=Tryz.prog) 122 regs_WithFlags.as regs_WithFlags.rs F h (by rfl) (by rfl) (by rfl)
@[reducible] def regs_Holds.as:List Shp:=[sR10, .k (.i .i64)]
@[reducible] def regs_Holds.rs:List Shp:=[.k .b]
def regs_Holds.G (regs_Flags_F:regs_Flags.T) (a0:R10) (a1:Int):Option (Bool×Unit):=
 (regs_Flags_F (a0,())).bind fun y0=>if (a1==0)=true then some (y0.1.1==(a1==1),()) else if (a1==1)=true then some (y0.1.1==(a1==1),()) else if (a1==2)=true then some (y0.1.2.2.2==(a1==3),()) else if (a1==3)=true then some (y0.1.2.2.2==(a1==3),()) else some (a1==(4:Int),())
theorem regs_Holds.gen (regs_Flags_F:regs_Flags.T) (regs_Flags_ok:regs_Flags.K regs_Flags_F):PureOK Tryz.prog 98 regs_Holds.as regs_Holds.rs (fun x=>regs_Holds.G regs_Flags_F x.1 x.2.1):=
 fn_gen (tbl:=tblOf tblI 98 Tryz.f98) (ks:=[regs_Flags.V regs_Flags_F regs_Flags_ok]) (ls:=[]) (n:=200) (d:=6) (tblOf_ok tblI_ok Tryz.func98 (by kernel_rfl)) (by rfl) (fun x=>by kernel_rfl)
abbrev regs_Holds.T:=(R10×Int×Unit)→Option (Bool×Unit)
def regs_Holds.F:regs_Holds.T:=fun x=>regs_Holds.G regs_Flags.F x.1 x.2.1
theorem regs_Holds.ok:PureOK Tryz.prog 98 regs_Holds.as regs_Holds.rs regs_Holds.F:=regs_Holds.gen regs_Flags.F regs_Flags.ok
abbrev regs_Holds.K (F:regs_Holds.T):Prop:=PureOK Tryz.prog 98 regs_Holds.as regs_Holds.rs F
abbrev regs_Holds.V (F:regs_Holds.T) (h:regs_Holds.K F):=knView (P:=Tryz.prog) 98 regs_Holds.as regs_Holds.rs F h (by rfl) (by rfl) (by rfl)
@[reducible] def regs_Boot.as:List Shp:=[]
@[reducible] def regs_Boot.rs:List Shp:=[sR10]
def regs_Boot.G:Option (R10×Unit):=
 some ((1,176,0,19,0,216,1,77,65534,256),())
theorem regs_Boot.gen:PureOK Tryz.prog 31 regs_Boot.as regs_Boot.rs (fun x=>regs_Boot.G):=
 fn_gen (tbl:=tblOf tblI 31 Tryz.f31) (ks:=[]) (ls:=[]) (n:=200) (d:=6) (tblOf_ok tblI_ok Tryz.func31 (by kernel_rfl)) (by rfl) (fun x=>by kernel_rfl)
abbrev regs_Boot.T:=Unit→Option (R10×Unit)
def regs_Boot.F:regs_Boot.T:=fun x=>regs_Boot.G
theorem regs_Boot.ok:PureOK Tryz.prog 31 regs_Boot.as regs_Boot.rs regs_Boot.F:=regs_Boot.gen
abbrev regs_Boot.K (F:regs_Boot.T):Prop:=PureOK Tryz.prog 31 regs_Boot.as regs_Boot.rs F
abbrev regs_Boot.V (F:regs_Boot.T) (h:regs_Boot.K F):=knView (P:=Tryz.prog) 31 regs_Boot.as regs_Boot.rs F h (by rfl) (by rfl) (by rfl)
@[reducible] def irq_Vector.as:List Shp:=[.k (.i .i64)]
@[reducible] def irq_Vector.rs:List Shp:=[.k (.i .u16), .k (.i .i64)]
def irq_Vector.G (a0:Int):Option (Int×Int×Unit):=
 if (decide (a0≥0)==true)=true then if (!decide (a0<5))=true then some (0,1,()) else some (wrap .u16 ((64:Int)+wrap .u16 ((8:Int)*wrap .u16 a0)),0,()) else some (0,1,())
theorem irq_Vector.gen:PureOK Tryz.prog 68 irq_Vector.as irq_Vector.rs (fun x=>irq_Vector.G x.1):=
 fn_gen (tbl:=tblOf tblI 68 Tryz.f68) (ks:=[]) (ls:=[]) (n:=200) (d:=6) (tblOf_ok tblI_ok Tryz.func68 (by kernel_rfl)) (by rfl) (fun x=>by kernel_rfl)
abbrev irq_Vector.T:=(Int×Unit)→Option (Int×Int×Unit)
def irq_Vector.F:irq_Vector.T:=fun x=>irq_Vector.G x.1
theorem irq_Vector.ok:PureOK Tryz.prog 68 irq_Vector.as irq_Vector.rs irq_Vector.F:=irq_Vector.gen
abbrev irq_Vector.K (F:irq_Vector.T):Prop:=PureOK Tryz.prog 68 irq_Vector.as irq_Vector.rs F
abbrev irq_Vector.V (F:irq_Vector.T) (h:irq_Vector.K F):=knView (P:=Tryz.prog) 68 irq_Vector.as irq_Vector.rs F h (by rfl) (by rfl) (by rfl)
end
end Go.Proofs.YtmhkjafcfpgikaaGreat.E
