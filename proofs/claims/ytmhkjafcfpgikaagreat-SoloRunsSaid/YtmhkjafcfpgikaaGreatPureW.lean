/- Functions of the program as plain Lean, and what they come to. Conditions: none. -/
import Derived.Test.YtmhkjafcfpgikaaGreatEwD
import Derived.KernelRfl
import Derived.Test.YtmhkjafcfpgikaaGreatPureV
import Derived.Test.YtmhkjafcfpgikaaGreatPureI
open Go Go.Ew
set_option maxRecDepth 100000
namespace Go.Proofs.YtmhkjafcfpgikaaGreat.E
/-! tables, under the names that the walk asks for -/
@[reducible] def micro_Plan.as : List Shp := T.micro_Plan.as
@[reducible] def micro_Plan.rs : List Shp := T.micro_Plan.rs
noncomputable def micro_Plan.F := T.micro_Plan.F
theorem micro_Plan.ok : PureOK Tryz.prog 61 micro_Plan.as micro_Plan.rs micro_Plan.F := T.micro_Plan.ok
@[reducible] def ref21_Plan.as : List Shp := T.ref21_Plan.as
@[reducible] def ref21_Plan.rs : List Shp := T.ref21_Plan.rs
noncomputable def ref21_Plan.F := T.ref21_Plan.F
theorem ref21_Plan.ok : PureOK Tryz.prog 75 ref21_Plan.as ref21_Plan.rs ref21_Plan.F := T.ref21_Plan.ok
@[reducible] def opcode_Decode.as : List Shp := T.opcode_Decode.as
@[reducible] def opcode_Decode.rs : List Shp := T.opcode_Decode.rs
noncomputable def opcode_Decode.F := T.opcode_Decode.F
theorem opcode_Decode.ok : PureOK Tryz.prog 102 opcode_Decode.as opcode_Decode.rs opcode_Decode.F := T.opcode_Decode.ok
@[reducible] def opcode_DecodeCB.as : List Shp := T.opcode_DecodeCB.as
@[reducible] def opcode_DecodeCB.rs : List Shp := T.opcode_DecodeCB.rs
noncomputable def opcode_DecodeCB.F := T.opcode_DecodeCB.F
theorem opcode_DecodeCB.ok : PureOK Tryz.prog 101 opcode_DecodeCB.as opcode_DecodeCB.rs opcode_DecodeCB.F := T.opcode_DecodeCB.ok
@[reducible] def ref05_Decode.as : List Shp := T.ref05_Decode.as
@[reducible] def ref05_Decode.rs : List Shp := T.ref05_Decode.rs
noncomputable def ref05_Decode.F := T.ref05_Decode.F
theorem ref05_Decode.ok : PureOK Tryz.prog 83 ref05_Decode.as ref05_Decode.rs ref05_Decode.F := T.ref05_Decode.ok
@[reducible] def ref05_DecodeCB.as : List Shp := T.ref05_DecodeCB.as
@[reducible] def ref05_DecodeCB.rs : List Shp := T.ref05_DecodeCB.rs
noncomputable def ref05_DecodeCB.F := T.ref05_DecodeCB.F
theorem ref05_DecodeCB.ok : PureOK Tryz.prog 82 ref05_DecodeCB.as ref05_DecodeCB.rs ref05_DecodeCB.F := T.ref05_DecodeCB.ok
@[reducible] def irq_First.as : List Shp := [.k (.i .u8)]
@[reducible] def irq_First.rs : List Shp := [.k (.i .i64), .k .b]
noncomputable def irq_First.F : Int × Unit → Option (Int × Bool × Unit) := I.firstF
theorem irq_First.ok : PureOK Tryz.prog 59 irq_First.as irq_First.rs irq_First.F := I.first_ok
noncomputable def tblS : FuncId → Option Func
 | 16 => some Tryz.f16
 | 18 => some Tryz.f18
 | 20 => some Tryz.f20
 | 17 => some Tryz.f17
 | 30 => some Tryz.f30
 | 32 => some Tryz.f32
 | 33 => some Tryz.f33
 | 34 => some Tryz.f34
 | 35 => some Tryz.f35
 | 36 => some Tryz.f36
 | 37 => some Tryz.f37
 | 38 => some Tryz.f38
 | 39 => some Tryz.f39
 | 40 => some Tryz.f40
 | 41 => some Tryz.f41
 | 42 => some Tryz.f42
 | 31 => some Tryz.f31
 | 60 => some Tryz.f60
 | 61 => some Tryz.f61
 | 62 => some Tryz.f62
 | 63 => some Tryz.f63
 | 64 => some Tryz.f64
 | 65 => some Tryz.f65
 | 66 => some Tryz.f66
 | 67 => some Tryz.f67
 | 68 => some Tryz.f68
 | 69 => some Tryz.f69
 | 70 => some Tryz.f70
 | 71 => some Tryz.f71
 | 72 => some Tryz.f72
 | 94 => some Tryz.f94
 | 95 => some Tryz.f95
 | 96 => some Tryz.f96
 | 97 => some Tryz.f97
 | 98 => some Tryz.f98
 | 99 => some Tryz.f99
 | 100 => some Tryz.f100
 | 101 => some Tryz.f101
 | 102 => some Tryz.f102
 | 103 => some Tryz.f103
 | 104 => some Tryz.f104
 | 105 => some Tryz.f105
 | 106 => some Tryz.f106
 | 107 => some Tryz.f107
 | 108 => some Tryz.f108
 | 109 => some Tryz.f109
 | 110 => some Tryz.f110
 | 111 => some Tryz.f111
 | 112 => some Tryz.f112
 | 113 => some Tryz.f113
 | 114 => some Tryz.f114
 | 115 => some Tryz.f115
 | 116 => some Tryz.f116
 | 117 => some Tryz.f117
 | 118 => some Tryz.f118
 | 119 => some Tryz.f119
 | 120 => some Tryz.f120
 | 121 => some Tryz.f121
 | 122 => some Tryz.f122
 | 165 => some Tryz.f165
 | 166 => some Tryz.f166
 | 167 => some Tryz.f167
 | 168 => some Tryz.f168
 | 169 => some Tryz.f169
 | 170 => some Tryz.f170
 | 171 => some Tryz.f171
 | 172 => some Tryz.f172
 | 173 => some Tryz.f173
 | 174 => some Tryz.f174
 | 175 => some Tryz.f175
 | 176 => some Tryz.f176
 | 177 => some Tryz.f177
 | 178 => some Tryz.f178
 | 179 => some Tryz.f179
 | 180 => some Tryz.f180
 | 181 => some Tryz.f181
 | 182 => some Tryz.f182
 | 183 => some Tryz.f183
 | 184 => some Tryz.f184
 | 185 => some Tryz.f185
 | 186 => some Tryz.f186
 | 187 => some Tryz.f187
 | 188 => some Tryz.f188
 | 189 => some Tryz.f189
 | 190 => some Tryz.f190
 | 191 => some Tryz.f191
 | 192 => some Tryz.f192
 | 193 => some Tryz.f193
 | 194 => some Tryz.f194
 | 204 => some Tryz.f204
 | 205 => some Tryz.f205
 | 206 => some Tryz.f206
 | _ => none
theorem tblS_ok : TblOK Tryz.prog tblS := by
 intro g fn h
 unfold tblS at h
 split at h
 ·simp only [Option.some.injEq] at h; subst h; exact ⟨Tryz.func16, by kernel_rfl⟩
 ·simp only [Option.some.injEq] at h; subst h; exact ⟨Tryz.func18, by kernel_rfl⟩
 ·simp only [Option.some.injEq] at h; subst h; exact ⟨Tryz.func20, by kernel_rfl⟩
 ·simp only [Option.some.injEq] at h; subst h; exact ⟨Tryz.func17, by kernel_rfl⟩
 ·simp only [Option.some.injEq] at h; subst h; exact ⟨Tryz.func30, by kernel_rfl⟩
 ·simp only [Option.some.injEq] at h; subst h; exact ⟨Tryz.func32, by kernel_rfl⟩
 ·simp only [Option.some.injEq] at h; subst h; exact ⟨Tryz.func33, by kernel_rfl⟩
 ·simp only [Option.some.injEq] at h; subst h; exact ⟨Tryz.func34, by kernel_rfl⟩
 ·simp only [Option.some.injEq] at h; subst h; exact ⟨Tryz.func35, by kernel_rfl⟩
 ·simp only [Option.some.injEq] at h; subst h; exact ⟨Tryz.func36, by kernel_rfl⟩
 ·simp only [Option.some.injEq] at h; subst h; exact ⟨Tryz.func37, by kernel_rfl⟩
 ·simp only [Option.some.injEq] at h; subst h; exact ⟨Tryz.func38, by kernel_rfl⟩
 ·simp only [Option.some.injEq] at h; subst h; exact ⟨Tryz.func39, by kernel_rfl⟩
 ·simp only [Option.some.injEq] at h; subst h; exact ⟨Tryz.func40, by kernel_rfl⟩
 ·simp only [Option.some.injEq] at h; subst h; exact ⟨Tryz.func41, by kernel_rfl⟩
 ·simp only [Option.some.injEq] at h; subst h; exact ⟨Tryz.func42, by kernel_rfl⟩
 ·simp only [Option.some.injEq] at h; subst h; exact ⟨Tryz.func31, by kernel_rfl⟩
 ·simp only [Option.some.injEq] at h; subst h; exact ⟨Tryz.func60, by kernel_rfl⟩
 ·simp only [Option.some.injEq] at h; subst h; exact ⟨Tryz.func61, by kernel_rfl⟩
 ·simp only [Option.some.injEq] at h; subst h; exact ⟨Tryz.func62, by kernel_rfl⟩
 ·simp only [Option.some.injEq] at h; subst h; exact ⟨Tryz.func63, by kernel_rfl⟩
 ·simp only [Option.some.injEq] at h; subst h; exact ⟨Tryz.func64, by kernel_rfl⟩
 ·simp only [Option.some.injEq] at h; subst h; exact ⟨Tryz.func65, by kernel_rfl⟩
 ·simp only [Option.some.injEq] at h; subst h; exact ⟨Tryz.func66, by kernel_rfl⟩
 ·simp only [Option.some.injEq] at h; subst h; exact ⟨Tryz.func67, by kernel_rfl⟩
 ·simp only [Option.some.injEq] at h; subst h; exact ⟨Tryz.func68, by kernel_rfl⟩
 ·simp only [Option.some.injEq] at h; subst h; exact ⟨Tryz.func69, by kernel_rfl⟩
 ·simp only [Option.some.injEq] at h; subst h; exact ⟨Tryz.func70, by kernel_rfl⟩
 ·simp only [Option.some.injEq] at h; subst h; exact ⟨Tryz.func71, by kernel_rfl⟩
 ·simp only [Option.some.injEq] at h; subst h; exact ⟨Tryz.func72, by kernel_rfl⟩
 ·simp only [Option.some.injEq] at h; subst h; exact ⟨Tryz.func94, by kernel_rfl⟩
 ·simp only [Option.some.injEq] at h; subst h; exact ⟨Tryz.func95, by kernel_rfl⟩
 ·simp only [Option.some.injEq] at h; subst h; exact ⟨Tryz.func96, by kernel_rfl⟩
 ·simp only [Option.some.injEq] at h; subst h; exact ⟨Tryz.func97, by kernel_rfl⟩
 ·simp only [Option.some.injEq] at h; subst h; exact ⟨Tryz.func98, by kernel_rfl⟩
 ·simp only [Option.some.injEq] at h; subst h; exact ⟨Tryz.func99, by kernel_rfl⟩
 ·simp only [Option.some.injEq] at h; subst h; exact ⟨Tryz.func100, by kernel_rfl⟩
 ·simp only [Option.some.injEq] at h; subst h; exact ⟨Tryz.func101, by kernel_rfl⟩
 ·simp only [Option.some.injEq] at h; subst h; exact ⟨Tryz.func102, by kernel_rfl⟩
 ·simp only [Option.some.injEq] at h; subst h; exact ⟨Tryz.func103, by kernel_rfl⟩
 ·simp only [Option.some.injEq] at h; subst h; exact ⟨Tryz.func104, by kernel_rfl⟩
 ·simp only [Option.some.injEq] at h; subst h; exact ⟨Tryz.func105, by kernel_rfl⟩
 ·simp only [Option.some.injEq] at h; subst h; exact ⟨Tryz.func106, by kernel_rfl⟩
 ·simp only [Option.some.injEq] at h; subst h; exact ⟨Tryz.func107, by kernel_rfl⟩
 ·simp only [Option.some.injEq] at h; subst h; exact ⟨Tryz.func108, by kernel_rfl⟩
 ·simp only [Option.some.injEq] at h; subst h; exact ⟨Tryz.func109, by kernel_rfl⟩
 ·simp only [Option.some.injEq] at h; subst h; exact ⟨Tryz.func110, by kernel_rfl⟩
 ·simp only [Option.some.injEq] at h; subst h; exact ⟨Tryz.func111, by kernel_rfl⟩
 ·simp only [Option.some.injEq] at h; subst h; exact ⟨Tryz.func112, by kernel_rfl⟩
 ·simp only [Option.some.injEq] at h; subst h; exact ⟨Tryz.func113, by kernel_rfl⟩
 ·simp only [Option.some.injEq] at h; subst h; exact ⟨Tryz.func114, by kernel_rfl⟩
 ·simp only [Option.some.injEq] at h; subst h; exact ⟨Tryz.func115, by kernel_rfl⟩
 ·simp only [Option.some.injEq] at h; subst h; exact ⟨Tryz.func116, by kernel_rfl⟩
 ·simp only [Option.some.injEq] at h; subst h; exact ⟨Tryz.func117, by kernel_rfl⟩
 ·simp only [Option.some.injEq] at h; subst h; exact ⟨Tryz.func118, by kernel_rfl⟩
 ·simp only [Option.some.injEq] at h; subst h; exact ⟨Tryz.func119, by kernel_rfl⟩
 ·simp only [Option.some.injEq] at h; subst h; exact ⟨Tryz.func120, by kernel_rfl⟩
 ·simp only [Option.some.injEq] at h; subst h; exact ⟨Tryz.func121, by kernel_rfl⟩
 ·simp only [Option.some.injEq] at h; subst h; exact ⟨Tryz.func122, by kernel_rfl⟩
 ·simp only [Option.some.injEq] at h; subst h; exact ⟨Tryz.func165, by kernel_rfl⟩
 ·simp only [Option.some.injEq] at h; subst h; exact ⟨Tryz.func166, by kernel_rfl⟩
 ·simp only [Option.some.injEq] at h; subst h; exact ⟨Tryz.func167, by kernel_rfl⟩
 ·simp only [Option.some.injEq] at h; subst h; exact ⟨Tryz.func168, by kernel_rfl⟩
 ·simp only [Option.some.injEq] at h; subst h; exact ⟨Tryz.func169, by kernel_rfl⟩
 ·simp only [Option.some.injEq] at h; subst h; exact ⟨Tryz.func170, by kernel_rfl⟩
 ·simp only [Option.some.injEq] at h; subst h; exact ⟨Tryz.func171, by kernel_rfl⟩
 ·simp only [Option.some.injEq] at h; subst h; exact ⟨Tryz.func172, by kernel_rfl⟩
 ·simp only [Option.some.injEq] at h; subst h; exact ⟨Tryz.func173, by kernel_rfl⟩
 ·simp only [Option.some.injEq] at h; subst h; exact ⟨Tryz.func174, by kernel_rfl⟩
 ·simp only [Option.some.injEq] at h; subst h; exact ⟨Tryz.func175, by kernel_rfl⟩
 ·simp only [Option.some.injEq] at h; subst h; exact ⟨Tryz.func176, by kernel_rfl⟩
 ·simp only [Option.some.injEq] at h; subst h; exact ⟨Tryz.func177, by kernel_rfl⟩
 ·simp only [Option.some.injEq] at h; subst h; exact ⟨Tryz.func178, by kernel_rfl⟩
 ·simp only [Option.some.injEq] at h; subst h; exact ⟨Tryz.func179, by kernel_rfl⟩
 ·simp only [Option.some.injEq] at h; subst h; exact ⟨Tryz.func180, by kernel_rfl⟩
 ·simp only [Option.some.injEq] at h; subst h; exact ⟨Tryz.func181, by kernel_rfl⟩
 ·simp only [Option.some.injEq] at h; subst h; exact ⟨Tryz.func182, by kernel_rfl⟩
 ·simp only [Option.some.injEq] at h; subst h; exact ⟨Tryz.func183, by kernel_rfl⟩
 ·simp only [Option.some.injEq] at h; subst h; exact ⟨Tryz.func184, by kernel_rfl⟩
 ·simp only [Option.some.injEq] at h; subst h; exact ⟨Tryz.func185, by kernel_rfl⟩
 ·simp only [Option.some.injEq] at h; subst h; exact ⟨Tryz.func186, by kernel_rfl⟩
 ·simp only [Option.some.injEq] at h; subst h; exact ⟨Tryz.func187, by kernel_rfl⟩
 ·simp only [Option.some.injEq] at h; subst h; exact ⟨Tryz.func188, by kernel_rfl⟩
 ·simp only [Option.some.injEq] at h; subst h; exact ⟨Tryz.func189, by kernel_rfl⟩
 ·simp only [Option.some.injEq] at h; subst h; exact ⟨Tryz.func190, by kernel_rfl⟩
 ·simp only [Option.some.injEq] at h; subst h; exact ⟨Tryz.func191, by kernel_rfl⟩
 ·simp only [Option.some.injEq] at h; subst h; exact ⟨Tryz.func192, by kernel_rfl⟩
 ·simp only [Option.some.injEq] at h; subst h; exact ⟨Tryz.func193, by kernel_rfl⟩
 ·simp only [Option.some.injEq] at h; subst h; exact ⟨Tryz.func194, by kernel_rfl⟩
 ·simp only [Option.some.injEq] at h; subst h; exact ⟨Tryz.func204, by kernel_rfl⟩
 ·simp only [Option.some.injEq] at h; subst h; exact ⟨Tryz.func205, by kernel_rfl⟩
 ·simp only [Option.some.injEq] at h; subst h; exact ⟨Tryz.func206, by kernel_rfl⟩
 ·simp at h
end Go.Proofs.YtmhkjafcfpgikaaGreat.E
