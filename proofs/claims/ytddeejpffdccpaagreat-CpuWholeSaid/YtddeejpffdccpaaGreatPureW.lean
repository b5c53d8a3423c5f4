/- Functions of the program as plain Lean, and what they come to. Conditions: none. -/
import Derived.Test.YtddeejpffdccpaaGreatEwD
import Derived.KernelRfl
import Derived.Test.YtddeejpffdccpaaGreatPureV
import Derived.Test.YtddeejpffdccpaaGreatPureI
open Go Go.Ew
set_option maxRecDepth 100000
namespace Go.Proofs.YtddeejpffdccpaaGreat.E
/-! tables, under the names that the walk asks for -/
@[reducible] def micro_Plan.as : List Shp := T.micro_Plan.as
@[reducible] def micro_Plan.rs : List Shp := T.micro_Plan.rs
noncomputable def micro_Plan.F := T.micro_Plan.F
theorem micro_Plan.ok : PureOK Tryz.prog 51 micro_Plan.as micro_Plan.rs micro_Plan.F := T.micro_Plan.ok
@[reducible] def ref21_Plan.as : List Shp := T.ref21_Plan.as
@[reducible] def ref21_Plan.rs : List Shp := T.ref21_Plan.rs
noncomputable def ref21_Plan.F := T.ref21_Plan.F
theorem ref21_Plan.ok : PureOK Tryz.prog 47 ref21_Plan.as ref21_Plan.rs ref21_Plan.F := T.ref21_Plan.ok
@[reducible] def opcode_Decode.as : List Shp := T.opcode_Decode.as
@[reducible] def opcode_Decode.rs : List Shp := T.opcode_Decode.rs
noncomputable def opcode_Decode.F := T.opcode_Decode.F
theorem opcode_Decode.ok : PureOK Tryz.prog 117 opcode_Decode.as opcode_Decode.rs opcode_Decode.F := T.opcode_Decode.ok
@[reducible] def opcode_DecodeCB.as : List Shp := T.opcode_DecodeCB.as
@[reducible] def opcode_DecodeCB.rs : List Shp := T.opcode_DecodeCB.rs
noncomputable def opcode_DecodeCB.F := T.opcode_DecodeCB.F
theorem opcode_DecodeCB.ok : PureOK Tryz.prog 116 opcode_DecodeCB.as opcode_DecodeCB.rs opcode_DecodeCB.F := T.opcode_DecodeCB.ok
@[reducible] def ref05_Decode.as : List Shp := T.ref05_Decode.as
@[reducible] def ref05_Decode.rs : List Shp := T.ref05_Decode.rs
noncomputable def ref05_Decode.F := T.ref05_Decode.F
theorem ref05_Decode.ok : PureOK Tryz.prog 71 ref05_Decode.as ref05_Decode.rs ref05_Decode.F := T.ref05_Decode.ok
@[reducible] def ref05_DecodeCB.as : List Shp := T.ref05_DecodeCB.as
@[reducible] def ref05_DecodeCB.rs : List Shp := T.ref05_DecodeCB.rs
noncomputable def ref05_DecodeCB.F := T.ref05_DecodeCB.F
theorem ref05_DecodeCB.ok : PureOK Tryz.prog 70 ref05_DecodeCB.as ref05_DecodeCB.rs ref05_DecodeCB.F := T.ref05_DecodeCB.ok
@[reducible] def irq_First.as : List Shp := [.k (.i .u8)]
@[reducible] def irq_First.rs : List Shp := [.k (.i .i64), .k .b]
noncomputable def irq_First.F : Int × Unit → Option (Int × Bool × Unit) := I.firstF
theorem irq_First.ok : PureOK Tryz.prog 49 irq_First.as irq_First.rs irq_First.F := I.first_ok
noncomputable def tblS : FuncId → Option Func
 | 8 => some Tryz.f8
 | 10 => some Tryz.f10
 | 12 => some Tryz.f12
 | 17 => some Tryz.f17
 | 18 => some Tryz.f18
 | 21 => some Tryz.f21
 | 22 => some Tryz.f22
 | 23 => some Tryz.f23
 | 24 => some Tryz.f24
 | 25 => some Tryz.f25
 | 26 => some Tryz.f26
 | 32 => some Tryz.f32
 | 33 => some Tryz.f33
 | 34 => some Tryz.f34
 | 35 => some Tryz.f35
 | 36 => some Tryz.f36
 | 46 => some Tryz.f46
 | 50 => some Tryz.f50
 | 51 => some Tryz.f51
 | 52 => some Tryz.f52
 | 53 => some Tryz.f53
 | 54 => some Tryz.f54
 | 55 => some Tryz.f55
 | 56 => some Tryz.f56
 | 57 => some Tryz.f57
 | 64 => some Tryz.f64
 | 65 => some Tryz.f65
 | 66 => some Tryz.f66
 | 67 => some Tryz.f67
 | 68 => some Tryz.f68
 | 109 => some Tryz.f109
 | 110 => some Tryz.f110
 | 111 => some Tryz.f111
 | 112 => some Tryz.f112
 | 113 => some Tryz.f113
 | 114 => some Tryz.f114
 | 115 => some Tryz.f115
 | 116 => some Tryz.f116
 | 117 => some Tryz.f117
 | 118 => some Tryz.f118
 | 119 => some Tryz.f119
 | 120 => some Tryz.f120
 | 121 => some Tryz.f121
 | 122 => some Tryz.f122
 | 123 => some Tryz.f123
 | 124 => some Tryz.f124
 | 128 => some Tryz.f128
 | 129 => some Tryz.f129
 | 130 => some Tryz.f130
 | 131 => some Tryz.f131
 | 132 => some Tryz.f132
 | 133 => some Tryz.f133
 | 134 => some Tryz.f134
 | 135 => some Tryz.f135
 | 136 => some Tryz.f136
 | 137 => some Tryz.f137
 | 138 => some Tryz.f138
 | 139 => some Tryz.f139
 | 140 => some Tryz.f140
 | 156 => some Tryz.f156
 | 157 => some Tryz.f157
 | 158 => some Tryz.f158
 | 159 => some Tryz.f159
 | 160 => some Tryz.f160
 | 161 => some Tryz.f161
 | 162 => some Tryz.f162
 | 163 => some Tryz.f163
 | 164 => some Tryz.f164
 | 165 => some Tryz.f165
 | 166 => some Tryz.f166
 | 167 => some Tryz.f167
 | 168 => some Tryz.f168
 | 169 => some Tryz.f169
 | 170 => some Tryz.f170
 | 171 => some Tryz.f171
 | 172 => some Tryz.f172
 | 173 => some Tryz.f173
 | 174 => some Tryz.f174
 | 175 => some Tryz.f175
 | 176 => some Tryz.f176
 | 177 => some Tryz.f177
 | 178 => some Tryz.f178
 | 180 => some Tryz.f180
 | 181 => some Tryz.f181
 | 182 => some Tryz.f182
 | 183 => some Tryz.f183
 | 184 => some Tryz.f184
 | 185 => some Tryz.f185
 | 186 => some Tryz.f186
 | 189 => some Tryz.f189
 | 190 => some Tryz.f190
 | 191 => some Tryz.f191
 | _ => none
theorem tblS_ok : TblOK Tryz.prog tblS := by
 intro g fn h
 unfold tblS at h
 split at h
 ·simp only [Option.some.injEq] at h; subst h; exact ⟨Tryz.func8, by kernel_rfl⟩
 ·simp only [Option.some.injEq] at h; subst h; exact ⟨Tryz.func10, by kernel_rfl⟩
 ·simp only [Option.some.injEq] at h; subst h; exact ⟨Tryz.func12, by kernel_rfl⟩
 ·simp only [Option.some.injEq] at h; subst h; exact ⟨Tryz.func17, by kernel_rfl⟩
 ·simp only [Option.some.injEq] at h; subst h; exact ⟨Tryz.func18, by kernel_rfl⟩
 ·simp only [Option.some.injEq] at h; subst h; exact ⟨Tryz.func21, by kernel_rfl⟩
 ·simp only [Option.some.injEq] at h; subst h; exact ⟨Tryz.func22, by kernel_rfl⟩
 ·simp only [Option.some.injEq] at h; subst h; exact ⟨Tryz.func23, by kernel_rfl⟩
 ·simp only [Option.some.injEq] at h; subst h; exact ⟨Tryz.func24, by kernel_rfl⟩
 ·simp only [Option.some.injEq] at h; subst h; exact ⟨Tryz.func25, by kernel_rfl⟩
 ·simp only [Option.some.injEq] at h; subst h; exact ⟨Tryz.func26, by kernel_rfl⟩
 ·simp only [Option.some.injEq] at h; subst h; exact ⟨Tryz.func32, by kernel_rfl⟩
 ·simp only [Option.some.injEq] at h; subst h; exact ⟨Tryz.func33, by kernel_rfl⟩
 ·simp only [Option.some.injEq] at h; subst h; exact ⟨Tryz.func34, by kernel_rfl⟩
 ·simp only [Option.some.injEq] at h; subst h; exact ⟨Tryz.func35, by kernel_rfl⟩
 ·simp only [Option.some.injEq] at h; subst h; exact ⟨Tryz.func36, by kernel_rfl⟩
 ·simp only [Option.some.injEq] at h; subst h; exact ⟨Tryz.func46, by kernel_rfl⟩
 ·simp only [Option.some.injEq] at h; subst h; exact ⟨Tryz.func50, by kernel_rfl⟩
 ·simp only [Option.some.injEq] at h; subst h; exact ⟨Tryz.func51, by kernel_rfl⟩
 ·simp only [Option.some.injEq] at h; subst h; exact ⟨Tryz.func52, by kernel_rfl⟩
 ·simp only [Option.some.injEq] at h; subst h; exact ⟨Tryz.func53, by kernel_rfl⟩
 ·simp only [Option.some.injEq] at h; subst h; exact ⟨Tryz.func54, by kernel_rfl⟩
 ·simp only [Option.some.injEq] at h; subst h; exact ⟨Tryz.func55, by kernel_rfl⟩
 ·simp only [Option.some.injEq] at h; subst h; exact ⟨Tryz.func56, by kernel_rfl⟩
 ·simp only [Option.some.injEq] at h; subst h; exact ⟨Tryz.func57, by kernel_rfl⟩
 ·simp only [Option.some.injEq] at h; subst h; exact ⟨Tryz.func64, by kernel_rfl⟩
 ·simp only [Option.some.injEq] at h; subst h; exact ⟨Tryz.func65, by kernel_rfl⟩
 ·simp only [Option.some.injEq] at h; subst h; exact ⟨Tryz.func66, by kernel_rfl⟩
 ·simp only [Option.some.injEq] at h; subst h; exact ⟨Tryz.func67, by kernel_rfl⟩
 ·simp only [Option.some.injEq] at h; subst h; exact ⟨Tryz.func68, by kernel_rfl⟩
 ·simp only [Option.some.injEq] at h; subst h; exact ⟨Tryz.func109, by kernel_rfl⟩
 ·simp only [Option.some.injEq] at h; subst h; exact ⟨Tryz.func110, by kernel_rfl⟩
 ·simp only [Option.some.injEq] at h; subst h; exact ⟨Tryz.func111, by kernel_rfl⟩
 ·simp only [Option.some.injEq] at h; subst h; exact ⟨Tryz.func112, by kernel_rfl⟩
 ·simp only [Option.some.injEq] at h; subst h; exact ⟨Tryz.func113, by kernel_rfl⟩
 ·simp only [Option.some.injEq] at h; subst h; exact ⟨Tryz.func114, by kernel_rfl⟩
 ·simp only [Option.some.injEq] at h; subst h; exact ⟨Tryz.func115, by kernel_rfl⟩
 ·simp only [Option.some.injEq] at h; subst h; exact ⟨Tryz.func116, by kernel_rfl⟩
 ·simp only [Option.some.injEq] at h; subst h; exact ⟨Tryz.func117, by kernel_rfl⟩
 ·simp only [Option.some.injEq] at h; subst h; exact ⟨Tryz.func118, by kernel_rfl⟩
 ·simp only [Option.some.injEq] at h; subst h; exact ⟨Tryz.func119, by kernel_rfl⟩
 ·simp only [Option.some.injEq] at h; subst h; exact ⟨Tryz.func120, by kernel_rfl⟩
 ·simp only [Option.some.injEq] at h; subst h; exact ⟨Tryz.func121, by kernel_rfl⟩
 ·simp only [Option.some.injEq] at h; subst h; exact ⟨Tryz.func122, by kernel_rfl⟩
 ·simp only [Option.some.injEq] at h; subst h; exact ⟨Tryz.func123, by kernel_rfl⟩
 ·simp only [Option.some.injEq] at h; subst h; exact ⟨Tryz.func124, by kernel_rfl⟩
 ·simp only [Option.some.injEq] at h; subst h; exact ⟨Tryz.func128, by kernel_rfl⟩
 ·simp only [Option.some.injEq] at h; subst h; exact ⟨Tryz.func129, by kernel_rfl⟩
 ·simp only [Option.some.injEq] at h; subst h; exact ⟨Tryz.func130, by kernel_rfl⟩
 ·simp only [Option.some.injEq] at h; subst h; exact ⟨Tryz.func131, by kernel_rfl⟩
 ·simp only [Option.some.injEq] at h; subst h; exact ⟨Tryz.func132, by kernel_rfl⟩
 ·simp only [Option.some.injEq] at h; subst h; exact ⟨Tryz.func133, by kernel_rfl⟩
 ·simp only [Option.some.injEq] at h; subst h; exact ⟨Tryz.func134, by kernel_rfl⟩
 ·simp only [Option.some.injEq] at h; subst h; exact ⟨Tryz.func135, by kernel_rfl⟩
 ·simp only [Option.some.injEq] at h; subst h; exact ⟨Tryz.func136, by kernel_rfl⟩
 ·simp only [Option.some.injEq] at h; subst h; exact ⟨Tryz.func137, by kernel_rfl⟩
 ·simp only [Option.some.injEq] at h; subst h; exact ⟨Tryz.func138, by kernel_rfl⟩
 ·simp only [Option.some.injEq] at h; subst h; exact ⟨Tryz.func139, by kernel_rfl⟩
 ·simp only [Option.some.injEq] at h; subst h; exact ⟨Tryz.func140, by kernel_rfl⟩
 ·simp only [Option.some.injEq] at h; subst h; exact ⟨Tryz.func156, by kernel_rfl⟩
 ·simp only [Option.some.injEq] at h; subst h; exact ⟨Tryz.func157, by kernel_rfl⟩
 ·simp only [Option.some.injEq] at h; subst h; exact ⟨Tryz.func158, by kernel_rfl⟩
 ·simp only [Option.some.injEq] at h; subst h; exact ⟨Tryz.func159, by kernel_rfl⟩
 ·simp only [Option.some.injEq] at h; subst h; exact ⟨Tryz.func160, by kernel_rfl⟩
 ·simp only [Option.some.injEq] at h; subst h; exact ⟨Tryz.func161, by kernel_rfl⟩
 ·simp only [Option.some.injEq] at h; subst h; exact ⟨Tryz.func162, by kernel_rfl⟩
 ·simp only [Option.some.injEq] at h; subst h; exact ⟨Tryz.func163, by kernel_rfl⟩
 ·simp only [Option.some.injEq] at h; subst h; exact ⟨Tryz.func164, by kernel_rfl⟩
 ·simp only [Option.some.injEq] at h; subst h; exact ⟨Tryz.func165, by kernel_rfl⟩
 ·simp only [Option.some.injEq] at h; subst h; exact ⟨Tryz.func166, by kernel_rfl⟩
 ·simp only [Option.some.injEq] at h; subst h; exact ⟨Tryz.func167, by kernel_rfl⟩
 ·simp only [Option.some.injEq] at h; subst h; exact ⟨Tryz.func168, by kernel_rfl⟩
 ·simp only [Option.some.injEq] at h; subst h; exact ⟨Tryz.func169, by kernel_rfl⟩
 ·simp only [Option.some.injEq] at h; subst h; exact ⟨Tryz.func170, by kernel_rfl⟩
 ·simp only [Option.some.injEq] at h; subst h; exact ⟨Tryz.func171, by kernel_rfl⟩
 ·simp only [Option.some.injEq] at h; subst h; exact ⟨Tryz.func172, by kernel_rfl⟩
 ·simp only [Option.some.injEq] at h; subst h; exact ⟨Tryz.func173, by kernel_rfl⟩
 ·simp only [Option.some.injEq] at h; subst h; exact ⟨Tryz.func174, by kernel_rfl⟩
 ·simp only [Option.some.injEq] at h; subst h; exact ⟨Tryz.func175, by kernel_rfl⟩
 ·simp only [Option.some.injEq] at h; subst h; exact ⟨Tryz.func176, by kernel_rfl⟩
 ·simp only [Option.some.injEq] at h; subst h; exact ⟨Tryz.func177, by kernel_rfl⟩
 ·simp only [Option.some.injEq] at h; subst h; exact ⟨Tryz.func178, by kernel_rfl⟩
 ·simp only [Option.some.injEq] at h; subst h; exact ⟨Tryz.func180, by kernel_rfl⟩
 ·simp only [Option.some.injEq] at h; subst h; exact ⟨Tryz.func181, by kernel_rfl⟩
 ·simp only [Option.some.injEq] at h; subst h; exact ⟨Tryz.func182, by kernel_rfl⟩
 ·simp only [Option.some.injEq] at h; subst h; exact ⟨Tryz.func183, by kernel_rfl⟩
 ·simp only [Option.some.injEq] at h; subst h; exact ⟨Tryz.func184, by kernel_rfl⟩
 ·simp only [Option.some.injEq] at h; subst h; exact ⟨Tryz.func185, by kernel_rfl⟩
 ·simp only [Option.some.injEq] at h; subst h; exact ⟨Tryz.func186, by kernel_rfl⟩
 ·simp only [Option.some.injEq] at h; subst h; exact ⟨Tryz.func189, by kernel_rfl⟩
 ·simp only [Option.some.injEq] at h; subst h; exact ⟨Tryz.func190, by kernel_rfl⟩
 ·simp only [Option.some.injEq] at h; subst h; exact ⟨Tryz.func191, by kernel_rfl⟩
 ·simp at h
end Go.Proofs.YtddeejpffdccpaaGreat.E
