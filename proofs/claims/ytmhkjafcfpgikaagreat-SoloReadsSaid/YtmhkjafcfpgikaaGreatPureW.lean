/- Functions of the program as plain Lean, and what they come to. Conditions: none. -/
import Derived.Test.YtmhkjafcfpgikaaGreatEwD
import Derived.KernelRfl
import Derived.Test.YtmhkjafcfpgikaaGreatPureV
import Derived.Test.YtmhkjafcfpgikaaGreatPureI
open Go Go.Ew
set_option maxRecDepth 100000
namespace Go.Proofs.YtmhkjafcfpgikaaGreat.E
/-! tables, under the names that the walk asks for -/
@[reducible] def micro_Plan.as : List Shp := T.micro_Plan.as
@[reducible] def micro_Plan.rs : List Shp := T.micro_Plan.rs
noncomputable def micro_Plan.F := T.micro_Plan.F
theorem micro_Plan.ok : PureOK Go.Proofs.Tryz.prog 61 micro_Plan.as micro_Plan.rs micro_Plan.F := T.micro_Plan.ok
@[reducible] def opcode_Decode.as : List Shp := T.opcode_Decode.as
@[reducible] def opcode_Decode.rs : List Shp := T.opcode_Decode.rs
noncomputable def opcode_Decode.F := T.opcode_Decode.F
theorem opcode_Decode.ok : PureOK Go.Proofs.Tryz.prog 102 opcode_Decode.as opcode_Decode.rs opcode_Decode.F := T.opcode_Decode.ok
@[reducible] def opcode_DecodeCB.as : List Shp := T.opcode_DecodeCB.as
@[reducible] def opcode_DecodeCB.rs : List Shp := T.opcode_DecodeCB.rs
noncomputable def opcode_DecodeCB.F := T.opcode_DecodeCB.F
theorem opcode_DecodeCB.ok : PureOK Go.Proofs.Tryz.prog 101 opcode_DecodeCB.as opcode_DecodeCB.rs opcode_DecodeCB.F := T.opcode_DecodeCB.ok
/-- the first of what is pending -/
@[reducible] def irq_First.as : List Shp := [.k (.i .u8)]
@[reducible] def irq_First.rs : List Shp := [.k (.i .i64), .k .b]
noncomputable def irq_First.F : Int × Unit → Option (Int × Bool × Unit) := I.firstF
theorem irq_First.ok : PureOK Go.Proofs.Tryz.prog 59 irq_First.as irq_First.rs irq_First.F := I.first_ok
noncomputable def tblS : FuncId → Option Func
  | 16 => some Go.Proofs.Tryz.f16
  | 18 => some Go.Proofs.Tryz.f18
  | 20 => some Go.Proofs.Tryz.f20
  | 17 => some Go.Proofs.Tryz.f17
  | 30 => some Go.Proofs.Tryz.f30
  | 32 => some Go.Proofs.Tryz.f32
  | 33 => some Go.Proofs.Tryz.f33
  | 34 => some Go.Proofs.Tryz.f34
  | 35 => some Go.Proofs.Tryz.f35
  | 36 => some Go.Proofs.Tryz.f36
  | 37 => some Go.Proofs.Tryz.f37
  | 38 => some Go.Proofs.Tryz.f38
  | 39 => some Go.Proofs.Tryz.f39
  | 40 => some Go.Proofs.Tryz.f40
  | 41 => some Go.Proofs.Tryz.f41
  | 42 => some Go.Proofs.Tryz.f42
  | 31 => some Go.Proofs.Tryz.f31
  | 60 => some Go.Proofs.Tryz.f60
  | 61 => some Go.Proofs.Tryz.f61
  | 62 => some Go.Proofs.Tryz.f62
  | 63 => some Go.Proofs.Tryz.f63
  | 64 => some Go.Proofs.Tryz.f64
  | 65 => some Go.Proofs.Tryz.f65
  | 66 => some Go.Proofs.Tryz.f66
  | 67 => some Go.Proofs.Tryz.f67
  | 68 => some Go.Proofs.Tryz.f68
  | 69 => some Go.Proofs.Tryz.f69
  | 70 => some Go.Proofs.Tryz.f70
  | 71 => some Go.Proofs.Tryz.f71
  | 72 => some Go.Proofs.Tryz.f72
  | 94 => some Go.Proofs.Tryz.f94
  | 95 => some Go.Proofs.Tryz.f95
  | 96 => some Go.Proofs.Tryz.f96
  | 97 => some Go.Proofs.Tryz.f97
  | 98 => some Go.Proofs.Tryz.f98
  | 99 => some Go.Proofs.Tryz.f99
  | 100 => some Go.Proofs.Tryz.f100
  | 101 => some Go.Proofs.Tryz.f101
  | 102 => some Go.Proofs.Tryz.f102
  | 103 => some Go.Proofs.Tryz.f103
  | 104 => some Go.Proofs.Tryz.f104
  | 105 => some Go.Proofs.Tryz.f105
  | 106 => some Go.Proofs.Tryz.f106
  | 107 => some Go.Proofs.Tryz.f107
  | 108 => some Go.Proofs.Tryz.f108
  | 109 => some Go.Proofs.Tryz.f109
  | 110 => some Go.Proofs.Tryz.f110
  | 111 => some Go.Proofs.Tryz.f111
  | 112 => some Go.Proofs.Tryz.f112
  | 113 => some Go.Proofs.Tryz.f113
  | 114 => some Go.Proofs.Tryz.f114
  | 115 => some Go.Proofs.Tryz.f115
  | 116 => some Go.Proofs.Tryz.f116
  | 117 => some Go.Proofs.Tryz.f117
  | 118 => some Go.Proofs.Tryz.f118
  | 119 => some Go.Proofs.Tryz.f119
  | 120 => some Go.Proofs.Tryz.f120
  | 121 => some Go.Proofs.Tryz.f121
  | 122 => some Go.Proofs.Tryz.f122
  | 165 => some Go.Proofs.Tryz.f165
  | 166 => some Go.Proofs.Tryz.f166
  | 167 => some Go.Proofs.Tryz.f167
  | 168 => some Go.Proofs.Tryz.f168
  | 169 => some Go.Proofs.Tryz.f169
  | 170 => some Go.Proofs.Tryz.f170
  | 171 => some Go.Proofs.Tryz.f171
  | 172 => some Go.Proofs.Tryz.f172
  | 173 => some Go.Proofs.Tryz.f173
  | 174 => some Go.Proofs.Tryz.f174
  | 175 => some Go.Proofs.Tryz.f175
  | 176 => some Go.Proofs.Tryz.f176
  | 177 => some Go.Proofs.Tryz.f177
  | 178 => some Go.Proofs.Tryz.f178
  | 179 => some Go.Proofs.Tryz.f179
  | 180 => some Go.Proofs.Tryz.f180
  | 181 => some Go.Proofs.Tryz.f181
  | 182 => some Go.Proofs.Tryz.f182
  | 183 => some Go.Proofs.Tryz.f183
  | 184 => some Go.Proofs.Tryz.f184
  | 185 => some Go.Proofs.Tryz.f185
  | 186 => some Go.Proofs.Tryz.f186
  | 187 => some Go.Proofs.Tryz.f187
  | 188 => some Go.Proofs.Tryz.f188
  | 189 => some Go.Proofs.Tryz.f189
  | 190 => some Go.Proofs.Tryz.f190
  | 191 => some Go.Proofs.Tryz.f191
  | 192 => some Go.Proofs.Tryz.f192
  | 193 => some Go.Proofs.Tryz.f193
  | 194 => some Go.Proofs.Tryz.f194
  | 204 => some Go.Proofs.Tryz.f204
  | 205 => some Go.Proofs.Tryz.f205
  | 206 => some Go.Proofs.Tryz.f206
  | _ => none
theorem tblS_ok : TblOK Go.Proofs.Tryz.prog tblS := by
  intro g fn h
  unfold tblS at h
  split at h
  · simp only [Option.some.injEq] at h; subst h; exact ⟨Go.Proofs.Tryz.func16, by kernel_rfl⟩
  · simp only [Option.some.injEq] at h; subst h; exact ⟨Go.Proofs.Tryz.func18, by kernel_rfl⟩
  · simp only [Option.some.injEq] at h; subst h; exact ⟨Go.Proofs.Tryz.func20, by kernel_rfl⟩
  · simp only [Option.some.injEq] at h; subst h; exact ⟨Go.Proofs.Tryz.func17, by kernel_rfl⟩
  · simp only [Option.some.injEq] at h; subst h; exact ⟨Go.Proofs.Tryz.func30, by kernel_rfl⟩
  · simp only [Option.some.injEq] at h; subst h; exact ⟨Go.Proofs.Tryz.func32, by kernel_rfl⟩
  · simp only [Option.some.injEq] at h; subst h; exact ⟨Go.Proofs.Tryz.func33, by kernel_rfl⟩
  · simp only [Option.some.injEq] at h; subst h; exact ⟨Go.Proofs.Tryz.func34, by kernel_rfl⟩
  · simp only [Option.some.injEq] at h; subst h; exact ⟨Go.Proofs.Tryz.func35, by kernel_rfl⟩
  · simp only [Option.some.injEq] at h; subst h; exact ⟨Go.Proofs.Tryz.func36, by kernel_rfl⟩
  · simp only [Option.some.injEq] at h; subst h; exact ⟨Go.Proofs.Tryz.func37, by kernel_rfl⟩
  · simp only [Option.some.injEq] at h; subst h; exact ⟨Go.Proofs.Tryz.func38, by kernel_rfl⟩
  · simp only [Option.some.injEq] at h; subst h; exact ⟨Go.Proofs.Tryz.func39, by kernel_rfl⟩
  · simp only [Option.some.injEq] at h; subst h; exact ⟨Go.Proofs.Tryz.func40, by kernel_rfl⟩
  · simp only [Option.some.injEq] at h; subst h; exact ⟨Go.Proofs.Tryz.func41, by kernel_rfl⟩
  · simp only [Option.some.injEq] at h; subst h; exact ⟨Go.Proofs.Tryz.func42, by kernel_rfl⟩
  · simp only [Option.some.injEq] at h; subst h; exact ⟨Go.Proofs.Tryz.func31, by kernel_rfl⟩
  · simp only [Option.some.injEq] at h; subst h; exact ⟨Go.Proofs.Tryz.func60, by kernel_rfl⟩
  · simp only [Option.some.injEq] at h; subst h; exact ⟨Go.Proofs.Tryz.func61, by kernel_rfl⟩
  · simp only [Option.some.injEq] at h; subst h; exact ⟨Go.Proofs.Tryz.func62, by kernel_rfl⟩
  · simp only [Option.some.injEq] at h; subst h; exact ⟨Go.Proofs.Tryz.func63, by kernel_rfl⟩
  · simp only [Option.some.injEq] at h; subst h; exact ⟨Go.Proofs.Tryz.func64, by kernel_rfl⟩
  · simp only [Option.some.injEq] at h; subst h; exact ⟨Go.Proofs.Tryz.func65, by kernel_rfl⟩
  · simp only [Option.some.injEq] at h; subst h; exact ⟨Go.Proofs.Tryz.func66, by kernel_rfl⟩
  · simp only [Option.some.injEq] at h; subst h; exact ⟨Go.Proofs.Tryz.func67, by kernel_rfl⟩
  · simp only [Option.some.injEq] at h; subst h; exact ⟨Go.Proofs.Tryz.func68, by kernel_rfl⟩
  · simp only [Option.some.injEq] at h; subst h; exact ⟨Go.Proofs.Tryz.func69, by kernel_rfl⟩
  · simp only [Option.some.injEq] at h; subst h; exact ⟨Go.Proofs.Tryz.func70, by kernel_rfl⟩
  · simp only [Option.some.injEq] at h; subst h; exact ⟨Go.Proofs.Tryz.func71, by kernel_rfl⟩
  · simp only [Option.some.injEq] at h; subst h; exact ⟨Go.Proofs.Tryz.func72, by kernel_rfl⟩
  · simp only [Option.some.injEq] at h; subst h; exact ⟨Go.Proofs.Tryz.func94, by kernel_rfl⟩
  · simp only [Option.some.injEq] at h; subst h; exact ⟨Go.Proofs.Tryz.func95, by kernel_rfl⟩
  · simp only [Option.some.injEq] at h; subst h; exact ⟨Go.Proofs.Tryz.func96, by kernel_rfl⟩
  · simp only [Option.some.injEq] at h; subst h; exact ⟨Go.Proofs.Tryz.func97, by kernel_rfl⟩
  · simp only [Option.some.injEq] at h; subst h; exact ⟨Go.Proofs.Tryz.func98, by kernel_rfl⟩
  · simp only [Option.some.injEq] at h; subst h; exact ⟨Go.Proofs.Tryz.func99, by kernel_rfl⟩
  · simp only [Option.some.injEq] at h; subst h; exact ⟨Go.Proofs.Tryz.func100, by kernel_rfl⟩
  · simp only [Option.some.injEq] at h; subst h; exact ⟨Go.Proofs.Tryz.func101, by kernel_rfl⟩
  · simp only [Option.some.injEq] at h; subst h; exact ⟨Go.Proofs.Tryz.func102, by kernel_rfl⟩
  · simp only [Option.some.injEq] at h; subst h; exact ⟨Go.Proofs.Tryz.func103, by kernel_rfl⟩
  · simp only [Option.some.injEq] at h; subst h; exact ⟨Go.Proofs.Tryz.func104, by kernel_rfl⟩
  · simp only [Option.some.injEq] at h; subst h; exact ⟨Go.Proofs.Tryz.func105, by kernel_rfl⟩
  · simp only [Option.some.injEq] at h; subst h; exact ⟨Go.Proofs.Tryz.func106, by kernel_rfl⟩
  · simp only [Option.some.injEq] at h; subst h; exact ⟨Go.Proofs.Tryz.func107, by kernel_rfl⟩
  · simp only [Option.some.injEq] at h; subst h; exact ⟨Go.Proofs.Tryz.func108, by kernel_rfl⟩
  · simp only [Option.some.injEq] at h; subst h; exact ⟨Go.Proofs.Tryz.func109, by kernel_rfl⟩
  · simp only [Option.some.injEq] at h; subst h; exact ⟨Go.Proofs.Tryz.func110, by kernel_rfl⟩
  · simp only [Option.some.injEq] at h; subst h; exact ⟨Go.Proofs.Tryz.func111, by kernel_rfl⟩
  · simp only [Option.some.injEq] at h; subst h; exact ⟨Go.Proofs.Tryz.func112, by kernel_rfl⟩
  · simp only [Option.some.injEq] at h; subst h; exact ⟨Go.Proofs.Tryz.func113, by kernel_rfl⟩
  · simp only [Option.some.injEq] at h; subst h; exact ⟨Go.Proofs.Tryz.func114, by kernel_rfl⟩
  · simp only [Option.some.injEq] at h; subst h; exact ⟨Go.Proofs.Tryz.func115, by kernel_rfl⟩
  · simp only [Option.some.injEq] at h; subst h; exact ⟨Go.Proofs.Tryz.func116, by kernel_rfl⟩
  · simp only [Option.some.injEq] at h; subst h; exact ⟨Go.Proofs.Tryz.func117, by kernel_rfl⟩
  · simp only [Option.some.injEq] at h; subst h; exact ⟨Go.Proofs.Tryz.func118, by kernel_rfl⟩
  · simp only [Option.some.injEq] at h; subst h; exact ⟨Go.Proofs.Tryz.func119, by kernel_rfl⟩
  · simp only [Option.some.injEq] at h; subst h; exact ⟨Go.Proofs.Tryz.func120, by kernel_rfl⟩
  · simp only [Option.some.injEq] at h; subst h; exact ⟨Go.Proofs.Tryz.func121, by kernel_rfl⟩
  · simp only [Option.some.injEq] at h; subst h; exact ⟨Go.Proofs.Tryz.func122, by kernel_rfl⟩
  · simp only [Option.some.injEq] at h; subst h; exact ⟨Go.Proofs.Tryz.func165, by kernel_rfl⟩
  · simp only [Option.some.injEq] at h; subst h; exact ⟨Go.Proofs.Tryz.func166, by kernel_rfl⟩
  · simp only [Option.some.injEq] at h; subst h; exact ⟨Go.Proofs.Tryz.func167, by kernel_rfl⟩
  · simp only [Option.some.injEq] at h; subst h; exact ⟨Go.Proofs.Tryz.func168, by kernel_rfl⟩
  · simp only [Option.some.injEq] at h; subst h; exact ⟨Go.Proofs.Tryz.func169, by kernel_rfl⟩
  · simp only [Option.some.injEq] at h; subst h; exact ⟨Go.Proofs.Tryz.func170, by kernel_rfl⟩
  · simp only [Option.some.injEq] at h; subst h; exact ⟨Go.Proofs.Tryz.func171, by kernel_rfl⟩
  · simp only [Option.some.injEq] at h; subst h; exact ⟨Go.Proofs.Tryz.func172, by kernel_rfl⟩
  · simp only [Option.some.injEq] at h; subst h; exact ⟨Go.Proofs.Tryz.func173, by kernel_rfl⟩
  · simp only [Option.some.injEq] at h; subst h; exact ⟨Go.Proofs.Tryz.func174, by kernel_rfl⟩
  · simp only [Option.some.injEq] at h; subst h; exact ⟨Go.Proofs.Tryz.func175, by kernel_rfl⟩
  · simp only [Option.some.injEq] at h; subst h; exact ⟨Go.Proofs.Tryz.func176, by kernel_rfl⟩
  · simp only [Option.some.injEq] at h; subst h; exact ⟨Go.Proofs.Tryz.func177, by kernel_rfl⟩
  · simp only [Option.some.injEq] at h; subst h; exact ⟨Go.Proofs.Tryz.func178, by kernel_rfl⟩
  · simp only [Option.some.injEq] at h; subst h; exact ⟨Go.Proofs.Tryz.func179, by kernel_rfl⟩
  · simp only [Option.some.injEq] at h; subst h; exact ⟨Go.Proofs.Tryz.func180, by kernel_rfl⟩
  · simp only [Option.some.injEq] at h; subst h; exact ⟨Go.Proofs.Tryz.func181, by kernel_rfl⟩
  · simp only [Option.some.injEq] at h; subst h; exact ⟨Go.Proofs.Tryz.func182, by kernel_rfl⟩
  · simp only [Option.some.injEq] at h; subst h; exact ⟨Go.Proofs.Tryz.func183, by kernel_rfl⟩
  · simp only [Option.some.injEq] at h; subst h; exact ⟨Go.Proofs.Tryz.func184, by kernel_rfl⟩
  · simp only [Option.some.injEq] at h; subst h; exact ⟨Go.Proofs.Tryz.func185, by kernel_rfl⟩
  · simp only [Option.some.injEq] at h; subst h; exact ⟨Go.Proofs.Tryz.func186, by kernel_rfl⟩
  · simp only [Option.some.injEq] at h; subst h; exact ⟨Go.Proofs.Tryz.func187, by kernel_rfl⟩
  · simp only [Option.some.injEq] at h; subst h; exact ⟨Go.Proofs.Tryz.func188, by kernel_rfl⟩
  · simp only [Option.some.injEq] at h; subst h; exact ⟨Go.Proofs.Tryz.func189, by kernel_rfl⟩
  · simp only [Option.some.injEq] at h; subst h; exact ⟨Go.Proofs.Tryz.func190, by kernel_rfl⟩
  · simp only [Option.some.injEq] at h; subst h; exact ⟨Go.Proofs.Tryz.func191, by kernel_rfl⟩
  · simp only [Option.some.injEq] at h; subst h; exact ⟨Go.Proofs.Tryz.func192, by kernel_rfl⟩
  · simp only [Option.some.injEq] at h; subst h; exact ⟨Go.Proofs.Tryz.func193, by kernel_rfl⟩
  · simp only [Option.some.injEq] at h; subst h; exact ⟨Go.Proofs.Tryz.func194, by kernel_rfl⟩
  · simp only [Option.some.injEq] at h; subst h; exact ⟨Go.Proofs.Tryz.func204, by kernel_rfl⟩
  · simp only [Option.some.injEq] at h; subst h; exact ⟨Go.Proofs.Tryz.func205, by kernel_rfl⟩
  · simp only [Option.some.injEq] at h; subst h; exact ⟨Go.Proofs.Tryz.func206, by kernel_rfl⟩
  · simp at h
end Go.Proofs.YtmhkjafcfpgikaaGreat.E
