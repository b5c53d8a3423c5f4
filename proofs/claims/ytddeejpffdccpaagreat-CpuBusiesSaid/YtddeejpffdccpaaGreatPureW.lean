/- Functions of the program as plain Lean, and what they come to. Conditions: none. -/
import Derived.Test.YtddeejpffdccpaaGreatEwD
import Derived.KernelRfl
import Derived.Test.YtddeejpffdccpaaGreatPureV
import Derived.Test.YtddeejpffdccpaaGreatPureI
open Go Go.Ew
set_option maxRecDepth 100000
namespace Go.Proofs.YtddeejpffdccpaaGreat.E
/-! tables, under the names that the walk asks for -/
@[reducible] def micro_Plan.as : List Shp := T.micro_Plan.as
@[reducible] def micro_Plan.rs : List Shp := T.micro_Plan.rs
noncomputable def micro_Plan.F := T.micro_Plan.F
theorem micro_Plan.ok : PureOK Go.Proofs.Tryz.prog 51 micro_Plan.as micro_Plan.rs micro_Plan.F := T.micro_Plan.ok
@[reducible] def ref21_Plan.as : List Shp := T.ref21_Plan.as
@[reducible] def ref21_Plan.rs : List Shp := T.ref21_Plan.rs
noncomputable def ref21_Plan.F := T.ref21_Plan.F
theorem ref21_Plan.ok : PureOK Go.Proofs.Tryz.prog 47 ref21_Plan.as ref21_Plan.rs ref21_Plan.F := T.ref21_Plan.ok
@[reducible] def opcode_Decode.as : List Shp := T.opcode_Decode.as
@[reducible] def opcode_Decode.rs : List Shp := T.opcode_Decode.rs
noncomputable def opcode_Decode.F := T.opcode_Decode.F
theorem opcode_Decode.ok : PureOK Go.Proofs.Tryz.prog 117 opcode_Decode.as opcode_Decode.rs opcode_Decode.F := T.opcode_Decode.ok
@[reducible] def opcode_DecodeCB.as : List Shp := T.opcode_DecodeCB.as
@[reducible] def opcode_DecodeCB.rs : List Shp := T.opcode_DecodeCB.rs
noncomputable def opcode_DecodeCB.F := T.opcode_DecodeCB.F
theorem opcode_DecodeCB.ok : PureOK Go.Proofs.Tryz.prog 116 opcode_DecodeCB.as opcode_DecodeCB.rs opcode_DecodeCB.F := T.opcode_DecodeCB.ok
@[reducible] def ref05_Decode.as : List Shp := T.ref05_Decode.as
@[reducible] def ref05_Decode.rs : List Shp := T.ref05_Decode.rs
noncomputable def ref05_Decode.F := T.ref05_Decode.F
theorem ref05_Decode.ok : PureOK Go.Proofs.Tryz.prog 71 ref05_Decode.as ref05_Decode.rs ref05_Decode.F := T.ref05_Decode.ok
@[reducible] def ref05_DecodeCB.as : List Shp := T.ref05_DecodeCB.as
@[reducible] def ref05_DecodeCB.rs : List Shp := T.ref05_DecodeCB.rs
noncomputable def ref05_DecodeCB.F := T.ref05_DecodeCB.F
theorem ref05_DecodeCB.ok : PureOK Go.Proofs.Tryz.prog 70 ref05_DecodeCB.as ref05_DecodeCB.rs ref05_DecodeCB.F := T.ref05_DecodeCB.ok
/-- the first of what is pending -/
@[reducible] def irq_First.as : List Shp := [.k (.i .u8)]
@[reducible] def irq_First.rs : List Shp := [.k (.i .i64), .k .b]
noncomputable def irq_First.F : Int × Unit → Option (Int × Bool × Unit) := I.firstF
theorem irq_First.ok : PureOK Go.Proofs.Tryz.prog 49 irq_First.as irq_First.rs irq_First.F := I.first_ok
noncomputable def tblS : FuncId → Option Func
  | 7 => some Go.Proofs.Tryz.f7
  | 8 => some Go.Proofs.Tryz.f8
  | 10 => some Go.Proofs.Tryz.f10
  | 12 => some Go.Proofs.Tryz.f12
  | 17 => some Go.Proofs.Tryz.f17
  | 18 => some Go.Proofs.Tryz.f18
  | 21 => some Go.Proofs.Tryz.f21
  | 22 => some Go.Proofs.Tryz.f22
  | 23 => some Go.Proofs.Tryz.f23
  | 24 => some Go.Proofs.Tryz.f24
  | 25 => some Go.Proofs.Tryz.f25
  | 26 => some Go.Proofs.Tryz.f26
  | 32 => some Go.Proofs.Tryz.f32
  | 33 => some Go.Proofs.Tryz.f33
  | 34 => some Go.Proofs.Tryz.f34
  | 35 => some Go.Proofs.Tryz.f35
  | 36 => some Go.Proofs.Tryz.f36
  | 46 => some Go.Proofs.Tryz.f46
  | 50 => some Go.Proofs.Tryz.f50
  | 51 => some Go.Proofs.Tryz.f51
  | 52 => some Go.Proofs.Tryz.f52
  | 53 => some Go.Proofs.Tryz.f53
  | 54 => some Go.Proofs.Tryz.f54
  | 55 => some Go.Proofs.Tryz.f55
  | 56 => some Go.Proofs.Tryz.f56
  | 57 => some Go.Proofs.Tryz.f57
  | 64 => some Go.Proofs.Tryz.f64
  | 65 => some Go.Proofs.Tryz.f65
  | 66 => some Go.Proofs.Tryz.f66
  | 67 => some Go.Proofs.Tryz.f67
  | 68 => some Go.Proofs.Tryz.f68
  | 109 => some Go.Proofs.Tryz.f109
  | 110 => some Go.Proofs.Tryz.f110
  | 111 => some Go.Proofs.Tryz.f111
  | 112 => some Go.Proofs.Tryz.f112
  | 113 => some Go.Proofs.Tryz.f113
  | 114 => some Go.Proofs.Tryz.f114
  | 115 => some Go.Proofs.Tryz.f115
  | 116 => some Go.Proofs.Tryz.f116
  | 117 => some Go.Proofs.Tryz.f117
  | 118 => some Go.Proofs.Tryz.f118
  | 119 => some Go.Proofs.Tryz.f119
  | 120 => some Go.Proofs.Tryz.f120
  | 121 => some Go.Proofs.Tryz.f121
  | 122 => some Go.Proofs.Tryz.f122
  | 123 => some Go.Proofs.Tryz.f123
  | 124 => some Go.Proofs.Tryz.f124
  | 128 => some Go.Proofs.Tryz.f128
  | 129 => some Go.Proofs.Tryz.f129
  | 130 => some Go.Proofs.Tryz.f130
  | 131 => some Go.Proofs.Tryz.f131
  | 132 => some Go.Proofs.Tryz.f132
  | 133 => some Go.Proofs.Tryz.f133
  | 134 => some Go.Proofs.Tryz.f134
  | 135 => some Go.Proofs.Tryz.f135
  | 136 => some Go.Proofs.Tryz.f136
  | 137 => some Go.Proofs.Tryz.f137
  | 138 => some Go.Proofs.Tryz.f138
  | 139 => some Go.Proofs.Tryz.f139
  | 140 => some Go.Proofs.Tryz.f140
  | 156 => some Go.Proofs.Tryz.f156
  | 157 => some Go.Proofs.Tryz.f157
  | 158 => some Go.Proofs.Tryz.f158
  | 159 => some Go.Proofs.Tryz.f159
  | 160 => some Go.Proofs.Tryz.f160
  | 161 => some Go.Proofs.Tryz.f161
  | 162 => some Go.Proofs.Tryz.f162
  | 163 => some Go.Proofs.Tryz.f163
  | 164 => some Go.Proofs.Tryz.f164
  | 165 => some Go.Proofs.Tryz.f165
  | 166 => some Go.Proofs.Tryz.f166
  | 167 => some Go.Proofs.Tryz.f167
  | 168 => some Go.Proofs.Tryz.f168
  | 169 => some Go.Proofs.Tryz.f169
  | 170 => some Go.Proofs.Tryz.f170
  | 171 => some Go.Proofs.Tryz.f171
  | 172 => some Go.Proofs.Tryz.f172
  | 173 => some Go.Proofs.Tryz.f173
  | 174 => some Go.Proofs.Tryz.f174
  | 175 => some Go.Proofs.Tryz.f175
  | 176 => some Go.Proofs.Tryz.f176
  | 177 => some Go.Proofs.Tryz.f177
  | 178 => some Go.Proofs.Tryz.f178
  | 180 => some Go.Proofs.Tryz.f180
  | 181 => some Go.Proofs.Tryz.f181
  | 182 => some Go.Proofs.Tryz.f182
  | 183 => some Go.Proofs.Tryz.f183
  | 184 => some Go.Proofs.Tryz.f184
  | 185 => some Go.Proofs.Tryz.f185
  | 186 => some Go.Proofs.Tryz.f186
  | 189 => some Go.Proofs.Tryz.f189
  | 190 => some Go.Proofs.Tryz.f190
  | 191 => some Go.Proofs.Tryz.f191
  | _ => none
theorem tblS_ok : TblOK Go.Proofs.Tryz.prog tblS := by
  intro g fn h
  unfold tblS at h
  split at h
  · simp only [Option.some.injEq] at h; subst h; exact ⟨Go.Proofs.Tryz.func7, by kernel_rfl⟩
  · simp only [Option.some.injEq] at h; subst h; exact ⟨Go.Proofs.Tryz.func8, by kernel_rfl⟩
  · simp only [Option.some.injEq] at h; subst h; exact ⟨Go.Proofs.Tryz.func10, by kernel_rfl⟩
  · simp only [Option.some.injEq] at h; subst h; exact ⟨Go.Proofs.Tryz.func12, by kernel_rfl⟩
  · simp only [Option.some.injEq] at h; subst h; exact ⟨Go.Proofs.Tryz.func17, by kernel_rfl⟩
  · simp only [Option.some.injEq] at h; subst h; exact ⟨Go.Proofs.Tryz.func18, by kernel_rfl⟩
  · simp only [Option.some.injEq] at h; subst h; exact ⟨Go.Proofs.Tryz.func21, by kernel_rfl⟩
  · simp only [Option.some.injEq] at h; subst h; exact ⟨Go.Proofs.Tryz.func22, by kernel_rfl⟩
  · simp only [Option.some.injEq] at h; subst h; exact ⟨Go.Proofs.Tryz.func23, by kernel_rfl⟩
  · simp only [Option.some.injEq] at h; subst h; exact ⟨Go.Proofs.Tryz.func24, by kernel_rfl⟩
  · simp only [Option.some.injEq] at h; subst h; exact ⟨Go.Proofs.Tryz.func25, by kernel_rfl⟩
  · simp only [Option.some.injEq] at h; subst h; exact ⟨Go.Proofs.Tryz.func26, by kernel_rfl⟩
  · simp only [Option.some.injEq] at h; subst h; exact ⟨Go.Proofs.Tryz.func32, by kernel_rfl⟩
  · simp only [Option.some.injEq] at h; subst h; exact ⟨Go.Proofs.Tryz.func33, by kernel_rfl⟩
  · simp only [Option.some.injEq] at h; subst h; exact ⟨Go.Proofs.Tryz.func34, by kernel_rfl⟩
  · simp only [Option.some.injEq] at h; subst h; exact ⟨Go.Proofs.Tryz.func35, by kernel_rfl⟩
  · simp only [Option.some.injEq] at h; subst h; exact ⟨Go.Proofs.Tryz.func36, by kernel_rfl⟩
  · simp only [Option.some.injEq] at h; subst h; exact ⟨Go.Proofs.Tryz.func46, by kernel_rfl⟩
  · simp only [Option.some.injEq] at h; subst h; exact ⟨Go.Proofs.Tryz.func50, by kernel_rfl⟩
  · simp only [Option.some.injEq] at h; subst h; exact ⟨Go.Proofs.Tryz.func51, by kernel_rfl⟩
  · simp only [Option.some.injEq] at h; subst h; exact ⟨Go.Proofs.Tryz.func52, by kernel_rfl⟩
  · simp only [Option.some.injEq] at h; subst h; exact ⟨Go.Proofs.Tryz.func53, by kernel_rfl⟩
  · simp only [Option.some.injEq] at h; subst h; exact ⟨Go.Proofs.Tryz.func54, by kernel_rfl⟩
  · simp only [Option.some.injEq] at h; subst h; exact ⟨Go.Proofs.Tryz.func55, by kernel_rfl⟩
  · simp only [Option.some.injEq] at h; subst h; exact ⟨Go.Proofs.Tryz.func56, by kernel_rfl⟩
  · simp only [Option.some.injEq] at h; subst h; exact ⟨Go.Proofs.Tryz.func57, by kernel_rfl⟩
  · simp only [Option.some.injEq] at h; subst h; exact ⟨Go.Proofs.Tryz.func64, by kernel_rfl⟩
  · simp only [Option.some.injEq] at h; subst h; exact ⟨Go.Proofs.Tryz.func65, by kernel_rfl⟩
  · simp only [Option.some.injEq] at h; subst h; exact ⟨Go.Proofs.Tryz.func66, by kernel_rfl⟩
  · simp only [Option.some.injEq] at h; subst h; exact ⟨Go.Proofs.Tryz.func67, by kernel_rfl⟩
  · simp only [Option.some.injEq] at h; subst h; exact ⟨Go.Proofs.Tryz.func68, by kernel_rfl⟩
  · simp only [Option.some.injEq] at h; subst h; exact ⟨Go.Proofs.Tryz.func109, by kernel_rfl⟩
  · simp only [Option.some.injEq] at h; subst h; exact ⟨Go.Proofs.Tryz.func110, by kernel_rfl⟩
  · simp only [Option.some.injEq] at h; subst h; exact ⟨Go.Proofs.Tryz.func111, by kernel_rfl⟩
  · simp only [Option.some.injEq] at h; subst h; exact ⟨Go.Proofs.Tryz.func112, by kernel_rfl⟩
  · simp only [Option.some.injEq] at h; subst h; exact ⟨Go.Proofs.Tryz.func113, by kernel_rfl⟩
  · simp only [Option.some.injEq] at h; subst h; exact ⟨Go.Proofs.Tryz.func114, by kernel_rfl⟩
  · simp only [Option.some.injEq] at h; subst h; exact ⟨Go.Proofs.Tryz.func115, by kernel_rfl⟩
  · simp only [Option.some.injEq] at h; subst h; exact ⟨Go.Proofs.Tryz.func116, by kernel_rfl⟩
  · simp only [Option.some.injEq] at h; subst h; exact ⟨Go.Proofs.Tryz.func117, by kernel_rfl⟩
  · simp only [Option.some.injEq] at h; subst h; exact ⟨Go.Proofs.Tryz.func118, by kernel_rfl⟩
  · simp only [Option.some.injEq] at h; subst h; exact ⟨Go.Proofs.Tryz.func119, by kernel_rfl⟩
  · simp only [Option.some.injEq] at h; subst h; exact ⟨Go.Proofs.Tryz.func120, by kernel_rfl⟩
  · simp only [Option.some.injEq] at h; subst h; exact ⟨Go.Proofs.Tryz.func121, by kernel_rfl⟩
  · simp only [Option.some.injEq] at h; subst h; exact ⟨Go.Proofs.Tryz.func122, by kernel_rfl⟩
  · simp only [Option.some.injEq] at h; subst h; exact ⟨Go.Proofs.Tryz.func123, by kernel_rfl⟩
  · simp only [Option.some.injEq] at h; subst h; exact ⟨Go.Proofs.Tryz.func124, by kernel_rfl⟩
  · simp only [Option.some.injEq] at h; subst h; exact ⟨Go.Proofs.Tryz.func128, by kernel_rfl⟩
  · simp only [Option.some.injEq] at h; subst h; exact ⟨Go.Proofs.Tryz.func129, by kernel_rfl⟩
  · simp only [Option.some.injEq] at h; subst h; exact ⟨Go.Proofs.Tryz.func130, by kernel_rfl⟩
  · simp only [Option.some.injEq] at h; subst h; exact ⟨Go.Proofs.Tryz.func131, by kernel_rfl⟩
  · simp only [Option.some.injEq] at h; subst h; exact ⟨Go.Proofs.Tryz.func132, by kernel_rfl⟩
  · simp only [Option.some.injEq] at h; subst h; exact ⟨Go.Proofs.Tryz.func133, by kernel_rfl⟩
  · simp only [Option.some.injEq] at h; subst h; exact ⟨Go.Proofs.Tryz.func134, by kernel_rfl⟩
  · simp only [Option.some.injEq] at h; subst h; exact ⟨Go.Proofs.Tryz.func135, by kernel_rfl⟩
  · simp only [Option.some.injEq] at h; subst h; exact ⟨Go.Proofs.Tryz.func136, by kernel_rfl⟩
  · simp only [Option.some.injEq] at h; subst h; exact ⟨Go.Proofs.Tryz.func137, by kernel_rfl⟩
  · simp only [Option.some.injEq] at h; subst h; exact ⟨Go.Proofs.Tryz.func138, by kernel_rfl⟩
  · simp only [Option.some.injEq] at h; subst h; exact ⟨Go.Proofs.Tryz.func139, by kernel_rfl⟩
  · simp only [Option.some.injEq] at h; subst h; exact ⟨Go.Proofs.Tryz.func140, by kernel_rfl⟩
  · simp only [Option.some.injEq] at h; subst h; exact ⟨Go.Proofs.Tryz.func156, by kernel_rfl⟩
  · simp only [Option.some.injEq] at h; subst h; exact ⟨Go.Proofs.Tryz.func157, by kernel_rfl⟩
  · simp only [Option.some.injEq] at h; subst h; exact ⟨Go.Proofs.Tryz.func158, by kernel_rfl⟩
  · simp only [Option.some.injEq] at h; subst h; exact ⟨Go.Proofs.Tryz.func159, by kernel_rfl⟩
  · simp only [Option.some.injEq] at h; subst h; exact ⟨Go.Proofs.Tryz.func160, by kernel_rfl⟩
  · simp only [Option.some.injEq] at h; subst h; exact ⟨Go.Proofs.Tryz.func161, by kernel_rfl⟩
  · simp only [Option.some.injEq] at h; subst h; exact ⟨Go.Proofs.Tryz.func162, by kernel_rfl⟩
  · simp only [Option.some.injEq] at h; subst h; exact ⟨Go.Proofs.Tryz.func163, by kernel_rfl⟩
  · simp only [Option.some.injEq] at h; subst h; exact ⟨Go.Proofs.Tryz.func164, by kernel_rfl⟩
  · simp only [Option.some.injEq] at h; subst h; exact ⟨Go.Proofs.Tryz.func165, by kernel_rfl⟩
  · simp only [Option.some.injEq] at h; subst h; exact ⟨Go.Proofs.Tryz.func166, by kernel_rfl⟩
  · simp only [Option.some.injEq] at h; subst h; exact ⟨Go.Proofs.Tryz.func167, by kernel_rfl⟩
  · simp only [Option.some.injEq] at h; subst h; exact ⟨Go.Proofs.Tryz.func168, by kernel_rfl⟩
  · simp only [Option.some.injEq] at h; subst h; exact ⟨Go.Proofs.Tryz.func169, by kernel_rfl⟩
  · simp only [Option.some.injEq] at h; subst h; exact ⟨Go.Proofs.Tryz.func170, by kernel_rfl⟩
  · simp only [Option.some.injEq] at h; subst h; exact ⟨Go.Proofs.Tryz.func171, by kernel_rfl⟩
  · simp only [Option.some.injEq] at h; subst h; exact ⟨Go.Proofs.Tryz.func172, by kernel_rfl⟩
  · simp only [Option.some.injEq] at h; subst h; exact ⟨Go.Proofs.Tryz.func173, by kernel_rfl⟩
  · simp only [Option.some.injEq] at h; subst h; exact ⟨Go.Proofs.Tryz.func174, by kernel_rfl⟩
  · simp only [Option.some.injEq] at h; subst h; exact ⟨Go.Proofs.Tryz.func175, by kernel_rfl⟩
  · simp only [Option.some.injEq] at h; subst h; exact ⟨Go.Proofs.Tryz.func176, by kernel_rfl⟩
  · simp only [Option.some.injEq] at h; subst h; exact ⟨Go.Proofs.Tryz.func177, by kernel_rfl⟩
  · simp only [Option.some.injEq] at h; subst h; exact ⟨Go.Proofs.Tryz.func178, by kernel_rfl⟩
  · simp only [Option.some.injEq] at h; subst h; exact ⟨Go.Proofs.Tryz.func180, by kernel_rfl⟩
  · simp only [Option.some.injEq] at h; subst h; exact ⟨Go.Proofs.Tryz.func181, by kernel_rfl⟩
  · simp only [Option.some.injEq] at h; subst h; exact ⟨Go.Proofs.Tryz.func182, by kernel_rfl⟩
  · simp only [Option.some.injEq] at h; subst h; exact ⟨Go.Proofs.Tryz.func183, by kernel_rfl⟩
  · simp only [Option.some.injEq] at h; subst h; exact ⟨Go.Proofs.Tryz.func184, by kernel_rfl⟩
  · simp only [Option.some.injEq] at h; subst h; exact ⟨Go.Proofs.Tryz.func185, by kernel_rfl⟩
  · simp only [Option.some.injEq] at h; subst h; exact ⟨Go.Proofs.Tryz.func186, by kernel_rfl⟩
  · simp only [Option.some.injEq] at h; subst h; exact ⟨Go.Proofs.Tryz.func189, by kernel_rfl⟩
  · simp only [Option.some.injEq] at h; subst h; exact ⟨Go.Proofs.Tryz.func190, by kernel_rfl⟩
  · simp only [Option.some.injEq] at h; subst h; exact ⟨Go.Proofs.Tryz.func191, by kernel_rfl⟩
  · simp at h
@[reducible] def law22_shown.as : List Shp := []
@[reducible] def law22_shown.rs : List Shp := [.k .b]
noncomputable def law22_shown.F : Unit → Option (Bool × Unit) := fun _ => some (true, ())
theorem law22_shown.ok : PureOK Go.Proofs.Tryz.prog 7 law22_shown.as law22_shown.rs law22_shown.F :=
  fn_gen tblS_ok (ks := []) (ls := []) (n := 60) (d := 14) (by rfl) (fun x => by kernel_rfl)
end Go.Proofs.YtddeejpffdccpaaGreat.E
