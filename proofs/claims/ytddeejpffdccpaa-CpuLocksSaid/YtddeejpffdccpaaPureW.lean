/- Functions of the program as plain Lean, and what they come to. Conditions: none. -/
import Derived.Test.YtddeejpffdccpaaEwD
import Derived.KernelRfl
import Derived.Test.YtddeejpffdccpaaPureV
import Derived.Test.YtddeejpffdccpaaPureI
open Go Go.Ew
set_option maxRecDepth 100000
namespace Go.Proofs.Ytddeejpffdccpaa.E
/-! tables, under the names that the walk asks for -/
@[reducible] def micro_Plan.as : List Shp := T.micro_Plan.as
@[reducible] def micro_Plan.rs : List Shp := T.micro_Plan.rs
noncomputable def micro_Plan.F := T.micro_Plan.F
theorem micro_Plan.ok : PureOK Go.Proofs.Try.prog 41 micro_Plan.as micro_Plan.rs micro_Plan.F := T.micro_Plan.ok
@[reducible] def opcode_Decode.as : List Shp := T.opcode_Decode.as
@[reducible] def opcode_Decode.rs : List Shp := T.opcode_Decode.rs
noncomputable def opcode_Decode.F := T.opcode_Decode.F
theorem opcode_Decode.ok : PureOK Go.Proofs.Try.prog 15 opcode_Decode.as opcode_Decode.rs opcode_Decode.F := T.opcode_Decode.ok
@[reducible] def opcode_DecodeCB.as : List Shp := T.opcode_DecodeCB.as
@[reducible] def opcode_DecodeCB.rs : List Shp := T.opcode_DecodeCB.rs
noncomputable def opcode_DecodeCB.F := T.opcode_DecodeCB.F
theorem opcode_DecodeCB.ok : PureOK Go.Proofs.Try.prog 16 opcode_DecodeCB.as opcode_DecodeCB.rs opcode_DecodeCB.F := T.opcode_DecodeCB.ok
/-- the first of what is pending -/
@[reducible] def irq_First.as : List Shp := [.k (.i .u8)]
@[reducible] def irq_First.rs : List Shp := [.k (.i .i64), .k .b]
noncomputable def irq_First.F : Int × Unit → Option (Int × Bool × Unit) := I.firstF
theorem irq_First.ok : PureOK Go.Proofs.Try.prog 39 irq_First.as irq_First.rs irq_First.F := I.first_ok
noncomputable def tblS : FuncId → Option Func
  | 8 => some Go.Proofs.Try.f8
  | 11 => some Go.Proofs.Try.f11
  | 10 => some Go.Proofs.Try.f10
  | 12 => some Go.Proofs.Try.f12
  | 19 => some Go.Proofs.Try.f19
  | 20 => some Go.Proofs.Try.f20
  | 21 => some Go.Proofs.Try.f21
  | 22 => some Go.Proofs.Try.f22
  | 23 => some Go.Proofs.Try.f23
  | 24 => some Go.Proofs.Try.f24
  | 25 => some Go.Proofs.Try.f25
  | 26 => some Go.Proofs.Try.f26
  | 27 => some Go.Proofs.Try.f27
  | 28 => some Go.Proofs.Try.f28
  | 29 => some Go.Proofs.Try.f29
  | 30 => some Go.Proofs.Try.f30
  | 31 => some Go.Proofs.Try.f31
  | 38 => some Go.Proofs.Try.f38
  | 40 => some Go.Proofs.Try.f40
  | 41 => some Go.Proofs.Try.f41
  | 42 => some Go.Proofs.Try.f42
  | 43 => some Go.Proofs.Try.f43
  | 44 => some Go.Proofs.Try.f44
  | 45 => some Go.Proofs.Try.f45
  | 46 => some Go.Proofs.Try.f46
  | 47 => some Go.Proofs.Try.f47
  | 48 => some Go.Proofs.Try.f48
  | 49 => some Go.Proofs.Try.f49
  | 50 => some Go.Proofs.Try.f50
  | 51 => some Go.Proofs.Try.f51
  | 52 => some Go.Proofs.Try.f52
  | 36 => some Go.Proofs.Try.f36
  | 58 => some Go.Proofs.Try.f58
  | 59 => some Go.Proofs.Try.f59
  | 60 => some Go.Proofs.Try.f60
  | 18 => some Go.Proofs.Try.f18
  | 61 => some Go.Proofs.Try.f61
  | 62 => some Go.Proofs.Try.f62
  | 16 => some Go.Proofs.Try.f16
  | 15 => some Go.Proofs.Try.f15
  | 63 => some Go.Proofs.Try.f63
  | 37 => some Go.Proofs.Try.f37
  | 64 => some Go.Proofs.Try.f64
  | 65 => some Go.Proofs.Try.f65
  | 66 => some Go.Proofs.Try.f66
  | 67 => some Go.Proofs.Try.f67
  | 68 => some Go.Proofs.Try.f68
  | 69 => some Go.Proofs.Try.f69
  | 70 => some Go.Proofs.Try.f70
  | 71 => some Go.Proofs.Try.f71
  | 72 => some Go.Proofs.Try.f72
  | 73 => some Go.Proofs.Try.f73
  | 74 => some Go.Proofs.Try.f74
  | 75 => some Go.Proofs.Try.f75
  | 76 => some Go.Proofs.Try.f76
  | 77 => some Go.Proofs.Try.f77
  | 78 => some Go.Proofs.Try.f78
  | 79 => some Go.Proofs.Try.f79
  | 80 => some Go.Proofs.Try.f80
  | 81 => some Go.Proofs.Try.f81
  | 83 => some Go.Proofs.Try.f83
  | 84 => some Go.Proofs.Try.f84
  | 85 => some Go.Proofs.Try.f85
  | 86 => some Go.Proofs.Try.f86
  | 87 => some Go.Proofs.Try.f87
  | 88 => some Go.Proofs.Try.f88
  | 89 => some Go.Proofs.Try.f89
  | 90 => some Go.Proofs.Try.f90
  | 91 => some Go.Proofs.Try.f91
  | 92 => some Go.Proofs.Try.f92
  | 93 => some Go.Proofs.Try.f93
  | 34 => some Go.Proofs.Try.f34
  | 33 => some Go.Proofs.Try.f33
  | 32 => some Go.Proofs.Try.f32
  | 35 => some Go.Proofs.Try.f35
  | 94 => some Go.Proofs.Try.f94
  | 56 => some Go.Proofs.Try.f56
  | 95 => some Go.Proofs.Try.f95
  | 96 => some Go.Proofs.Try.f96
  | 97 => some Go.Proofs.Try.f97
  | 98 => some Go.Proofs.Try.f98
  | 99 => some Go.Proofs.Try.f99
  | 100 => some Go.Proofs.Try.f100
  | 101 => some Go.Proofs.Try.f101
  | 102 => some Go.Proofs.Try.f102
  | 103 => some Go.Proofs.Try.f103
  | 104 => some Go.Proofs.Try.f104
  | 105 => some Go.Proofs.Try.f105
  | 106 => some Go.Proofs.Try.f106
  | 107 => some Go.Proofs.Try.f107
  | 53 => some Go.Proofs.Try.f53
  | 54 => some Go.Proofs.Try.f54
  | 55 => some Go.Proofs.Try.f55
  | _ => none
theorem tblS_ok : TblOK Go.Proofs.Try.prog tblS := by
  intro g fn h
  unfold tblS at h
  split at h
  · simp only [Option.some.injEq] at h; subst h; exact ⟨Go.Proofs.Try.func8, by kernel_rfl⟩
  · simp only [Option.some.injEq] at h; subst h; exact ⟨Go.Proofs.Try.func11, by kernel_rfl⟩
  · simp only [Option.some.injEq] at h; subst h; exact ⟨Go.Proofs.Try.func10, by kernel_rfl⟩
  · simp only [Option.some.injEq] at h; subst h; exact ⟨Go.Proofs.Try.func12, by kernel_rfl⟩
  · simp only [Option.some.injEq] at h; subst h; exact ⟨Go.Proofs.Try.func19, by kernel_rfl⟩
  · simp only [Option.some.injEq] at h; subst h; exact ⟨Go.Proofs.Try.func20, by kernel_rfl⟩
  · simp only [Option.some.injEq] at h; subst h; exact ⟨Go.Proofs.Try.func21, by kernel_rfl⟩
  · simp only [Option.some.injEq] at h; subst h; exact ⟨Go.Proofs.Try.func22, by kernel_rfl⟩
  · simp only [Option.some.injEq] at h; subst h; exact ⟨Go.Proofs.Try.func23, by kernel_rfl⟩
  · simp only [Option.some.injEq] at h; subst h; exact ⟨Go.Proofs.Try.func24, by kernel_rfl⟩
  · simp only [Option.some.injEq] at h; subst h; exact ⟨Go.Proofs.Try.func25, by kernel_rfl⟩
  · simp only [Option.some.injEq] at h; subst h; exact ⟨Go.Proofs.Try.func26, by kernel_rfl⟩
  · simp only [Option.some.injEq] at h; subst h; exact ⟨Go.Proofs.Try.func27, by kernel_rfl⟩
  · simp only [Option.some.injEq] at h; subst h; exact ⟨Go.Proofs.Try.func28, by kernel_rfl⟩
  · simp only [Option.some.injEq] at h; subst h; exact ⟨Go.Proofs.Try.func29, by kernel_rfl⟩
  · simp only [Option.some.injEq] at h; subst h; exact ⟨Go.Proofs.Try.func30, by kernel_rfl⟩
  · simp only [Option.some.injEq] at h; subst h; exact ⟨Go.Proofs.Try.func31, by kernel_rfl⟩
  · simp only [Option.some.injEq] at h; subst h; exact ⟨Go.Proofs.Try.func38, by kernel_rfl⟩
  · simp only [Option.some.injEq] at h; subst h; exact ⟨Go.Proofs.Try.func40, by kernel_rfl⟩
  · simp only [Option.some.injEq] at h; subst h; exact ⟨Go.Proofs.Try.func41, by kernel_rfl⟩
  · simp only [Option.some.injEq] at h; subst h; exact ⟨Go.Proofs.Try.func42, by kernel_rfl⟩
  · simp only [Option.some.injEq] at h; subst h; exact ⟨Go.Proofs.Try.func43, by kernel_rfl⟩
  · simp only [Option.some.injEq] at h; subst h; exact ⟨Go.Proofs.Try.func44, by kernel_rfl⟩
  · simp only [Option.some.injEq] at h; subst h; exact ⟨Go.Proofs.Try.func45, by kernel_rfl⟩
  · simp only [Option.some.injEq] at h; subst h; exact ⟨Go.Proofs.Try.func46, by kernel_rfl⟩
  · simp only [Option.some.injEq] at h; subst h; exact ⟨Go.Proofs.Try.func47, by kernel_rfl⟩
  · simp only [Option.some.injEq] at h; subst h; exact ⟨Go.Proofs.Try.func48, by kernel_rfl⟩
  · simp only [Option.some.injEq] at h; subst h; exact ⟨Go.Proofs.Try.func49, by kernel_rfl⟩
  · simp only [Option.some.injEq] at h; subst h; exact ⟨Go.Proofs.Try.func50, by kernel_rfl⟩
  · simp only [Option.some.injEq] at h; subst h; exact ⟨Go.Proofs.Try.func51, by kernel_rfl⟩
  · simp only [Option.some.injEq] at h; subst h; exact ⟨Go.Proofs.Try.func52, by kernel_rfl⟩
  · simp only [Option.some.injEq] at h; subst h; exact ⟨Go.Proofs.Try.func36, by kernel_rfl⟩
  · simp only [Option.some.injEq] at h; subst h; exact ⟨Go.Proofs.Try.func58, by kernel_rfl⟩
  · simp only [Option.some.injEq] at h; subst h; exact ⟨Go.Proofs.Try.func59, by kernel_rfl⟩
  · simp only [Option.some.injEq] at h; subst h; exact ⟨Go.Proofs.Try.func60, by kernel_rfl⟩
  · simp only [Option.some.injEq] at h; subst h; exact ⟨Go.Proofs.Try.func18, by kernel_rfl⟩
  · simp only [Option.some.injEq] at h; subst h; exact ⟨Go.Proofs.Try.func61, by kernel_rfl⟩
  · simp only [Option.some.injEq] at h; subst h; exact ⟨Go.Proofs.Try.func62, by kernel_rfl⟩
  · simp only [Option.some.injEq] at h; subst h; exact ⟨Go.Proofs.Try.func16, by kernel_rfl⟩
  · simp only [Option.some.injEq] at h; subst h; exact ⟨Go.Proofs.Try.func15, by kernel_rfl⟩
  · simp only [Option.some.injEq] at h; subst h; exact ⟨Go.Proofs.Try.func63, by kernel_rfl⟩
  · simp only [Option.some.injEq] at h; subst h; exact ⟨Go.Proofs.Try.func37, by kernel_rfl⟩
  · simp only [Option.some.injEq] at h; subst h; exact ⟨Go.Proofs.Try.func64, by kernel_rfl⟩
  · simp only [Option.some.injEq] at h; subst h; exact ⟨Go.Proofs.Try.func65, by kernel_rfl⟩
  · simp only [Option.some.injEq] at h; subst h; exact ⟨Go.Proofs.Try.func66, by kernel_rfl⟩
  · simp only [Option.some.injEq] at h; subst h; exact ⟨Go.Proofs.Try.func67, by kernel_rfl⟩
  · simp only [Option.some.injEq] at h; subst h; exact ⟨Go.Proofs.Try.func68, by kernel_rfl⟩
  · simp only [Option.some.injEq] at h; subst h; exact ⟨Go.Proofs.Try.func69, by kernel_rfl⟩
  · simp only [Option.some.injEq] at h; subst h; exact ⟨Go.Proofs.Try.func70, by kernel_rfl⟩
  · simp only [Option.some.injEq] at h; subst h; exact ⟨Go.Proofs.Try.func71, by kernel_rfl⟩
  · simp only [Option.some.injEq] at h; subst h; exact ⟨Go.Proofs.Try.func72, by kernel_rfl⟩
  · simp only [Option.some.injEq] at h; subst h; exact ⟨Go.Proofs.Try.func73, by kernel_rfl⟩
  · simp only [Option.some.injEq] at h; subst h; exact ⟨Go.Proofs.Try.func74, by kernel_rfl⟩
  · simp only [Option.some.injEq] at h; subst h; exact ⟨Go.Proofs.Try.func75, by kernel_rfl⟩
  · simp only [Option.some.injEq] at h; subst h; exact ⟨Go.Proofs.Try.func76, by kernel_rfl⟩
  · simp only [Option.some.injEq] at h; subst h; exact ⟨Go.Proofs.Try.func77, by kernel_rfl⟩
  · simp only [Option.some.injEq] at h; subst h; exact ⟨Go.Proofs.Try.func78, by kernel_rfl⟩
  · simp only [Option.some.injEq] at h; subst h; exact ⟨Go.Proofs.Try.func79, by kernel_rfl⟩
  · simp only [Option.some.injEq] at h; subst h; exact ⟨Go.Proofs.Try.func80, by kernel_rfl⟩
  · simp only [Option.some.injEq] at h; subst h; exact ⟨Go.Proofs.Try.func81, by kernel_rfl⟩
  · simp only [Option.some.injEq] at h; subst h; exact ⟨Go.Proofs.Try.func83, by kernel_rfl⟩
  · simp only [Option.some.injEq] at h; subst h; exact ⟨Go.Proofs.Try.func84, by kernel_rfl⟩
  · simp only [Option.some.injEq] at h; subst h; exact ⟨Go.Proofs.Try.func85, by kernel_rfl⟩
  · simp only [Option.some.injEq] at h; subst h; exact ⟨Go.Proofs.Try.func86, by kernel_rfl⟩
  · simp only [Option.some.injEq] at h; subst h; exact ⟨Go.Proofs.Try.func87, by kernel_rfl⟩
  · simp only [Option.some.injEq] at h; subst h; exact ⟨Go.Proofs.Try.func88, by kernel_rfl⟩
  · simp only [Option.some.injEq] at h; subst h; exact ⟨Go.Proofs.Try.func89, by kernel_rfl⟩
  · simp only [Option.some.injEq] at h; subst h; exact ⟨Go.Proofs.Try.func90, by kernel_rfl⟩
  · simp only [Option.some.injEq] at h; subst h; exact ⟨Go.Proofs.Try.func91, by kernel_rfl⟩
  · simp only [Option.some.injEq] at h; subst h; exact ⟨Go.Proofs.Try.func92, by kernel_rfl⟩
  · simp only [Option.some.injEq] at h; subst h; exact ⟨Go.Proofs.Try.func93, by kernel_rfl⟩
  · simp only [Option.some.injEq] at h; subst h; exact ⟨Go.Proofs.Try.func34, by kernel_rfl⟩
  · simp only [Option.some.injEq] at h; subst h; exact ⟨Go.Proofs.Try.func33, by kernel_rfl⟩
  · simp only [Option.some.injEq] at h; subst h; exact ⟨Go.Proofs.Try.func32, by kernel_rfl⟩
  · simp only [Option.some.injEq] at h; subst h; exact ⟨Go.Proofs.Try.func35, by kernel_rfl⟩
  · simp only [Option.some.injEq] at h; subst h; exact ⟨Go.Proofs.Try.func94, by kernel_rfl⟩
  · simp only [Option.some.injEq] at h; subst h; exact ⟨Go.Proofs.Try.func56, by kernel_rfl⟩
  · simp only [Option.some.injEq] at h; subst h; exact ⟨Go.Proofs.Try.func95, by kernel_rfl⟩
  · simp only [Option.some.injEq] at h; subst h; exact ⟨Go.Proofs.Try.func96, by kernel_rfl⟩
  · simp only [Option.some.injEq] at h; subst h; exact ⟨Go.Proofs.Try.func97, by kernel_rfl⟩
  · simp only [Option.some.injEq] at h; subst h; exact ⟨Go.Proofs.Try.func98, by kernel_rfl⟩
  · simp only [Option.some.injEq] at h; subst h; exact ⟨Go.Proofs.Try.func99, by kernel_rfl⟩
  · simp only [Option.some.injEq] at h; subst h; exact ⟨Go.Proofs.Try.func100, by kernel_rfl⟩
  · simp only [Option.some.injEq] at h; subst h; exact ⟨Go.Proofs.Try.func101, by kernel_rfl⟩
  · simp only [Option.some.injEq] at h; subst h; exact ⟨Go.Proofs.Try.func102, by kernel_rfl⟩
  · simp only [Option.some.injEq] at h; subst h; exact ⟨Go.Proofs.Try.func103, by kernel_rfl⟩
  · simp only [Option.some.injEq] at h; subst h; exact ⟨Go.Proofs.Try.func104, by kernel_rfl⟩
  · simp only [Option.some.injEq] at h; subst h; exact ⟨Go.Proofs.Try.func105, by kernel_rfl⟩
  · simp only [Option.some.injEq] at h; subst h; exact ⟨Go.Proofs.Try.func106, by kernel_rfl⟩
  · simp only [Option.some.injEq] at h; subst h; exact ⟨Go.Proofs.Try.func107, by kernel_rfl⟩
  · simp only [Option.some.injEq] at h; subst h; exact ⟨Go.Proofs.Try.func53, by kernel_rfl⟩
  · simp only [Option.some.injEq] at h; subst h; exact ⟨Go.Proofs.Try.func54, by kernel_rfl⟩
  · simp only [Option.some.injEq] at h; subst h; exact ⟨Go.Proofs.Try.func55, by kernel_rfl⟩
  · simp at h
@[reducible] def law22_shown.as : List Shp := []
@[reducible] def law22_shown.rs : List Shp := [.k .b]
noncomputable def law22_shown.F : Unit → Option (Bool × Unit) := fun _ => some (true, ())
theorem law22_shown.ok : PureOK Go.Proofs.Try.prog 8 law22_shown.as law22_shown.rs law22_shown.F :=
  fn_gen tblS_ok (ks := []) (ls := []) (n := 60) (d := 14) (by rfl) (fun x => by kernel_rfl)
end Go.Proofs.Ytddeejpffdccpaa.E
