/- Functions of the program as plain Lean, and what they come to. Conditions: none. -/
import Derived.Test.YtddeejpffdccpaaEwD
import Derived.Test.YtddeejpffdccpaaProg
import Derived.KernelRfl
import Derived.Test.YtddeejpffdccpaaPureW
open Go Go.Ew
namespace Go.Proofs.Ytddeejpffdccpaa.E
abbrev _root_.Prod.x5 {A0 A1 A2 A3 A4 A5 A6 : Type} (x : A0 × A1 × A2 × A3 × A4 × A5 × A6) : A5 := x.2.2.2.2.2.1
abbrev _root_.Prod.x6 {A0 A1 A2 A3 A4 A5 A6 A7 : Type} (x : A0 × A1 × A2 × A3 × A4 × A5 × A6 × A7) : A6 := x.2.2.2.2.2.2.1
abbrev _root_.Prod.x7 {A0 A1 A2 A3 A4 A5 A6 A7 A8 : Type} (x : A0 × A1 × A2 × A3 × A4 × A5 × A6 × A7 × A8) : A7 := x.2.2.2.2.2.2.2.1
abbrev _root_.Prod.x8 {A0 A1 A2 A3 A4 A5 A6 A7 A8 A9 : Type} (x : A0 × A1 × A2 × A3 × A4 × A5 × A6 × A7 × A8 × A9) : A8 := x.2.2.2.2.2.2.2.2.1
abbrev _root_.Prod.x9 {A0 A1 A2 A3 A4 A5 A6 A7 A8 A9 A10 : Type} (x : A0 × A1 × A2 × A3 × A4 × A5 × A6 × A7 × A8 × A9 × A10) : A9 := x.2.2.2.2.2.2.2.2.2.1
abbrev _root_.Prod.x10 {A0 A1 A2 A3 A4 A5 A6 A7 A8 A9 A10 A11 : Type} (x : A0 × A1 × A2 × A3 × A4 × A5 × A6 × A7 × A8 × A9 × A10 × A11) : A10 := x.2.2.2.2.2.2.2.2.2.2.1
abbrev _root_.Prod.x11 {A0 A1 A2 A3 A4 A5 A6 A7 A8 A9 A10 A11 A12 : Type} (x : A0 × A1 × A2 × A3 × A4 × A5 × A6 × A7 × A8 × A9 × A10 × A11 × A12) : A11 := x.2.2.2.2.2.2.2.2.2.2.2.1
abbrev _root_.Prod.x12 {A0 A1 A2 A3 A4 A5 A6 A7 A8 A9 A10 A11 A12 A13 : Type} (x : A0 × A1 × A2 × A3 × A4 × A5 × A6 × A7 × A8 × A9 × A10 × A11 × A12 × A13) : A12 := x.2.2.2.2.2.2.2.2.2.2.2.2.1
abbrev _root_.Prod.x13 {A0 A1 A2 A3 A4 A5 A6 A7 A8 A9 A10 A11 A12 A13 A14 : Type} (x : A0 × A1 × A2 × A3 × A4 × A5 × A6 × A7 × A8 × A9 × A10 × A11 × A12 × A13 × A14) : A13 := x.2.2.2.2.2.2.2.2.2.2.2.2.2.1
abbrev _root_.Prod.x14 {A0 A1 A2 A3 A4 A5 A6 A7 A8 A9 A10 A11 A12 A13 A14 A15 : Type} (x : A0 × A1 × A2 × A3 × A4 × A5 × A6 × A7 × A8 × A9 × A10 × A11 × A12 × A13 × A14 × A15) : A14 := x.2.2.2.2.2.2.2.2.2.2.2.2.2.2.1
abbrev _root_.Prod.x15 {A0 A1 A2 A3 A4 A5 A6 A7 A8 A9 A10 A11 A12 A13 A14 A15 A16 : Type} (x : A0 × A1 × A2 × A3 × A4 × A5 × A6 × A7 × A8 × A9 × A10 × A11 × A12 × A13 × A14 × A15 × A16) : A15 := x.2.2.2.2.2.2.2.2.2.2.2.2.2.2.2.1
abbrev _root_.Prod.x16 {A0 A1 A2 A3 A4 A5 A6 A7 A8 A9 A10 A11 A12 A13 A14 A15 A16 A17 : Type} (x : A0 × A1 × A2 × A3 × A4 × A5 × A6 × A7 × A8 × A9 × A10 × A11 × A12 × A13 × A14 × A15 × A16 × A17) : A16 := x.2.2.2.2.2.2.2.2.2.2.2.2.2.2.2.2.1
abbrev _root_.Prod.x17 {A0 A1 A2 A3 A4 A5 A6 A7 A8 A9 A10 A11 A12 A13 A14 A15 A16 A17 A18 : Type} (x : A0 × A1 × A2 × A3 × A4 × A5 × A6 × A7 × A8 × A9 × A10 × A11 × A12 × A13 × A14 × A15 × A16 × A17 × A18) : A17 := x.2.2.2.2.2.2.2.2.2.2.2.2.2.2.2.2.2.1
abbrev _root_.Prod.x18 {A0 A1 A2 A3 A4 A5 A6 A7 A8 A9 A10 A11 A12 A13 A14 A15 A16 A17 A18 A19 : Type} (x : A0 × A1 × A2 × A3 × A4 × A5 × A6 × A7 × A8 × A9 × A10 × A11 × A12 × A13 × A14 × A15 × A16 × A17 × A18 × A19) : A18 := x.2.2.2.2.2.2.2.2.2.2.2.2.2.2.2.2.2.2.1
abbrev _root_.Prod.x19 {A0 A1 A2 A3 A4 A5 A6 A7 A8 A9 A10 A11 A12 A13 A14 A15 A16 A17 A18 A19 A20 : Type} (x : A0 × A1 × A2 × A3 × A4 × A5 × A6 × A7 × A8 × A9 × A10 × A11 × A12 × A13 × A14 × A15 × A16 × A17 × A18 × A19 × A20) : A19 := x.2.2.2.2.2.2.2.2.2.2.2.2.2.2.2.2.2.2.2.1
abbrev _root_.Prod.z5 {A0 A1 A2 A3 A4 A5 : Type} (x : A0 × A1 × A2 × A3 × A4 × A5) : A5 := x.2.2.2.2.2
abbrev _root_.Prod.z6 {A0 A1 A2 A3 A4 A5 A6 : Type} (x : A0 × A1 × A2 × A3 × A4 × A5 × A6) : A6 := x.2.2.2.2.2.2
abbrev _root_.Prod.z7 {A0 A1 A2 A3 A4 A5 A6 A7 : Type} (x : A0 × A1 × A2 × A3 × A4 × A5 × A6 × A7) : A7 := x.2.2.2.2.2.2.2
abbrev _root_.Prod.z8 {A0 A1 A2 A3 A4 A5 A6 A7 A8 : Type} (x : A0 × A1 × A2 × A3 × A4 × A5 × A6 × A7 × A8) : A8 := x.2.2.2.2.2.2.2.2
abbrev _root_.Prod.z9 {A0 A1 A2 A3 A4 A5 A6 A7 A8 A9 : Type} (x : A0 × A1 × A2 × A3 × A4 × A5 × A6 × A7 × A8 × A9) : A9 := x.2.2.2.2.2.2.2.2.2
abbrev _root_.Prod.z10 {A0 A1 A2 A3 A4 A5 A6 A7 A8 A9 A10 : Type} (x : A0 × A1 × A2 × A3 × A4 × A5 × A6 × A7 × A8 × A9 × A10) : A10 := x.2.2.2.2.2.2.2.2.2.2
abbrev _root_.Prod.z11 {A0 A1 A2 A3 A4 A5 A6 A7 A8 A9 A10 A11 : Type} (x : A0 × A1 × A2 × A3 × A4 × A5 × A6 × A7 × A8 × A9 × A10 × A11) : A11 := x.2.2.2.2.2.2.2.2.2.2.2
abbrev _root_.Prod.z12 {A0 A1 A2 A3 A4 A5 A6 A7 A8 A9 A10 A11 A12 : Type} (x : A0 × A1 × A2 × A3 × A4 × A5 × A6 × A7 × A8 × A9 × A10 × A11 × A12) : A12 := x.2.2.2.2.2.2.2.2.2.2.2.2
abbrev _root_.Prod.z13 {A0 A1 A2 A3 A4 A5 A6 A7 A8 A9 A10 A11 A12 A13 : Type} (x : A0 × A1 × A2 × A3 × A4 × A5 × A6 × A7 × A8 × A9 × A10 × A11 × A12 × A13) : A13 := x.2.2.2.2.2.2.2.2.2.2.2.2.2
abbrev _root_.Prod.z14 {A0 A1 A2 A3 A4 A5 A6 A7 A8 A9 A10 A11 A12 A13 A14 : Type} (x : A0 × A1 × A2 × A3 × A4 × A5 × A6 × A7 × A8 × A9 × A10 × A11 × A12 × A13 × A14) : A14 := x.2.2.2.2.2.2.2.2.2.2.2.2.2.2
abbrev _root_.Prod.z15 {A0 A1 A2 A3 A4 A5 A6 A7 A8 A9 A10 A11 A12 A13 A14 A15 : Type} (x : A0 × A1 × A2 × A3 × A4 × A5 × A6 × A7 × A8 × A9 × A10 × A11 × A12 × A13 × A14 × A15) : A15 := x.2.2.2.2.2.2.2.2.2.2.2.2.2.2.2
abbrev _root_.Prod.z16 {A0 A1 A2 A3 A4 A5 A6 A7 A8 A9 A10 A11 A12 A13 A14 A15 A16 : Type} (x : A0 × A1 × A2 × A3 × A4 × A5 × A6 × A7 × A8 × A9 × A10 × A11 × A12 × A13 × A14 × A15 × A16) : A16 := x.2.2.2.2.2.2.2.2.2.2.2.2.2.2.2.2
abbrev _root_.Prod.z17 {A0 A1 A2 A3 A4 A5 A6 A7 A8 A9 A10 A11 A12 A13 A14 A15 A16 A17 : Type} (x : A0 × A1 × A2 × A3 × A4 × A5 × A6 × A7 × A8 × A9 × A10 × A11 × A12 × A13 × A14 × A15 × A16 × A17) : A17 := x.2.2.2.2.2.2.2.2.2.2.2.2.2.2.2.2.2
abbrev _root_.Prod.z18 {A0 A1 A2 A3 A4 A5 A6 A7 A8 A9 A10 A11 A12 A13 A14 A15 A16 A17 A18 : Type} (x : A0 × A1 × A2 × A3 × A4 × A5 × A6 × A7 × A8 × A9 × A10 × A11 × A12 × A13 × A14 × A15 × A16 × A17 × A18) : A18 := x.2.2.2.2.2.2.2.2.2.2.2.2.2.2.2.2.2.2
abbrev _root_.Prod.z19 {A0 A1 A2 A3 A4 A5 A6 A7 A8 A9 A10 A11 A12 A13 A14 A15 A16 A17 A18 A19 : Type} (x : A0 × A1 × A2 × A3 × A4 × A5 × A6 × A7 × A8 × A9 × A10 × A11 × A12 × A13 × A14 × A15 × A16 × A17 × A18 × A19) : A19 := x.2.2.2.2.2.2.2.2.2.2.2.2.2.2.2.2.2.2.2
abbrev R10 := Int × Int × Int × Int × Int × Int × Int × Int × Int × Int
abbrev CB := Int × Int × Int × Int × Int × Int × Int × Int × Int × Int × Bool × Bool × Bool × Int × Int × Bool × Int × Int × Int × Unit
abbrev CC := Int × Int × Int × Int × Int × Int × Int × Int × Int × Int × Bool × Bool × Bool × Int × Int × Bool × Int × Int × Int
set_option linter.unusedVariables false
set_option maxRecDepth 100000
noncomputable def tblI : FuncId → Option Func
  | 36 => some Go.Proofs.Try.f36
  | 58 => some Go.Proofs.Try.f58
  | 59 => some Go.Proofs.Try.f59
  | 60 => some Go.Proofs.Try.f60
  | 83 => some Go.Proofs.Try.f83
  | 84 => some Go.Proofs.Try.f84
  | 85 => some Go.Proofs.Try.f85
  | 86 => some Go.Proofs.Try.f86
  | 87 => some Go.Proofs.Try.f87
  | 88 => some Go.Proofs.Try.f88
  | 89 => some Go.Proofs.Try.f89
  | 90 => some Go.Proofs.Try.f90
  | 91 => some Go.Proofs.Try.f91
  | 92 => some Go.Proofs.Try.f92
  | 93 => some Go.Proofs.Try.f93
  | 94 => some Go.Proofs.Try.f94
  | 34 => some Go.Proofs.Try.f34
  | 33 => some Go.Proofs.Try.f33
  | 54 => some Go.Proofs.Try.f54
  | 55 => some Go.Proofs.Try.f55
  | 32 => some Go.Proofs.Try.f32
  | 53 => some Go.Proofs.Try.f53
  | 35 => some Go.Proofs.Try.f35
  | 69 => some Go.Proofs.Try.f69
  | 62 => some Go.Proofs.Try.f62
  | 101 => some Go.Proofs.Try.f101
  | 72 => some Go.Proofs.Try.f72
  | 102 => some Go.Proofs.Try.f102
  | 104 => some Go.Proofs.Try.f104
  | 40 => some Go.Proofs.Try.f40
  | 44 => some Go.Proofs.Try.f44
  | 27 => some Go.Proofs.Try.f27
  | 97 => some Go.Proofs.Try.f97
  | 98 => some Go.Proofs.Try.f98
  | 100 => some Go.Proofs.Try.f100
  | 80 => some Go.Proofs.Try.f80
  | _ => none
theorem tblI_ok : TblOK Go.Proofs.Try.prog tblI := by
  intro g fn h
  unfold tblI at h
  split at h
  · simp only [Option.some.injEq] at h; subst h; exact ⟨Go.Proofs.Try.func36, by kernel_rfl⟩
  · simp only [Option.some.injEq] at h; subst h; exact ⟨Go.Proofs.Try.func58, by kernel_rfl⟩
  · simp only [Option.some.injEq] at h; subst h; exact ⟨Go.Proofs.Try.func59, by kernel_rfl⟩
  · simp only [Option.some.injEq] at h; subst h; exact ⟨Go.Proofs.Try.func60, by kernel_rfl⟩
  · simp only [Option.some.injEq] at h; subst h; exact ⟨Go.Proofs.Try.func83, by kernel_rfl⟩
  · simp only [Option.some.injEq] at h; subst h; exact ⟨Go.Proofs.Try.func84, by kernel_rfl⟩
  · simp only [Option.some.injEq] at h; subst h; exact ⟨Go.Proofs.Try.func85, by kernel_rfl⟩
  · simp only [Option.some.injEq] at h; subst h; exact ⟨Go.Proofs.Try.func86, by kernel_rfl⟩
  · simp only [Option.some.injEq] at h; subst h; exact ⟨Go.Proofs.Try.func87, by kernel_rfl⟩
  · simp only [Option.some.injEq] at h; subst h; exact ⟨Go.Proofs.Try.func88, by kernel_rfl⟩
  · simp only [Option.some.injEq] at h; subst h; exact ⟨Go.Proofs.Try.func89, by kernel_rfl⟩
  · simp only [Option.some.injEq] at h; subst h; exact ⟨Go.Proofs.Try.func90, by kernel_rfl⟩
  · simp only [Option.some.injEq] at h; subst h; exact ⟨Go.Proofs.Try.func91, by kernel_rfl⟩
  · simp only [Option.some.injEq] at h; subst h; exact ⟨Go.Proofs.Try.func92, by kernel_rfl⟩
  · simp only [Option.some.injEq] at h; subst h; exact ⟨Go.Proofs.Try.func93, by kernel_rfl⟩
  · simp only [Option.some.injEq] at h; subst h; exact ⟨Go.Proofs.Try.func94, by kernel_rfl⟩
  · simp only [Option.some.injEq] at h; subst h; exact ⟨Go.Proofs.Try.func34, by kernel_rfl⟩
  · simp only [Option.some.injEq] at h; subst h; exact ⟨Go.Proofs.Try.func33, by kernel_rfl⟩
  · simp only [Option.some.injEq] at h; subst h; exact ⟨Go.Proofs.Try.func54, by kernel_rfl⟩
  · simp only [Option.some.injEq] at h; subst h; exact ⟨Go.Proofs.Try.func55, by kernel_rfl⟩
  · simp only [Option.some.injEq] at h; subst h; exact ⟨Go.Proofs.Try.func32, by kernel_rfl⟩
  · simp only [Option.some.injEq] at h; subst h; exact ⟨Go.Proofs.Try.func53, by kernel_rfl⟩
  · simp only [Option.some.injEq] at h; subst h; exact ⟨Go.Proofs.Try.func35, by kernel_rfl⟩
  · simp only [Option.some.injEq] at h; subst h; exact ⟨Go.Proofs.Try.func69, by kernel_rfl⟩
  · simp only [Option.some.injEq] at h; subst h; exact ⟨Go.Proofs.Try.func62, by kernel_rfl⟩
  · simp only [Option.some.injEq] at h; subst h; exact ⟨Go.Proofs.Try.func101, by kernel_rfl⟩
  · simp only [Option.some.injEq] at h; subst h; exact ⟨Go.Proofs.Try.func72, by kernel_rfl⟩
  · simp only [Option.some.injEq] at h; subst h; exact ⟨Go.Proofs.Try.func102, by kernel_rfl⟩
  · simp only [Option.some.injEq] at h; subst h; exact ⟨Go.Proofs.Try.func104, by kernel_rfl⟩
  · simp only [Option.some.injEq] at h; subst h; exact ⟨Go.Proofs.Try.func40, by kernel_rfl⟩
  · simp only [Option.some.injEq] at h; subst h; exact ⟨Go.Proofs.Try.func44, by kernel_rfl⟩
  · simp only [Option.some.injEq] at h; subst h; exact ⟨Go.Proofs.Try.func27, by kernel_rfl⟩
  · simp only [Option.some.injEq] at h; subst h; exact ⟨Go.Proofs.Try.func97, by kernel_rfl⟩
  · simp only [Option.some.injEq] at h; subst h; exact ⟨Go.Proofs.Try.func98, by kernel_rfl⟩
  · simp only [Option.some.injEq] at h; subst h; exact ⟨Go.Proofs.Try.func100, by kernel_rfl⟩
  · simp only [Option.some.injEq] at h; subst h; exact ⟨Go.Proofs.Try.func80, by kernel_rfl⟩
  · simp at h

/-! ref01_power -/
/-! ref01_Bit -/
/-! ref01_Put -/
/-! ref01_Join -/
/-! ref01_Split -/
/-! ref01_Signed -/
/-! ref02_Op -/
/-! ref02_Of -/
/-! ref02_Byte -/
/-! ref02_each -/
/-! ref02_Do -/
/-! ref02_Inc -/
/-! ref02_Dec -/
/-! ref02_Daa -/
/-! ref02_Cpl -/
/-! ref02_Scf -/
/-! ref02_Ccf -/
/-! ref02_AddWords -/
/-! ref02_AddSigned -/
/-! ref03_move -/
/-! ref03_Do -/
/-! ref03_Fast -/
/-! ref03_Test -/
/-! ref03_Res -/
/-! ref03_Set -/
/-! ref04_Get -/
/-! ref04_Put -/
/-! ref04_Pair -/
/-! ref04_PutPair -/
/-! ref04_Flags -/
/-! ref04_WithFlags -/
/-! ref04_Holds -/
/-! ref14_All -/
/-! ref14_First -/
/-! alu_Of -/
@[reducible] def alu_Of.as : List Shp := [.k (.i .u8)]
@[reducible] def alu_Of.rs : List Shp := [.agg ⟨.b, [.b, .b, .b]⟩]
def alu_Of.G (a0 : Int) : Option ((Bool × Bool × Bool × Bool) × Unit) :=
  some ((bits BinOp.and IntKind.u8 a0 (128 : Int) != (0 : Int), bits BinOp.and IntKind.u8 a0 (64 : Int) != (0 : Int), bits BinOp.and IntKind.u8 a0 (32 : Int) != (0 : Int), bits BinOp.and IntKind.u8 a0 (16 : Int) != (0 : Int)), ())
noncomputable def alu_Of.C (a0 : Int) : Option ((Bool × Bool × Bool × Bool) × Unit) := alu_Of.G a0
theorem alu_Of.gen : PureOK Go.Proofs.Try.prog 56 alu_Of.as alu_Of.rs (fun x => alu_Of.G x.1) :=
  fn_gen (tbl := tblOf tblI 56 Go.Proofs.Try.f56) (ks := []) (ls := []) (n := 200) (d := 6) (tblOf_ok tblI_ok Go.Proofs.Try.func56 (by kernel_rfl)) (by rfl) (fun x => by kernel_rfl)
noncomputable def alu_Of.F : (Int × Unit) → Option ((Bool × Bool × Bool × Bool) × Unit) := fun x => alu_Of.C x.1
theorem alu_Of.ok : PureOK Go.Proofs.Try.prog 56 alu_Of.as alu_Of.rs alu_Of.F := alu_Of.gen
/-! alu_Byte -/
@[reducible] def alu_Byte.as : List Shp := [.agg ⟨.b, [.b, .b, .b]⟩]
@[reducible] def alu_Byte.rs : List Shp := [.k (.i .u8)]
@[reducible] def alu_Byte.L0.s : LSh := (⟨30, [(3, .k (.i .u8)), (18, .arr ⟨.b, [.i .u8]⟩ 4), (19, .k (.i .i64))], [none], []⟩ : LSh)
@[reducible] def alu_Byte.L0.xs : List (Ex × LSh) := ([(.exit 0, ⟨30, [(3, .k (.i .u8))], [none], []⟩)] : List (Ex × LSh))
def alu_Byte.L0.step (t3 : Int) (t18 : List (Bool × Int)) (t19 : Int) : Option (((Int × (List (Bool × Int)) × Int × Unit) × Unit × Unit) ⊕ ((Int × Unit) × Unit × Unit)) :=
  if decide (t19 < (4 : Int)) = true then if (0 : Int) ≤ t19 ∧ t19 < (4 : Int) then if (List.getD t18 (Int.toNat t19) (false, (0 : Int))).1 = true then some (Sum.inl ((bits BinOp.or IntKind.u8 t3 (List.getD t18 (Int.toNat t19) (false, (0 : Int))).2, t18, IntKind.wrap IntKind.i64 (t19 + (1 : Int)), ()), (), ())) else some (Sum.inl ((t3, t18, IntKind.wrap IntKind.i64 (t19 + (1 : Int)), ()), (), ())) else none else some (Sum.inr ((t3, ()), (), ()))
theorem alu_Byte.L0.gen : LoopOK Go.Proofs.Try.prog 107 0 alu_Byte.L0.s alu_Byte.L0.xs (iterU fun x => alu_Byte.L0.step x.1.1 x.1.2.1 x.1.2.2.1) :=
  loop_gen (tbl := tblOf tblI 107 Go.Proofs.Try.f107) (ks := []) (ls := []) (n := 200) (d := 6) (fn := Go.Proofs.Try.f107) (tblOf_ok tblI_ok Go.Proofs.Try.func107 (by kernel_rfl)) (by rfl) (by rfl) (fun x => by kernel_rfl)
noncomputable def alu_Byte.L0.F : ((Int × (List (Bool × Int)) × Int × Unit) × Unit × Unit) → Option ((Int × Unit) × Unit × Unit) := iterU fun x => alu_Byte.L0.step x.1.1 x.1.2.1 x.1.2.2.1
theorem alu_Byte.L0.ok : LoopOK Go.Proofs.Try.prog 107 0 alu_Byte.L0.s alu_Byte.L0.xs alu_Byte.L0.F := alu_Byte.L0.gen
def alu_Byte.G (alu_Byte_L0_F : ((Int × (List (Bool × Int)) × Int × Unit) × Unit × Unit) → Option ((Int × Unit) × Unit × Unit)) (a0 : (Bool × Bool × Bool × Bool)) : Option (Int × Unit) :=
  Option.bind (alu_Byte_L0_F (((0 : Int), [(a0.1, (128 : Int)), (a0.2.1, (64 : Int)), (a0.2.2.1, (32 : Int)), (a0.2.2.2, (16 : Int))], (0 : Int), ()), (), ())) fun y0 => some y0.1
noncomputable def alu_Byte.C (a0 : (Bool × Bool × Bool × Bool)) : Option (Int × Unit) := alu_Byte.G alu_Byte.L0.F a0
theorem alu_Byte.gen (alu_Byte_L0_F : ((Int × (List (Bool × Int)) × Int × Unit) × Unit × Unit) → Option ((Int × Unit) × Unit × Unit)) (alu_Byte_L0_ok : LoopOK Go.Proofs.Try.prog 107 0 alu_Byte.L0.s alu_Byte.L0.xs alu_Byte_L0_F) : PureOK Go.Proofs.Try.prog 107 alu_Byte.as alu_Byte.rs (fun x => alu_Byte.G alu_Byte_L0_F x.1) :=
  fn_gen (tbl := tblOf tblI 107 Go.Proofs.Try.f107) (ks := []) (ls := [lk (P := Go.Proofs.Try.prog) 107 0 alu_Byte.L0.s alu_Byte.L0.xs alu_Byte_L0_F alu_Byte_L0_ok (by rfl)]) (n := 200) (d := 6) (tblOf_ok tblI_ok Go.Proofs.Try.func107 (by kernel_rfl)) (by rfl) (fun x => by kernel_rfl)
noncomputable def alu_Byte.F : ((Bool × Bool × Bool × Bool) × Unit) → Option (Int × Unit) := fun x => alu_Byte.C x.1
theorem alu_Byte.ok : PureOK Go.Proofs.Try.prog 107 alu_Byte.as alu_Byte.rs alu_Byte.F := alu_Byte.gen alu_Byte.L0.F alu_Byte.L0.ok
/-! alu_add -/
@[reducible] def alu_add.as : List Shp := [.k (.i .u8), .k (.i .u8), .k (.i .u8)]
@[reducible] def alu_add.rs : List Shp := [.k (.i .u8), .agg ⟨.b, [.b, .b, .b]⟩]
def alu_add.G (a0 : Int) (a1 : Int) (a2 : Int) : Option (Int × (Bool × Bool × Bool × Bool) × Unit) :=
  some (IntKind.wrap IntKind.u8 (IntKind.wrap IntKind.u16 (IntKind.wrap IntKind.u16 (IntKind.wrap IntKind.u16 a0 + IntKind.wrap IntKind.u16 a1) + IntKind.wrap IntKind.u16 a2)), (IntKind.wrap IntKind.u8 (IntKind.wrap IntKind.u16 (IntKind.wrap IntKind.u16 (IntKind.wrap IntKind.u16 a0 + IntKind.wrap IntKind.u16 a1) + IntKind.wrap IntKind.u16 a2)) == (0 : Int), false, bits BinOp.and IntKind.u8 (bits BinOp.xor IntKind.u8 (bits BinOp.xor IntKind.u8 a0 a1) (IntKind.wrap IntKind.u8 (IntKind.wrap IntKind.u16 (IntKind.wrap IntKind.u16 (IntKind.wrap IntKind.u16 a0 + IntKind.wrap IntKind.u16 a1) + IntKind.wrap IntKind.u16 a2)))) (16 : Int) != (0 : Int), Int.fdiv (IntKind.wrap IntKind.u16 (IntKind.wrap IntKind.u16 (IntKind.wrap IntKind.u16 a0 + IntKind.wrap IntKind.u16 a1) + IntKind.wrap IntKind.u16 a2)) (256 : Int) != (0 : Int)), ())
noncomputable def alu_add.C (a0 : Int) (a1 : Int) (a2 : Int) : Option (Int × (Bool × Bool × Bool × Bool) × Unit) := alu_add.G a0 a1 a2
theorem alu_add.gen : PureOK Go.Proofs.Try.prog 95 alu_add.as alu_add.rs (fun x => alu_add.G x.1 x.2.1 x.2.2.1) :=
  fn_gen (tbl := tblOf tblI 95 Go.Proofs.Try.f95) (ks := []) (ls := []) (n := 200) (d := 6) (tblOf_ok tblI_ok Go.Proofs.Try.func95 (by kernel_rfl)) (by rfl) (fun x => by kernel_rfl)
noncomputable def alu_add.F : (Int × Int × Int × Unit) → Option (Int × (Bool × Bool × Bool × Bool) × Unit) := fun x => alu_add.C x.1 x.2.1 x.2.2.1
theorem alu_add.ok : PureOK Go.Proofs.Try.prog 95 alu_add.as alu_add.rs alu_add.F := alu_add.gen
/-! alu_sub -/
@[reducible] def alu_sub.as : List Shp := [.k (.i .u8), .k (.i .u8), .k (.i .u8)]
@[reducible] def alu_sub.rs : List Shp := [.k (.i .u8), .agg ⟨.b, [.b, .b, .b]⟩]
def alu_sub.G (alu_add_F : (Int × Int × Int × Unit) → Option (Int × (Bool × Bool × Bool × Bool) × Unit)) (a0 : Int) (a1 : Int) (a2 : Int) : Option (Int × (Bool × Bool × Bool × Bool) × Unit) :=
  Option.bind (alu_add_F (a0, bits BinOp.xor IntKind.u8 (255 : Int) a1, IntKind.wrap IntKind.u8 ((1 : Int) - a2), ())) fun y0 => some (y0.1, (y0.1 == (0 : Int), true, !y0.2.1.2.2.1, !y0.2.1.2.2.2), ())
noncomputable def alu_sub.C (a0 : Int) (a1 : Int) (a2 : Int) : Option (Int × (Bool × Bool × Bool × Bool) × Unit) := alu_sub.G alu_add.F a0 a1 a2
theorem alu_sub.gen (alu_add_F : (Int × Int × Int × Unit) → Option (Int × (Bool × Bool × Bool × Bool) × Unit)) (alu_add_ok : PureOK Go.Proofs.Try.prog 95 alu_add.as alu_add.rs alu_add_F) : PureOK Go.Proofs.Try.prog 96 alu_sub.as alu_sub.rs (fun x => alu_sub.G alu_add_F x.1 x.2.1 x.2.2.1) :=
  fn_gen (tbl := tblOf tblI 96 Go.Proofs.Try.f96) (ks := [knView (P := Go.Proofs.Try.prog) 95 alu_add.as alu_add.rs alu_add_F alu_add_ok (by rfl) (by rfl) (by rfl)]) (ls := []) (n := 200) (d := 6) (tblOf_ok tblI_ok Go.Proofs.Try.func96 (by kernel_rfl)) (by rfl) (fun x => by kernel_rfl)
noncomputable def alu_sub.F : (Int × Int × Int × Unit) → Option (Int × (Bool × Bool × Bool × Bool) × Unit) := fun x => alu_sub.C x.1 x.2.1 x.2.2.1
theorem alu_sub.ok : PureOK Go.Proofs.Try.prog 96 alu_sub.as alu_sub.rs alu_sub.F := alu_sub.gen alu_add.F alu_add.ok
/-! alu_Do -/
@[reducible] def alu_Do.as : List Shp := [.k (.i .i64), .k (.i .u8), .k (.i .u8), .agg ⟨.b, [.b, .b, .b]⟩]
@[reducible] def alu_Do.rs : List Shp := [.k (.i .u8), .agg ⟨.b, [.b, .b, .b]⟩]
def alu_Do.G (alu_add_F : (Int × Int × Int × Unit) → Option (Int × (Bool × Bool × Bool × Bool) × Unit)) (alu_sub_F : (Int × Int × Int × Unit) → Option (Int × (Bool × Bool × Bool × Bool) × Unit)) (a0 : Int) (a1 : Int) (a2 : Int) (a3 : (Bool × Bool × Bool × Bool)) : Option (Int × (Bool × Bool × Bool × Bool) × Unit) :=
  if (bits BinOp.and IntKind.i64 a0 (7 : Int) == (1 : Int)) = true then if a3.2.2.2 = true then Option.bind (alu_add_F (a1, a2, (1 : Int), ())) fun y0 => some y0 else Option.bind (alu_add_F (a1, a2, (0 : Int), ())) fun y0 => some y0 else if (bits BinOp.and IntKind.i64 a0 (7 : Int) == (0 : Int)) = true then Option.bind (alu_add_F (a1, a2, (0 : Int), ())) fun y0 => some y0 else if (bits BinOp.and IntKind.i64 a0 (7 : Int) == (3 : Int)) = true then if a3.2.2.2 = true then Option.bind (alu_sub_F (a1, a2, (1 : Int), ())) fun y0 => some y0 else Option.bind (alu_sub_F (a1, a2, (0 : Int), ())) fun y0 => some y0 else if (bits BinOp.and IntKind.i64 a0 (7 : Int) == (2 : Int)) = true then Option.bind (alu_sub_F (a1, a2, (0 : Int), ())) fun y0 => some y0 else if (bits BinOp.and IntKind.i64 a0 (7 : Int) == (7 : Int)) = true then Option.bind (alu_sub_F (a1, a2, (0 : Int), ())) fun y0 => some (a1, y0.2) else if (bits BinOp.and IntKind.i64 a0 (7 : Int) == (4 : Int)) = true then some (bits BinOp.and IntKind.u8 a1 a2, (bits BinOp.and IntKind.u8 a1 a2 == (0 : Int), false, true, false), ()) else if (bits BinOp.and IntKind.i64 a0 (7 : Int) == (5 : Int)) = true then some (bits BinOp.xor IntKind.u8 a1 a2, (a1 == a2, false, false, false), ()) else some (bits BinOp.or IntKind.u8 a1 a2, (bits BinOp.or IntKind.u8 a1 a2 == (0 : Int), false, false, false), ())
noncomputable def alu_Do.C (a0 : Int) (a1 : Int) (a2 : Int) (a3 : (Bool × Bool × Bool × Bool)) : Option (Int × (Bool × Bool × Bool × Bool) × Unit) := alu_Do.G alu_add.F alu_sub.F a0 a1 a2 a3
theorem alu_Do.gen (alu_add_F : (Int × Int × Int × Unit) → Option (Int × (Bool × Bool × Bool × Bool) × Unit)) (alu_add_ok : PureOK Go.Proofs.Try.prog 95 alu_add.as alu_add.rs alu_add_F) (alu_sub_F : (Int × Int × Int × Unit) → Option (Int × (Bool × Bool × Bool × Bool) × Unit)) (alu_sub_ok : PureOK Go.Proofs.Try.prog 96 alu_sub.as alu_sub.rs alu_sub_F) : PureOK Go.Proofs.Try.prog 73 alu_Do.as alu_Do.rs (fun x => alu_Do.G alu_add_F alu_sub_F x.1 x.2.1 x.2.2.1 x.2.2.2.1) :=
  fn_gen (tbl := tblOf tblI 73 Go.Proofs.Try.f73) (ks := [knView (P := Go.Proofs.Try.prog) 95 alu_add.as alu_add.rs alu_add_F alu_add_ok (by rfl) (by rfl) (by rfl), knView (P := Go.Proofs.Try.prog) 96 alu_sub.as alu_sub.rs alu_sub_F alu_sub_ok (by rfl) (by rfl) (by rfl)]) (ls := []) (n := 200) (d := 6) (tblOf_ok tblI_ok Go.Proofs.Try.func73 (by kernel_rfl)) (by rfl) (fun x => by kernel_rfl)
noncomputable def alu_Do.F : (Int × Int × Int × (Bool × Bool × Bool × Bool) × Unit) → Option (Int × (Bool × Bool × Bool × Bool) × Unit) := fun x => alu_Do.C x.1 x.2.1 x.2.2.1 x.2.2.2.1
theorem alu_Do.ok : PureOK Go.Proofs.Try.prog 73 alu_Do.as alu_Do.rs alu_Do.F := alu_Do.gen alu_add.F alu_add.ok alu_sub.F alu_sub.ok
/-! alu_Inc -/
@[reducible] def alu_Inc.as : List Shp := [.k (.i .u8), .agg ⟨.b, [.b, .b, .b]⟩]
@[reducible] def alu_Inc.rs : List Shp := [.k (.i .u8), .agg ⟨.b, [.b, .b, .b]⟩]
def alu_Inc.G (alu_add_F : (Int × Int × Int × Unit) → Option (Int × (Bool × Bool × Bool × Bool) × Unit)) (a0 : Int) (a1 : (Bool × Bool × Bool × Bool)) : Option (Int × (Bool × Bool × Bool × Bool) × Unit) :=
  Option.bind (alu_add_F (a0, (1 : Int), (0 : Int), ())) fun y0 => some (y0.1, (y0.2.1.1, y0.2.1.2.1, y0.2.1.2.2.1, a1.2.2.2), ())
noncomputable def alu_Inc.C (a0 : Int) (a1 : (Bool × Bool × Bool × Bool)) : Option (Int × (Bool × Bool × Bool × Bool) × Unit) := alu_Inc.G alu_add.F a0 a1
theorem alu_Inc.gen (alu_add_F : (Int × Int × Int × Unit) → Option (Int × (Bool × Bool × Bool × Bool) × Unit)) (alu_add_ok : PureOK Go.Proofs.Try.prog 95 alu_add.as alu_add.rs alu_add_F) : PureOK Go.Proofs.Try.prog 64 alu_Inc.as alu_Inc.rs (fun x => alu_Inc.G alu_add_F x.1 x.2.1) :=
  fn_gen (tbl := tblOf tblI 64 Go.Proofs.Try.f64) (ks := [knView (P := Go.Proofs.Try.prog) 95 alu_add.as alu_add.rs alu_add_F alu_add_ok (by rfl) (by rfl) (by rfl)]) (ls := []) (n := 200) (d := 6) (tblOf_ok tblI_ok Go.Proofs.Try.func64 (by kernel_rfl)) (by rfl) (fun x => by kernel_rfl)
noncomputable def alu_Inc.F : (Int × (Bool × Bool × Bool × Bool) × Unit) → Option (Int × (Bool × Bool × Bool × Bool) × Unit) := fun x => alu_Inc.C x.1 x.2.1
theorem alu_Inc.ok : PureOK Go.Proofs.Try.prog 64 alu_Inc.as alu_Inc.rs alu_Inc.F := alu_Inc.gen alu_add.F alu_add.ok
/-! alu_Dec -/
@[reducible] def alu_Dec.as : List Shp := [.k (.i .u8), .agg ⟨.b, [.b, .b, .b]⟩]
@[reducible] def alu_Dec.rs : List Shp := [.k (.i .u8), .agg ⟨.b, [.b, .b, .b]⟩]
def alu_Dec.G (alu_sub_F : (Int × Int × Int × Unit) → Option (Int × (Bool × Bool × Bool × Bool) × Unit)) (a0 : Int) (a1 : (Bool × Bool × Bool × Bool)) : Option (Int × (Bool × Bool × Bool × Bool) × Unit) :=
  Option.bind (alu_sub_F (a0, (1 : Int), (0 : Int), ())) fun y0 => some (y0.1, (y0.2.1.1, y0.2.1.2.1, y0.2.1.2.2.1, a1.2.2.2), ())
noncomputable def alu_Dec.C (a0 : Int) (a1 : (Bool × Bool × Bool × Bool)) : Option (Int × (Bool × Bool × Bool × Bool) × Unit) := alu_Dec.G alu_sub.F a0 a1
theorem alu_Dec.gen (alu_sub_F : (Int × Int × Int × Unit) → Option (Int × (Bool × Bool × Bool × Bool) × Unit)) (alu_sub_ok : PureOK Go.Proofs.Try.prog 96 alu_sub.as alu_sub.rs alu_sub_F) : PureOK Go.Proofs.Try.prog 65 alu_Dec.as alu_Dec.rs (fun x => alu_Dec.G alu_sub_F x.1 x.2.1) :=
  fn_gen (tbl := tblOf tblI 65 Go.Proofs.Try.f65) (ks := [knView (P := Go.Proofs.Try.prog) 96 alu_sub.as alu_sub.rs alu_sub_F alu_sub_ok (by rfl) (by rfl) (by rfl)]) (ls := []) (n := 200) (d := 6) (tblOf_ok tblI_ok Go.Proofs.Try.func65 (by kernel_rfl)) (by rfl) (fun x => by kernel_rfl)
noncomputable def alu_Dec.F : (Int × (Bool × Bool × Bool × Bool) × Unit) → Option (Int × (Bool × Bool × Bool × Bool) × Unit) := fun x => alu_Dec.C x.1 x.2.1
theorem alu_Dec.ok : PureOK Go.Proofs.Try.prog 65 alu_Dec.as alu_Dec.rs alu_Dec.F := alu_Dec.gen alu_sub.F alu_sub.ok
/-! alu_Daa -/
@[reducible] def alu_Daa.as : List Shp := [.k (.i .u8), .agg ⟨.b, [.b, .b, .b]⟩]
@[reducible] def alu_Daa.rs : List Shp := [.k (.i .u8), .agg ⟨.b, [.b, .b, .b]⟩]
def alu_Daa.G (a0 : Int) (a1 : (Bool × Bool × Bool × Bool)) : Option (Int × (Bool × Bool × Bool × Bool) × Unit) :=
  if (a1.2.2.1 == false) = true then if ((!a1.2.1) == true) = true then if decide (bits BinOp.and IntKind.u8 a0 (15 : Int) > (9 : Int)) = true then if (a1.2.2.2 == false) = true then if ((!a1.2.1) == true) = true then if decide (a0 > (153 : Int)) = true then if a1.2.1 = true then some (IntKind.wrap IntKind.u8 (a0 - (102 : Int)), (IntKind.wrap IntKind.u8 (a0 - (102 : Int)) == (0 : Int), a1.2.1, false, true), ()) else some (IntKind.wrap IntKind.u8 (a0 + (102 : Int)), (IntKind.wrap IntKind.u8 (a0 + (102 : Int)) == (0 : Int), a1.2.1, false, true), ()) else if a1.2.1 = true then some (IntKind.wrap IntKind.u8 (a0 - (6 : Int)), (IntKind.wrap IntKind.u8 (a0 - (6 : Int)) == (0 : Int), a1.2.1, false, a1.2.2.2), ()) else some (IntKind.wrap IntKind.u8 (a0 + (6 : Int)), (IntKind.wrap IntKind.u8 (a0 + (6 : Int)) == (0 : Int), a1.2.1, false, a1.2.2.2), ()) else if a1.2.1 = true then some (IntKind.wrap IntKind.u8 (a0 - (6 : Int)), (IntKind.wrap IntKind.u8 (a0 - (6 : Int)) == (0 : Int), a1.2.1, false, a1.2.2.2), ()) else some (IntKind.wrap IntKind.u8 (a0 + (6 : Int)), (IntKind.wrap IntKind.u8 (a0 + (6 : Int)) == (0 : Int), a1.2.1, false, a1.2.2.2), ()) else if a1.2.1 = true then some (IntKind.wrap IntKind.u8 (a0 - (102 : Int)), (IntKind.wrap IntKind.u8 (a0 - (102 : Int)) == (0 : Int), a1.2.1, false, true), ()) else some (IntKind.wrap IntKind.u8 (a0 + (102 : Int)), (IntKind.wrap IntKind.u8 (a0 + (102 : Int)) == (0 : Int), a1.2.1, false, true), ()) else if (a1.2.2.2 == false) = true then if ((!a1.2.1) == true) = true then if decide (a0 > (153 : Int)) = true then if a1.2.1 = true then some (IntKind.wrap IntKind.u8 (a0 - (96 : Int)), (IntKind.wrap IntKind.u8 (a0 - (96 : Int)) == (0 : Int), a1.2.1, false, true), ()) else some (IntKind.wrap IntKind.u8 (a0 + (96 : Int)), (IntKind.wrap IntKind.u8 (a0 + (96 : Int)) == (0 : Int), a1.2.1, false, true), ()) else if a1.2.1 = true then some (IntKind.wrap IntKind.u8 (a0 - (0 : Int)), (IntKind.wrap IntKind.u8 (a0 - (0 : Int)) == (0 : Int), a1.2.1, false, a1.2.2.2), ()) else some (IntKind.wrap IntKind.u8 (a0 + (0 : Int)), (IntKind.wrap IntKind.u8 (a0 + (0 : Int)) == (0 : Int), a1.2.1, false, a1.2.2.2), ()) else if a1.2.1 = true then some (IntKind.wrap IntKind.u8 (a0 - (0 : Int)), (IntKind.wrap IntKind.u8 (a0 - (0 : Int)) == (0 : Int), a1.2.1, false, a1.2.2.2), ()) else some (IntKind.wrap IntKind.u8 (a0 + (0 : Int)), (IntKind.wrap IntKind.u8 (a0 + (0 : Int)) == (0 : Int), a1.2.1, false, a1.2.2.2), ()) else if a1.2.1 = true then some (IntKind.wrap IntKind.u8 (a0 - (96 : Int)), (IntKind.wrap IntKind.u8 (a0 - (96 : Int)) == (0 : Int), a1.2.1, false, true), ()) else some (IntKind.wrap IntKind.u8 (a0 + (96 : Int)), (IntKind.wrap IntKind.u8 (a0 + (96 : Int)) == (0 : Int), a1.2.1, false, true), ()) else if (a1.2.2.2 == false) = true then if ((!a1.2.1) == true) = true then if decide (a0 > (153 : Int)) = true then if a1.2.1 = true then some (IntKind.wrap IntKind.u8 (a0 - (96 : Int)), (IntKind.wrap IntKind.u8 (a0 - (96 : Int)) == (0 : Int), a1.2.1, false, true), ()) else some (IntKind.wrap IntKind.u8 (a0 + (96 : Int)), (IntKind.wrap IntKind.u8 (a0 + (96 : Int)) == (0 : Int), a1.2.1, false, true), ()) else if a1.2.1 = true then some (IntKind.wrap IntKind.u8 (a0 - (0 : Int)), (IntKind.wrap IntKind.u8 (a0 - (0 : Int)) == (0 : Int), a1.2.1, false, a1.2.2.2), ()) else some (IntKind.wrap IntKind.u8 (a0 + (0 : Int)), (IntKind.wrap IntKind.u8 (a0 + (0 : Int)) == (0 : Int), a1.2.1, false, a1.2.2.2), ()) else if a1.2.1 = true then some (IntKind.wrap IntKind.u8 (a0 - (0 : Int)), (IntKind.wrap IntKind.u8 (a0 - (0 : Int)) == (0 : Int), a1.2.1, false, a1.2.2.2), ()) else some (IntKind.wrap IntKind.u8 (a0 + (0 : Int)), (IntKind.wrap IntKind.u8 (a0 + (0 : Int)) == (0 : Int), a1.2.1, false, a1.2.2.2), ()) else if a1.2.1 = true then some (IntKind.wrap IntKind.u8 (a0 - (96 : Int)), (IntKind.wrap IntKind.u8 (a0 - (96 : Int)) == (0 : Int), a1.2.1, false, true), ()) else some (IntKind.wrap IntKind.u8 (a0 + (96 : Int)), (IntKind.wrap IntKind.u8 (a0 + (96 : Int)) == (0 : Int), a1.2.1, false, true), ()) else if (a1.2.2.2 == false) = true then if ((!a1.2.1) == true) = true then if decide (a0 > (153 : Int)) = true then if a1.2.1 = true then some (IntKind.wrap IntKind.u8 (a0 - (102 : Int)), (IntKind.wrap IntKind.u8 (a0 - (102 : Int)) == (0 : Int), a1.2.1, false, true), ()) else some (IntKind.wrap IntKind.u8 (a0 + (102 : Int)), (IntKind.wrap IntKind.u8 (a0 + (102 : Int)) == (0 : Int), a1.2.1, false, true), ()) else if a1.2.1 = true then some (IntKind.wrap IntKind.u8 (a0 - (6 : Int)), (IntKind.wrap IntKind.u8 (a0 - (6 : Int)) == (0 : Int), a1.2.1, false, a1.2.2.2), ()) else some (IntKind.wrap IntKind.u8 (a0 + (6 : Int)), (IntKind.wrap IntKind.u8 (a0 + (6 : Int)) == (0 : Int), a1.2.1, false, a1.2.2.2), ()) else if a1.2.1 = true then some (IntKind.wrap IntKind.u8 (a0 - (6 : Int)), (IntKind.wrap IntKind.u8 (a0 - (6 : Int)) == (0 : Int), a1.2.1, false, a1.2.2.2), ()) else some (IntKind.wrap IntKind.u8 (a0 + (6 : Int)), (IntKind.wrap IntKind.u8 (a0 + (6 : Int)) == (0 : Int), a1.2.1, false, a1.2.2.2), ()) else if a1.2.1 = true then some (IntKind.wrap IntKind.u8 (a0 - (102 : Int)), (IntKind.wrap IntKind.u8 (a0 - (102 : Int)) == (0 : Int), a1.2.1, false, true), ()) else some (IntKind.wrap IntKind.u8 (a0 + (102 : Int)), (IntKind.wrap IntKind.u8 (a0 + (102 : Int)) == (0 : Int), a1.2.1, false, true), ())
noncomputable def alu_Daa.C (a0 : Int) (a1 : (Bool × Bool × Bool × Bool)) : Option (Int × (Bool × Bool × Bool × Bool) × Unit) := alu_Daa.G a0 a1
theorem alu_Daa.gen : PureOK Go.Proofs.Try.prog 76 alu_Daa.as alu_Daa.rs (fun x => alu_Daa.G x.1 x.2.1) :=
  fn_gen (tbl := tblOf tblI 76 Go.Proofs.Try.f76) (ks := []) (ls := []) (n := 200) (d := 6) (tblOf_ok tblI_ok Go.Proofs.Try.func76 (by kernel_rfl)) (by rfl) (fun x => by kernel_rfl)
noncomputable def alu_Daa.F : (Int × (Bool × Bool × Bool × Bool) × Unit) → Option (Int × (Bool × Bool × Bool × Bool) × Unit) := fun x => alu_Daa.C x.1 x.2.1
theorem alu_Daa.ok : PureOK Go.Proofs.Try.prog 76 alu_Daa.as alu_Daa.rs alu_Daa.F := alu_Daa.gen
/-! alu_Cpl -/
@[reducible] def alu_Cpl.as : List Shp := [.k (.i .u8), .agg ⟨.b, [.b, .b, .b]⟩]
@[reducible] def alu_Cpl.rs : List Shp := [.k (.i .u8), .agg ⟨.b, [.b, .b, .b]⟩]
def alu_Cpl.G (a0 : Int) (a1 : (Bool × Bool × Bool × Bool)) : Option (Int × (Bool × Bool × Bool × Bool) × Unit) :=
  some (bits BinOp.xor IntKind.u8 (255 : Int) a0, (a1.1, true, true, a1.2.2.2), ())
noncomputable def alu_Cpl.C (a0 : Int) (a1 : (Bool × Bool × Bool × Bool)) : Option (Int × (Bool × Bool × Bool × Bool) × Unit) := alu_Cpl.G a0 a1
theorem alu_Cpl.gen : PureOK Go.Proofs.Try.prog 77 alu_Cpl.as alu_Cpl.rs (fun x => alu_Cpl.G x.1 x.2.1) :=
  fn_gen (tbl := tblOf tblI 77 Go.Proofs.Try.f77) (ks := []) (ls := []) (n := 200) (d := 6) (tblOf_ok tblI_ok Go.Proofs.Try.func77 (by kernel_rfl)) (by rfl) (fun x => by kernel_rfl)
noncomputable def alu_Cpl.F : (Int × (Bool × Bool × Bool × Bool) × Unit) → Option (Int × (Bool × Bool × Bool × Bool) × Unit) := fun x => alu_Cpl.C x.1 x.2.1
theorem alu_Cpl.ok : PureOK Go.Proofs.Try.prog 77 alu_Cpl.as alu_Cpl.rs alu_Cpl.F := alu_Cpl.gen
/-! alu_Scf -/
@[reducible] def alu_Scf.as : List Shp := [.agg ⟨.b, [.b, .b, .b]⟩]
@[reducible] def alu_Scf.rs : List Shp := [.agg ⟨.b, [.b, .b, .b]⟩]
def alu_Scf.G (a0 : (Bool × Bool × Bool × Bool)) : Option ((Bool × Bool × Bool × Bool) × Unit) :=
  some ((a0.1, false, false, true), ())
noncomputable def alu_Scf.C (a0 : (Bool × Bool × Bool × Bool)) : Option ((Bool × Bool × Bool × Bool) × Unit) := alu_Scf.G a0
theorem alu_Scf.gen : PureOK Go.Proofs.Try.prog 78 alu_Scf.as alu_Scf.rs (fun x => alu_Scf.G x.1) :=
  fn_gen (tbl := tblOf tblI 78 Go.Proofs.Try.f78) (ks := []) (ls := []) (n := 200) (d := 6) (tblOf_ok tblI_ok Go.Proofs.Try.func78 (by kernel_rfl)) (by rfl) (fun x => by kernel_rfl)
noncomputable def alu_Scf.F : ((Bool × Bool × Bool × Bool) × Unit) → Option ((Bool × Bool × Bool × Bool) × Unit) := fun x => alu_Scf.C x.1
theorem alu_Scf.ok : PureOK Go.Proofs.Try.prog 78 alu_Scf.as alu_Scf.rs alu_Scf.F := alu_Scf.gen
/-! alu_Ccf -/
@[reducible] def alu_Ccf.as : List Shp := [.agg ⟨.b, [.b, .b, .b]⟩]
@[reducible] def alu_Ccf.rs : List Shp := [.agg ⟨.b, [.b, .b, .b]⟩]
def alu_Ccf.G (a0 : (Bool × Bool × Bool × Bool)) : Option ((Bool × Bool × Bool × Bool) × Unit) :=
  some ((a0.1, false, false, !a0.2.2.2), ())
noncomputable def alu_Ccf.C (a0 : (Bool × Bool × Bool × Bool)) : Option ((Bool × Bool × Bool × Bool) × Unit) := alu_Ccf.G a0
theorem alu_Ccf.gen : PureOK Go.Proofs.Try.prog 79 alu_Ccf.as alu_Ccf.rs (fun x => alu_Ccf.G x.1) :=
  fn_gen (tbl := tblOf tblI 79 Go.Proofs.Try.f79) (ks := []) (ls := []) (n := 200) (d := 6) (tblOf_ok tblI_ok Go.Proofs.Try.func79 (by kernel_rfl)) (by rfl) (fun x => by kernel_rfl)
noncomputable def alu_Ccf.F : ((Bool × Bool × Bool × Bool) × Unit) → Option ((Bool × Bool × Bool × Bool) × Unit) := fun x => alu_Ccf.C x.1
theorem alu_Ccf.ok : PureOK Go.Proofs.Try.prog 79 alu_Ccf.as alu_Ccf.rs alu_Ccf.F := alu_Ccf.gen
/-! alu_AddWords -/
@[reducible] def alu_AddWords.as : List Shp := [.k (.i .u16), .k (.i .u16), .agg ⟨.b, [.b, .b, .b]⟩]
@[reducible] def alu_AddWords.rs : List Shp := [.k (.i .u16), .agg ⟨.b, [.b, .b, .b]⟩]
def alu_AddWords.G (a0 : Int) (a1 : Int) (a2 : (Bool × Bool × Bool × Bool)) : Option (Int × (Bool × Bool × Bool × Bool) × Unit) :=
  some (IntKind.wrap IntKind.u16 (IntKind.wrap IntKind.u32 (IntKind.wrap IntKind.u32 a0 + IntKind.wrap IntKind.u32 a1)), (a2.1, false, bits BinOp.and IntKind.u16 (bits BinOp.xor IntKind.u16 (bits BinOp.xor IntKind.u16 a0 a1) (IntKind.wrap IntKind.u16 (IntKind.wrap IntKind.u32 (IntKind.wrap IntKind.u32 a0 + IntKind.wrap IntKind.u32 a1)))) (4096 : Int) != (0 : Int), Int.fdiv (IntKind.wrap IntKind.u32 (IntKind.wrap IntKind.u32 a0 + IntKind.wrap IntKind.u32 a1)) (65536 : Int) != (0 : Int)), ())
noncomputable def alu_AddWords.C (a0 : Int) (a1 : Int) (a2 : (Bool × Bool × Bool × Bool)) : Option (Int × (Bool × Bool × Bool × Bool) × Unit) := alu_AddWords.G a0 a1 a2
theorem alu_AddWords.gen : PureOK Go.Proofs.Try.prog 105 alu_AddWords.as alu_AddWords.rs (fun x => alu_AddWords.G x.1 x.2.1 x.2.2.1) :=
  fn_gen (tbl := tblOf tblI 105 Go.Proofs.Try.f105) (ks := []) (ls := []) (n := 200) (d := 6) (tblOf_ok tblI_ok Go.Proofs.Try.func105 (by kernel_rfl)) (by rfl) (fun x => by kernel_rfl)
noncomputable def alu_AddWords.F : (Int × Int × (Bool × Bool × Bool × Bool) × Unit) → Option (Int × (Bool × Bool × Bool × Bool) × Unit) := fun x => alu_AddWords.C x.1 x.2.1 x.2.2.1
theorem alu_AddWords.ok : PureOK Go.Proofs.Try.prog 105 alu_AddWords.as alu_AddWords.rs alu_AddWords.F := alu_AddWords.gen
/-! alu_AddSigned -/
@[reducible] def alu_AddSigned.as : List Shp := [.k (.i .u16), .k (.i .u8)]
@[reducible] def alu_AddSigned.rs : List Shp := [.k (.i .u16), .agg ⟨.b, [.b, .b, .b]⟩]
def alu_AddSigned.G (alu_add_F : (Int × Int × Int × Unit) → Option (Int × (Bool × Bool × Bool × Bool) × Unit)) (a0 : Int) (a1 : Int) : Option (Int × (Bool × Bool × Bool × Bool) × Unit) :=
  Option.bind (alu_add_F (IntKind.wrap IntKind.u8 a0, a1, (0 : Int), ())) fun y0 => some (IntKind.wrap IntKind.u16 (a0 + IntKind.wrap IntKind.u16 (IntKind.wrap IntKind.i16 (IntKind.wrap IntKind.i8 a1))), (false, false, y0.2.1.2.2), ())
noncomputable def alu_AddSigned.C (a0 : Int) (a1 : Int) : Option (Int × (Bool × Bool × Bool × Bool) × Unit) := alu_AddSigned.G alu_add.F a0 a1
theorem alu_AddSigned.gen (alu_add_F : (Int × Int × Int × Unit) → Option (Int × (Bool × Bool × Bool × Bool) × Unit)) (alu_add_ok : PureOK Go.Proofs.Try.prog 95 alu_add.as alu_add.rs alu_add_F) : PureOK Go.Proofs.Try.prog 106 alu_AddSigned.as alu_AddSigned.rs (fun x => alu_AddSigned.G alu_add_F x.1 x.2.1) :=
  fn_gen (tbl := tblOf tblI 106 Go.Proofs.Try.f106) (ks := [knView (P := Go.Proofs.Try.prog) 95 alu_add.as alu_add.rs alu_add_F alu_add_ok (by rfl) (by rfl) (by rfl)]) (ls := []) (n := 200) (d := 6) (tblOf_ok tblI_ok Go.Proofs.Try.func106 (by kernel_rfl)) (by rfl) (fun x => by kernel_rfl)
noncomputable def alu_AddSigned.F : (Int × Int × Unit) → Option (Int × (Bool × Bool × Bool × Bool) × Unit) := fun x => alu_AddSigned.C x.1 x.2.1
theorem alu_AddSigned.ok : PureOK Go.Proofs.Try.prog 106 alu_AddSigned.as alu_AddSigned.rs alu_AddSigned.F := alu_AddSigned.gen alu_add.F alu_add.ok
/-! word_Put -/
@[reducible] def word_Put.as : List Shp := [.k (.i .u8), .k (.i .i64), .k .b]
@[reducible] def word_Put.rs : List Shp := [.k (.i .u8)]
def word_Put.G (a0 : Int) (a1 : Int) (a2 : Bool) : Option (Int × Unit) :=
  if (decide (a1 < (0 : Int)) == false) = true then if decide (a1 > (7 : Int)) = true then some (a0, ()) else if a2 = true then if (!decide (a1 < (0 : Int))) = true then some (bits BinOp.or IntKind.u8 a0 (IntKind.wrap IntKind.u8 ((1 : Int) * (2 : Int) ^ min (Int.toNat a1) (8 : Nat))), ()) else none else if (!decide (a1 < (0 : Int))) = true then some (bits BinOp.andNot IntKind.u8 a0 (IntKind.wrap IntKind.u8 ((1 : Int) * (2 : Int) ^ min (Int.toNat a1) (8 : Nat))), ()) else none else some (a0, ())
noncomputable def word_Put.C (a0 : Int) (a1 : Int) (a2 : Bool) : Option (Int × Unit) := word_Put.G a0 a1 a2
theorem word_Put.gen : PureOK Go.Proofs.Try.prog 99 word_Put.as word_Put.rs (fun x => word_Put.G x.1 x.2.1 x.2.2.1) :=
  fn_gen (tbl := tblOf tblI 99 Go.Proofs.Try.f99) (ks := []) (ls := []) (n := 200) (d := 6) (tblOf_ok tblI_ok Go.Proofs.Try.func99 (by kernel_rfl)) (by rfl) (fun x => by kernel_rfl)
noncomputable def word_Put.F : (Int × Int × Bool × Unit) → Option (Int × Unit) := fun x => word_Put.C x.1 x.2.1 x.2.2.1
theorem word_Put.ok : PureOK Go.Proofs.Try.prog 99 word_Put.as word_Put.rs word_Put.F := word_Put.gen
/-! shift_Do -/
@[reducible] def shift_Do.as : List Shp := [.k (.i .i64), .k (.i .u8), .agg ⟨.b, [.b, .b, .b]⟩]
@[reducible] def shift_Do.rs : List Shp := [.k (.i .u8), .agg ⟨.b, [.b, .b, .b]⟩]
def shift_Do.G (word_Put_F : (Int × Int × Bool × Unit) → Option (Int × Unit)) (a0 : Int) (a1 : Int) (a2 : (Bool × Bool × Bool × Bool)) : Option (Int × (Bool × Bool × Bool × Bool) × Unit) :=
  if (bits BinOp.and IntKind.i64 a0 (7 : Int) == (0 : Int)) = true then Option.bind (word_Put_F (IntKind.wrap IntKind.u8 (a1 * (2 : Int)), (0 : Int), bits BinOp.and IntKind.u8 a1 (128 : Int) != (0 : Int), ())) fun y0 => some (y0.1, (y0.1 == (0 : Int), false, false, bits BinOp.and IntKind.u8 a1 (128 : Int) != (0 : Int)), ()) else if (bits BinOp.and IntKind.i64 a0 (7 : Int) == (1 : Int)) = true then Option.bind (word_Put_F (Int.fdiv a1 (2 : Int), (7 : Int), bits BinOp.and IntKind.u8 a1 (1 : Int) != (0 : Int), ())) fun y0 => some (y0.1, (y0.1 == (0 : Int), false, false, bits BinOp.and IntKind.u8 a1 (1 : Int) != (0 : Int)), ()) else if (bits BinOp.and IntKind.i64 a0 (7 : Int) == (2 : Int)) = true then Option.bind (word_Put_F (IntKind.wrap IntKind.u8 (a1 * (2 : Int)), (0 : Int), a2.2.2.2, ())) fun y0 => some (y0.1, (y0.1 == (0 : Int), false, false, bits BinOp.and IntKind.u8 a1 (128 : Int) != (0 : Int)), ()) else if (bits BinOp.and IntKind.i64 a0 (7 : Int) == (3 : Int)) = true then Option.bind (word_Put_F (Int.fdiv a1 (2 : Int), (7 : Int), a2.2.2.2, ())) fun y0 => some (y0.1, (y0.1 == (0 : Int), false, false, bits BinOp.and IntKind.u8 a1 (1 : Int) != (0 : Int)), ()) else if (bits BinOp.and IntKind.i64 a0 (7 : Int) == (4 : Int)) = true then Option.bind (word_Put_F (IntKind.wrap IntKind.u8 (a1 * (2 : Int)), (0 : Int), false, ())) fun y0 => some (y0.1, (y0.1 == (0 : Int), false, false, bits BinOp.and IntKind.u8 a1 (128 : Int) != (0 : Int)), ()) else if (bits BinOp.and IntKind.i64 a0 (7 : Int) == (5 : Int)) = true then Option.bind (word_Put_F (Int.fdiv a1 (2 : Int), (7 : Int), bits BinOp.and IntKind.u8 a1 (128 : Int) != (0 : Int), ())) fun y0 => some (y0.1, (y0.1 == (0 : Int), false, false, bits BinOp.and IntKind.u8 a1 (1 : Int) != (0 : Int)), ()) else if (bits BinOp.and IntKind.i64 a0 (7 : Int) == (6 : Int)) = true then some (bits BinOp.or IntKind.u8 (IntKind.wrap IntKind.u8 (a1 * (16 : Int))) (Int.fdiv a1 (16 : Int)), (bits BinOp.or IntKind.u8 (IntKind.wrap IntKind.u8 (a1 * (16 : Int))) (Int.fdiv a1 (16 : Int)) == (0 : Int), false, false, false), ()) else Option.bind (word_Put_F (Int.fdiv a1 (2 : Int), (7 : Int), false, ())) fun y0 => some (y0.1, (y0.1 == (0 : Int), false, false, bits BinOp.and IntKind.u8 a1 (1 : Int) != (0 : Int)), ())
noncomputable def shift_Do.C (a0 : Int) (a1 : Int) (a2 : (Bool × Bool × Bool × Bool)) : Option (Int × (Bool × Bool × Bool × Bool) × Unit) := shift_Do.G word_Put.F a0 a1 a2
theorem shift_Do.gen (word_Put_F : (Int × Int × Bool × Unit) → Option (Int × Unit)) (word_Put_ok : PureOK Go.Proofs.Try.prog 99 word_Put.as word_Put.rs word_Put_F) : PureOK Go.Proofs.Try.prog 66 shift_Do.as shift_Do.rs (fun x => shift_Do.G word_Put_F x.1 x.2.1 x.2.2.1) :=
  fn_gen (tbl := tblOf tblI 66 Go.Proofs.Try.f66) (ks := [knView (P := Go.Proofs.Try.prog) 99 word_Put.as word_Put.rs word_Put_F word_Put_ok (by rfl) (by rfl) (by rfl)]) (ls := []) (n := 200) (d := 6) (tblOf_ok tblI_ok Go.Proofs.Try.func66 (by kernel_rfl)) (by rfl) (fun x => by kernel_rfl)
noncomputable def shift_Do.F : (Int × Int × (Bool × Bool × Bool × Bool) × Unit) → Option (Int × (Bool × Bool × Bool × Bool) × Unit) := fun x => shift_Do.C x.1 x.2.1 x.2.2.1
theorem shift_Do.ok : PureOK Go.Proofs.Try.prog 66 shift_Do.as shift_Do.rs shift_Do.F := shift_Do.gen word_Put.F word_Put.ok
/-! shift_Fast -/
@[reducible] def shift_Fast.as : List Shp := [.k (.i .i64), .k (.i .u8), .agg ⟨.b, [.b, .b, .b]⟩]
@[reducible] def shift_Fast.rs : List Shp := [.k (.i .u8), .agg ⟨.b, [.b, .b, .b]⟩]
def shift_Fast.G (shift_Do_F : (Int × Int × (Bool × Bool × Bool × Bool) × Unit) → Option (Int × (Bool × Bool × Bool × Bool) × Unit)) (a0 : Int) (a1 : Int) (a2 : (Bool × Bool × Bool × Bool)) : Option (Int × (Bool × Bool × Bool × Bool) × Unit) :=
  Option.bind (shift_Do_F (bits BinOp.and IntKind.i64 a0 (3 : Int), a1, a2, ())) fun y0 => some (y0.1, (false, y0.2.1.2), ())
noncomputable def shift_Fast.C (a0 : Int) (a1 : Int) (a2 : (Bool × Bool × Bool × Bool)) : Option (Int × (Bool × Bool × Bool × Bool) × Unit) := shift_Fast.G shift_Do.F a0 a1 a2
theorem shift_Fast.gen (shift_Do_F : (Int × Int × (Bool × Bool × Bool × Bool) × Unit) → Option (Int × (Bool × Bool × Bool × Bool) × Unit)) (shift_Do_ok : PureOK Go.Proofs.Try.prog 66 shift_Do.as shift_Do.rs shift_Do_F) : PureOK Go.Proofs.Try.prog 75 shift_Fast.as shift_Fast.rs (fun x => shift_Fast.G shift_Do_F x.1 x.2.1 x.2.2.1) :=
  fn_gen (tbl := tblOf tblI 75 Go.Proofs.Try.f75) (ks := [knView (P := Go.Proofs.Try.prog) 66 shift_Do.as shift_Do.rs shift_Do_F shift_Do_ok (by rfl) (by rfl) (by rfl)]) (ls := []) (n := 200) (d := 6) (tblOf_ok tblI_ok Go.Proofs.Try.func75 (by kernel_rfl)) (by rfl) (fun x => by kernel_rfl)
noncomputable def shift_Fast.F : (Int × Int × (Bool × Bool × Bool × Bool) × Unit) → Option (Int × (Bool × Bool × Bool × Bool) × Unit) := fun x => shift_Fast.C x.1 x.2.1 x.2.2.1
theorem shift_Fast.ok : PureOK Go.Proofs.Try.prog 75 shift_Fast.as shift_Fast.rs shift_Fast.F := shift_Fast.gen shift_Do.F shift_Do.ok
/-! shift_Test -/
@[reducible] def shift_Test.as : List Shp := [.k (.i .i64), .k (.i .u8), .agg ⟨.b, [.b, .b, .b]⟩]
@[reducible] def shift_Test.rs : List Shp := [.agg ⟨.b, [.b, .b, .b]⟩]
def shift_Test.G (a0 : Int) (a1 : Int) (a2 : (Bool × Bool × Bool × Bool)) : Option ((Bool × Bool × Bool × Bool) × Unit) :=
  if (decide (bits BinOp.and IntKind.i64 a0 (7 : Int) ≥ (0 : Int)) == true) = true then if (decide (bits BinOp.and IntKind.i64 a0 (7 : Int) < (8 : Int)) == true) = true then if (!decide (bits BinOp.and IntKind.i64 a0 (7 : Int) < (0 : Int))) = true then some ((!bits BinOp.and IntKind.u8 (Int.fdiv a1 ((2 : Int) ^ min (Int.toNat (bits BinOp.and IntKind.i64 a0 (7 : Int))) (8 : Nat))) (1 : Int) == (1 : Int), false, true, a2.2.2.2), ()) else none else some ((true, false, true, a2.2.2.2), ()) else some ((true, false, true, a2.2.2.2), ())
noncomputable def shift_Test.C (a0 : Int) (a1 : Int) (a2 : (Bool × Bool × Bool × Bool)) : Option ((Bool × Bool × Bool × Bool) × Unit) := shift_Test.G a0 a1 a2
theorem shift_Test.gen : PureOK Go.Proofs.Try.prog 74 shift_Test.as shift_Test.rs (fun x => shift_Test.G x.1 x.2.1 x.2.2.1) :=
  fn_gen (tbl := tblOf tblI 74 Go.Proofs.Try.f74) (ks := []) (ls := []) (n := 200) (d := 6) (tblOf_ok tblI_ok Go.Proofs.Try.func74 (by kernel_rfl)) (by rfl) (fun x => by kernel_rfl)
noncomputable def shift_Test.F : (Int × Int × (Bool × Bool × Bool × Bool) × Unit) → Option ((Bool × Bool × Bool × Bool) × Unit) := fun x => shift_Test.C x.1 x.2.1 x.2.2.1
theorem shift_Test.ok : PureOK Go.Proofs.Try.prog 74 shift_Test.as shift_Test.rs shift_Test.F := shift_Test.gen
/-! shift_Res -/
@[reducible] def shift_Res.as : List Shp := [.k (.i .i64), .k (.i .u8)]
@[reducible] def shift_Res.rs : List Shp := [.k (.i .u8)]
def shift_Res.G (word_Put_F : (Int × Int × Bool × Unit) → Option (Int × Unit)) (a0 : Int) (a1 : Int) : Option (Int × Unit) :=
  Option.bind (word_Put_F (a1, bits BinOp.and IntKind.i64 a0 (7 : Int), false, ())) fun y0 => some y0
noncomputable def shift_Res.C (a0 : Int) (a1 : Int) : Option (Int × Unit) := shift_Res.G word_Put.F a0 a1
theorem shift_Res.gen (word_Put_F : (Int × Int × Bool × Unit) → Option (Int × Unit)) (word_Put_ok : PureOK Go.Proofs.Try.prog 99 word_Put.as word_Put.rs word_Put_F) : PureOK Go.Proofs.Try.prog 67 shift_Res.as shift_Res.rs (fun x => shift_Res.G word_Put_F x.1 x.2.1) :=
  fn_gen (tbl := tblOf tblI 67 Go.Proofs.Try.f67) (ks := [knView (P := Go.Proofs.Try.prog) 99 word_Put.as word_Put.rs word_Put_F word_Put_ok (by rfl) (by rfl) (by rfl)]) (ls := []) (n := 200) (d := 6) (tblOf_ok tblI_ok Go.Proofs.Try.func67 (by kernel_rfl)) (by rfl) (fun x => by kernel_rfl)
noncomputable def shift_Res.F : (Int × Int × Unit) → Option (Int × Unit) := fun x => shift_Res.C x.1 x.2.1
theorem shift_Res.ok : PureOK Go.Proofs.Try.prog 67 shift_Res.as shift_Res.rs shift_Res.F := shift_Res.gen word_Put.F word_Put.ok
/-! shift_Set -/
@[reducible] def shift_Set.as : List Shp := [.k (.i .i64), .k (.i .u8)]
@[reducible] def shift_Set.rs : List Shp := [.k (.i .u8)]
def shift_Set.G (word_Put_F : (Int × Int × Bool × Unit) → Option (Int × Unit)) (a0 : Int) (a1 : Int) : Option (Int × Unit) :=
  Option.bind (word_Put_F (a1, bits BinOp.and IntKind.i64 a0 (7 : Int), true, ())) fun y0 => some y0
noncomputable def shift_Set.C (a0 : Int) (a1 : Int) : Option (Int × Unit) := shift_Set.G word_Put.F a0 a1
theorem shift_Set.gen (word_Put_F : (Int × Int × Bool × Unit) → Option (Int × Unit)) (word_Put_ok : PureOK Go.Proofs.Try.prog 99 word_Put.as word_Put.rs word_Put_F) : PureOK Go.Proofs.Try.prog 68 shift_Set.as shift_Set.rs (fun x => shift_Set.G word_Put_F x.1 x.2.1) :=
  fn_gen (tbl := tblOf tblI 68 Go.Proofs.Try.f68) (ks := [knView (P := Go.Proofs.Try.prog) 99 word_Put.as word_Put.rs word_Put_F word_Put_ok (by rfl) (by rfl) (by rfl)]) (ls := []) (n := 200) (d := 6) (tblOf_ok tblI_ok Go.Proofs.Try.func68 (by kernel_rfl)) (by rfl) (fun x => by kernel_rfl)
noncomputable def shift_Set.F : (Int × Int × Unit) → Option (Int × Unit) := fun x => shift_Set.C x.1 x.2.1
theorem shift_Set.ok : PureOK Go.Proofs.Try.prog 68 shift_Set.as shift_Set.rs shift_Set.F := shift_Set.gen word_Put.F word_Put.ok
/-! regs_Get -/
@[reducible] def regs_Get.as : List Shp := [.agg ⟨.i .u8, [.i .u8, .i .u8, .i .u8, .i .u8, .i .u8, .i .u8, .i .u8, .i .u16, .i .u16]⟩, .k (.i .i64)]
@[reducible] def regs_Get.rs : List Shp := [.k (.i .u8), .k (.i .i64)]
def regs_Get.G (a0 : R10) (a1 : Int) : Option (Int × Int × Unit) :=
  if (decide (a1 < (0 : Int)) == false) = true then if decide (a1 > (7 : Int)) = true then some ((0 : Int), (1 : Int), ()) else if (a1 == (6 : Int)) = true then some ((0 : Int), (7 : Int), ()) else if (0 : Int) ≤ a1 ∧ a1 < (8 : Int) then some (List.getD [a0.2.2.1, a0.2.2.2.1, a0.2.2.2.2.1, a0.x5, a0.x6, a0.x7, a0.2.1, a0.1] (Int.toNat a1) (0 : Int), (0 : Int), ()) else none else some ((0 : Int), (1 : Int), ())
noncomputable def regs_Get.C (a0 : R10) (a1 : Int) : Option (Int × Int × Unit) := regs_Get.G a0 a1
theorem regs_Get.gen : PureOK Go.Proofs.Try.prog 63 regs_Get.as regs_Get.rs (fun x => regs_Get.G x.1 x.2.1) :=
  fn_gen (tbl := tblOf tblI 63 Go.Proofs.Try.f63) (ks := []) (ls := []) (n := 200) (d := 6) (tblOf_ok tblI_ok Go.Proofs.Try.func63 (by kernel_rfl)) (by rfl) (fun x => by kernel_rfl)
noncomputable def regs_Get.F : (R10 × Int × Unit) → Option (Int × Int × Unit) := fun x => regs_Get.C x.1 x.2.1
theorem regs_Get.ok : PureOK Go.Proofs.Try.prog 63 regs_Get.as regs_Get.rs regs_Get.F := regs_Get.gen
/-! regs_Put -/
@[reducible] def regs_Put.as : List Shp := [.agg ⟨.i .u8, [.i .u8, .i .u8, .i .u8, .i .u8, .i .u8, .i .u8, .i .u8, .i .u16, .i .u16]⟩, .k (.i .i64), .k (.i .u8)]
@[reducible] def regs_Put.rs : List Shp := [.agg ⟨.i .u8, [.i .u8, .i .u8, .i .u8, .i .u8, .i .u8, .i .u8, .i .u8, .i .u16, .i .u16]⟩, .k (.i .i64)]
def regs_Put.G (a0 : R10) (a1 : Int) (a2 : Int) : Option (R10 × Int × Unit) :=
  if (decide (a1 < (0 : Int)) == false) = true then if decide (a1 > (7 : Int)) = true then some (((0 : Int), (0 : Int), (0 : Int), (0 : Int), (0 : Int), (0 : Int), (0 : Int), (0 : Int), (0 : Int), (0 : Int)), (1 : Int), ()) else if (a1 == (6 : Int)) = true then some (((0 : Int), (0 : Int), (0 : Int), (0 : Int), (0 : Int), (0 : Int), (0 : Int), (0 : Int), (0 : Int), (0 : Int)), (7 : Int), ()) else if (0 : Int) ≤ a1 ∧ a1 < (8 : Int) then some ((List.getD (List.set [a0.2.2.1, a0.2.2.2.1, a0.2.2.2.2.1, a0.x5, a0.x6, a0.x7, a0.2.1, a0.1] (Int.toNat a1) a2) (7 : Nat) (0 : Int), List.getD (List.set [a0.2.2.1, a0.2.2.2.1, a0.2.2.2.2.1, a0.x5, a0.x6, a0.x7, a0.2.1, a0.1] (Int.toNat a1) a2) (6 : Nat) (0 : Int), List.getD (List.set [a0.2.2.1, a0.2.2.2.1, a0.2.2.2.2.1, a0.x5, a0.x6, a0.x7, a0.2.1, a0.1] (Int.toNat a1) a2) (0 : Nat) (0 : Int), List.getD (List.set [a0.2.2.1, a0.2.2.2.1, a0.2.2.2.2.1, a0.x5, a0.x6, a0.x7, a0.2.1, a0.1] (Int.toNat a1) a2) (1 : Nat) (0 : Int), List.getD (List.set [a0.2.2.1, a0.2.2.2.1, a0.2.2.2.2.1, a0.x5, a0.x6, a0.x7, a0.2.1, a0.1] (Int.toNat a1) a2) (2 : Nat) (0 : Int), List.getD (List.set [a0.2.2.1, a0.2.2.2.1, a0.2.2.2.2.1, a0.x5, a0.x6, a0.x7, a0.2.1, a0.1] (Int.toNat a1) a2) (3 : Nat) (0 : Int), List.getD (List.set [a0.2.2.1, a0.2.2.2.1, a0.2.2.2.2.1, a0.x5, a0.x6, a0.x7, a0.2.1, a0.1] (Int.toNat a1) a2) (4 : Nat) (0 : Int), List.getD (List.set [a0.2.2.1, a0.2.2.2.1, a0.2.2.2.2.1, a0.x5, a0.x6, a0.x7, a0.2.1, a0.1] (Int.toNat a1) a2) (5 : Nat) (0 : Int), a0.z8), (0 : Int), ()) else none else some (((0 : Int), (0 : Int), (0 : Int), (0 : Int), (0 : Int), (0 : Int), (0 : Int), (0 : Int), (0 : Int), (0 : Int)), (1 : Int), ())
noncomputable def regs_Put.C (a0 : R10) (a1 : Int) (a2 : Int) : Option (R10 × Int × Unit) := regs_Put.G a0 a1 a2
theorem regs_Put.gen : PureOK Go.Proofs.Try.prog 103 regs_Put.as regs_Put.rs (fun x => regs_Put.G x.1 x.2.1 x.2.2.1) :=
  fn_gen (tbl := tblOf tblI 103 Go.Proofs.Try.f103) (ks := []) (ls := []) (n := 200) (d := 6) (tblOf_ok tblI_ok Go.Proofs.Try.func103 (by kernel_rfl)) (by rfl) (fun x => by kernel_rfl)
noncomputable def regs_Put.F : (R10 × Int × Int × Unit) → Option (R10 × Int × Unit) := fun x => regs_Put.C x.1 x.2.1 x.2.2.1
theorem regs_Put.ok : PureOK Go.Proofs.Try.prog 103 regs_Put.as regs_Put.rs regs_Put.F := regs_Put.gen
/-! regs_Pair -/
@[reducible] def regs_Pair.as : List Shp := [.agg ⟨.i .u8, [.i .u8, .i .u8, .i .u8, .i .u8, .i .u8, .i .u8, .i .u8, .i .u16, .i .u16]⟩, .k (.i .i64)]
@[reducible] def regs_Pair.rs : List Shp := [.k (.i .u16), .k (.i .i64)]
def regs_Pair.G (a0 : R10) (a1 : Int) : Option (Int × Int × Unit) :=
  if (decide (a1 < (0 : Int)) == false) = true then if decide (a1 > (4 : Int)) = true then some ((0 : Int), (1 : Int), ()) else if (a1 == (3 : Int)) = true then some (a0.x8, (0 : Int), ()) else if (a1 == (4 : Int)) = true then some (bits BinOp.or IntKind.u16 (IntKind.wrap IntKind.u16 (IntKind.wrap IntKind.u16 (List.getD [a0.2.2.1, a0.2.2.2.1, a0.2.2.2.2.1, a0.x5, a0.x6, a0.x7, a0.2.1, a0.1] (7 : Nat) (0 : Int)) * (256 : Int))) (IntKind.wrap IntKind.u16 (List.getD [a0.2.2.1, a0.2.2.2.1, a0.2.2.2.2.1, a0.x5, a0.x6, a0.x7, a0.2.1, a0.1] (6 : Nat) (0 : Int))), (0 : Int), ()) else if (0 : Int) ≤ IntKind.wrap IntKind.i64 ((2 : Int) * a1) ∧ IntKind.wrap IntKind.i64 ((2 : Int) * a1) < (8 : Int) then if (0 : Int) ≤ IntKind.wrap IntKind.i64 (IntKind.wrap IntKind.i64 ((2 : Int) * a1) + (1 : Int)) ∧ IntKind.wrap IntKind.i64 (IntKind.wrap IntKind.i64 ((2 : Int) * a1) + (1 : Int)) < (8 : Int) then some (bits BinOp.or IntKind.u16 (IntKind.wrap IntKind.u16 (IntKind.wrap IntKind.u16 (List.getD [a0.2.2.1, a0.2.2.2.1, a0.2.2.2.2.1, a0.x5, a0.x6, a0.x7, a0.2.1, a0.1] (Int.toNat (IntKind.wrap IntKind.i64 ((2 : Int) * a1))) (0 : Int)) * (256 : Int))) (IntKind.wrap IntKind.u16 (List.getD [a0.2.2.1, a0.2.2.2.1, a0.2.2.2.2.1, a0.x5, a0.x6, a0.x7, a0.2.1, a0.1] (Int.toNat (IntKind.wrap IntKind.i64 (IntKind.wrap IntKind.i64 ((2 : Int) * a1) + (1 : Int)))) (0 : Int))), (0 : Int), ()) else none else none else some ((0 : Int), (1 : Int), ())
noncomputable def regs_Pair.C (a0 : R10) (a1 : Int) : Option (Int × Int × Unit) := regs_Pair.G a0 a1
theorem regs_Pair.gen : PureOK Go.Proofs.Try.prog 61 regs_Pair.as regs_Pair.rs (fun x => regs_Pair.G x.1 x.2.1) :=
  fn_gen (tbl := tblOf tblI 61 Go.Proofs.Try.f61) (ks := []) (ls := []) (n := 200) (d := 6) (tblOf_ok tblI_ok Go.Proofs.Try.func61 (by kernel_rfl)) (by rfl) (fun x => by kernel_rfl)
noncomputable def regs_Pair.F : (R10 × Int × Unit) → Option (Int × Int × Unit) := fun x => regs_Pair.C x.1 x.2.1
theorem regs_Pair.ok : PureOK Go.Proofs.Try.prog 61 regs_Pair.as regs_Pair.rs regs_Pair.F := regs_Pair.gen
/-! regs_PutPair -/
@[reducible] def regs_PutPair.as : List Shp := [.agg ⟨.i .u8, [.i .u8, .i .u8, .i .u8, .i .u8, .i .u8, .i .u8, .i .u8, .i .u16, .i .u16]⟩, .k (.i .i64), .k (.i .u16)]
@[reducible] def regs_PutPair.rs : List Shp := [.agg ⟨.i .u8, [.i .u8, .i .u8, .i .u8, .i .u8, .i .u8, .i .u8, .i .u8, .i .u16, .i .u16]⟩, .k (.i .i64)]
def regs_PutPair.G (a0 : R10) (a1 : Int) (a2 : Int) : Option (R10 × Int × Unit) :=
  if (decide (a1 < (0 : Int)) == false) = true then if decide (a1 > (4 : Int)) = true then some (((0 : Int), (0 : Int), (0 : Int), (0 : Int), (0 : Int), (0 : Int), (0 : Int), (0 : Int), (0 : Int), (0 : Int)), (1 : Int), ()) else if (a1 == (3 : Int)) = true then some ((a0.1, a0.2.1, a0.2.2.1, a0.2.2.2.1, a0.2.2.2.2.1, a0.x5, a0.x6, a0.x7, a2, a0.z9), (0 : Int), ()) else if (a1 == (4 : Int)) = true then if (a1 == (4 : Int)) = true then some ((List.getD (List.set (List.set [a0.2.2.1, a0.2.2.2.1, a0.2.2.2.2.1, a0.x5, a0.x6, a0.x7, a0.2.1, a0.1] (7 : Nat) (IntKind.wrap IntKind.u8 (Int.fdiv (bits BinOp.andNot IntKind.u16 a2 (15 : Int)) (256 : Int)))) (6 : Nat) (IntKind.wrap IntKind.u8 (bits BinOp.andNot IntKind.u16 a2 (15 : Int)))) (7 : Nat) (0 : Int), List.getD (List.set (List.set [a0.2.2.1, a0.2.2.2.1, a0.2.2.2.2.1, a0.x5, a0.x6, a0.x7, a0.2.1, a0.1] (7 : Nat) (IntKind.wrap IntKind.u8 (Int.fdiv (bits BinOp.andNot IntKind.u16 a2 (15 : Int)) (256 : Int)))) (6 : Nat) (IntKind.wrap IntKind.u8 (bits BinOp.andNot IntKind.u16 a2 (15 : Int)))) (6 : Nat) (0 : Int), List.getD (List.set (List.set [a0.2.2.1, a0.2.2.2.1, a0.2.2.2.2.1, a0.x5, a0.x6, a0.x7, a0.2.1, a0.1] (7 : Nat) (IntKind.wrap IntKind.u8 (Int.fdiv (bits BinOp.andNot IntKind.u16 a2 (15 : Int)) (256 : Int)))) (6 : Nat) (IntKind.wrap IntKind.u8 (bits BinOp.andNot IntKind.u16 a2 (15 : Int)))) (0 : Nat) (0 : Int), List.getD (List.set (List.set [a0.2.2.1, a0.2.2.2.1, a0.2.2.2.2.1, a0.x5, a0.x6, a0.x7, a0.2.1, a0.1] (7 : Nat) (IntKind.wrap IntKind.u8 (Int.fdiv (bits BinOp.andNot IntKind.u16 a2 (15 : Int)) (256 : Int)))) (6 : Nat) (IntKind.wrap IntKind.u8 (bits BinOp.andNot IntKind.u16 a2 (15 : Int)))) (1 : Nat) (0 : Int), List.getD (List.set (List.set [a0.2.2.1, a0.2.2.2.1, a0.2.2.2.2.1, a0.x5, a0.x6, a0.x7, a0.2.1, a0.1] (7 : Nat) (IntKind.wrap IntKind.u8 (Int.fdiv (bits BinOp.andNot IntKind.u16 a2 (15 : Int)) (256 : Int)))) (6 : Nat) (IntKind.wrap IntKind.u8 (bits BinOp.andNot IntKind.u16 a2 (15 : Int)))) (2 : Nat) (0 : Int), List.getD (List.set (List.set [a0.2.2.1, a0.2.2.2.1, a0.2.2.2.2.1, a0.x5, a0.x6, a0.x7, a0.2.1, a0.1] (7 : Nat) (IntKind.wrap IntKind.u8 (Int.fdiv (bits BinOp.andNot IntKind.u16 a2 (15 : Int)) (256 : Int)))) (6 : Nat) (IntKind.wrap IntKind.u8 (bits BinOp.andNot IntKind.u16 a2 (15 : Int)))) (3 : Nat) (0 : Int), List.getD (List.set (List.set [a0.2.2.1, a0.2.2.2.1, a0.2.2.2.2.1, a0.x5, a0.x6, a0.x7, a0.2.1, a0.1] (7 : Nat) (IntKind.wrap IntKind.u8 (Int.fdiv (bits BinOp.andNot IntKind.u16 a2 (15 : Int)) (256 : Int)))) (6 : Nat) (IntKind.wrap IntKind.u8 (bits BinOp.andNot IntKind.u16 a2 (15 : Int)))) (4 : Nat) (0 : Int), List.getD (List.set (List.set [a0.2.2.1, a0.2.2.2.1, a0.2.2.2.2.1, a0.x5, a0.x6, a0.x7, a0.2.1, a0.1] (7 : Nat) (IntKind.wrap IntKind.u8 (Int.fdiv (bits BinOp.andNot IntKind.u16 a2 (15 : Int)) (256 : Int)))) (6 : Nat) (IntKind.wrap IntKind.u8 (bits BinOp.andNot IntKind.u16 a2 (15 : Int)))) (5 : Nat) (0 : Int), a0.z8), (0 : Int), ()) else if (0 : Int) ≤ IntKind.wrap IntKind.i64 ((2 : Int) * a1) ∧ IntKind.wrap IntKind.i64 ((2 : Int) * a1) < (8 : Int) then if (0 : Int) ≤ IntKind.wrap IntKind.i64 (IntKind.wrap IntKind.i64 ((2 : Int) * a1) + (1 : Int)) ∧ IntKind.wrap IntKind.i64 (IntKind.wrap IntKind.i64 ((2 : Int) * a1) + (1 : Int)) < (8 : Int) then some ((List.getD (List.set (List.set [a0.2.2.1, a0.2.2.2.1, a0.2.2.2.2.1, a0.x5, a0.x6, a0.x7, a0.2.1, a0.1] (Int.toNat (IntKind.wrap IntKind.i64 ((2 : Int) * a1))) (IntKind.wrap IntKind.u8 (Int.fdiv (bits BinOp.andNot IntKind.u16 a2 (15 : Int)) (256 : Int)))) (Int.toNat (IntKind.wrap IntKind.i64 (IntKind.wrap IntKind.i64 ((2 : Int) * a1) + (1 : Int)))) (IntKind.wrap IntKind.u8 (bits BinOp.andNot IntKind.u16 a2 (15 : Int)))) (7 : Nat) (0 : Int), List.getD (List.set (List.set [a0.2.2.1, a0.2.2.2.1, a0.2.2.2.2.1, a0.x5, a0.x6, a0.x7, a0.2.1, a0.1] (Int.toNat (IntKind.wrap IntKind.i64 ((2 : Int) * a1))) (IntKind.wrap IntKind.u8 (Int.fdiv (bits BinOp.andNot IntKind.u16 a2 (15 : Int)) (256 : Int)))) (Int.toNat (IntKind.wrap IntKind.i64 (IntKind.wrap IntKind.i64 ((2 : Int) * a1) + (1 : Int)))) (IntKind.wrap IntKind.u8 (bits BinOp.andNot IntKind.u16 a2 (15 : Int)))) (6 : Nat) (0 : Int), List.getD (List.set (List.set [a0.2.2.1, a0.2.2.2.1, a0.2.2.2.2.1, a0.x5, a0.x6, a0.x7, a0.2.1, a0.1] (Int.toNat (IntKind.wrap IntKind.i64 ((2 : Int) * a1))) (IntKind.wrap IntKind.u8 (Int.fdiv (bits BinOp.andNot IntKind.u16 a2 (15 : Int)) (256 : Int)))) (Int.toNat (IntKind.wrap IntKind.i64 (IntKind.wrap IntKind.i64 ((2 : Int) * a1) + (1 : Int)))) (IntKind.wrap IntKind.u8 (bits BinOp.andNot IntKind.u16 a2 (15 : Int)))) (0 : Nat) (0 : Int), List.getD (List.set (List.set [a0.2.2.1, a0.2.2.2.1, a0.2.2.2.2.1, a0.x5, a0.x6, a0.x7, a0.2.1, a0.1] (Int.toNat (IntKind.wrap IntKind.i64 ((2 : Int) * a1))) (IntKind.wrap IntKind.u8 (Int.fdiv (bits BinOp.andNot IntKind.u16 a2 (15 : Int)) (256 : Int)))) (Int.toNat (IntKind.wrap IntKind.i64 (IntKind.wrap IntKind.i64 ((2 : Int) * a1) + (1 : Int)))) (IntKind.wrap IntKind.u8 (bits BinOp.andNot IntKind.u16 a2 (15 : Int)))) (1 : Nat) (0 : Int), List.getD (List.set (List.set [a0.2.2.1, a0.2.2.2.1, a0.2.2.2.2.1, a0.x5, a0.x6, a0.x7, a0.2.1, a0.1] (Int.toNat (IntKind.wrap IntKind.i64 ((2 : Int) * a1))) (IntKind.wrap IntKind.u8 (Int.fdiv (bits BinOp.andNot IntKind.u16 a2 (15 : Int)) (256 : Int)))) (Int.toNat (IntKind.wrap IntKind.i64 (IntKind.wrap IntKind.i64 ((2 : Int) * a1) + (1 : Int)))) (IntKind.wrap IntKind.u8 (bits BinOp.andNot IntKind.u16 a2 (15 : Int)))) (2 : Nat) (0 : Int), List.getD (List.set (List.set [a0.2.2.1, a0.2.2.2.1, a0.2.2.2.2.1, a0.x5, a0.x6, a0.x7, a0.2.1, a0.1] (Int.toNat (IntKind.wrap IntKind.i64 ((2 : Int) * a1))) (IntKind.wrap IntKind.u8 (Int.fdiv (bits BinOp.andNot IntKind.u16 a2 (15 : Int)) (256 : Int)))) (Int.toNat (IntKind.wrap IntKind.i64 (IntKind.wrap IntKind.i64 ((2 : Int) * a1) + (1 : Int)))) (IntKind.wrap IntKind.u8 (bits BinOp.andNot IntKind.u16 a2 (15 : Int)))) (3 : Nat) (0 : Int), List.getD (List.set (List.set [a0.2.2.1, a0.2.2.2.1, a0.2.2.2.2.1, a0.x5, a0.x6, a0.x7, a0.2.1, a0.1] (Int.toNat (IntKind.wrap IntKind.i64 ((2 : Int) * a1))) (IntKind.wrap IntKind.u8 (Int.fdiv (bits BinOp.andNot IntKind.u16 a2 (15 : Int)) (256 : Int)))) (Int.toNat (IntKind.wrap IntKind.i64 (IntKind.wrap IntKind.i64 ((2 : Int) * a1) + (1 : Int)))) (IntKind.wrap IntKind.u8 (bits BinOp.andNot IntKind.u16 a2 (15 : Int)))) (4 : Nat) (0 : Int), List.getD (List.set (List.set [a0.2.2.1, a0.2.2.2.1, a0.2.2.2.2.1, a0.x5, a0.x6, a0.x7, a0.2.1, a0.1] (Int.toNat (IntKind.wrap IntKind.i64 ((2 : Int) * a1))) (IntKind.wrap IntKind.u8 (Int.fdiv (bits BinOp.andNot IntKind.u16 a2 (15 : Int)) (256 : Int)))) (Int.toNat (IntKind.wrap IntKind.i64 (IntKind.wrap IntKind.i64 ((2 : Int) * a1) + (1 : Int)))) (IntKind.wrap IntKind.u8 (bits BinOp.andNot IntKind.u16 a2 (15 : Int)))) (5 : Nat) (0 : Int), a0.z8), (0 : Int), ()) else none else none else if (a1 == (4 : Int)) = true then some ((List.getD (List.set (List.set [a0.2.2.1, a0.2.2.2.1, a0.2.2.2.2.1, a0.x5, a0.x6, a0.x7, a0.2.1, a0.1] (7 : Nat) (IntKind.wrap IntKind.u8 (Int.fdiv a2 (256 : Int)))) (6 : Nat) (IntKind.wrap IntKind.u8 a2)) (7 : Nat) (0 : Int), List.getD (List.set (List.set [a0.2.2.1, a0.2.2.2.1, a0.2.2.2.2.1, a0.x5, a0.x6, a0.x7, a0.2.1, a0.1] (7 : Nat) (IntKind.wrap IntKind.u8 (Int.fdiv a2 (256 : Int)))) (6 : Nat) (IntKind.wrap IntKind.u8 a2)) (6 : Nat) (0 : Int), List.getD (List.set (List.set [a0.2.2.1, a0.2.2.2.1, a0.2.2.2.2.1, a0.x5, a0.x6, a0.x7, a0.2.1, a0.1] (7 : Nat) (IntKind.wrap IntKind.u8 (Int.fdiv a2 (256 : Int)))) (6 : Nat) (IntKind.wrap IntKind.u8 a2)) (0 : Nat) (0 : Int), List.getD (List.set (List.set [a0.2.2.1, a0.2.2.2.1, a0.2.2.2.2.1, a0.x5, a0.x6, a0.x7, a0.2.1, a0.1] (7 : Nat) (IntKind.wrap IntKind.u8 (Int.fdiv a2 (256 : Int)))) (6 : Nat) (IntKind.wrap IntKind.u8 a2)) (1 : Nat) (0 : Int), List.getD (List.set (List.set [a0.2.2.1, a0.2.2.2.1, a0.2.2.2.2.1, a0.x5, a0.x6, a0.x7, a0.2.1, a0.1] (7 : Nat) (IntKind.wrap IntKind.u8 (Int.fdiv a2 (256 : Int)))) (6 : Nat) (IntKind.wrap IntKind.u8 a2)) (2 : Nat) (0 : Int), List.getD (List.set (List.set [a0.2.2.1, a0.2.2.2.1, a0.2.2.2.2.1, a0.x5, a0.x6, a0.x7, a0.2.1, a0.1] (7 : Nat) (IntKind.wrap IntKind.u8 (Int.fdiv a2 (256 : Int)))) (6 : Nat) (IntKind.wrap IntKind.u8 a2)) (3 : Nat) (0 : Int), List.getD (List.set (List.set [a0.2.2.1, a0.2.2.2.1, a0.2.2.2.2.1, a0.x5, a0.x6, a0.x7, a0.2.1, a0.1] (7 : Nat) (IntKind.wrap IntKind.u8 (Int.fdiv a2 (256 : Int)))) (6 : Nat) (IntKind.wrap IntKind.u8 a2)) (4 : Nat) (0 : Int), List.getD (List.set (List.set [a0.2.2.1, a0.2.2.2.1, a0.2.2.2.2.1, a0.x5, a0.x6, a0.x7, a0.2.1, a0.1] (7 : Nat) (IntKind.wrap IntKind.u8 (Int.fdiv a2 (256 : Int)))) (6 : Nat) (IntKind.wrap IntKind.u8 a2)) (5 : Nat) (0 : Int), a0.z8), (0 : Int), ()) else if (0 : Int) ≤ IntKind.wrap IntKind.i64 ((2 : Int) * a1) ∧ IntKind.wrap IntKind.i64 ((2 : Int) * a1) < (8 : Int) then if (0 : Int) ≤ IntKind.wrap IntKind.i64 (IntKind.wrap IntKind.i64 ((2 : Int) * a1) + (1 : Int)) ∧ IntKind.wrap IntKind.i64 (IntKind.wrap IntKind.i64 ((2 : Int) * a1) + (1 : Int)) < (8 : Int) then some ((List.getD (List.set (List.set [a0.2.2.1, a0.2.2.2.1, a0.2.2.2.2.1, a0.x5, a0.x6, a0.x7, a0.2.1, a0.1] (Int.toNat (IntKind.wrap IntKind.i64 ((2 : Int) * a1))) (IntKind.wrap IntKind.u8 (Int.fdiv a2 (256 : Int)))) (Int.toNat (IntKind.wrap IntKind.i64 (IntKind.wrap IntKind.i64 ((2 : Int) * a1) + (1 : Int)))) (IntKind.wrap IntKind.u8 a2)) (7 : Nat) (0 : Int), List.getD (List.set (List.set [a0.2.2.1, a0.2.2.2.1, a0.2.2.2.2.1, a0.x5, a0.x6, a0.x7, a0.2.1, a0.1] (Int.toNat (IntKind.wrap IntKind.i64 ((2 : Int) * a1))) (IntKind.wrap IntKind.u8 (Int.fdiv a2 (256 : Int)))) (Int.toNat (IntKind.wrap IntKind.i64 (IntKind.wrap IntKind.i64 ((2 : Int) * a1) + (1 : Int)))) (IntKind.wrap IntKind.u8 a2)) (6 : Nat) (0 : Int), List.getD (List.set (List.set [a0.2.2.1, a0.2.2.2.1, a0.2.2.2.2.1, a0.x5, a0.x6, a0.x7, a0.2.1, a0.1] (Int.toNat (IntKind.wrap IntKind.i64 ((2 : Int) * a1))) (IntKind.wrap IntKind.u8 (Int.fdiv a2 (256 : Int)))) (Int.toNat (IntKind.wrap IntKind.i64 (IntKind.wrap IntKind.i64 ((2 : Int) * a1) + (1 : Int)))) (IntKind.wrap IntKind.u8 a2)) (0 : Nat) (0 : Int), List.getD (List.set (List.set [a0.2.2.1, a0.2.2.2.1, a0.2.2.2.2.1, a0.x5, a0.x6, a0.x7, a0.2.1, a0.1] (Int.toNat (IntKind.wrap IntKind.i64 ((2 : Int) * a1))) (IntKind.wrap IntKind.u8 (Int.fdiv a2 (256 : Int)))) (Int.toNat (IntKind.wrap IntKind.i64 (IntKind.wrap IntKind.i64 ((2 : Int) * a1) + (1 : Int)))) (IntKind.wrap IntKind.u8 a2)) (1 : Nat) (0 : Int), List.getD (List.set (List.set [a0.2.2.1, a0.2.2.2.1, a0.2.2.2.2.1, a0.x5, a0.x6, a0.x7, a0.2.1, a0.1] (Int.toNat (IntKind.wrap IntKind.i64 ((2 : Int) * a1))) (IntKind.wrap IntKind.u8 (Int.fdiv a2 (256 : Int)))) (Int.toNat (IntKind.wrap IntKind.i64 (IntKind.wrap IntKind.i64 ((2 : Int) * a1) + (1 : Int)))) (IntKind.wrap IntKind.u8 a2)) (2 : Nat) (0 : Int), List.getD (List.set (List.set [a0.2.2.1, a0.2.2.2.1, a0.2.2.2.2.1, a0.x5, a0.x6, a0.x7, a0.2.1, a0.1] (Int.toNat (IntKind.wrap IntKind.i64 ((2 : Int) * a1))) (IntKind.wrap IntKind.u8 (Int.fdiv a2 (256 : Int)))) (Int.toNat (IntKind.wrap IntKind.i64 (IntKind.wrap IntKind.i64 ((2 : Int) * a1) + (1 : Int)))) (IntKind.wrap IntKind.u8 a2)) (3 : Nat) (0 : Int), List.getD (List.set (List.set [a0.2.2.1, a0.2.2.2.1, a0.2.2.2.2.1, a0.x5, a0.x6, a0.x7, a0.2.1, a0.1] (Int.toNat (IntKind.wrap IntKind.i64 ((2 : Int) * a1))) (IntKind.wrap IntKind.u8 (Int.fdiv a2 (256 : Int)))) (Int.toNat (IntKind.wrap IntKind.i64 (IntKind.wrap IntKind.i64 ((2 : Int) * a1) + (1 : Int)))) (IntKind.wrap IntKind.u8 a2)) (4 : Nat) (0 : Int), List.getD (List.set (List.set [a0.2.2.1, a0.2.2.2.1, a0.2.2.2.2.1, a0.x5, a0.x6, a0.x7, a0.2.1, a0.1] (Int.toNat (IntKind.wrap IntKind.i64 ((2 : Int) * a1))) (IntKind.wrap IntKind.u8 (Int.fdiv a2 (256 : Int)))) (Int.toNat (IntKind.wrap IntKind.i64 (IntKind.wrap IntKind.i64 ((2 : Int) * a1) + (1 : Int)))) (IntKind.wrap IntKind.u8 a2)) (5 : Nat) (0 : Int), a0.z8), (0 : Int), ()) else none else none else some (((0 : Int), (0 : Int), (0 : Int), (0 : Int), (0 : Int), (0 : Int), (0 : Int), (0 : Int), (0 : Int), (0 : Int)), (1 : Int), ())
noncomputable def regs_PutPair.C (a0 : R10) (a1 : Int) (a2 : Int) : Option (R10 × Int × Unit) := regs_PutPair.G a0 a1 a2
theorem regs_PutPair.gen : PureOK Go.Proofs.Try.prog 70 regs_PutPair.as regs_PutPair.rs (fun x => regs_PutPair.G x.1 x.2.1 x.2.2.1) :=
  fn_gen (tbl := tblOf tblI 70 Go.Proofs.Try.f70) (ks := []) (ls := []) (n := 200) (d := 6) (tblOf_ok tblI_ok Go.Proofs.Try.func70 (by kernel_rfl)) (by rfl) (fun x => by kernel_rfl)
noncomputable def regs_PutPair.F : (R10 × Int × Int × Unit) → Option (R10 × Int × Unit) := fun x => regs_PutPair.C x.1 x.2.1 x.2.2.1
theorem regs_PutPair.ok : PureOK Go.Proofs.Try.prog 70 regs_PutPair.as regs_PutPair.rs regs_PutPair.F := regs_PutPair.gen
/-! regs_Flags -/
@[reducible] def regs_Flags.as : List Shp := [.agg ⟨.i .u8, [.i .u8, .i .u8, .i .u8, .i .u8, .i .u8, .i .u8, .i .u8, .i .u16, .i .u16]⟩]
@[reducible] def regs_Flags.rs : List Shp := [.agg ⟨.b, [.b, .b, .b]⟩]
def regs_Flags.G (alu_Of_F : (Int × Unit) → Option ((Bool × Bool × Bool × Bool) × Unit)) (a0 : R10) : Option ((Bool × Bool × Bool × Bool) × Unit) :=
  Option.bind (alu_Of_F (a0.2.1, ())) fun y0 => some y0
noncomputable def regs_Flags.C (a0 : R10) : Option ((Bool × Bool × Bool × Bool) × Unit) := regs_Flags.G alu_Of.F a0
theorem regs_Flags.gen (alu_Of_F : (Int × Unit) → Option ((Bool × Bool × Bool × Bool) × Unit)) (alu_Of_ok : PureOK Go.Proofs.Try.prog 56 alu_Of.as alu_Of.rs alu_Of_F) : PureOK Go.Proofs.Try.prog 37 regs_Flags.as regs_Flags.rs (fun x => regs_Flags.G alu_Of_F x.1) :=
  fn_gen (tbl := tblOf tblI 37 Go.Proofs.Try.f37) (ks := [knView (P := Go.Proofs.Try.prog) 56 alu_Of.as alu_Of.rs alu_Of_F alu_Of_ok (by rfl) (by rfl) (by rfl)]) (ls := []) (n := 200) (d := 6) (tblOf_ok tblI_ok Go.Proofs.Try.func37 (by kernel_rfl)) (by rfl) (fun x => by kernel_rfl)
noncomputable def regs_Flags.F : (R10 × Unit) → Option ((Bool × Bool × Bool × Bool) × Unit) := fun x => regs_Flags.C x.1
theorem regs_Flags.ok : PureOK Go.Proofs.Try.prog 37 regs_Flags.as regs_Flags.rs regs_Flags.F := regs_Flags.gen alu_Of.F alu_Of.ok
/-! regs_WithFlags -/
@[reducible] def regs_WithFlags.as : List Shp := [.agg ⟨.i .u8, [.i .u8, .i .u8, .i .u8, .i .u8, .i .u8, .i .u8, .i .u8, .i .u16, .i .u16]⟩, .agg ⟨.b, [.b, .b, .b]⟩]
@[reducible] def regs_WithFlags.rs : List Shp := [.agg ⟨.i .u8, [.i .u8, .i .u8, .i .u8, .i .u8, .i .u8, .i .u8, .i .u8, .i .u16, .i .u16]⟩]
def regs_WithFlags.G (alu_Byte_F : ((Bool × Bool × Bool × Bool) × Unit) → Option (Int × Unit)) (a0 : R10) (a1 : (Bool × Bool × Bool × Bool)) : Option (R10 × Unit) :=
  Option.bind (alu_Byte_F (a1, ())) fun y0 => some ((a0.1, y0.1, a0.2.2), ())
noncomputable def regs_WithFlags.C (a0 : R10) (a1 : (Bool × Bool × Bool × Bool)) : Option (R10 × Unit) := regs_WithFlags.G alu_Byte.F a0 a1
theorem regs_WithFlags.gen (alu_Byte_F : ((Bool × Bool × Bool × Bool) × Unit) → Option (Int × Unit)) (alu_Byte_ok : PureOK Go.Proofs.Try.prog 107 alu_Byte.as alu_Byte.rs alu_Byte_F) : PureOK Go.Proofs.Try.prog 81 regs_WithFlags.as regs_WithFlags.rs (fun x => regs_WithFlags.G alu_Byte_F x.1 x.2.1) :=
  fn_gen (tbl := tblOf tblI 81 Go.Proofs.Try.f81) (ks := [knView (P := Go.Proofs.Try.prog) 107 alu_Byte.as alu_Byte.rs alu_Byte_F alu_Byte_ok (by rfl) (by rfl) (by rfl)]) (ls := []) (n := 200) (d := 6) (tblOf_ok tblI_ok Go.Proofs.Try.func81 (by kernel_rfl)) (by rfl) (fun x => by kernel_rfl)
noncomputable def regs_WithFlags.F : (R10 × (Bool × Bool × Bool × Bool) × Unit) → Option (R10 × Unit) := fun x => regs_WithFlags.C x.1 x.2.1
theorem regs_WithFlags.ok : PureOK Go.Proofs.Try.prog 81 regs_WithFlags.as regs_WithFlags.rs regs_WithFlags.F := regs_WithFlags.gen alu_Byte.F alu_Byte.ok
/-! regs_Holds -/
@[reducible] def regs_Holds.as : List Shp := [.agg ⟨.i .u8, [.i .u8, .i .u8, .i .u8, .i .u8, .i .u8, .i .u8, .i .u8, .i .u16, .i .u16]⟩, .k (.i .i64)]
@[reducible] def regs_Holds.rs : List Shp := [.k .b]
def regs_Holds.G (regs_Flags_F : (R10 × Unit) → Option ((Bool × Bool × Bool × Bool) × Unit)) (a0 : R10) (a1 : Int) : Option (Bool × Unit) :=
  Option.bind (regs_Flags_F (a0, ())) fun y0 => if (a1 == (0 : Int)) = true then some (y0.1.1 == (a1 == (1 : Int)), ()) else if (a1 == (1 : Int)) = true then some (y0.1.1 == (a1 == (1 : Int)), ()) else if (a1 == (2 : Int)) = true then some (y0.1.2.2.2 == (a1 == (3 : Int)), ()) else if (a1 == (3 : Int)) = true then some (y0.1.2.2.2 == (a1 == (3 : Int)), ()) else some (a1 == (4 : Int), ())
noncomputable def regs_Holds.C (a0 : R10) (a1 : Int) : Option (Bool × Unit) := regs_Holds.G regs_Flags.F a0 a1
theorem regs_Holds.gen (regs_Flags_F : (R10 × Unit) → Option ((Bool × Bool × Bool × Bool) × Unit)) (regs_Flags_ok : PureOK Go.Proofs.Try.prog 37 regs_Flags.as regs_Flags.rs regs_Flags_F) : PureOK Go.Proofs.Try.prog 18 regs_Holds.as regs_Holds.rs (fun x => regs_Holds.G regs_Flags_F x.1 x.2.1) :=
  fn_gen (tbl := tblOf tblI 18 Go.Proofs.Try.f18) (ks := [knView (P := Go.Proofs.Try.prog) 37 regs_Flags.as regs_Flags.rs regs_Flags_F regs_Flags_ok (by rfl) (by rfl) (by rfl)]) (ls := []) (n := 200) (d := 6) (tblOf_ok tblI_ok Go.Proofs.Try.func18 (by kernel_rfl)) (by rfl) (fun x => by kernel_rfl)
noncomputable def regs_Holds.F : (R10 × Int × Unit) → Option (Bool × Unit) := fun x => regs_Holds.C x.1 x.2.1
theorem regs_Holds.ok : PureOK Go.Proofs.Try.prog 18 regs_Holds.as regs_Holds.rs regs_Holds.F := regs_Holds.gen regs_Flags.F regs_Flags.ok
/-! regs_Boot -/
@[reducible] def regs_Boot.as : List Shp := []
@[reducible] def regs_Boot.rs : List Shp := [.agg ⟨.i .u8, [.i .u8, .i .u8, .i .u8, .i .u8, .i .u8, .i .u8, .i .u8, .i .u16, .i .u16]⟩]
def regs_Boot.G : Option (R10 × Unit) :=
  some (((1 : Int), (176 : Int), (0 : Int), (19 : Int), (0 : Int), (216 : Int), (1 : Int), (77 : Int), (65534 : Int), (256 : Int)), ())
noncomputable def regs_Boot.C : Option (R10 × Unit) := regs_Boot.G
theorem regs_Boot.gen : PureOK Go.Proofs.Try.prog 38 regs_Boot.as regs_Boot.rs (fun x => regs_Boot.G) :=
  fn_gen (tbl := tblOf tblI 38 Go.Proofs.Try.f38) (ks := []) (ls := []) (n := 200) (d := 6) (tblOf_ok tblI_ok Go.Proofs.Try.func38 (by kernel_rfl)) (by rfl) (fun x => by kernel_rfl)
noncomputable def regs_Boot.F : Unit → Option (R10 × Unit) := fun x => regs_Boot.C
theorem regs_Boot.ok : PureOK Go.Proofs.Try.prog 38 regs_Boot.as regs_Boot.rs regs_Boot.F := regs_Boot.gen
/-! irq_Vector -/
@[reducible] def irq_Vector.as : List Shp := [.k (.i .i64)]
@[reducible] def irq_Vector.rs : List Shp := [.k (.i .u16), .k (.i .i64)]
def irq_Vector.G (a0 : Int) : Option (Int × Int × Unit) :=
  if (decide (a0 ≥ (0 : Int)) == true) = true then if (!decide (a0 < (5 : Int))) = true then some ((0 : Int), (1 : Int), ()) else some (IntKind.wrap IntKind.u16 ((64 : Int) + IntKind.wrap IntKind.u16 ((8 : Int) * IntKind.wrap IntKind.u16 a0)), (0 : Int), ()) else some ((0 : Int), (1 : Int), ())
noncomputable def irq_Vector.C (a0 : Int) : Option (Int × Int × Unit) := irq_Vector.G a0
theorem irq_Vector.gen : PureOK Go.Proofs.Try.prog 48 irq_Vector.as irq_Vector.rs (fun x => irq_Vector.G x.1) :=
  fn_gen (tbl := tblOf tblI 48 Go.Proofs.Try.f48) (ks := []) (ls := []) (n := 200) (d := 6) (tblOf_ok tblI_ok Go.Proofs.Try.func48 (by kernel_rfl)) (by rfl) (fun x => by kernel_rfl)
noncomputable def irq_Vector.F : (Int × Unit) → Option (Int × Int × Unit) := fun x => irq_Vector.C x.1
theorem irq_Vector.ok : PureOK Go.Proofs.Try.prog 48 irq_Vector.as irq_Vector.rs irq_Vector.F := irq_Vector.gen
end Go.Proofs.Ytddeejpffdccpaa.E
