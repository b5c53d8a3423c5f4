/- Functions of the program as plain Lean, and what they come to. Conditions: none. -/
import Derived.Test.YtfpepeembbpncaaEwD
import Derived.Test.YtfpepeembbpncaaProg
import Derived.KernelRfl
open Go Go.Ew
namespace Go.Proofs.Ytfpepeembbpncaa.E
set_option linter.unusedVariables false
set_option maxRecDepth 100000
noncomputable def tblI : FuncId → Option Func
 | 38 => some Try.f38
 | _ => none
theorem tblI_ok : TblOK Try.prog tblI := by
 intro g fn h
 unfold tblI at h
 split at h
 ·simp only [Option.some.injEq] at h; subst h; exact ⟨Try.func38, by kernel_rfl⟩
 ·simp at h

/-! cmp_Compare -/
@[reducible] def cmp_Compare.as : List Shp := [.k (.i .u8), .k (.i .u8)]
@[reducible] def cmp_Compare.rs : List Shp := [.k (.i .i64)]
def cmp_Compare.G (a0 : Int) (a1 : Int) : Option (Int × Unit) :=
 if (a0 != a0) = true then if (a1 != a1) = true then some ((0 : Int), ()) else some ((-1 : Int), ()) else if (a1 != a1) = true then some ((1 : Int), ()) else if decide (a0 < a1) = true then some ((-1 : Int), ()) else if decide (a0 > a1) = true then some ((1 : Int), ()) else some ((0 : Int), ())
noncomputable def cmp_Compare.C (a0 : Int) (a1 : Int) : Option (Int × Unit) := cmp_Compare.G a0 a1
theorem cmp_Compare.gen : PureOK Try.prog 33 cmp_Compare.as cmp_Compare.rs (fun x => cmp_Compare.G x.1 x.2.1) :=
 fn_gen (tbl := tblOf tblI 33 Try.f33) (ks := []) (ls := []) (n := 200) (d := 6) (tblOf_ok tblI_ok Try.func33 (by kernel_rfl)) (by rfl) (fun x => by kernel_rfl)
noncomputable def cmp_Compare.F : (Int × Int × Unit) → Option (Int × Unit) := fun x => cmp_Compare.C x.1 x.2.1
theorem cmp_Compare.ok : PureOK Try.prog 33 cmp_Compare.as cmp_Compare.rs cmp_Compare.F := cmp_Compare.gen
/-! order1 -/
@[reducible] def order1.as : List Shp := [.agg ⟨.i .u8, [.i .u8, .i .u8, .i .u8, .i .u8]⟩, .agg ⟨.i .u8, [.i .u8, .i .u8, .i .u8, .i .u8]⟩]
@[reducible] def order1.rs : List Shp := [.k (.i .i64)]
def order1.G (cmp_Compare_F : (Int × Int × Unit) → Option (Int × Unit)) (a0 : (Int × Int × Int × Int × Int)) (a1 : (Int × Int × Int × Int × Int)) : Option (Int × Unit) :=
 Option.bind (cmp_Compare_F (a0.2.1, a1.2.1, ())) fun y0 => if (y0.1 != (0 : Int)) = true then some y0 else Option.bind (cmp_Compare_F (a0.2.2.2.2, a1.2.2.2.2, ())) fun y1 => some y1
noncomputable def order1.C (a0 : (Int × Int × Int × Int × Int)) (a1 : (Int × Int × Int × Int × Int)) : Option (Int × Unit) := order1.G cmp_Compare.F a0 a1
theorem order1.gen (cmp_Compare_F : (Int × Int × Unit) → Option (Int × Unit)) (cmp_Compare_ok : PureOK Try.prog 33 cmp_Compare.as cmp_Compare.rs cmp_Compare_F) : PureOK Try.prog 32 order1.as order1.rs (fun x => order1.G cmp_Compare_F x.1 x.2.1) :=
 fn_gen (tbl := tblOf tblI 32 Try.f32) (ks := [knView (P := Try.prog) 33 cmp_Compare.as cmp_Compare.rs cmp_Compare_F cmp_Compare_ok (by rfl) (by rfl) (by rfl)]) (ls := []) (n := 200) (d := 6) (tblOf_ok tblI_ok Try.func32 (by kernel_rfl)) (by rfl) (fun x => by kernel_rfl)
noncomputable def order1.F : ((Int × Int × Int × Int × Int) × (Int × Int × Int × Int × Int) × Unit) → Option (Int × Unit) := fun x => order1.C x.1 x.2.1
theorem order1.ok : PureOK Try.prog 32 order1.as order1.rs order1.F := order1.gen cmp_Compare.F cmp_Compare.ok
/-! swapRange -/
@[reducible] def swapRange.as : List Shp := [.k (.i .i64), .k (.i .i64), .k (.i .i64)]
@[reducible] def swapRange.rs : List Shp := []
@[reducible] def swapRange.sh : List SegSh := [.r ⟨.i .u8, [.i .u8, .i .u8, .i .u8, .i .u8]⟩ none]
@[reducible] def swapRange.L0.s : LSh := (⟨38, [(0, .sr 0 0 5), (1, .k (.i .i64)), (2, .k (.i .i64)), (3, .k (.i .i64)), (10, .k (.i .i64))], [some (29, [.r ⟨.i .u8, [.i .u8, .i .u8, .i .u8, .i .u8]⟩ none])], []⟩ : LSh)
@[reducible] def swapRange.L0.xs : List (Ex × LSh) := ([(.exit 0, ⟨38, [], [some (29, [.r ⟨.i .u8, [.i .u8, .i .u8, .i .u8, .i .u8]⟩ none])], []⟩)] : List (Ex × LSh))
def swapRange.L0.step (t0 : Nat) (t1 : Int) (t2 : Int) (t3 : Int) (t10 : Int) (b0_0 : List (Int × Int × Int × Int × Int)) : Option (((Nat × Int × Int × Int × Int × Unit) × (((List (Int × Int × Int × Int × Int)) × Unit) × Unit) × Unit) ⊕ (Unit × (((List (Int × Int × Int × Int × Int)) × Unit) × Unit) × Unit)) :=
 if decide (t10 < t3) = true then if (0 : Int) ≤ IntKind.wrap IntKind.i64 (t2 + t10) ∧ IntKind.wrap IntKind.i64 (t2 + t10) < (↑t0 : Int) then if (0 : Int) ≤ IntKind.wrap IntKind.i64 (t1 + t10) ∧ IntKind.wrap IntKind.i64 (t1 + t10) < (↑t0 : Int) then if (0 : Int) ≤ IntKind.wrap IntKind.i64 (t1 + t10) ∧ IntKind.wrap IntKind.i64 (t1 + t10) < (↑t0 : Int) then if (0 : Int) ≤ IntKind.wrap IntKind.i64 (t2 + t10) ∧ IntKind.wrap IntKind.i64 (t2 + t10) < (↑t0 : Int) then some (Sum.inl ((t0, t1, t2, t3, IntKind.wrap IntKind.i64 (t10 + (1 : Int)), ()), ((List.set (List.set b0_0 ((0 : Nat) + Int.toNat (IntKind.wrap IntKind.i64 (t1 + t10))) (List.getD b0_0 ((0 : Nat) + Int.toNat (IntKind.wrap IntKind.i64 (t2 + t10))) ((0 : Int), (0 : Int), (0 : Int), (0 : Int), (0 : Int)))) ((0 : Nat) + Int.toNat (IntKind.wrap IntKind.i64 (t2 + t10))) (List.getD b0_0 ((0 : Nat) + Int.toNat (IntKind.wrap IntKind.i64 (t1 + t10))) ((0 : Int), (0 : Int), (0 : Int), (0 : Int), (0 : Int))), ()), ()), ())) else none else none else none else none else some (Sum.inr ((), ((b0_0, ()), ()), ()))
theorem swapRange.L0.gen : LoopOK Try.prog 42 0 swapRange.L0.s swapRange.L0.xs (iterU fun x => swapRange.L0.step x.1.1 x.1.2.1 x.1.2.2.1 x.1.2.2.2.1 x.1.2.2.2.2.1 x.2.1.1.1) :=
 loop_gen (tbl := tblOf tblI 42 Try.f42) (ks := []) (ls := []) (n := 200) (d := 6) (fn := Try.f42) (tblOf_ok tblI_ok Try.func42 (by kernel_rfl)) (by rfl) (by rfl) (fun x => by kernel_rfl)
noncomputable def swapRange.L0.F : ((Nat × Int × Int × Int × Int × Unit) × (((List (Int × Int × Int × Int × Int)) × Unit) × Unit) × Unit) → Option (Unit × (((List (Int × Int × Int × Int × Int)) × Unit) × Unit) × Unit) := iterU fun x => swapRange.L0.step x.1.1 x.1.2.1 x.1.2.2.1 x.1.2.2.2.1 x.1.2.2.2.2.1 x.2.1.1.1
theorem swapRange.L0.ok : LoopOK Try.prog 42 0 swapRange.L0.s swapRange.L0.xs swapRange.L0.F := swapRange.L0.gen
def swapRange.G (swapRange_L0_F : ((Nat × Int × Int × Int × Int × Unit) × (((List (Int × Int × Int × Int × Int)) × Unit) × Unit) × Unit) → Option (Unit × (((List (Int × Int × Int × Int × Int)) × Unit) × Unit) × Unit)) (len : Nat) (a0 : Int) (a1 : Int) (a2 : Int) (b : ((List (Int × Int × Int × Int × Int)) × Unit)) : Option (Unit × ((List (Int × Int × Int × Int × Int)) × Unit)) :=
 Option.bind (swapRange_L0_F ((len, a0, a1, a2, (0 : Int), ()), (b, ()), ())) fun y0 => some ((), y0.2.1.1)
theorem swapRange.gen (swapRange_L0_F : ((Nat × Int × Int × Int × Int × Unit) × (((List (Int × Int × Int × Int × Int)) × Unit) × Unit) × Unit) → Option (Unit × (((List (Int × Int × Int × Int × Int)) × Unit) × Unit) × Unit)) (swapRange_L0_ok : LoopOK Try.prog 42 0 swapRange.L0.s swapRange.L0.xs swapRange_L0_F) : RowOK Try.prog 42 29 swapRange.sh swapRange.as swapRange.rs [32] (rowF 5 (fun len x b => swapRange.G swapRange_L0_F len x.1 x.2.1 x.2.2.1 b)) :=
 row_genF (tbl := tblOf tblI 42 Try.f42) (ks := []) (ls := [lk (P := Try.prog) 42 0 swapRange.L0.s swapRange.L0.xs swapRange_L0_F swapRange_L0_ok (by rfl)]) (n := 200) (d := 6) (tblOf_ok tblI_ok Try.func42 (by kernel_rfl)) (by rfl) (fun len x b => by kernel_rfl)
noncomputable def swapRange.F : Nat → (Int × Int × Int × Unit) → ((List (Int × Int × Int × Int × Int)) × Unit) → Option (Unit × ((List (Int × Int × Int × Int × Int)) × Unit)) := fun len x b => swapRange.G swapRange.L0.F len x.1 x.2.1 x.2.2.1 b
theorem swapRange.ok : RowOK Try.prog 42 29 swapRange.sh swapRange.as swapRange.rs [32] (rowF 5 swapRange.F) := swapRange.gen swapRange.L0.F swapRange.L0.ok
/-! rotate -/
@[reducible] def rotate.as : List Shp := [.k (.i .i64), .k (.i .i64), .k (.i .i64)]
@[reducible] def rotate.rs : List Shp := []
@[reducible] def rotate.sh : List SegSh := [.r ⟨.i .u8, [.i .u8, .i .u8, .i .u8, .i .u8]⟩ none]
@[reducible] def rotate.L0.s : LSh := (⟨58, [(0, .sr 0 0 5), (2, .k (.i .i64)), (4, .clo 32 []), (10, .k (.i .i64)), (11, .k (.i .i64))], [some (29, [.r ⟨.i .u8, [.i .u8, .i .u8, .i .u8, .i .u8]⟩ none])], []⟩ : LSh)
@[reducible] def rotate.L0.xs : List (Ex × LSh) := ([(.exit 0, ⟨58, [(0, .sr 0 0 5), (2, .k (.i .i64)), (4, .clo 32 []), (10, .k (.i .i64))], [some (29, [.r ⟨.i .u8, [.i .u8, .i .u8, .i .u8, .i .u8]⟩ none])], []⟩)] : List (Ex × LSh))
def rotate.L0.step (swapRange_F : Nat → (Int × Int × Int × Unit) → ((List (Int × Int × Int × Int × Int)) × Unit) → Option (Unit × ((List (Int × Int × Int × Int × Int)) × Unit))) (t0 : Nat) (t2 : Int) (t10 : Int) (t11 : Int) (b0_0 : List (Int × Int × Int × Int × Int)) : Option (((Nat × Int × Unit × Int × Int × Unit) × (((List (Int × Int × Int × Int × Int)) × Unit) × Unit) × Unit) ⊕ ((Nat × Int × Unit × Int × Unit) × (((List (Int × Int × Int × Int × Int)) × Unit) × Unit) × Unit)) :=
 if (t10 != t11) = true then if decide (t10 > t11) = true then if (1 : Nat) ≤ t0 then Option.bind (swapRange_F t0 (IntKind.wrap IntKind.i64 (t2 - t10), t2, t11, ()) (b0_0, ())) fun y0 => some (Sum.inl ((t0, t2, (), IntKind.wrap IntKind.i64 (t10 - t11), t11, ()), (y0.2, ()), ())) else none else if (1 : Nat) ≤ t0 then Option.bind (swapRange_F t0 (IntKind.wrap IntKind.i64 (t2 - t10), IntKind.wrap IntKind.i64 (IntKind.wrap IntKind.i64 (t2 + t11) - t10), t10, ()) (b0_0, ())) fun y0 => some (Sum.inl ((t0, t2, (), t10, IntKind.wrap IntKind.i64 (t11 - t10), ()), (y0.2, ()), ())) else none else some (Sum.inr ((t0, t2, (), t10, ()), ((b0_0, ()), ()), ()))
theorem rotate.L0.gen (swapRange_F : Nat → (Int × Int × Int × Unit) → ((List (Int × Int × Int × Int × Int)) × Unit) → Option (Unit × ((List (Int × Int × Int × Int × Int)) × Unit))) (swapRange_ok : RowOK Try.prog 42 29 swapRange.sh swapRange.as swapRange.rs [32] (rowF 5 swapRange_F)) : LoopOK Try.prog 41 0 rotate.L0.s rotate.L0.xs (iterU fun x => rotate.L0.step swapRange_F x.1.1 x.1.2.1 x.1.2.2.2.1 x.1.2.2.2.2.1 x.2.1.1.1) :=
 loop_gen (tbl := tblOf tblI 41 Try.f41) (ks := [knRow (P := Try.prog) 42 29 swapRange.sh swapRange.as swapRange.rs [32] (rowF 5 swapRange_F) swapRange_ok (by rfl) (by rfl) (by rfl) (by rfl) (by rfl)]) (ls := []) (n := 200) (d := 6) (fn := Try.f41) (tblOf_ok tblI_ok Try.func41 (by kernel_rfl)) (by rfl) (by rfl) (fun x => by kernel_rfl)
noncomputable def rotate.L0.F : ((Nat × Int × Unit × Int × Int × Unit) × (((List (Int × Int × Int × Int × Int)) × Unit) × Unit) × Unit) → Option ((Nat × Int × Unit × Int × Unit) × (((List (Int × Int × Int × Int × Int)) × Unit) × Unit) × Unit) := iterU fun x => rotate.L0.step swapRange.F x.1.1 x.1.2.1 x.1.2.2.2.1 x.1.2.2.2.2.1 x.2.1.1.1
theorem rotate.L0.ok : LoopOK Try.prog 41 0 rotate.L0.s rotate.L0.xs rotate.L0.F := rotate.L0.gen swapRange.F swapRange.ok
def rotate.G (swapRange_F : Nat → (Int × Int × Int × Unit) → ((List (Int × Int × Int × Int × Int)) × Unit) → Option (Unit × ((List (Int × Int × Int × Int × Int)) × Unit))) (rotate_L0_F : ((Nat × Int × Unit × Int × Int × Unit) × (((List (Int × Int × Int × Int × Int)) × Unit) × Unit) × Unit) → Option ((Nat × Int × Unit × Int × Unit) × (((List (Int × Int × Int × Int × Int)) × Unit) × Unit) × Unit)) (len : Nat) (a0 : Int) (a1 : Int) (a2 : Int) (b : ((List (Int × Int × Int × Int × Int)) × Unit)) : Option (Unit × ((List (Int × Int × Int × Int × Int)) × Unit)) :=
 Option.bind (rotate_L0_F ((len, a1, (), IntKind.wrap IntKind.i64 (a1 - a0), IntKind.wrap IntKind.i64 (a2 - a1), ()), (b, ()), ())) fun y0 => if (1 : Nat) ≤ y0.1.1 then Option.bind (swapRange_F y0.1.1 (IntKind.wrap IntKind.i64 (y0.1.2.1 - y0.1.2.2.2.1), y0.1.2.1, y0.1.2.2.2) y0.2.1.1) fun y1 => some ((), y1.2) else none
theorem rotate.gen (swapRange_F : Nat → (Int × Int × Int × Unit) → ((List (Int × Int × Int × Int × Int)) × Unit) → Option (Unit × ((List (Int × Int × Int × Int × Int)) × Unit))) (swapRange_ok : RowOK Try.prog 42 29 swapRange.sh swapRange.as swapRange.rs [32] (rowF 5 swapRange_F)) (rotate_L0_F : ((Nat × Int × Unit × Int × Int × Unit) × (((List (Int × Int × Int × Int × Int)) × Unit) × Unit) × Unit) → Option ((Nat × Int × Unit × Int × Unit) × (((List (Int × Int × Int × Int × Int)) × Unit) × Unit) × Unit)) (rotate_L0_ok : LoopOK Try.prog 41 0 rotate.L0.s rotate.L0.xs rotate_L0_F) : RowOK Try.prog 41 29 rotate.sh rotate.as rotate.rs [32] (rowF 5 (fun len x b => rotate.G swapRange_F rotate_L0_F len x.1 x.2.1 x.2.2.1 b)) :=
 row_genF (tbl := tblOf tblI 41 Try.f41) (ks := [knRow (P := Try.prog) 42 29 swapRange.sh swapRange.as swapRange.rs [32] (rowF 5 swapRange_F) swapRange_ok (by rfl) (by rfl) (by rfl) (by rfl) (by rfl)]) (ls := [lk (P := Try.prog) 41 0 rotate.L0.s rotate.L0.xs rotate_L0_F rotate_L0_ok (by rfl)]) (n := 200) (d := 6) (tblOf_ok tblI_ok Try.func41 (by kernel_rfl)) (by rfl) (fun len x b => by kernel_rfl)
noncomputable def rotate.F : Nat → (Int × Int × Int × Unit) → ((List (Int × Int × Int × Int × Int)) × Unit) → Option (Unit × ((List (Int × Int × Int × Int × Int)) × Unit)) := fun len x b => rotate.G swapRange.F rotate.L0.F len x.1 x.2.1 x.2.2.1 b
theorem rotate.ok : RowOK Try.prog 41 29 rotate.sh rotate.as rotate.rs [32] (rowF 5 rotate.F) := rotate.gen swapRange.F swapRange.ok rotate.L0.F rotate.L0.ok
end Go.Proofs.Ytfpepeembbpncaa.E
