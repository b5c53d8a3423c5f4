/- Functions of the program as plain Lean, and what they come to. Conditions: none. -/
import Derived.Test.YtkdeheoonannoaaDoorEwD
import Derived.KernelRfl
import Derived.Test.YtkdeheoonannoaaDoorWalkT
open Go Go.Ew
namespace Go.Proofs.YtkdeheoonannoaaDoor.T
set_option linter.unusedVariables false
set_option maxRecDepth 100000
abbrev F6 := Int × Int × Int × Int × Int × Int
abbrev ROW := ByteArray × Int × Int × Int × Int × Int
@[reducible] def ref05_told.as : List Shp := [.agg ⟨.s, [.i .i64, .i .i64, .i .i64, .i .i64, .i .i64]⟩, .k (.i .i64), .k (.i .i64)]
@[reducible] def ref05_told.rs : List Shp := [.agg ⟨.i .i64, [.i .i64, .i .i64, .i .i64, .i .i64, .i .i64]⟩]
noncomputable def tblL : FuncId → Option Func
 | 72 => some Tryd.f72
 | _ => none
theorem tblL_ok : TblOK Tryd.prog tblL := by
 intro g fn h
 unfold tblL at h
 split at h
 ·simp only [Option.some.injEq] at h; subst h; exact ⟨Tryd.func72, by kernel_rfl⟩
 ·simp at h
def toldG0 (x : ByteArray × Int × Int × Unit) : Option (F6 × Unit) :=
 some ((0, x.2.1, x.2.2.1, 1, 1, 1), ())
theorem told_0 : PureE Tryd.prog 72 (fun x : ByteArray × Int × Int × Unit => [.one (.agg [.v (.string x.1), .v (.int .i64 0), .v (.int .i64 1), .v (.int .i64 1), .v (.int .i64 1), .v (.int .i64 0)]), .one (.c (.v (.int .i64 x.2.1))), .one (.c (.v (.int .i64 x.2.2.1)))]) ref05_told.rs toldG0 := fnE_gen tblL_ok (ks := []) (ls := []) (n := 20) (d := 6) (by rfl) (fun x => by kernel_rfl)
def toldG1 (x : ByteArray × Int × Int × Unit) : Option (F6 × Unit) :=
 some ((1, x.2.1, x.2.2.1, 2, 2, 2), ())
theorem told_1 : PureE Tryd.prog 72 (fun x : ByteArray × Int × Int × Unit => [.one (.agg [.v (.string x.1), .v (.int .i64 1), .v (.int .i64 2), .v (.int .i64 2), .v (.int .i64 2), .v (.int .i64 0)]), .one (.c (.v (.int .i64 x.2.1))), .one (.c (.v (.int .i64 x.2.2.1)))]) ref05_told.rs toldG1 := fnE_gen tblL_ok (ks := []) (ls := []) (n := 20) (d := 6) (by rfl) (fun x => by kernel_rfl)
def toldG2 (x : ByteArray × Int × Int × Unit) : Option (F6 × Unit) :=
 some ((2, x.2.1, x.2.2.1, 1, 1, 1), ())
theorem told_2 : PureE Tryd.prog 72 (fun x : ByteArray × Int × Int × Unit => [.one (.agg [.v (.string x.1), .v (.int .i64 2), .v (.int .i64 1), .v (.int .i64 1), .v (.int .i64 1), .v (.int .i64 0)]), .one (.c (.v (.int .i64 x.2.1))), .one (.c (.v (.int .i64 x.2.2.1)))]) ref05_told.rs toldG2 := fnE_gen tblL_ok (ks := []) (ls := []) (n := 20) (d := 6) (by rfl) (fun x => by kernel_rfl)
def toldG3 (x : ByteArray × Int × Int × Unit) : Option (F6 × Unit) :=
 some ((3, x.2.1, x.2.2.1, 1, 1, 1), ())
theorem told_3 : PureE Tryd.prog 72 (fun x : ByteArray × Int × Int × Unit => [.one (.agg [.v (.string x.1), .v (.int .i64 3), .v (.int .i64 1), .v (.int .i64 1), .v (.int .i64 1), .v (.int .i64 0)]), .one (.c (.v (.int .i64 x.2.1))), .one (.c (.v (.int .i64 x.2.2.1)))]) ref05_told.rs toldG3 := fnE_gen tblL_ok (ks := []) (ls := []) (n := 20) (d := 6) (by rfl) (fun x => by kernel_rfl)
def toldG4 (x : ByteArray × Int × Int × Unit) : Option (F6 × Unit) :=
 some ((4, x.2.1, x.2.2.1, 1, 1, 1), ())
theorem told_4 : PureE Tryd.prog 72 (fun x : ByteArray × Int × Int × Unit => [.one (.agg [.v (.string x.1), .v (.int .i64 4), .v (.int .i64 1), .v (.int .i64 1), .v (.int .i64 1), .v (.int .i64 0)]), .one (.c (.v (.int .i64 x.2.1))), .one (.c (.v (.int .i64 x.2.2.1)))]) ref05_told.rs toldG4 := fnE_gen tblL_ok (ks := []) (ls := []) (n := 20) (d := 6) (by rfl) (fun x => by kernel_rfl)
def toldG5 (x : ByteArray × Int × Int × Unit) : Option (F6 × Unit) :=
 some ((6, x.2.1, x.2.2.1, 1, 1, 1), ())
theorem told_5 : PureE Tryd.prog 72 (fun x : ByteArray × Int × Int × Unit => [.one (.agg [.v (.string x.1), .v (.int .i64 6), .v (.int .i64 1), .v (.int .i64 1), .v (.int .i64 1), .v (.int .i64 0)]), .one (.c (.v (.int .i64 x.2.1))), .one (.c (.v (.int .i64 x.2.2.1)))]) ref05_told.rs toldG5 := fnE_gen tblL_ok (ks := []) (ls := []) (n := 20) (d := 6) (by rfl) (fun x => by kernel_rfl)
def toldG6 (x : ByteArray × Int × Int × Unit) : Option (F6 × Unit) :=
 if ((x.2.1 == 6) == false) = true then if ((x.2.2.1 == 6) == false) = true then some ((7, x.2.1, x.2.2.1, 1, 1, 1), ()) else some ((7, x.2.1, x.2.2.1, 1, 2, 2), ()) else some ((7, x.2.1, x.2.2.1, 1, 2, 2), ())
theorem told_6 : PureE Tryd.prog 72 (fun x : ByteArray × Int × Int × Unit => [.one (.agg [.v (.string x.1), .v (.int .i64 7), .v (.int .i64 1), .v (.int .i64 1), .v (.int .i64 1), .v (.int .i64 0)]), .one (.c (.v (.int .i64 x.2.1))), .one (.c (.v (.int .i64 x.2.2.1)))]) ref05_told.rs toldG6 := fnE_gen tblL_ok (ks := []) (ls := []) (n := 20) (d := 6) (by rfl) (fun x => by kernel_rfl)
def toldG7 (x : ByteArray × Int × Int × Unit) : Option (F6 × Unit) :=
 if (x.2.1 == 6) = true then some ((8, x.2.1, x.2.2.1, 2, 3, 3), ()) else some ((8, x.2.1, x.2.2.1, 2, 2, 2), ())
theorem told_7 : PureE Tryd.prog 72 (fun x : ByteArray × Int × Int × Unit => [.one (.agg [.v (.string x.1), .v (.int .i64 8), .v (.int .i64 2), .v (.int .i64 2), .v (.int .i64 2), .v (.int .i64 0)]), .one (.c (.v (.int .i64 x.2.1))), .one (.c (.v (.int .i64 x.2.2.1)))]) ref05_told.rs toldG7 := fnE_gen tblL_ok (ks := []) (ls := []) (n := 20) (d := 6) (by rfl) (fun x => by kernel_rfl)
def toldG8 (x : ByteArray × Int × Int × Unit) : Option (F6 × Unit) :=
 some ((9, x.2.1, x.2.2.1, 1, 2, 2), ())
theorem told_8 : PureE Tryd.prog 72 (fun x : ByteArray × Int × Int × Unit => [.one (.agg [.v (.string x.1), .v (.int .i64 9), .v (.int .i64 1), .v (.int .i64 2), .v (.int .i64 2), .v (.int .i64 0)]), .one (.c (.v (.int .i64 x.2.1))), .one (.c (.v (.int .i64 x.2.2.1)))]) ref05_told.rs toldG8 := fnE_gen tblL_ok (ks := []) (ls := []) (n := 20) (d := 6) (by rfl) (fun x => by kernel_rfl)
def toldG9 (x : ByteArray × Int × Int × Unit) : Option (F6 × Unit) :=
 some ((10, x.2.1, x.2.2.1, 1, 2, 2), ())
theorem told_9 : PureE Tryd.prog 72 (fun x : ByteArray × Int × Int × Unit => [.one (.agg [.v (.string x.1), .v (.int .i64 10), .v (.int .i64 1), .v (.int .i64 2), .v (.int .i64 2), .v (.int .i64 0)]), .one (.c (.v (.int .i64 x.2.1))), .one (.c (.v (.int .i64 x.2.2.1)))]) ref05_told.rs toldG9 := fnE_gen tblL_ok (ks := []) (ls := []) (n := 20) (d := 6) (by rfl) (fun x => by kernel_rfl)
def toldG10 (x : ByteArray × Int × Int × Unit) : Option (F6 × Unit) :=
 some ((11, x.2.1, x.2.2.1, 2, 3, 3), ())
theorem told_10 : PureE Tryd.prog 72 (fun x : ByteArray × Int × Int × Unit => [.one (.agg [.v (.string x.1), .v (.int .i64 11), .v (.int .i64 2), .v (.int .i64 3), .v (.int .i64 3), .v (.int .i64 0)]), .one (.c (.v (.int .i64 x.2.1))), .one (.c (.v (.int .i64 x.2.2.1)))]) ref05_told.rs toldG10 := fnE_gen tblL_ok (ks := []) (ls := []) (n := 20) (d := 6) (by rfl) (fun x => by kernel_rfl)
def toldG11 (x : ByteArray × Int × Int × Unit) : Option (F6 × Unit) :=
 some ((12, x.2.1, x.2.2.1, 2, 3, 3), ())
theorem told_11 : PureE Tryd.prog 72 (fun x : ByteArray × Int × Int × Unit => [.one (.agg [.v (.string x.1), .v (.int .i64 12), .v (.int .i64 2), .v (.int .i64 3), .v (.int .i64 3), .v (.int .i64 0)]), .one (.c (.v (.int .i64 x.2.1))), .one (.c (.v (.int .i64 x.2.2.1)))]) ref05_told.rs toldG11 := fnE_gen tblL_ok (ks := []) (ls := []) (n := 20) (d := 6) (by rfl) (fun x => by kernel_rfl)
def toldG12 (x : ByteArray × Int × Int × Unit) : Option (F6 × Unit) :=
 some ((13, x.2.1, x.2.2.1, 1, 2, 2), ())
theorem told_12 : PureE Tryd.prog 72 (fun x : ByteArray × Int × Int × Unit => [.one (.agg [.v (.string x.1), .v (.int .i64 13), .v (.int .i64 1), .v (.int .i64 2), .v (.int .i64 2), .v (.int .i64 0)]), .one (.c (.v (.int .i64 x.2.1))), .one (.c (.v (.int .i64 x.2.2.1)))]) ref05_told.rs toldG12 := fnE_gen tblL_ok (ks := []) (ls := []) (n := 20) (d := 6) (by rfl) (fun x => by kernel_rfl)
def toldG13 (x : ByteArray × Int × Int × Unit) : Option (F6 × Unit) :=
 some ((14, x.2.1, x.2.2.1, 1, 2, 2), ())
theorem told_13 : PureE Tryd.prog 72 (fun x : ByteArray × Int × Int × Unit => [.one (.agg [.v (.string x.1), .v (.int .i64 14), .v (.int .i64 1), .v (.int .i64 2), .v (.int .i64 2), .v (.int .i64 0)]), .one (.c (.v (.int .i64 x.2.1))), .one (.c (.v (.int .i64 x.2.2.1)))]) ref05_told.rs toldG13 := fnE_gen tblL_ok (ks := []) (ls := []) (n := 20) (d := 6) (by rfl) (fun x => by kernel_rfl)
def toldG14 (x : ByteArray × Int × Int × Unit) : Option (F6 × Unit) :=
 some ((15, x.2.1, x.2.2.1, 3, 4, 4), ())
theorem told_14 : PureE Tryd.prog 72 (fun x : ByteArray × Int × Int × Unit => [.one (.agg [.v (.string x.1), .v (.int .i64 15), .v (.int .i64 3), .v (.int .i64 4), .v (.int .i64 4), .v (.int .i64 0)]), .one (.c (.v (.int .i64 x.2.1))), .one (.c (.v (.int .i64 x.2.2.1)))]) ref05_told.rs toldG14 := fnE_gen tblL_ok (ks := []) (ls := []) (n := 20) (d := 6) (by rfl) (fun x => by kernel_rfl)
def toldG15 (x : ByteArray × Int × Int × Unit) : Option (F6 × Unit) :=
 some ((16, x.2.1, x.2.2.1, 3, 4, 4), ())
theorem told_15 : PureE Tryd.prog 72 (fun x : ByteArray × Int × Int × Unit => [.one (.agg [.v (.string x.1), .v (.int .i64 16), .v (.int .i64 3), .v (.int .i64 4), .v (.int .i64 4), .v (.int .i64 0)]), .one (.c (.v (.int .i64 x.2.1))), .one (.c (.v (.int .i64 x.2.2.1)))]) ref05_told.rs toldG15 := fnE_gen tblL_ok (ks := []) (ls := []) (n := 20) (d := 6) (by rfl) (fun x => by kernel_rfl)
def toldG16 (x : ByteArray × Int × Int × Unit) : Option (F6 × Unit) :=
 some ((17, x.2.1, x.2.2.1, 3, 3, 3), ())
theorem told_16 : PureE Tryd.prog 72 (fun x : ByteArray × Int × Int × Unit => [.one (.agg [.v (.string x.1), .v (.int .i64 17), .v (.int .i64 3), .v (.int .i64 3), .v (.int .i64 3), .v (.int .i64 0)]), .one (.c (.v (.int .i64 x.2.1))), .one (.c (.v (.int .i64 x.2.2.1)))]) ref05_told.rs toldG16 := fnE_gen tblL_ok (ks := []) (ls := []) (n := 20) (d := 6) (by rfl) (fun x => by kernel_rfl)
def toldG17 (x : ByteArray × Int × Int × Unit) : Option (F6 × Unit) :=
 some ((18, x.2.1, x.2.2.1, 3, 5, 5), ())
theorem told_17 : PureE Tryd.prog 72 (fun x : ByteArray × Int × Int × Unit => [.one (.agg [.v (.string x.1), .v (.int .i64 18), .v (.int .i64 3), .v (.int .i64 5), .v (.int .i64 5), .v (.int .i64 0)]), .one (.c (.v (.int .i64 x.2.1))), .one (.c (.v (.int .i64 x.2.2.1)))]) ref05_told.rs toldG17 := fnE_gen tblL_ok (ks := []) (ls := []) (n := 20) (d := 6) (by rfl) (fun x => by kernel_rfl)
def toldG18 (x : ByteArray × Int × Int × Unit) : Option (F6 × Unit) :=
 some ((19, x.2.1, x.2.2.1, 1, 2, 2), ())
theorem told_18 : PureE Tryd.prog 72 (fun x : ByteArray × Int × Int × Unit => [.one (.agg [.v (.string x.1), .v (.int .i64 19), .v (.int .i64 1), .v (.int .i64 2), .v (.int .i64 2), .v (.int .i64 0)]), .one (.c (.v (.int .i64 x.2.1))), .one (.c (.v (.int .i64 x.2.2.1)))]) ref05_told.rs toldG18 := fnE_gen tblL_ok (ks := []) (ls := []) (n := 20) (d := 6) (by rfl) (fun x => by kernel_rfl)
def toldG19 (x : ByteArray × Int × Int × Unit) : Option (F6 × Unit) :=
 some ((20, x.2.1, x.2.2.1, 2, 3, 3), ())
theorem told_19 : PureE Tryd.prog 72 (fun x : ByteArray × Int × Int × Unit => [.one (.agg [.v (.string x.1), .v (.int .i64 20), .v (.int .i64 2), .v (.int .i64 3), .v (.int .i64 3), .v (.int .i64 0)]), .one (.c (.v (.int .i64 x.2.1))), .one (.c (.v (.int .i64 x.2.2.1)))]) ref05_told.rs toldG19 := fnE_gen tblL_ok (ks := []) (ls := []) (n := 20) (d := 6) (by rfl) (fun x => by kernel_rfl)
def toldG20 (x : ByteArray × Int × Int × Unit) : Option (F6 × Unit) :=
 if (x.2.1 == 3) = true then some ((21, 4, x.2.2.1, 1, 4, 4), ()) else some ((21, x.2.1, x.2.2.1, 1, 4, 4), ())
theorem told_20 : PureE Tryd.prog 72 (fun x : ByteArray × Int × Int × Unit => [.one (.agg [.v (.string x.1), .v (.int .i64 21), .v (.int .i64 1), .v (.int .i64 4), .v (.int .i64 4), .v (.int .i64 0)]), .one (.c (.v (.int .i64 x.2.1))), .one (.c (.v (.int .i64 x.2.2.1)))]) ref05_told.rs toldG20 := fnE_gen tblL_ok (ks := []) (ls := []) (n := 20) (d := 6) (by rfl) (fun x => by kernel_rfl)
def toldG21 (x : ByteArray × Int × Int × Unit) : Option (F6 × Unit) :=
 if (x.2.1 == 3) = true then some ((22, 4, x.2.2.1, 1, 3, 3), ()) else some ((22, x.2.1, x.2.2.1, 1, 3, 3), ())
theorem told_21 : PureE Tryd.prog 72 (fun x : ByteArray × Int × Int × Unit => [.one (.agg [.v (.string x.1), .v (.int .i64 22), .v (.int .i64 1), .v (.int .i64 3), .v (.int .i64 3), .v (.int .i64 0)]), .one (.c (.v (.int .i64 x.2.1))), .one (.c (.v (.int .i64 x.2.2.1)))]) ref05_told.rs toldG21 := fnE_gen tblL_ok (ks := []) (ls := []) (n := 20) (d := 6) (by rfl) (fun x => by kernel_rfl)
def toldG22 (x : ByteArray × Int × Int × Unit) : Option (F6 × Unit) :=
 if (x.2.2.1 == 6) = true then some ((23, x.2.1, x.2.2.1, 1, 2, 2), ()) else some ((23, x.2.1, x.2.2.1, 1, 1, 1), ())
theorem told_22 : PureE Tryd.prog 72 (fun x : ByteArray × Int × Int × Unit => [.one (.agg [.v (.string x.1), .v (.int .i64 23), .v (.int .i64 1), .v (.int .i64 1), .v (.int .i64 1), .v (.int .i64 0)]), .one (.c (.v (.int .i64 x.2.1))), .one (.c (.v (.int .i64 x.2.2.1)))]) ref05_told.rs toldG22 := fnE_gen tblL_ok (ks := []) (ls := []) (n := 20) (d := 6) (by rfl) (fun x => by kernel_rfl)
def toldG23 (x : ByteArray × Int × Int × Unit) : Option (F6 × Unit) :=
 some ((24, x.2.1, x.2.2.1, 2, 2, 2), ())
theorem told_23 : PureE Tryd.prog 72 (fun x : ByteArray × Int × Int × Unit => [.one (.agg [.v (.string x.1), .v (.int .i64 24), .v (.int .i64 2), .v (.int .i64 2), .v (.int .i64 2), .v (.int .i64 0)]), .one (.c (.v (.int .i64 x.2.1))), .one (.c (.v (.int .i64 x.2.2.1)))]) ref05_told.rs toldG23 := fnE_gen tblL_ok (ks := []) (ls := []) (n := 20) (d := 6) (by rfl) (fun x => by kernel_rfl)
def toldG24 (x : ByteArray × Int × Int × Unit) : Option (F6 × Unit) :=
 if (x.2.1 == 6) = true then some ((25, x.2.1, x.2.2.1, 1, 3, 3), ()) else some ((25, x.2.1, x.2.2.1, 1, 1, 1), ())
theorem told_24 : PureE Tryd.prog 72 (fun x : ByteArray × Int × Int × Unit => [.one (.agg [.v (.string x.1), .v (.int .i64 25), .v (.int .i64 1), .v (.int .i64 1), .v (.int .i64 1), .v (.int .i64 0)]), .one (.c (.v (.int .i64 x.2.1))), .one (.c (.v (.int .i64 x.2.2.1)))]) ref05_told.rs toldG24 := fnE_gen tblL_ok (ks := []) (ls := []) (n := 20) (d := 6) (by rfl) (fun x => by kernel_rfl)
def toldG25 (x : ByteArray × Int × Int × Unit) : Option (F6 × Unit) :=
 if (x.2.1 == 6) = true then some ((26, x.2.1, x.2.2.1, 1, 3, 3), ()) else some ((26, x.2.1, x.2.2.1, 1, 1, 1), ())
theorem told_25 : PureE Tryd.prog 72 (fun x : ByteArray × Int × Int × Unit => [.one (.agg [.v (.string x.1), .v (.int .i64 26), .v (.int .i64 1), .v (.int .i64 1), .v (.int .i64 1), .v (.int .i64 0)]), .one (.c (.v (.int .i64 x.2.1))), .one (.c (.v (.int .i64 x.2.2.1)))]) ref05_told.rs toldG25 := fnE_gen tblL_ok (ks := []) (ls := []) (n := 20) (d := 6) (by rfl) (fun x => by kernel_rfl)
def toldG26 (x : ByteArray × Int × Int × Unit) : Option (F6 × Unit) :=
 some ((27, x.2.1, x.2.2.1, 1, 2, 2), ())
theorem told_26 : PureE Tryd.prog 72 (fun x : ByteArray × Int × Int × Unit => [.one (.agg [.v (.string x.1), .v (.int .i64 27), .v (.int .i64 1), .v (.int .i64 2), .v (.int .i64 2), .v (.int .i64 0)]), .one (.c (.v (.int .i64 x.2.1))), .one (.c (.v (.int .i64 x.2.2.1)))]) ref05_told.rs toldG26 := fnE_gen tblL_ok (ks := []) (ls := []) (n := 20) (d := 6) (by rfl) (fun x => by kernel_rfl)
def toldG27 (x : ByteArray × Int × Int × Unit) : Option (F6 × Unit) :=
 some ((28, x.2.1, x.2.2.1, 1, 2, 2), ())
theorem told_27 : PureE Tryd.prog 72 (fun x : ByteArray × Int × Int × Unit => [.one (.agg [.v (.string x.1), .v (.int .i64 28), .v (.int .i64 1), .v (.int .i64 2), .v (.int .i64 2), .v (.int .i64 0)]), .one (.c (.v (.int .i64 x.2.1))), .one (.c (.v (.int .i64 x.2.2.1)))]) ref05_told.rs toldG27 := fnE_gen tblL_ok (ks := []) (ls := []) (n := 20) (d := 6) (by rfl) (fun x => by kernel_rfl)
def toldG28 (x : ByteArray × Int × Int × Unit) : Option (F6 × Unit) :=
 some ((29, x.2.1, x.2.2.1, 1, 2, 2), ())
theorem told_28 : PureE Tryd.prog 72 (fun x : ByteArray × Int × Int × Unit => [.one (.agg [.v (.string x.1), .v (.int .i64 29), .v (.int .i64 1), .v (.int .i64 2), .v (.int .i64 2), .v (.int .i64 0)]), .one (.c (.v (.int .i64 x.2.1))), .one (.c (.v (.int .i64 x.2.2.1)))]) ref05_told.rs toldG28 := fnE_gen tblL_ok (ks := []) (ls := []) (n := 20) (d := 6) (by rfl) (fun x => by kernel_rfl)
def toldG29 (x : ByteArray × Int × Int × Unit) : Option (F6 × Unit) :=
 some ((30, x.2.1, x.2.2.1, 2, 4, 4), ())
theorem told_29 : PureE Tryd.prog 72 (fun x : ByteArray × Int × Int × Unit => [.one (.agg [.v (.string x.1), .v (.int .i64 30), .v (.int .i64 2), .v (.int .i64 4), .v (.int .i64 4), .v (.int .i64 0)]), .one (.c (.v (.int .i64 x.2.1))), .one (.c (.v (.int .i64 x.2.2.1)))]) ref05_told.rs toldG29 := fnE_gen tblL_ok (ks := []) (ls := []) (n := 20) (d := 6) (by rfl) (fun x => by kernel_rfl)
def toldG30 (x : ByteArray × Int × Int × Unit) : Option (F6 × Unit) :=
 some ((31, x.2.1, x.2.2.1, 1, 1, 1), ())
theorem told_30 : PureE Tryd.prog 72 (fun x : ByteArray × Int × Int × Unit => [.one (.agg [.v (.string x.1), .v (.int .i64 31), .v (.int .i64 1), .v (.int .i64 1), .v (.int .i64 1), .v (.int .i64 0)]), .one (.c (.v (.int .i64 x.2.1))), .one (.c (.v (.int .i64 x.2.2.1)))]) ref05_told.rs toldG30 := fnE_gen tblL_ok (ks := []) (ls := []) (n := 20) (d := 6) (by rfl) (fun x => by kernel_rfl)
def toldG31 (x : ByteArray × Int × Int × Unit) : Option (F6 × Unit) :=
 some ((32, x.2.1, x.2.2.1, 1, 1, 1), ())
theorem told_31 : PureE Tryd.prog 72 (fun x : ByteArray × Int × Int × Unit => [.one (.agg [.v (.string x.1), .v (.int .i64 32), .v (.int .i64 1), .v (.int .i64 1), .v (.int .i64 1), .v (.int .i64 0)]), .one (.c (.v (.int .i64 x.2.1))), .one (.c (.v (.int .i64 x.2.2.1)))]) ref05_told.rs toldG31 := fnE_gen tblL_ok (ks := []) (ls := []) (n := 20) (d := 6) (by rfl) (fun x => by kernel_rfl)
def toldG32 (x : ByteArray × Int × Int × Unit) : Option (F6 × Unit) :=
 some ((33, x.2.1, x.2.2.1, 1, 1, 1), ())
theorem told_32 : PureE Tryd.prog 72 (fun x : ByteArray × Int × Int × Unit => [.one (.agg [.v (.string x.1), .v (.int .i64 33), .v (.int .i64 1), .v (.int .i64 1), .v (.int .i64 1), .v (.int .i64 0)]), .one (.c (.v (.int .i64 x.2.1))), .one (.c (.v (.int .i64 x.2.2.1)))]) ref05_told.rs toldG32 := fnE_gen tblL_ok (ks := []) (ls := []) (n := 20) (d := 6) (by rfl) (fun x => by kernel_rfl)
def toldG33 (x : ByteArray × Int × Int × Unit) : Option (F6 × Unit) :=
 some ((34, x.2.1, x.2.2.1, 1, 1, 1), ())
theorem told_33 : PureE Tryd.prog 72 (fun x : ByteArray × Int × Int × Unit => [.one (.agg [.v (.string x.1), .v (.int .i64 34), .v (.int .i64 1), .v (.int .i64 1), .v (.int .i64 1), .v (.int .i64 0)]), .one (.c (.v (.int .i64 x.2.1))), .one (.c (.v (.int .i64 x.2.2.1)))]) ref05_told.rs toldG33 := fnE_gen tblL_ok (ks := []) (ls := []) (n := 20) (d := 6) (by rfl) (fun x => by kernel_rfl)
def toldG34 (x : ByteArray × Int × Int × Unit) : Option (F6 × Unit) :=
 some ((35, x.2.1, x.2.2.1, 1, 1, 1), ())
theorem told_34 : PureE Tryd.prog 72 (fun x : ByteArray × Int × Int × Unit => [.one (.agg [.v (.string x.1), .v (.int .i64 35), .v (.int .i64 1), .v (.int .i64 1), .v (.int .i64 1), .v (.int .i64 0)]), .one (.c (.v (.int .i64 x.2.1))), .one (.c (.v (.int .i64 x.2.2.1)))]) ref05_told.rs toldG34 := fnE_gen tblL_ok (ks := []) (ls := []) (n := 20) (d := 6) (by rfl) (fun x => by kernel_rfl)
def toldG35 (x : ByteArray × Int × Int × Unit) : Option (F6 × Unit) :=
 some ((36, x.2.1, x.2.2.1, 2, 2, 3), ())
theorem told_35 : PureE Tryd.prog 72 (fun x : ByteArray × Int × Int × Unit => [.one (.agg [.v (.string x.1), .v (.int .i64 36), .v (.int .i64 2), .v (.int .i64 2), .v (.int .i64 3), .v (.int .i64 0)]), .one (.c (.v (.int .i64 x.2.1))), .one (.c (.v (.int .i64 x.2.2.1)))]) ref05_told.rs toldG35 := fnE_gen tblL_ok (ks := []) (ls := []) (n := 20) (d := 6) (by rfl) (fun x => by kernel_rfl)
def toldG36 (x : ByteArray × Int × Int × Unit) : Option (F6 × Unit) :=
 some ((36, 4, x.2.2.1, 2, 3, 3), ())
theorem told_36 : PureE Tryd.prog 72 (fun x : ByteArray × Int × Int × Unit => [.one (.agg [.v (.string x.1), .v (.int .i64 36), .v (.int .i64 2), .v (.int .i64 3), .v (.int .i64 3), .v (.int .i64 4)]), .one (.c (.v (.int .i64 x.2.1))), .one (.c (.v (.int .i64 x.2.2.1)))]) ref05_told.rs toldG36 := fnE_gen tblL_ok (ks := []) (ls := []) (n := 20) (d := 6) (by rfl) (fun x => by kernel_rfl)
def toldG37 (x : ByteArray × Int × Int × Unit) : Option (F6 × Unit) :=
 some ((37, x.2.1, x.2.2.1, 3, 3, 4), ())
theorem told_37 : PureE Tryd.prog 72 (fun x : ByteArray × Int × Int × Unit => [.one (.agg [.v (.string x.1), .v (.int .i64 37), .v (.int .i64 3), .v (.int .i64 3), .v (.int .i64 4), .v (.int .i64 0)]), .one (.c (.v (.int .i64 x.2.1))), .one (.c (.v (.int .i64 x.2.2.1)))]) ref05_told.rs toldG37 := fnE_gen tblL_ok (ks := []) (ls := []) (n := 20) (d := 6) (by rfl) (fun x => by kernel_rfl)
def toldG38 (x : ByteArray × Int × Int × Unit) : Option (F6 × Unit) :=
 some ((37, 4, x.2.2.1, 3, 4, 4), ())
theorem told_38 : PureE Tryd.prog 72 (fun x : ByteArray × Int × Int × Unit => [.one (.agg [.v (.string x.1), .v (.int .i64 37), .v (.int .i64 3), .v (.int .i64 4), .v (.int .i64 4), .v (.int .i64 4)]), .one (.c (.v (.int .i64 x.2.1))), .one (.c (.v (.int .i64 x.2.2.1)))]) ref05_told.rs toldG38 := fnE_gen tblL_ok (ks := []) (ls := []) (n := 20) (d := 6) (by rfl) (fun x => by kernel_rfl)
def toldG39 (x : ByteArray × Int × Int × Unit) : Option (F6 × Unit) :=
 some ((38, x.2.1, x.2.2.1, 1, 1, 1), ())
theorem told_39 : PureE Tryd.prog 72 (fun x : ByteArray × Int × Int × Unit => [.one (.agg [.v (.string x.1), .v (.int .i64 38), .v (.int .i64 1), .v (.int .i64 1), .v (.int .i64 1), .v (.int .i64 0)]), .one (.c (.v (.int .i64 x.2.1))), .one (.c (.v (.int .i64 x.2.2.1)))]) ref05_told.rs toldG39 := fnE_gen tblL_ok (ks := []) (ls := []) (n := 20) (d := 6) (by rfl) (fun x => by kernel_rfl)
def toldG40 (x : ByteArray × Int × Int × Unit) : Option (F6 × Unit) :=
 some ((39, x.2.1, x.2.2.1, 3, 3, 6), ())
theorem told_40 : PureE Tryd.prog 72 (fun x : ByteArray × Int × Int × Unit => [.one (.agg [.v (.string x.1), .v (.int .i64 39), .v (.int .i64 3), .v (.int .i64 3), .v (.int .i64 6), .v (.int .i64 0)]), .one (.c (.v (.int .i64 x.2.1))), .one (.c (.v (.int .i64 x.2.2.1)))]) ref05_told.rs toldG40 := fnE_gen tblL_ok (ks := []) (ls := []) (n := 20) (d := 6) (by rfl) (fun x => by kernel_rfl)
def toldG41 (x : ByteArray × Int × Int × Unit) : Option (F6 × Unit) :=
 some ((39, 4, x.2.2.1, 3, 6, 6), ())
theorem told_41 : PureE Tryd.prog 72 (fun x : ByteArray × Int × Int × Unit => [.one (.agg [.v (.string x.1), .v (.int .i64 39), .v (.int .i64 3), .v (.int .i64 6), .v (.int .i64 6), .v (.int .i64 4)]), .one (.c (.v (.int .i64 x.2.1))), .one (.c (.v (.int .i64 x.2.2.1)))]) ref05_told.rs toldG41 := fnE_gen tblL_ok (ks := []) (ls := []) (n := 20) (d := 6) (by rfl) (fun x => by kernel_rfl)
def toldG42 (x : ByteArray × Int × Int × Unit) : Option (F6 × Unit) :=
 some ((40, x.2.1, x.2.2.1, 1, 2, 5), ())
theorem told_42 : PureE Tryd.prog 72 (fun x : ByteArray × Int × Int × Unit => [.one (.agg [.v (.string x.1), .v (.int .i64 40), .v (.int .i64 1), .v (.int .i64 2), .v (.int .i64 5), .v (.int .i64 0)]), .one (.c (.v (.int .i64 x.2.1))), .one (.c (.v (.int .i64 x.2.2.1)))]) ref05_told.rs toldG42 := fnE_gen tblL_ok (ks := []) (ls := []) (n := 20) (d := 6) (by rfl) (fun x => by kernel_rfl)
def toldG43 (x : ByteArray × Int × Int × Unit) : Option (F6 × Unit) :=
 some ((40, 4, x.2.2.1, 1, 4, 4), ())
theorem told_43 : PureE Tryd.prog 72 (fun x : ByteArray × Int × Int × Unit => [.one (.agg [.v (.string x.1), .v (.int .i64 40), .v (.int .i64 1), .v (.int .i64 4), .v (.int .i64 4), .v (.int .i64 4)]), .one (.c (.v (.int .i64 x.2.1))), .one (.c (.v (.int .i64 x.2.2.1)))]) ref05_told.rs toldG43 := fnE_gen tblL_ok (ks := []) (ls := []) (n := 20) (d := 6) (by rfl) (fun x => by kernel_rfl)
def toldG44 (x : ByteArray × Int × Int × Unit) : Option (F6 × Unit) :=
 some ((41, x.2.1, x.2.2.1, 1, 4, 4), ())
theorem told_44 : PureE Tryd.prog 72 (fun x : ByteArray × Int × Int × Unit => [.one (.agg [.v (.string x.1), .v (.int .i64 41), .v (.int .i64 1), .v (.int .i64 4), .v (.int .i64 4), .v (.int .i64 0)]), .one (.c (.v (.int .i64 x.2.1))), .one (.c (.v (.int .i64 x.2.2.1)))]) ref05_told.rs toldG44 := fnE_gen tblL_ok (ks := []) (ls := []) (n := 20) (d := 6) (by rfl) (fun x => by kernel_rfl)
def toldG45 (x : ByteArray × Int × Int × Unit) : Option (F6 × Unit) :=
 some ((42, x.2.1, x.2.2.1, 1, 4, 4), ())
theorem told_45 : PureE Tryd.prog 72 (fun x : ByteArray × Int × Int × Unit => [.one (.agg [.v (.string x.1), .v (.int .i64 42), .v (.int .i64 1), .v (.int .i64 4), .v (.int .i64 4), .v (.int .i64 0)]), .one (.c (.v (.int .i64 x.2.1))), .one (.c (.v (.int .i64 x.2.2.1)))]) ref05_told.rs toldG45 := fnE_gen tblL_ok (ks := []) (ls := []) (n := 20) (d := 6) (by rfl) (fun x => by kernel_rfl)
def ref05_told.F (x : ROW × Int × Int × Unit) : Option (F6 × Unit) :=
 if x.1.2 = (0, 1, 1, 1, 0) then toldG0 (x.1.1, x.2) else if x.1.2 = (1, 2, 2, 2, 0) then toldG1 (x.1.1, x.2) else if x.1.2 = (2, 1, 1, 1, 0) then toldG2 (x.1.1, x.2) else if x.1.2 = (3, 1, 1, 1, 0) then toldG3 (x.1.1, x.2) else if x.1.2 = (4, 1, 1, 1, 0) then toldG4 (x.1.1, x.2) else if x.1.2 = (6, 1, 1, 1, 0) then toldG5 (x.1.1, x.2) else if x.1.2 = (7, 1, 1, 1, 0) then toldG6 (x.1.1, x.2) else if x.1.2 = (8, 2, 2, 2, 0) then toldG7 (x.1.1, x.2) else if x.1.2 = (9, 1, 2, 2, 0) then toldG8 (x.1.1, x.2) else if x.1.2 = (10, 1, 2, 2, 0) then toldG9 (x.1.1, x.2) else if x.1.2 = (11, 2, 3, 3, 0) then toldG10 (x.1.1, x.2) else if x.1.2 = (12, 2, 3, 3, 0) then toldG11 (x.1.1, x.2) else if x.1.2 = (13, 1, 2, 2, 0) then toldG12 (x.1.1, x.2) else if x.1.2 = (14, 1, 2, 2, 0) then toldG13 (x.1.1, x.2) else if x.1.2 = (15, 3, 4, 4, 0) then toldG14 (x.1.1, x.2) else if x.1.2 = (16, 3, 4, 4, 0) then toldG15 (x.1.1, x.2) else if x.1.2 = (17, 3, 3, 3, 0) then toldG16 (x.1.1, x.2) else if x.1.2 = (18, 3, 5, 5, 0) then toldG17 (x.1.1, x.2) else if x.1.2 = (19, 1, 2, 2, 0) then toldG18 (x.1.1, x.2) else if x.1.2 = (20, 2, 3, 3, 0) then toldG19 (x.1.1, x.2) else if x.1.2 = (21, 1, 4, 4, 0) then toldG20 (x.1.1, x.2) else if x.1.2 = (22, 1, 3, 3, 0) then toldG21 (x.1.1, x.2) else if x.1.2 = (23, 1, 1, 1, 0) then toldG22 (x.1.1, x.2) else if x.1.2 = (24, 2, 2, 2, 0) then toldG23 (x.1.1, x.2) else if x.1.2 = (25, 1, 1, 1, 0) then toldG24 (x.1.1, x.2) else if x.1.2 = (26, 1, 1, 1, 0) then toldG25 (x.1.1, x.2) else if x.1.2 = (27, 1, 2, 2, 0) then toldG26 (x.1.1, x.2) else if x.1.2 = (28, 1, 2, 2, 0) then toldG27 (x.1.1, x.2) else if x.1.2 = (29, 1, 2, 2, 0) then toldG28 (x.1.1, x.2) else if x.1.2 = (30, 2, 4, 4, 0) then toldG29 (x.1.1, x.2) else if x.1.2 = (31, 1, 1, 1, 0) then toldG30 (x.1.1, x.2) else if x.1.2 = (32, 1, 1, 1, 0) then toldG31 (x.1.1, x.2) else if x.1.2 = (33, 1, 1, 1, 0) then toldG32 (x.1.1, x.2) else if x.1.2 = (34, 1, 1, 1, 0) then toldG33 (x.1.1, x.2) else if x.1.2 = (35, 1, 1, 1, 0) then toldG34 (x.1.1, x.2) else if x.1.2 = (36, 2, 2, 3, 0) then toldG35 (x.1.1, x.2) else if x.1.2 = (36, 2, 3, 3, 4) then toldG36 (x.1.1, x.2) else if x.1.2 = (37, 3, 3, 4, 0) then toldG37 (x.1.1, x.2) else if x.1.2 = (37, 3, 4, 4, 4) then toldG38 (x.1.1, x.2) else if x.1.2 = (38, 1, 1, 1, 0) then toldG39 (x.1.1, x.2) else if x.1.2 = (39, 3, 3, 6, 0) then toldG40 (x.1.1, x.2) else if x.1.2 = (39, 3, 6, 6, 4) then toldG41 (x.1.1, x.2) else if x.1.2 = (40, 1, 2, 5, 0) then toldG42 (x.1.1, x.2) else if x.1.2 = (40, 1, 4, 4, 4) then toldG43 (x.1.1, x.2) else if x.1.2 = (41, 1, 4, 4, 0) then toldG44 (x.1.1, x.2) else if x.1.2 = (42, 1, 4, 4, 0) then toldG45 (x.1.1, x.2) else none
theorem told_of {g : FuncId} {k by_ cy tk al : Int} {f : ByteArray × Int × Int × Unit → Option (F6 × Unit)} (h : PureE Tryd.prog g (fun x : ByteArray × Int × Int × Unit => [.one (.agg [.v (.string x.1), .v (.int .i64 k), .v (.int .i64 by_), .v (.int .i64 cy), .v (.int .i64 tk), .v (.int .i64 al)]), .one (.c (.v (.int .i64 x.2.1))), .one (.c (.v (.int .i64 x.2.2.1)))]) ref05_told.rs f) {x : SS ref05_told.as} {y : SS ref05_told.rs} (e : x.1.2 = (k, by_, cy, tk, al)) (hf : f (x.1.1, x.2) = some y) :
  callable Tryd.prog g ∧ ∀ (S : Stay) (w : World) (A : List Value), Rel S [] [] w → LR (AV.R S []) (encSS ref05_told.as x) A → Calls Tryd.prog g A.toArray w fun e w' => ∃ S' V, e = .returned V ∧ (resOf ref05_told.rs y).R S' [] V ∧ Rel S' [] [] w' ∧ Frx S S' [] [] w w' := by
 obtain ⟨⟨s, k', b', c', t', a'⟩, x', y', u⟩ := x
 simp only [Prod.mk.injEq] at e
 obtain ⟨rfl, rfl, rfl, rfl, rfl⟩ := e
 exact h _ _ hf
theorem ref05_told.ok : PureOK Tryd.prog 72 ref05_told.as ref05_told.rs ref05_told.F := by
 intro x y h
 unfold ref05_told.F at h
 by_cases e0 : x.1.2 = (0, 1, 1, 1, 0)
 ·rw [if_pos e0] at h
  exact told_of told_0 e0 h
 rw [if_neg e0] at h
 by_cases e1 : x.1.2 = (1, 2, 2, 2, 0)
 ·rw [if_pos e1] at h
  exact told_of told_1 e1 h
 rw [if_neg e1] at h
 by_cases e2 : x.1.2 = (2, 1, 1, 1, 0)
 ·rw [if_pos e2] at h
  exact told_of told_2 e2 h
 rw [if_neg e2] at h
 by_cases e3 : x.1.2 = (3, 1, 1, 1, 0)
 ·rw [if_pos e3] at h
  exact told_of told_3 e3 h
 rw [if_neg e3] at h
 by_cases e4 : x.1.2 = (4, 1, 1, 1, 0)
 ·rw [if_pos e4] at h
  exact told_of told_4 e4 h
 rw [if_neg e4] at h
 by_cases e5 : x.1.2 = (6, 1, 1, 1, 0)
 ·rw [if_pos e5] at h
  exact told_of told_5 e5 h
 rw [if_neg e5] at h
 by_cases e6 : x.1.2 = (7, 1, 1, 1, 0)
 ·rw [if_pos e6] at h
  exact told_of told_6 e6 h
 rw [if_neg e6] at h
 by_cases e7 : x.1.2 = (8, 2, 2, 2, 0)
 ·rw [if_pos e7] at h
  exact told_of told_7 e7 h
 rw [if_neg e7] at h
 by_cases e8 : x.1.2 = (9, 1, 2, 2, 0)
 ·rw [if_pos e8] at h
  exact told_of told_8 e8 h
 rw [if_neg e8] at h
 by_cases e9 : x.1.2 = (10, 1, 2, 2, 0)
 ·rw [if_pos e9] at h
  exact told_of told_9 e9 h
 rw [if_neg e9] at h
 by_cases e10 : x.1.2 = (11, 2, 3, 3, 0)
 ·rw [if_pos e10] at h
  exact told_of told_10 e10 h
 rw [if_neg e10] at h
 by_cases e11 : x.1.2 = (12, 2, 3, 3, 0)
 ·rw [if_pos e11] at h
  exact told_of told_11 e11 h
 rw [if_neg e11] at h
 by_cases e12 : x.1.2 = (13, 1, 2, 2, 0)
 ·rw [if_pos e12] at h
  exact told_of told_12 e12 h
 rw [if_neg e12] at h
 by_cases e13 : x.1.2 = (14, 1, 2, 2, 0)
 ·rw [if_pos e13] at h
  exact told_of told_13 e13 h
 rw [if_neg e13] at h
 by_cases e14 : x.1.2 = (15, 3, 4, 4, 0)
 ·rw [if_pos e14] at h
  exact told_of told_14 e14 h
 rw [if_neg e14] at h
 by_cases e15 : x.1.2 = (16, 3, 4, 4, 0)
 ·rw [if_pos e15] at h
  exact told_of told_15 e15 h
 rw [if_neg e15] at h
 by_cases e16 : x.1.2 = (17, 3, 3, 3, 0)
 ·rw [if_pos e16] at h
  exact told_of told_16 e16 h
 rw [if_neg e16] at h
 by_cases e17 : x.1.2 = (18, 3, 5, 5, 0)
 ·rw [if_pos e17] at h
  exact told_of told_17 e17 h
 rw [if_neg e17] at h
 by_cases e18 : x.1.2 = (19, 1, 2, 2, 0)
 ·rw [if_pos e18] at h
  exact told_of told_18 e18 h
 rw [if_neg e18] at h
 by_cases e19 : x.1.2 = (20, 2, 3, 3, 0)
 ·rw [if_pos e19] at h
  exact told_of told_19 e19 h
 rw [if_neg e19] at h
 by_cases e20 : x.1.2 = (21, 1, 4, 4, 0)
 ·rw [if_pos e20] at h
  exact told_of told_20 e20 h
 rw [if_neg e20] at h
 by_cases e21 : x.1.2 = (22, 1, 3, 3, 0)
 ·rw [if_pos e21] at h
  exact told_of told_21 e21 h
 rw [if_neg e21] at h
 by_cases e22 : x.1.2 = (23, 1, 1, 1, 0)
 ·rw [if_pos e22] at h
  exact told_of told_22 e22 h
 rw [if_neg e22] at h
 by_cases e23 : x.1.2 = (24, 2, 2, 2, 0)
 ·rw [if_pos e23] at h
  exact told_of told_23 e23 h
 rw [if_neg e23] at h
 by_cases e24 : x.1.2 = (25, 1, 1, 1, 0)
 ·rw [if_pos e24] at h
  exact told_of told_24 e24 h
 rw [if_neg e24] at h
 by_cases e25 : x.1.2 = (26, 1, 1, 1, 0)
 ·rw [if_pos e25] at h
  exact told_of told_25 e25 h
 rw [if_neg e25] at h
 by_cases e26 : x.1.2 = (27, 1, 2, 2, 0)
 ·rw [if_pos e26] at h
  exact told_of told_26 e26 h
 rw [if_neg e26] at h
 by_cases e27 : x.1.2 = (28, 1, 2, 2, 0)
 ·rw [if_pos e27] at h
  exact told_of told_27 e27 h
 rw [if_neg e27] at h
 by_cases e28 : x.1.2 = (29, 1, 2, 2, 0)
 ·rw [if_pos e28] at h
  exact told_of told_28 e28 h
 rw [if_neg e28] at h
 by_cases e29 : x.1.2 = (30, 2, 4, 4, 0)
 ·rw [if_pos e29] at h
  exact told_of told_29 e29 h
 rw [if_neg e29] at h
 by_cases e30 : x.1.2 = (31, 1, 1, 1, 0)
 ·rw [if_pos e30] at h
  exact told_of told_30 e30 h
 rw [if_neg e30] at h
 by_cases e31 : x.1.2 = (32, 1, 1, 1, 0)
 ·rw [if_pos e31] at h
  exact told_of told_31 e31 h
 rw [if_neg e31] at h
 by_cases e32 : x.1.2 = (33, 1, 1, 1, 0)
 ·rw [if_pos e32] at h
  exact told_of told_32 e32 h
 rw [if_neg e32] at h
 by_cases e33 : x.1.2 = (34, 1, 1, 1, 0)
 ·rw [if_pos e33] at h
  exact told_of told_33 e33 h
 rw [if_neg e33] at h
 by_cases e34 : x.1.2 = (35, 1, 1, 1, 0)
 ·rw [if_pos e34] at h
  exact told_of told_34 e34 h
 rw [if_neg e34] at h
 by_cases e35 : x.1.2 = (36, 2, 2, 3, 0)
 ·rw [if_pos e35] at h
  exact told_of told_35 e35 h
 rw [if_neg e35] at h
 by_cases e36 : x.1.2 = (36, 2, 3, 3, 4)
 ·rw [if_pos e36] at h
  exact told_of told_36 e36 h
 rw [if_neg e36] at h
 by_cases e37 : x.1.2 = (37, 3, 3, 4, 0)
 ·rw [if_pos e37] at h
  exact told_of told_37 e37 h
 rw [if_neg e37] at h
 by_cases e38 : x.1.2 = (37, 3, 4, 4, 4)
 ·rw [if_pos e38] at h
  exact told_of told_38 e38 h
 rw [if_neg e38] at h
 by_cases e39 : x.1.2 = (38, 1, 1, 1, 0)
 ·rw [if_pos e39] at h
  exact told_of told_39 e39 h
 rw [if_neg e39] at h
 by_cases e40 : x.1.2 = (39, 3, 3, 6, 0)
 ·rw [if_pos e40] at h
  exact told_of told_40 e40 h
 rw [if_neg e40] at h
 by_cases e41 : x.1.2 = (39, 3, 6, 6, 4)
 ·rw [if_pos e41] at h
  exact told_of told_41 e41 h
 rw [if_neg e41] at h
 by_cases e42 : x.1.2 = (40, 1, 2, 5, 0)
 ·rw [if_pos e42] at h
  exact told_of told_42 e42 h
 rw [if_neg e42] at h
 by_cases e43 : x.1.2 = (40, 1, 4, 4, 4)
 ·rw [if_pos e43] at h
  exact told_of told_43 e43 h
 rw [if_neg e43] at h
 by_cases e44 : x.1.2 = (41, 1, 4, 4, 0)
 ·rw [if_pos e44] at h
  exact told_of told_44 e44 h
 rw [if_neg e44] at h
 by_cases e45 : x.1.2 = (42, 1, 4, 4, 0)
 ·rw [if_pos e45] at h
  exact told_of told_45 e45 h
 rw [if_neg e45] at h
 simp at h
end Go.Proofs.YtkdeheoonannoaaDoor.T
