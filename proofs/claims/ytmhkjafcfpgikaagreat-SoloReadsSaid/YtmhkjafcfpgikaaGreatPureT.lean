/- Functions of the program as plain Lean, and what they come to. Conditions: none. -/
import Derived.Test.YtmhkjafcfpgikaaGreatEwD
import Derived.KernelRfl
import Derived.Test.YtmhkjafcfpgikaaGreatWalkT
open Go Go.Ew
namespace Go.Proofs.YtmhkjafcfpgikaaGreat.T
set_option linter.unusedVariables false
set_option maxRecDepth 100000
abbrev F6 := Int × Int × Int × Int × Int × Int
abbrev ROW := ByteArray × Int × Int × Int × Int × Int
noncomputable def tblL : FuncId → Option Func
  | _ => none
theorem tblL_ok : TblOK Go.Proofs.Tryz.prog tblL := by
  intro g fn h
  unfold tblL at h
  split at h
  · simp at h
def toldG0 (x : ByteArray × Int × Int × Unit) : Option (F6 × Unit) :=
  some (((0 : Int), x.2.1, x.2.2.1, (1 : Int), (1 : Int), (1 : Int)), ())
def toldG1 (x : ByteArray × Int × Int × Unit) : Option (F6 × Unit) :=
  some (((1 : Int), x.2.1, x.2.2.1, (2 : Int), (2 : Int), (2 : Int)), ())
def toldG2 (x : ByteArray × Int × Int × Unit) : Option (F6 × Unit) :=
  some (((2 : Int), x.2.1, x.2.2.1, (1 : Int), (1 : Int), (1 : Int)), ())
def toldG3 (x : ByteArray × Int × Int × Unit) : Option (F6 × Unit) :=
  some (((3 : Int), x.2.1, x.2.2.1, (1 : Int), (1 : Int), (1 : Int)), ())
def toldG4 (x : ByteArray × Int × Int × Unit) : Option (F6 × Unit) :=
  some (((4 : Int), x.2.1, x.2.2.1, (1 : Int), (1 : Int), (1 : Int)), ())
def toldG5 (x : ByteArray × Int × Int × Unit) : Option (F6 × Unit) :=
  some (((6 : Int), x.2.1, x.2.2.1, (1 : Int), (1 : Int), (1 : Int)), ())
def toldG6 (x : ByteArray × Int × Int × Unit) : Option (F6 × Unit) :=
  if ((x.2.1 == (6 : Int)) == false) = true then if ((x.2.2.1 == (6 : Int)) == false) = true then some (((7 : Int), x.2.1, x.2.2.1, (1 : Int), (1 : Int), (1 : Int)), ()) else some (((7 : Int), x.2.1, x.2.2.1, (1 : Int), (2 : Int), (2 : Int)), ()) else some (((7 : Int), x.2.1, x.2.2.1, (1 : Int), (2 : Int), (2 : Int)), ())
def toldG7 (x : ByteArray × Int × Int × Unit) : Option (F6 × Unit) :=
  if (x.2.1 == (6 : Int)) = true then some (((8 : Int), x.2.1, x.2.2.1, (2 : Int), (3 : Int), (3 : Int)), ()) else some (((8 : Int), x.2.1, x.2.2.1, (2 : Int), (2 : Int), (2 : Int)), ())
def toldG8 (x : ByteArray × Int × Int × Unit) : Option (F6 × Unit) :=
  some (((9 : Int), x.2.1, x.2.2.1, (1 : Int), (2 : Int), (2 : Int)), ())
def toldG9 (x : ByteArray × Int × Int × Unit) : Option (F6 × Unit) :=
  some (((10 : Int), x.2.1, x.2.2.1, (1 : Int), (2 : Int), (2 : Int)), ())
def toldG10 (x : ByteArray × Int × Int × Unit) : Option (F6 × Unit) :=
  some (((11 : Int), x.2.1, x.2.2.1, (2 : Int), (3 : Int), (3 : Int)), ())
def toldG11 (x : ByteArray × Int × Int × Unit) : Option (F6 × Unit) :=
  some (((12 : Int), x.2.1, x.2.2.1, (2 : Int), (3 : Int), (3 : Int)), ())
def toldG12 (x : ByteArray × Int × Int × Unit) : Option (F6 × Unit) :=
  some (((13 : Int), x.2.1, x.2.2.1, (1 : Int), (2 : Int), (2 : Int)), ())
def toldG13 (x : ByteArray × Int × Int × Unit) : Option (F6 × Unit) :=
  some (((14 : Int), x.2.1, x.2.2.1, (1 : Int), (2 : Int), (2 : Int)), ())
def toldG14 (x : ByteArray × Int × Int × Unit) : Option (F6 × Unit) :=
  some (((15 : Int), x.2.1, x.2.2.1, (3 : Int), (4 : Int), (4 : Int)), ())
def toldG15 (x : ByteArray × Int × Int × Unit) : Option (F6 × Unit) :=
  some (((16 : Int), x.2.1, x.2.2.1, (3 : Int), (4 : Int), (4 : Int)), ())
def toldG16 (x : ByteArray × Int × Int × Unit) : Option (F6 × Unit) :=
  some (((17 : Int), x.2.1, x.2.2.1, (3 : Int), (3 : Int), (3 : Int)), ())
def toldG17 (x : ByteArray × Int × Int × Unit) : Option (F6 × Unit) :=
  some (((18 : Int), x.2.1, x.2.2.1, (3 : Int), (5 : Int), (5 : Int)), ())
def toldG18 (x : ByteArray × Int × Int × Unit) : Option (F6 × Unit) :=
  some (((19 : Int), x.2.1, x.2.2.1, (1 : Int), (2 : Int), (2 : Int)), ())
def toldG19 (x : ByteArray × Int × Int × Unit) : Option (F6 × Unit) :=
  some (((20 : Int), x.2.1, x.2.2.1, (2 : Int), (3 : Int), (3 : Int)), ())
def toldG20 (x : ByteArray × Int × Int × Unit) : Option (F6 × Unit) :=
  if (x.2.1 == (3 : Int)) = true then some (((21 : Int), (4 : Int), x.2.2.1, (1 : Int), (4 : Int), (4 : Int)), ()) else some (((21 : Int), x.2.1, x.2.2.1, (1 : Int), (4 : Int), (4 : Int)), ())
def toldG21 (x : ByteArray × Int × Int × Unit) : Option (F6 × Unit) :=
  if (x.2.1 == (3 : Int)) = true then some (((22 : Int), (4 : Int), x.2.2.1, (1 : Int), (3 : Int), (3 : Int)), ()) else some (((22 : Int), x.2.1, x.2.2.1, (1 : Int), (3 : Int), (3 : Int)), ())
def toldG22 (x : ByteArray × Int × Int × Unit) : Option (F6 × Unit) :=
  if (x.2.2.1 == (6 : Int)) = true then some (((23 : Int), x.2.1, x.2.2.1, (1 : Int), (2 : Int), (2 : Int)), ()) else some (((23 : Int), x.2.1, x.2.2.1, (1 : Int), (1 : Int), (1 : Int)), ())
def toldG23 (x : ByteArray × Int × Int × Unit) : Option (F6 × Unit) :=
  some (((24 : Int), x.2.1, x.2.2.1, (2 : Int), (2 : Int), (2 : Int)), ())
def toldG24 (x : ByteArray × Int × Int × Unit) : Option (F6 × Unit) :=
  if (x.2.1 == (6 : Int)) = true then some (((25 : Int), x.2.1, x.2.2.1, (1 : Int), (3 : Int), (3 : Int)), ()) else some (((25 : Int), x.2.1, x.2.2.1, (1 : Int), (1 : Int), (1 : Int)), ())
def toldG25 (x : ByteArray × Int × Int × Unit) : Option (F6 × Unit) :=
  if (x.2.1 == (6 : Int)) = true then some (((26 : Int), x.2.1, x.2.2.1, (1 : Int), (3 : Int), (3 : Int)), ()) else some (((26 : Int), x.2.1, x.2.2.1, (1 : Int), (1 : Int), (1 : Int)), ())
def toldG26 (x : ByteArray × Int × Int × Unit) : Option (F6 × Unit) :=
  some (((27 : Int), x.2.1, x.2.2.1, (1 : Int), (2 : Int), (2 : Int)), ())
def toldG27 (x : ByteArray × Int × Int × Unit) : Option (F6 × Unit) :=
  some (((28 : Int), x.2.1, x.2.2.1, (1 : Int), (2 : Int), (2 : Int)), ())
def toldG28 (x : ByteArray × Int × Int × Unit) : Option (F6 × Unit) :=
  some (((29 : Int), x.2.1, x.2.2.1, (1 : Int), (2 : Int), (2 : Int)), ())
def toldG29 (x : ByteArray × Int × Int × Unit) : Option (F6 × Unit) :=
  some (((30 : Int), x.2.1, x.2.2.1, (2 : Int), (4 : Int), (4 : Int)), ())
def toldG30 (x : ByteArray × Int × Int × Unit) : Option (F6 × Unit) :=
  some (((31 : Int), x.2.1, x.2.2.1, (1 : Int), (1 : Int), (1 : Int)), ())
def toldG31 (x : ByteArray × Int × Int × Unit) : Option (F6 × Unit) :=
  some (((32 : Int), x.2.1, x.2.2.1, (1 : Int), (1 : Int), (1 : Int)), ())
def toldG32 (x : ByteArray × Int × Int × Unit) : Option (F6 × Unit) :=
  some (((33 : Int), x.2.1, x.2.2.1, (1 : Int), (1 : Int), (1 : Int)), ())
def toldG33 (x : ByteArray × Int × Int × Unit) : Option (F6 × Unit) :=
  some (((34 : Int), x.2.1, x.2.2.1, (1 : Int), (1 : Int), (1 : Int)), ())
def toldG34 (x : ByteArray × Int × Int × Unit) : Option (F6 × Unit) :=
  some (((35 : Int), x.2.1, x.2.2.1, (1 : Int), (1 : Int), (1 : Int)), ())
def toldG35 (x : ByteArray × Int × Int × Unit) : Option (F6 × Unit) :=
  some (((36 : Int), x.2.1, x.2.2.1, (2 : Int), (2 : Int), (3 : Int)), ())
def toldG36 (x : ByteArray × Int × Int × Unit) : Option (F6 × Unit) :=
  some (((36 : Int), (4 : Int), x.2.2.1, (2 : Int), (3 : Int), (3 : Int)), ())
def toldG37 (x : ByteArray × Int × Int × Unit) : Option (F6 × Unit) :=
  some (((37 : Int), x.2.1, x.2.2.1, (3 : Int), (3 : Int), (4 : Int)), ())
def toldG38 (x : ByteArray × Int × Int × Unit) : Option (F6 × Unit) :=
  some (((37 : Int), (4 : Int), x.2.2.1, (3 : Int), (4 : Int), (4 : Int)), ())
def toldG39 (x : ByteArray × Int × Int × Unit) : Option (F6 × Unit) :=
  some (((38 : Int), x.2.1, x.2.2.1, (1 : Int), (1 : Int), (1 : Int)), ())
def toldG40 (x : ByteArray × Int × Int × Unit) : Option (F6 × Unit) :=
  some (((39 : Int), x.2.1, x.2.2.1, (3 : Int), (3 : Int), (6 : Int)), ())
def toldG41 (x : ByteArray × Int × Int × Unit) : Option (F6 × Unit) :=
  some (((39 : Int), (4 : Int), x.2.2.1, (3 : Int), (6 : Int), (6 : Int)), ())
def toldG42 (x : ByteArray × Int × Int × Unit) : Option (F6 × Unit) :=
  some (((40 : Int), x.2.1, x.2.2.1, (1 : Int), (2 : Int), (5 : Int)), ())
def toldG43 (x : ByteArray × Int × Int × Unit) : Option (F6 × Unit) :=
  some (((40 : Int), (4 : Int), x.2.2.1, (1 : Int), (4 : Int), (4 : Int)), ())
def toldG44 (x : ByteArray × Int × Int × Unit) : Option (F6 × Unit) :=
  some (((41 : Int), x.2.1, x.2.2.1, (1 : Int), (4 : Int), (4 : Int)), ())
def toldG45 (x : ByteArray × Int × Int × Unit) : Option (F6 × Unit) :=
  some (((42 : Int), x.2.1, x.2.2.1, (1 : Int), (4 : Int), (4 : Int)), ())
end Go.Proofs.YtmhkjafcfpgikaaGreat.T
