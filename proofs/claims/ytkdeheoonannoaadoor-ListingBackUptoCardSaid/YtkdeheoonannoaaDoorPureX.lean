/- Functions of the program as plain Lean, and what they come to. Conditions: none. -/
import Derived.Test.YtkdeheoonannoaaDoorEwD
import Derived.Test.YtkdeheoonannoaaDoorWalkW
open Go Go.Ew
namespace Go.Proofs.YtkdeheoonannoaaDoor.E
open Go.IntKind (wrap)
set_option linter.unusedVariables false
set_option linter.unusedSimpArgs false
set_option maxRecDepth 100000
theorem bind_eq {α β : Type} {o : Option α} {a : α} (h : o = some a) {f : α → Option β} : o.bind f = f a := by rw [h]; rfl
/-! texts with two holes -/
inductive Sy where
  | c (n : Nat)
  | b
  | w
  deriving DecidableEq
def cs (l : List Nat) : List Sy := l.map .c
def byL (B W : ByteArray) : Sy → List UInt8
  | .c n => [UInt8.ofNat n]
  | .b => B.data.toList
  | .w => W.data.toList
def evL (B W : ByteArray) (l : List Sy) : List UInt8 := l.flatMap (byL B W)
def evS (B W : ByteArray) (l : List Sy) : ByteArray := ⟨(evL B W l).toArray⟩
theorem evL_app (B W : ByteArray) (l k : List Sy) : evL B W (l ++ k) = evL B W l ++ evL B W k := List.flatMap_append ..
theorem ba_ext {a b : ByteArray} (h : a.data.toList = b.data.toList) : a = b := by
  cases a; cases b
  simp only [ByteArray.mk.injEq]
  exact Array.ext' h
theorem evS_app (B W : ByteArray) (l k : List Sy) : evS B W (l ++ k) = evS B W l ++ evS B W k := by
  apply ba_ext
  simp [evS, evL_app]
theorem evS_b (B W : ByteArray) : evS B W [.b] = B := by
  apply ba_ext
  show (B.data.toList ++ []).toArray.toList = _
  rw [List.append_nil]
theorem evS_w (B W : ByteArray) : evS B W [.w] = W := by
  apply ba_ext
  show (W.data.toList ++ []).toArray.toList = _
  rw [List.append_nil]
theorem evL_len {B W : ByteArray} (hB : B.size ≤ 10) (hW : W.size ≤ 10) : ∀ l : List Sy, (evL B W l).length ≤ 10 * l.length
  | [] => Nat.le_refl _
  | s :: l => by
    have h := evL_len hB hW l
    have e : evL B W (s :: l) = byL B W s ++ evL B W l := rfl
    have h1 : (byL B W s).length ≤ 10 := by
      cases s with
      | c n => show 1 ≤ 10; decide
      | b => show B.data.toList.length ≤ 10; rw [Array.length_toList]; exact hB
      | w => show W.data.toList.length ≤ 10; rw [Array.length_toList]; exact hW
    rw [e, List.length_append, List.length_cons]; omega
theorem evS_size {B W : ByteArray} (hB : B.size ≤ 10) (hW : W.size ≤ 10) (l : List Sy) : (evS B W l).size ≤ 10 * l.length := by
  have := evL_len hB hW l
  show (evL B W l).toArray.size ≤ _
  rw [List.size_toArray]; exact this
theorem flat0 : ∀ l : List (List UInt8), List.intercalate ([] : List UInt8) l = l.flatten
  | [] => rfl
  | [a] => by simp [List.intercalate]
  | a :: c :: l => by
    have := flat0 (c :: l)
    simp only [List.intercalate, List.intersperse, List.flatten_cons] at this ⊢
    rw [this]; simp
theorem join_spec {B W : ByteArray} (hB : B.size ≤ 10) (hW : W.size ≤ 10) (ps : List (List Sy)) (h1 : ps.length ≤ 100) (h2 : ps.flatten.length ≤ 1000) :
    listing_join.F (ps.map (evS B W), ()) = some (evS B W ps.flatten, ()) := by
  have e : joinB (ps.map (evS B W)) ByteArray.empty = evS B W ps.flatten := by
    unfold joinB evS Go.Lib.join
    congr 1
    have : (ByteArray.empty.data.toList : List UInt8) = [] := rfl
    rw [this, flat0]
    congr 1
    unfold evL
    induction ps with
    | nil => rfl
    | cons p ps ih =>
      simp only [List.length_cons, List.flatten_cons, List.length_append] at h1 h2
      have := ih (by omega) (by omega)
      simp only [List.map_cons, List.flatten_cons, List.flatMap_append]
      rw [this]
  show Option.bind (strings_Join.F (ps.map (evS B W), ByteArray.empty, ())) _ = _
  refine (bind_eq (show strings_Join.F _ = some (evS B W ps.flatten, ()) from ?_)).trans rfl
  unfold strings_Join.F
  have hs := evS_size hB hW ps.flatten
  rw [if_pos ⟨by rw [List.length_map]; omega, by show (joinB (ps.map (evS B W)) ByteArray.empty).size ≤ _; rw [e]; omega⟩]
  show some (joinB (ps.map (evS B W)) ByteArray.empty, ()) = _
  rw [e]

def regT (n : Nat) : List Nat := [[66], [67], [68], [69], [72], [76], [40, 72, 76, 41], [65]].getD n []
def pairT (n : Nat) : List Nat := [[66, 67], [68, 69], [72, 76], [83, 80], [65, 70]].getD n []
def placeT (n : Nat) : List Nat := [[40, 66, 67, 41], [40, 68, 69, 41], [40, 72, 76, 43, 41], [40, 72, 76, 45, 41]].getD n []
def opnT (n : Nat) : List Nat := [[65, 68, 68], [65, 68, 67], [83, 85, 66], [83, 66, 67], [65, 78, 68], [88, 79, 82], [79, 82], [67, 80]].getD n []
def shfT (n : Nat) : List Nat := [[82, 76, 67], [82, 82, 67], [82, 76], [82, 82], [83, 76, 65], [83, 82, 65], [83, 87, 65, 80], [83, 82, 76]].getD n []
def cndT (n : Nat) : List Nat := [[78, 90], [90], [78, 67], [67]].getD n []
theorem regT_fin : ∀ n : Fin 8, listing_register.F ((n.val : Int), ()) = some (evS .empty .empty (cs (regT n.val)), ()) := by decide +kernel
theorem evS_c (B W : ByteArray) (l : List Nat) : evS B W (cs l) = evS .empty .empty (cs l) := by
  apply ba_ext
  simp only [evS, evL, cs, List.flatMap_map]
  rfl
theorem regT_spec {n : Nat} (h : n < 8) (B W : ByteArray) : listing_register.F ((n : Int), ()) = some (evS B W (cs (regT n)), ()) := by rw [evS_c]; exact regT_fin ⟨n, h⟩
theorem regT_len : ∀ n : Nat, (regT n).length ≤ 5 := by
  intro n
  unfold regT
  rcases Nat.lt_or_ge n 8 with h | h
  · revert n; decide
  · rw [List.getD_eq_getElem?_getD, List.getElem?_eq_none (by simp only [List.length_cons, List.length_nil]; omega)]; decide
theorem pairT_fin : ∀ n : Fin 5, listing_pair.F ((n.val : Int), ()) = some (evS .empty .empty (cs (pairT n.val)), ()) := by decide +kernel
theorem pairT_spec {n : Nat} (h : n < 5) (B W : ByteArray) : listing_pair.F ((n : Int), ()) = some (evS B W (cs (pairT n)), ()) := by rw [evS_c]; exact pairT_fin ⟨n, h⟩
theorem pairT_len : ∀ n : Nat, (pairT n).length ≤ 5 := by
  intro n
  unfold pairT
  rcases Nat.lt_or_ge n 8 with h | h
  · revert n; decide
  · rw [List.getD_eq_getElem?_getD, List.getElem?_eq_none (by simp only [List.length_cons, List.length_nil]; omega)]; decide
theorem placeT_fin : ∀ n : Fin 4, listing_place.F ((n.val : Int), ()) = some (evS .empty .empty (cs (placeT n.val)), ()) := by decide +kernel
theorem placeT_spec {n : Nat} (h : n < 4) (B W : ByteArray) : listing_place.F ((n : Int), ()) = some (evS B W (cs (placeT n)), ()) := by rw [evS_c]; exact placeT_fin ⟨n, h⟩
theorem placeT_len : ∀ n : Nat, (placeT n).length ≤ 5 := by
  intro n
  unfold placeT
  rcases Nat.lt_or_ge n 8 with h | h
  · revert n; decide
  · rw [List.getD_eq_getElem?_getD, List.getElem?_eq_none (by simp only [List.length_cons, List.length_nil]; omega)]; decide
theorem opnT_fin : ∀ n : Fin 8, listing_operation.F ((n.val : Int), ()) = some (evS .empty .empty (cs (opnT n.val)), ()) := by decide +kernel
theorem opnT_spec {n : Nat} (h : n < 8) (B W : ByteArray) : listing_operation.F ((n : Int), ()) = some (evS B W (cs (opnT n)), ()) := by rw [evS_c]; exact opnT_fin ⟨n, h⟩
theorem opnT_len : ∀ n : Nat, (opnT n).length ≤ 5 := by
  intro n
  unfold opnT
  rcases Nat.lt_or_ge n 8 with h | h
  · revert n; decide
  · rw [List.getD_eq_getElem?_getD, List.getElem?_eq_none (by simp only [List.length_cons, List.length_nil]; omega)]; decide
theorem shfT_fin : ∀ n : Fin 8, listing_shifted.F ((n.val : Int), ()) = some (evS .empty .empty (cs (shfT n.val)), ()) := by decide +kernel
theorem shfT_spec {n : Nat} (h : n < 8) (B W : ByteArray) : listing_shifted.F ((n : Int), ()) = some (evS B W (cs (shfT n)), ()) := by rw [evS_c]; exact shfT_fin ⟨n, h⟩
theorem shfT_len : ∀ n : Nat, (shfT n).length ≤ 5 := by
  intro n
  unfold shfT
  rcases Nat.lt_or_ge n 8 with h | h
  · revert n; decide
  · rw [List.getD_eq_getElem?_getD, List.getElem?_eq_none (by simp only [List.length_cons, List.length_nil]; omega)]; decide
theorem cndT_fin : ∀ n : Fin 4, listing_condition.F ((n.val : Int), ()) = some (evS .empty .empty (cs (cndT n.val)), ()) := by decide +kernel
theorem cndT_spec {n : Nat} (h : n < 4) (B W : ByteArray) : listing_condition.F ((n : Int), ()) = some (evS B W (cs (cndT n)), ()) := by rw [evS_c]; exact cndT_fin ⟨n, h⟩
theorem cndT_len : ∀ n : Nat, (cndT n).length ≤ 5 := by
  intro n
  unfold cndT
  rcases Nat.lt_or_ge n 8 with h | h
  · revert n; decide
  · rw [List.getD_eq_getElem?_getD, List.getElem?_eq_none (by simp only [List.length_cons, List.length_nil]; omega)]; decide
def plS (k : Nat) : List Nat := [[78, 79, 80], [], [72, 65, 76, 84], [68, 73], [69, 73], [], [], [], [], [], [], [], [], [76, 68, 72, 32, 65, 44, 40, 67, 41], [76, 68, 72, 32, 40, 67, 41, 44, 65], [], [], [], [], [76, 68, 32, 83, 80, 44, 72, 76], [], [], [], [], [], [], [], [], [], [], [], [], [68, 65, 65], [67, 80, 76], [83, 67, 70], [67, 67, 70], [], [], [74, 80, 32, 72, 76], [], [], [82, 69, 84, 73], [], [], [], [], []].getD k []
theorem pl_fin : ∀ k : Fin 47, listing_plain.F ((k.val : Int), ()) = some (evS .empty .empty (cs (plS k.val)), ()) := by decide +kernel
theorem plain_spec {k : Nat} (h : k < 47) (B W : ByteArray) : listing_plain.F ((k : Int), ()) = some (evS B W (cs (plS k)), ()) := by rw [evS_c]; exact pl_fin ⟨k, h⟩
theorem pl_len : ∀ k : Nat, (plS k).length ≤ 9 := by
  intro k
  unfold plS
  rcases Nat.lt_or_ge k 47 with h | h
  · revert k; decide
  · rw [List.getD_eq_getElem?_getD, List.getElem?_eq_none (by simp only [List.length_cons, List.length_nil]; omega)]; decide
def mvS (k X Y : Nat) : List Sy := if k = 7 then cs [76, 68, 32] ++ (cs (regT X) ++ (cs [44] ++ (cs (regT Y)))) else if k = 8 then cs [76, 68, 32] ++ (cs (regT X) ++ (cs [44] ++ ([.b]))) else if k = 9 then cs [76, 68, 32, 65, 44] ++ (cs (placeT X)) else if k = 10 then cs [76, 68, 32] ++ (cs (placeT X) ++ (cs [44, 65])) else if k = 11 then cs [76, 68, 72, 32, 65, 44, 40] ++ ([.b] ++ (cs [41])) else if k = 12 then cs [76, 68, 72, 32, 40] ++ ([.b] ++ (cs [41, 44, 65])) else if k = 15 then cs [76, 68, 32, 65, 44, 40] ++ ([.w] ++ (cs [41])) else if k = 16 then cs [76, 68, 32, 40] ++ ([.w] ++ (cs [41, 44, 65])) else if k = 17 then cs [76, 68, 32] ++ (cs (pairT X) ++ (cs [44] ++ ([.w]))) else if k = 18 then cs [76, 68, 32, 40] ++ ([.w] ++ (cs [41, 44, 83, 80])) else if k = 20 then cs [76, 68, 32, 72, 76, 44, 83, 80, 43] ++ ([.b]) else if k = 21 then cs [80, 85, 83, 72, 32] ++ (cs (pairT X)) else if k = 22 then cs [80, 79, 80, 32] ++ (cs (pairT X)) else []
def rkS (k X Y : Nat) : List Sy := if k = 23 then cs (opnT X) ++ (cs [32] ++ (cs (regT Y))) else if k = 24 then cs (opnT X) ++ (cs [32] ++ ([.b])) else if k = 25 then cs [73, 78, 67, 32] ++ (cs (regT X)) else if k = 26 then cs [68, 69, 67, 32] ++ (cs (regT X)) else if k = 27 then cs [73, 78, 67, 32] ++ (cs (pairT X)) else if k = 28 then cs [68, 69, 67, 32] ++ (cs (pairT X)) else if k = 29 then cs [65, 68, 68, 32, 72, 76, 44] ++ (cs (pairT X)) else if k = 30 then cs [65, 68, 68, 32, 83, 80, 44] ++ ([.b]) else if k = 31 then cs (shfT X) ++ (cs [65]) else if k = 43 then cs (shfT X) ++ (cs [32] ++ (cs (regT Y))) else if k = 44 then cs [66, 73, 84, 32] ++ ([.c (48 + X)] ++ (cs [44] ++ (cs (regT Y)))) else if k = 45 then cs [82, 69, 83, 32] ++ ([.c (48 + X)] ++ (cs [44] ++ (cs (regT Y)))) else if k = 46 then cs [83, 69, 84, 32] ++ ([.c (48 + X)] ++ (cs [44] ++ (cs (regT Y)))) else []
abbrev F6 := Int × Int × Int × Int × Int × Int
theorem moves7 {B W : ByteArray} (hB : B.size ≤ 10) (hW : W.size ≤ 10) {X Y : Nat} (hX : X < 8) (hY : Y < 8) (u v z : Int) : listing_moves.F (((7 : Int), (X : Int), (Y : Int), u, v, z), B, W, ()) = some (evS B W (mvS 7 X Y), ()) := by
    show listing_moves.F _ = _
    unfold listing_moves.F listing_moves.C listing_moves.G
    refine (if_pos (show ((7 : Int) == 7) = true by decide)).trans ?_
    refine (bind_eq (regT_spec (by omega) B W)).trans ?_
    refine (bind_eq (regT_spec (by omega) B W)).trans ?_
    have j := join_spec hB hW [cs [76, 68, 32], cs (regT X), cs [44], cs (regT Y)] (by simp only [List.length_cons, List.length_nil]; omega) (by simp only [List.flatten_cons, List.flatten_nil, List.length_append, List.length_cons, List.length_nil, cs, List.length_map]; have := regT_len X; have := regT_len Y; omega)
    simp only [List.map_cons, List.map_nil] at j
    refine (bind_eq j).trans ?_
    simp only [List.flatten_cons, List.flatten_nil, List.append_nil]
    rfl
theorem moves8 {B W : ByteArray} (hB : B.size ≤ 10) (hW : W.size ≤ 10) {X Y : Nat} (hX : X < 8) (u v z : Int) : listing_moves.F (((8 : Int), (X : Int), (Y : Int), u, v, z), B, W, ()) = some (evS B W (mvS 8 X Y), ()) := by
    show listing_moves.F _ = _
    unfold listing_moves.F listing_moves.C listing_moves.G
    refine (if_neg (show ¬ ((8 : Int) == 7) = true by decide)).trans ?_
    refine (if_pos (show ((8 : Int) == 8) = true by decide)).trans ?_
    refine (bind_eq (regT_spec (by omega) B W)).trans ?_
    have j := join_spec hB hW [cs [76, 68, 32], cs (regT X), cs [44], [.b]] (by simp only [List.length_cons, List.length_nil]; omega) (by simp only [List.flatten_cons, List.flatten_nil, List.length_append, List.length_cons, List.length_nil, cs, List.length_map]; have := regT_len X; omega)
    simp only [List.map_cons, List.map_nil, evS_b] at j
    refine (bind_eq j).trans ?_
    simp only [List.flatten_cons, List.flatten_nil, List.append_nil]
    rfl
theorem moves9 {B W : ByteArray} (hB : B.size ≤ 10) (hW : W.size ≤ 10) {X Y : Nat} (hX : X < 4) (u v z : Int) : listing_moves.F (((9 : Int), (X : Int), (Y : Int), u, v, z), B, W, ()) = some (evS B W (mvS 9 X Y), ()) := by
    show listing_moves.F _ = _
    unfold listing_moves.F listing_moves.C listing_moves.G
    refine (if_neg (show ¬ ((9 : Int) == 7) = true by decide)).trans ?_
    refine (if_neg (show ¬ ((9 : Int) == 8) = true by decide)).trans ?_
    refine (if_pos (show ((9 : Int) == 9) = true by decide)).trans ?_
    refine (bind_eq (placeT_spec (by omega) B W)).trans ?_
    have j := join_spec hB hW [cs [76, 68, 32, 65, 44], cs (placeT X)] (by simp only [List.length_cons, List.length_nil]; omega) (by simp only [List.flatten_cons, List.flatten_nil, List.length_append, List.length_cons, List.length_nil, cs, List.length_map]; have := placeT_len X; omega)
    simp only [List.map_cons, List.map_nil] at j
    refine (bind_eq j).trans ?_
    simp only [List.flatten_cons, List.flatten_nil, List.append_nil]
    rfl
theorem moves10 {B W : ByteArray} (hB : B.size ≤ 10) (hW : W.size ≤ 10) {X Y : Nat} (hX : X < 4) (u v z : Int) : listing_moves.F (((10 : Int), (X : Int), (Y : Int), u, v, z), B, W, ()) = some (evS B W (mvS 10 X Y), ()) := by
    show listing_moves.F _ = _
    unfold listing_moves.F listing_moves.C listing_moves.G
    refine (if_neg (show ¬ ((10 : Int) == 7) = true by decide)).trans ?_
    refine (if_neg (show ¬ ((10 : Int) == 8) = true by decide)).trans ?_
    refine (if_neg (show ¬ ((10 : Int) == 9) = true by decide)).trans ?_
    refine (if_pos (show ((10 : Int) == 10) = true by decide)).trans ?_
    refine (bind_eq (placeT_spec (by omega) B W)).trans ?_
    have j := join_spec hB hW [cs [76, 68, 32], cs (placeT X), cs [44, 65]] (by simp only [List.length_cons, List.length_nil]; omega) (by simp only [List.flatten_cons, List.flatten_nil, List.length_append, List.length_cons, List.length_nil, cs, List.length_map]; have := placeT_len X; omega)
    simp only [List.map_cons, List.map_nil] at j
    refine (bind_eq j).trans ?_
    simp only [List.flatten_cons, List.flatten_nil, List.append_nil]
    rfl
theorem moves11 {B W : ByteArray} (hB : B.size ≤ 10) (hW : W.size ≤ 10) {X Y : Nat} (u v z : Int) : listing_moves.F (((11 : Int), (X : Int), (Y : Int), u, v, z), B, W, ()) = some (evS B W (mvS 11 X Y), ()) := by
    show listing_moves.F _ = _
    unfold listing_moves.F listing_moves.C listing_moves.G
    refine (if_neg (show ¬ ((11 : Int) == 7) = true by decide)).trans ?_
    refine (if_neg (show ¬ ((11 : Int) == 8) = true by decide)).trans ?_
    refine (if_neg (show ¬ ((11 : Int) == 9) = true by decide)).trans ?_
    refine (if_neg (show ¬ ((11 : Int) == 10) = true by decide)).trans ?_
    refine (if_pos (show ((11 : Int) == 11) = true by decide)).trans ?_
    have j := join_spec hB hW [cs [76, 68, 72, 32, 65, 44, 40], [.b], cs [41]] (by simp only [List.length_cons, List.length_nil]; omega) (by simp only [List.flatten_cons, List.flatten_nil, List.length_append, List.length_cons, List.length_nil, cs, List.length_map]; omega)
    simp only [List.map_cons, List.map_nil, evS_b] at j
    refine (bind_eq j).trans ?_
    simp only [List.flatten_cons, List.flatten_nil, List.append_nil]
    rfl
theorem moves12 {B W : ByteArray} (hB : B.size ≤ 10) (hW : W.size ≤ 10) {X Y : Nat} (u v z : Int) : listing_moves.F (((12 : Int), (X : Int), (Y : Int), u, v, z), B, W, ()) = some (evS B W (mvS 12 X Y), ()) := by
    show listing_moves.F _ = _
    unfold listing_moves.F listing_moves.C listing_moves.G
    refine (if_neg (show ¬ ((12 : Int) == 7) = true by decide)).trans ?_
    refine (if_neg (show ¬ ((12 : Int) == 8) = true by decide)).trans ?_
    refine (if_neg (show ¬ ((12 : Int) == 9) = true by decide)).trans ?_
    refine (if_neg (show ¬ ((12 : Int) == 10) = true by decide)).trans ?_
    refine (if_neg (show ¬ ((12 : Int) == 11) = true by decide)).trans ?_
    refine (if_pos (show ((12 : Int) == 12) = true by decide)).trans ?_
    have j := join_spec hB hW [cs [76, 68, 72, 32, 40], [.b], cs [41, 44, 65]] (by simp only [List.length_cons, List.length_nil]; omega) (by simp only [List.flatten_cons, List.flatten_nil, List.length_append, List.length_cons, List.length_nil, cs, List.length_map]; omega)
    simp only [List.map_cons, List.map_nil, evS_b] at j
    refine (bind_eq j).trans ?_
    simp only [List.flatten_cons, List.flatten_nil, List.append_nil]
    rfl
theorem moves15 {B W : ByteArray} (hB : B.size ≤ 10) (hW : W.size ≤ 10) {X Y : Nat} (u v z : Int) : listing_moves.F (((15 : Int), (X : Int), (Y : Int), u, v, z), B, W, ()) = some (evS B W (mvS 15 X Y), ()) := by
    show listing_moves.F _ = _
    unfold listing_moves.F listing_moves.C listing_moves.G
    refine (if_neg (show ¬ ((15 : Int) == 7) = true by decide)).trans ?_
    refine (if_neg (show ¬ ((15 : Int) == 8) = true by decide)).trans ?_
    refine (if_neg (show ¬ ((15 : Int) == 9) = true by decide)).trans ?_
    refine (if_neg (show ¬ ((15 : Int) == 10) = true by decide)).trans ?_
    refine (if_neg (show ¬ ((15 : Int) == 11) = true by decide)).trans ?_
    refine (if_neg (show ¬ ((15 : Int) == 12) = true by decide)).trans ?_
    refine (if_pos (show ((15 : Int) == 15) = true by decide)).trans ?_
    have j := join_spec hB hW [cs [76, 68, 32, 65, 44, 40], [.w], cs [41]] (by simp only [List.length_cons, List.length_nil]; omega) (by simp only [List.flatten_cons, List.flatten_nil, List.length_append, List.length_cons, List.length_nil, cs, List.length_map]; omega)
    simp only [List.map_cons, List.map_nil, evS_w] at j
    refine (bind_eq j).trans ?_
    simp only [List.flatten_cons, List.flatten_nil, List.append_nil]
    rfl
theorem moves16 {B W : ByteArray} (hB : B.size ≤ 10) (hW : W.size ≤ 10) {X Y : Nat} (u v z : Int) : listing_moves.F (((16 : Int), (X : Int), (Y : Int), u, v, z), B, W, ()) = some (evS B W (mvS 16 X Y), ()) := by
    show listing_moves.F _ = _
    unfold listing_moves.F listing_moves.C listing_moves.G
    refine (if_neg (show ¬ ((16 : Int) == 7) = true by decide)).trans ?_
    refine (if_neg (show ¬ ((16 : Int) == 8) = true by decide)).trans ?_
    refine (if_neg (show ¬ ((16 : Int) == 9) = true by decide)).trans ?_
    refine (if_neg (show ¬ ((16 : Int) == 10) = true by decide)).trans ?_
    refine (if_neg (show ¬ ((16 : Int) == 11) = true by decide)).trans ?_
    refine (if_neg (show ¬ ((16 : Int) == 12) = true by decide)).trans ?_
    refine (if_neg (show ¬ ((16 : Int) == 15) = true by decide)).trans ?_
    refine (if_pos (show ((16 : Int) == 16) = true by decide)).trans ?_
    have j := join_spec hB hW [cs [76, 68, 32, 40], [.w], cs [41, 44, 65]] (by simp only [List.length_cons, List.length_nil]; omega) (by simp only [List.flatten_cons, List.flatten_nil, List.length_append, List.length_cons, List.length_nil, cs, List.length_map]; omega)
    simp only [List.map_cons, List.map_nil, evS_w] at j
    refine (bind_eq j).trans ?_
    simp only [List.flatten_cons, List.flatten_nil, List.append_nil]
    rfl
theorem moves17 {B W : ByteArray} (hB : B.size ≤ 10) (hW : W.size ≤ 10) {X Y : Nat} (hX : X < 5) (u v z : Int) : listing_moves.F (((17 : Int), (X : Int), (Y : Int), u, v, z), B, W, ()) = some (evS B W (mvS 17 X Y), ()) := by
    show listing_moves.F _ = _
    unfold listing_moves.F listing_moves.C listing_moves.G
    refine (if_neg (show ¬ ((17 : Int) == 7) = true by decide)).trans ?_
    refine (if_neg (show ¬ ((17 : Int) == 8) = true by decide)).trans ?_
    refine (if_neg (show ¬ ((17 : Int) == 9) = true by decide)).trans ?_
    refine (if_neg (show ¬ ((17 : Int) == 10) = true by decide)).trans ?_
    refine (if_neg (show ¬ ((17 : Int) == 11) = true by decide)).trans ?_
    refine (if_neg (show ¬ ((17 : Int) == 12) = true by decide)).trans ?_
    refine (if_neg (show ¬ ((17 : Int) == 15) = true by decide)).trans ?_
    refine (if_neg (show ¬ ((17 : Int) == 16) = true by decide)).trans ?_
    refine (if_pos (show ((17 : Int) == 17) = true by decide)).trans ?_
    refine (bind_eq (pairT_spec (by omega) B W)).trans ?_
    have j := join_spec hB hW [cs [76, 68, 32], cs (pairT X), cs [44], [.w]] (by simp only [List.length_cons, List.length_nil]; omega) (by simp only [List.flatten_cons, List.flatten_nil, List.length_append, List.length_cons, List.length_nil, cs, List.length_map]; have := pairT_len X; omega)
    simp only [List.map_cons, List.map_nil, evS_w] at j
    refine (bind_eq j).trans ?_
    simp only [List.flatten_cons, List.flatten_nil, List.append_nil]
    rfl
theorem moves18 {B W : ByteArray} (hB : B.size ≤ 10) (hW : W.size ≤ 10) {X Y : Nat} (u v z : Int) : listing_moves.F (((18 : Int), (X : Int), (Y : Int), u, v, z), B, W, ()) = some (evS B W (mvS 18 X Y), ()) := by
    show listing_moves.F _ = _
    unfold listing_moves.F listing_moves.C listing_moves.G
    refine (if_neg (show ¬ ((18 : Int) == 7) = true by decide)).trans ?_
    refine (if_neg (show ¬ ((18 : Int) == 8) = true by decide)).trans ?_
    refine (if_neg (show ¬ ((18 : Int) == 9) = true by decide)).trans ?_
    refine (if_neg (show ¬ ((18 : Int) == 10) = true by decide)).trans ?_
    refine (if_neg (show ¬ ((18 : Int) == 11) = true by decide)).trans ?_
    refine (if_neg (show ¬ ((18 : Int) == 12) = true by decide)).trans ?_
    refine (if_neg (show ¬ ((18 : Int) == 15) = true by decide)).trans ?_
    refine (if_neg (show ¬ ((18 : Int) == 16) = true by decide)).trans ?_
    refine (if_neg (show ¬ ((18 : Int) == 17) = true by decide)).trans ?_
    refine (if_pos (show ((18 : Int) == 18) = true by decide)).trans ?_
    have j := join_spec hB hW [cs [76, 68, 32, 40], [.w], cs [41, 44, 83, 80]] (by simp only [List.length_cons, List.length_nil]; omega) (by simp only [List.flatten_cons, List.flatten_nil, List.length_append, List.length_cons, List.length_nil, cs, List.length_map]; omega)
    simp only [List.map_cons, List.map_nil, evS_w] at j
    refine (bind_eq j).trans ?_
    simp only [List.flatten_cons, List.flatten_nil, List.append_nil]
    rfl
theorem moves20 {B W : ByteArray} (hB : B.size ≤ 10) (hW : W.size ≤ 10) {X Y : Nat} (u v z : Int) : listing_moves.F (((20 : Int), (X : Int), (Y : Int), u, v, z), B, W, ()) = some (evS B W (mvS 20 X Y), ()) := by
    show listing_moves.F _ = _
    unfold listing_moves.F listing_moves.C listing_moves.G
    refine (if_neg (show ¬ ((20 : Int) == 7) = true by decide)).trans ?_
    refine (if_neg (show ¬ ((20 : Int) == 8) = true by decide)).trans ?_
    refine (if_neg (show ¬ ((20 : Int) == 9) = true by decide)).trans ?_
    refine (if_neg (show ¬ ((20 : Int) == 10) = true by decide)).trans ?_
    refine (if_neg (show ¬ ((20 : Int) == 11) = true by decide)).trans ?_
    refine (if_neg (show ¬ ((20 : Int) == 12) = true by decide)).trans ?_
    refine (if_neg (show ¬ ((20 : Int) == 15) = true by decide)).trans ?_
    refine (if_neg (show ¬ ((20 : Int) == 16) = true by decide)).trans ?_
    refine (if_neg (show ¬ ((20 : Int) == 17) = true by decide)).trans ?_
    refine (if_neg (show ¬ ((20 : Int) == 18) = true by decide)).trans ?_
    refine (if_pos (show ((20 : Int) == 20) = true by decide)).trans ?_
    have j := join_spec hB hW [cs [76, 68, 32, 72, 76, 44, 83, 80, 43], [.b]] (by simp only [List.length_cons, List.length_nil]; omega) (by simp only [List.flatten_cons, List.flatten_nil, List.length_append, List.length_cons, List.length_nil, cs, List.length_map]; omega)
    simp only [List.map_cons, List.map_nil, evS_b] at j
    refine (bind_eq j).trans ?_
    simp only [List.flatten_cons, List.flatten_nil, List.append_nil]
    rfl
theorem moves21 {B W : ByteArray} (hB : B.size ≤ 10) (hW : W.size ≤ 10) {X Y : Nat} (hX : X < 5) (u v z : Int) : listing_moves.F (((21 : Int), (X : Int), (Y : Int), u, v, z), B, W, ()) = some (evS B W (mvS 21 X Y), ()) := by
    show listing_moves.F _ = _
    unfold listing_moves.F listing_moves.C listing_moves.G
    refine (if_neg (show ¬ ((21 : Int) == 7) = true by decide)).trans ?_
    refine (if_neg (show ¬ ((21 : Int) == 8) = true by decide)).trans ?_
    refine (if_neg (show ¬ ((21 : Int) == 9) = true by decide)).trans ?_
    refine (if_neg (show ¬ ((21 : Int) == 10) = true by decide)).trans ?_
    refine (if_neg (show ¬ ((21 : Int) == 11) = true by decide)).trans ?_
    refine (if_neg (show ¬ ((21 : Int) == 12) = true by decide)).trans ?_
    refine (if_neg (show ¬ ((21 : Int) == 15) = true by decide)).trans ?_
    refine (if_neg (show ¬ ((21 : Int) == 16) = true by decide)).trans ?_
    refine (if_neg (show ¬ ((21 : Int) == 17) = true by decide)).trans ?_
    refine (if_neg (show ¬ ((21 : Int) == 18) = true by decide)).trans ?_
    refine (if_neg (show ¬ ((21 : Int) == 20) = true by decide)).trans ?_
    refine (if_pos (show ((21 : Int) == 21) = true by decide)).trans ?_
    refine (bind_eq (pairT_spec (by omega) B W)).trans ?_
    have j := join_spec hB hW [cs [80, 85, 83, 72, 32], cs (pairT X)] (by simp only [List.length_cons, List.length_nil]; omega) (by simp only [List.flatten_cons, List.flatten_nil, List.length_append, List.length_cons, List.length_nil, cs, List.length_map]; have := pairT_len X; omega)
    simp only [List.map_cons, List.map_nil] at j
    refine (bind_eq j).trans ?_
    simp only [List.flatten_cons, List.flatten_nil, List.append_nil]
    rfl
theorem moves22 {B W : ByteArray} (hB : B.size ≤ 10) (hW : W.size ≤ 10) {X Y : Nat} (hX : X < 5) (u v z : Int) : listing_moves.F (((22 : Int), (X : Int), (Y : Int), u, v, z), B, W, ()) = some (evS B W (mvS 22 X Y), ()) := by
    show listing_moves.F _ = _
    unfold listing_moves.F listing_moves.C listing_moves.G
    refine (if_neg (show ¬ ((22 : Int) == 7) = true by decide)).trans ?_
    refine (if_neg (show ¬ ((22 : Int) == 8) = true by decide)).trans ?_
    refine (if_neg (show ¬ ((22 : Int) == 9) = true by decide)).trans ?_
    refine (if_neg (show ¬ ((22 : Int) == 10) = true by decide)).trans ?_
    refine (if_neg (show ¬ ((22 : Int) == 11) = true by decide)).trans ?_
    refine (if_neg (show ¬ ((22 : Int) == 12) = true by decide)).trans ?_
    refine (if_neg (show ¬ ((22 : Int) == 15) = true by decide)).trans ?_
    refine (if_neg (show ¬ ((22 : Int) == 16) = true by decide)).trans ?_
    refine (if_neg (show ¬ ((22 : Int) == 17) = true by decide)).trans ?_
    refine (if_neg (show ¬ ((22 : Int) == 18) = true by decide)).trans ?_
    refine (if_neg (show ¬ ((22 : Int) == 20) = true by decide)).trans ?_
    refine (if_neg (show ¬ ((22 : Int) == 21) = true by decide)).trans ?_
    refine (if_pos (show ((22 : Int) == 22) = true by decide)).trans ?_
    refine (bind_eq (pairT_spec (by omega) B W)).trans ?_
    have j := join_spec hB hW [cs [80, 79, 80, 32], cs (pairT X)] (by simp only [List.length_cons, List.length_nil]; omega) (by simp only [List.flatten_cons, List.flatten_nil, List.length_append, List.length_cons, List.length_nil, cs, List.length_map]; have := pairT_len X; omega)
    simp only [List.map_cons, List.map_nil] at j
    refine (bind_eq j).trans ?_
    simp only [List.flatten_cons, List.flatten_nil, List.append_nil]
    rfl
theorem moves_no {B W : ByteArray} {k : Nat} (hk : k ≠ 7 ∧ k ≠ 8 ∧ k ≠ 9 ∧ k ≠ 10 ∧ k ≠ 11 ∧ k ≠ 12 ∧ k ≠ 15 ∧ k ≠ 16 ∧ k ≠ 17 ∧ k ≠ 18 ∧ k ≠ 20 ∧ k ≠ 21 ∧ k ≠ 22) (X Y u v z : Int) : listing_moves.F (((k : Int), X, Y, u, v, z), B, W, ()) = some (evS B W [], ()) := by
    unfold listing_moves.F listing_moves.C listing_moves.G
    refine (if_neg (show ¬ ((k : Int) == 7) = true by rw [beq_iff_eq]; omega)).trans ?_
    refine (if_neg (show ¬ ((k : Int) == 8) = true by rw [beq_iff_eq]; omega)).trans ?_
    refine (if_neg (show ¬ ((k : Int) == 9) = true by rw [beq_iff_eq]; omega)).trans ?_
    refine (if_neg (show ¬ ((k : Int) == 10) = true by rw [beq_iff_eq]; omega)).trans ?_
    refine (if_neg (show ¬ ((k : Int) == 11) = true by rw [beq_iff_eq]; omega)).trans ?_
    refine (if_neg (show ¬ ((k : Int) == 12) = true by rw [beq_iff_eq]; omega)).trans ?_
    refine (if_neg (show ¬ ((k : Int) == 15) = true by rw [beq_iff_eq]; omega)).trans ?_
    refine (if_neg (show ¬ ((k : Int) == 16) = true by rw [beq_iff_eq]; omega)).trans ?_
    refine (if_neg (show ¬ ((k : Int) == 17) = true by rw [beq_iff_eq]; omega)).trans ?_
    refine (if_neg (show ¬ ((k : Int) == 18) = true by rw [beq_iff_eq]; omega)).trans ?_
    refine (if_neg (show ¬ ((k : Int) == 20) = true by rw [beq_iff_eq]; omega)).trans ?_
    refine (if_neg (show ¬ ((k : Int) == 21) = true by rw [beq_iff_eq]; omega)).trans ?_
    refine (if_neg (show ¬ ((k : Int) == 22) = true by rw [beq_iff_eq]; omega)).trans ?_
    rfl
theorem mvS_nil {k : Nat} (hk : k ≠ 7 ∧ k ≠ 8 ∧ k ≠ 9 ∧ k ≠ 10 ∧ k ≠ 11 ∧ k ≠ 12 ∧ k ≠ 15 ∧ k ≠ 16 ∧ k ≠ 17 ∧ k ≠ 18 ∧ k ≠ 20 ∧ k ≠ 21 ∧ k ≠ 22) (X Y : Nat) : mvS k X Y = [] := by
    unfold mvS
    rw [if_neg (by omega), if_neg (by omega), if_neg (by omega), if_neg (by omega), if_neg (by omega), if_neg (by omega), if_neg (by omega), if_neg (by omega), if_neg (by omega), if_neg (by omega), if_neg (by omega), if_neg (by omega), if_neg (by omega)]
theorem dig_fin : ∀ n : Fin 8, bytesOf (List.take (1 : Nat) (List.drop (0 : Nat) [wrap .u8 (wrap .i64 ((48 : Int) + (n.val : Int)))])) = evS .empty .empty [.c (48 + n.val)] := by decide +kernel
theorem evS_dig {X : Nat} (h : X < 8) (B W : ByteArray) : evS B W [.c (48 + X)] = bytesOf (List.take (1 : Nat) (List.drop (0 : Nat) [wrap .u8 (wrap .i64 ((48 : Int) + (X : Int)))])) := by
  rw [dig_fin ⟨X, h⟩]; rfl
theorem reckons23 {B W : ByteArray} (hB : B.size ≤ 10) (hW : W.size ≤ 10) {X Y : Nat} (hX : X < 8) (hY : Y < 8) (u v z : Int) : listing_reckons.F (((23 : Int), (X : Int), (Y : Int), u, v, z), B, ()) = some (evS B W (rkS 23 X Y), ()) := by
    show listing_reckons.F _ = _
    unfold listing_reckons.F listing_reckons.C listing_reckons.G
    refine (if_pos (show ((23 : Int) == 23) = true by decide)).trans ?_
    refine (bind_eq (opnT_spec (by omega) B W)).trans ?_
    refine (bind_eq (regT_spec (by omega) B W)).trans ?_
    have j := join_spec hB hW [cs (opnT X), cs [32], cs (regT Y)] (by simp only [List.length_cons, List.length_nil]; omega) (by simp only [List.flatten_cons, List.flatten_nil, List.length_append, List.length_cons, List.length_nil, cs, List.length_map]; have := opnT_len X; have := regT_len Y; omega)
    simp only [List.map_cons, List.map_nil] at j
    refine (bind_eq j).trans ?_
    simp only [List.flatten_cons, List.flatten_nil, List.append_nil]
    rfl
theorem reckons24 {B W : ByteArray} (hB : B.size ≤ 10) (hW : W.size ≤ 10) {X Y : Nat} (hX : X < 8) (u v z : Int) : listing_reckons.F (((24 : Int), (X : Int), (Y : Int), u, v, z), B, ()) = some (evS B W (rkS 24 X Y), ()) := by
    show listing_reckons.F _ = _
    unfold listing_reckons.F listing_reckons.C listing_reckons.G
    refine (if_neg (show ¬ ((24 : Int) == 23) = true by decide)).trans ?_
    refine (if_pos (show ((24 : Int) == 24) = true by decide)).trans ?_
    refine (bind_eq (opnT_spec (by omega) B W)).trans ?_
    have j := join_spec hB hW [cs (opnT X), cs [32], [.b]] (by simp only [List.length_cons, List.length_nil]; omega) (by simp only [List.flatten_cons, List.flatten_nil, List.length_append, List.length_cons, List.length_nil, cs, List.length_map]; have := opnT_len X; omega)
    simp only [List.map_cons, List.map_nil, evS_b] at j
    refine (bind_eq j).trans ?_
    simp only [List.flatten_cons, List.flatten_nil, List.append_nil]
    rfl
theorem reckons25 {B W : ByteArray} (hB : B.size ≤ 10) (hW : W.size ≤ 10) {X Y : Nat} (hX : X < 8) (u v z : Int) : listing_reckons.F (((25 : Int), (X : Int), (Y : Int), u, v, z), B, ()) = some (evS B W (rkS 25 X Y), ()) := by
    show listing_reckons.F _ = _
    unfold listing_reckons.F listing_reckons.C listing_reckons.G
    refine (if_neg (show ¬ ((25 : Int) == 23) = true by decide)).trans ?_
    refine (if_neg (show ¬ ((25 : Int) == 24) = true by decide)).trans ?_
    refine (if_pos (show ((25 : Int) == 25) = true by decide)).trans ?_
    refine (bind_eq (regT_spec (by omega) B W)).trans ?_
    have j := join_spec hB hW [cs [73, 78, 67, 32], cs (regT X)] (by simp only [List.length_cons, List.length_nil]; omega) (by simp only [List.flatten_cons, List.flatten_nil, List.length_append, List.length_cons, List.length_nil, cs, List.length_map]; have := regT_len X; omega)
    simp only [List.map_cons, List.map_nil] at j
    refine (bind_eq j).trans ?_
    simp only [List.flatten_cons, List.flatten_nil, List.append_nil]
    rfl
theorem reckons26 {B W : ByteArray} (hB : B.size ≤ 10) (hW : W.size ≤ 10) {X Y : Nat} (hX : X < 8) (u v z : Int) : listing_reckons.F (((26 : Int), (X : Int), (Y : Int), u, v, z), B, ()) = some (evS B W (rkS 26 X Y), ()) := by
    show listing_reckons.F _ = _
    unfold listing_reckons.F listing_reckons.C listing_reckons.G
    refine (if_neg (show ¬ ((26 : Int) == 23) = true by decide)).trans ?_
    refine (if_neg (show ¬ ((26 : Int) == 24) = true by decide)).trans ?_
    refine (if_neg (show ¬ ((26 : Int) == 25) = true by decide)).trans ?_
    refine (if_pos (show ((26 : Int) == 26) = true by decide)).trans ?_
    refine (bind_eq (regT_spec (by omega) B W)).trans ?_
    have j := join_spec hB hW [cs [68, 69, 67, 32], cs (regT X)] (by simp only [List.length_cons, List.length_nil]; omega) (by simp only [List.flatten_cons, List.flatten_nil, List.length_append, List.length_cons, List.length_nil, cs, List.length_map]; have := regT_len X; omega)
    simp only [List.map_cons, List.map_nil] at j
    refine (bind_eq j).trans ?_
    simp only [List.flatten_cons, List.flatten_nil, List.append_nil]
    rfl
theorem reckons27 {B W : ByteArray} (hB : B.size ≤ 10) (hW : W.size ≤ 10) {X Y : Nat} (hX : X < 5) (u v z : Int) : listing_reckons.F (((27 : Int), (X : Int), (Y : Int), u, v, z), B, ()) = some (evS B W (rkS 27 X Y), ()) := by
    show listing_reckons.F _ = _
    unfold listing_reckons.F listing_reckons.C listing_reckons.G
    refine (if_neg (show ¬ ((27 : Int) == 23) = true by decide)).trans ?_
    refine (if_neg (show ¬ ((27 : Int) == 24) = true by decide)).trans ?_
    refine (if_neg (show ¬ ((27 : Int) == 25) = true by decide)).trans ?_
    refine (if_neg (show ¬ ((27 : Int) == 26) = true by decide)).trans ?_
    refine (if_pos (show ((27 : Int) == 27) = true by decide)).trans ?_
    refine (bind_eq (pairT_spec (by omega) B W)).trans ?_
    have j := join_spec hB hW [cs [73, 78, 67, 32], cs (pairT X)] (by simp only [List.length_cons, List.length_nil]; omega) (by simp only [List.flatten_cons, List.flatten_nil, List.length_append, List.length_cons, List.length_nil, cs, List.length_map]; have := pairT_len X; omega)
    simp only [List.map_cons, List.map_nil] at j
    refine (bind_eq j).trans ?_
    simp only [List.flatten_cons, List.flatten_nil, List.append_nil]
    rfl
theorem reckons28 {B W : ByteArray} (hB : B.size ≤ 10) (hW : W.size ≤ 10) {X Y : Nat} (hX : X < 5) (u v z : Int) : listing_reckons.F (((28 : Int), (X : Int), (Y : Int), u, v, z), B, ()) = some (evS B W (rkS 28 X Y), ()) := by
    show listing_reckons.F _ = _
    unfold listing_reckons.F listing_reckons.C listing_reckons.G
    refine (if_neg (show ¬ ((28 : Int) == 23) = true by decide)).trans ?_
    refine (if_neg (show ¬ ((28 : Int) == 24) = true by decide)).trans ?_
    refine (if_neg (show ¬ ((28 : Int) == 25) = true by decide)).trans ?_
    refine (if_neg (show ¬ ((28 : Int) == 26) = true by decide)).trans ?_
    refine (if_neg (show ¬ ((28 : Int) == 27) = true by decide)).trans ?_
    refine (if_pos (show ((28 : Int) == 28) = true by decide)).trans ?_
    refine (bind_eq (pairT_spec (by omega) B W)).trans ?_
    have j := join_spec hB hW [cs [68, 69, 67, 32], cs (pairT X)] (by simp only [List.length_cons, List.length_nil]; omega) (by simp only [List.flatten_cons, List.flatten_nil, List.length_append, List.length_cons, List.length_nil, cs, List.length_map]; have := pairT_len X; omega)
    simp only [List.map_cons, List.map_nil] at j
    refine (bind_eq j).trans ?_
    simp only [List.flatten_cons, List.flatten_nil, List.append_nil]
    rfl
theorem reckons29 {B W : ByteArray} (hB : B.size ≤ 10) (hW : W.size ≤ 10) {X Y : Nat} (hX : X < 5) (u v z : Int) : listing_reckons.F (((29 : Int), (X : Int), (Y : Int), u, v, z), B, ()) = some (evS B W (rkS 29 X Y), ()) := by
    show listing_reckons.F _ = _
    unfold listing_reckons.F listing_reckons.C listing_reckons.G
    refine (if_neg (show ¬ ((29 : Int) == 23) = true by decide)).trans ?_
    refine (if_neg (show ¬ ((29 : Int) == 24) = true by decide)).trans ?_
    refine (if_neg (show ¬ ((29 : Int) == 25) = true by decide)).trans ?_
    refine (if_neg (show ¬ ((29 : Int) == 26) = true by decide)).trans ?_
    refine (if_neg (show ¬ ((29 : Int) == 27) = true by decide)).trans ?_
    refine (if_neg (show ¬ ((29 : Int) == 28) = true by decide)).trans ?_
    refine (if_pos (show ((29 : Int) == 29) = true by decide)).trans ?_
    refine (bind_eq (pairT_spec (by omega) B W)).trans ?_
    have j := join_spec hB hW [cs [65, 68, 68, 32, 72, 76, 44], cs (pairT X)] (by simp only [List.length_cons, List.length_nil]; omega) (by simp only [List.flatten_cons, List.flatten_nil, List.length_append, List.length_cons, List.length_nil, cs, List.length_map]; have := pairT_len X; omega)
    simp only [List.map_cons, List.map_nil] at j
    refine (bind_eq j).trans ?_
    simp only [List.flatten_cons, List.flatten_nil, List.append_nil]
    rfl
theorem reckons30 {B W : ByteArray} (hB : B.size ≤ 10) (hW : W.size ≤ 10) {X Y : Nat} (u v z : Int) : listing_reckons.F (((30 : Int), (X : Int), (Y : Int), u, v, z), B, ()) = some (evS B W (rkS 30 X Y), ()) := by
    show listing_reckons.F _ = _
    unfold listing_reckons.F listing_reckons.C listing_reckons.G
    refine (if_neg (show ¬ ((30 : Int) == 23) = true by decide)).trans ?_
    refine (if_neg (show ¬ ((30 : Int) == 24) = true by decide)).trans ?_
    refine (if_neg (show ¬ ((30 : Int) == 25) = true by decide)).trans ?_
    refine (if_neg (show ¬ ((30 : Int) == 26) = true by decide)).trans ?_
    refine (if_neg (show ¬ ((30 : Int) == 27) = true by decide)).trans ?_
    refine (if_neg (show ¬ ((30 : Int) == 28) = true by decide)).trans ?_
    refine (if_neg (show ¬ ((30 : Int) == 29) = true by decide)).trans ?_
    refine (if_pos (show ((30 : Int) == 30) = true by decide)).trans ?_
    have j := join_spec hB hW [cs [65, 68, 68, 32, 83, 80, 44], [.b]] (by simp only [List.length_cons, List.length_nil]; omega) (by simp only [List.flatten_cons, List.flatten_nil, List.length_append, List.length_cons, List.length_nil, cs, List.length_map]; omega)
    simp only [List.map_cons, List.map_nil, evS_b] at j
    refine (bind_eq j).trans ?_
    simp only [List.flatten_cons, List.flatten_nil, List.append_nil]
    rfl
theorem reckons31 {B W : ByteArray} (hB : B.size ≤ 10) (hW : W.size ≤ 10) {X Y : Nat} (hX : X < 8) (u v z : Int) : listing_reckons.F (((31 : Int), (X : Int), (Y : Int), u, v, z), B, ()) = some (evS B W (rkS 31 X Y), ()) := by
    show listing_reckons.F _ = _
    unfold listing_reckons.F listing_reckons.C listing_reckons.G
    refine (if_neg (show ¬ ((31 : Int) == 23) = true by decide)).trans ?_
    refine (if_neg (show ¬ ((31 : Int) == 24) = true by decide)).trans ?_
    refine (if_neg (show ¬ ((31 : Int) == 25) = true by decide)).trans ?_
    refine (if_neg (show ¬ ((31 : Int) == 26) = true by decide)).trans ?_
    refine (if_neg (show ¬ ((31 : Int) == 27) = true by decide)).trans ?_
    refine (if_neg (show ¬ ((31 : Int) == 28) = true by decide)).trans ?_
    refine (if_neg (show ¬ ((31 : Int) == 29) = true by decide)).trans ?_
    refine (if_neg (show ¬ ((31 : Int) == 30) = true by decide)).trans ?_
    refine (if_pos (show ((31 : Int) == 31) = true by decide)).trans ?_
    refine (bind_eq (shfT_spec (by omega) B W)).trans ?_
    have j := join_spec hB hW [cs (shfT X), cs [65]] (by simp only [List.length_cons, List.length_nil]; omega) (by simp only [List.flatten_cons, List.flatten_nil, List.length_append, List.length_cons, List.length_nil, cs, List.length_map]; have := shfT_len X; omega)
    simp only [List.map_cons, List.map_nil] at j
    refine (bind_eq j).trans ?_
    simp only [List.flatten_cons, List.flatten_nil, List.append_nil]
    rfl
theorem reckons43 {B W : ByteArray} (hB : B.size ≤ 10) (hW : W.size ≤ 10) {X Y : Nat} (hX : X < 8) (hY : Y < 8) (u v z : Int) : listing_reckons.F (((43 : Int), (X : Int), (Y : Int), u, v, z), B, ()) = some (evS B W (rkS 43 X Y), ()) := by
    show listing_reckons.F _ = _
    unfold listing_reckons.F listing_reckons.C listing_reckons.G
    refine (if_neg (show ¬ ((43 : Int) == 23) = true by decide)).trans ?_
    refine (if_neg (show ¬ ((43 : Int) == 24) = true by decide)).trans ?_
    refine (if_neg (show ¬ ((43 : Int) == 25) = true by decide)).trans ?_
    refine (if_neg (show ¬ ((43 : Int) == 26) = true by decide)).trans ?_
    refine (if_neg (show ¬ ((43 : Int) == 27) = true by decide)).trans ?_
    refine (if_neg (show ¬ ((43 : Int) == 28) = true by decide)).trans ?_
    refine (if_neg (show ¬ ((43 : Int) == 29) = true by decide)).trans ?_
    refine (if_neg (show ¬ ((43 : Int) == 30) = true by decide)).trans ?_
    refine (if_neg (show ¬ ((43 : Int) == 31) = true by decide)).trans ?_
    refine (if_pos (show ((43 : Int) == 43) = true by decide)).trans ?_
    refine (bind_eq (shfT_spec (by omega) B W)).trans ?_
    refine (bind_eq (regT_spec (by omega) B W)).trans ?_
    have j := join_spec hB hW [cs (shfT X), cs [32], cs (regT Y)] (by simp only [List.length_cons, List.length_nil]; omega) (by simp only [List.flatten_cons, List.flatten_nil, List.length_append, List.length_cons, List.length_nil, cs, List.length_map]; have := shfT_len X; have := regT_len Y; omega)
    simp only [List.map_cons, List.map_nil] at j
    refine (bind_eq j).trans ?_
    simp only [List.flatten_cons, List.flatten_nil, List.append_nil]
    rfl
theorem reckons44 {B W : ByteArray} (hB : B.size ≤ 10) (hW : W.size ≤ 10) {X Y : Nat} (hY : Y < 8) (hX : X < 8) (u v z : Int) : listing_reckons.F (((44 : Int), (X : Int), (Y : Int), u, v, z), B, ()) = some (evS B W (rkS 44 X Y), ()) := by
    show listing_reckons.F _ = _
    unfold listing_reckons.F listing_reckons.C listing_reckons.G
    refine (if_neg (show ¬ ((44 : Int) == 23) = true by decide)).trans ?_
    refine (if_neg (show ¬ ((44 : Int) == 24) = true by decide)).trans ?_
    refine (if_neg (show ¬ ((44 : Int) == 25) = true by decide)).trans ?_
    refine (if_neg (show ¬ ((44 : Int) == 26) = true by decide)).trans ?_
    refine (if_neg (show ¬ ((44 : Int) == 27) = true by decide)).trans ?_
    refine (if_neg (show ¬ ((44 : Int) == 28) = true by decide)).trans ?_
    refine (if_neg (show ¬ ((44 : Int) == 29) = true by decide)).trans ?_
    refine (if_neg (show ¬ ((44 : Int) == 30) = true by decide)).trans ?_
    refine (if_neg (show ¬ ((44 : Int) == 31) = true by decide)).trans ?_
    refine (if_neg (show ¬ ((44 : Int) == 43) = true by decide)).trans ?_
    refine (if_pos (show ((44 : Int) == 44) = true by decide)).trans ?_
    refine (if_pos (show (0 : Int) ≤ wrap .i64 ((44 : Int) - 44) ∧ wrap .i64 ((44 : Int) - 44) < 3 by decide)).trans ?_
    refine (bind_eq (regT_spec (by omega) B W)).trans ?_
    have j := join_spec hB hW [cs [66, 73, 84, 32], [.c (48 + X)], cs [44], cs (regT Y)] (by simp only [List.length_cons, List.length_nil]; omega) (by simp only [List.flatten_cons, List.flatten_nil, List.length_append, List.length_cons, List.length_nil, cs, List.length_map]; have := regT_len Y; omega)
    simp only [List.map_cons, List.map_nil] at j
    rw [evS_dig hX B W] at j
    refine (bind_eq j).trans ?_
    simp only [List.flatten_cons, List.flatten_nil, List.append_nil]
    rfl
theorem reckons45 {B W : ByteArray} (hB : B.size ≤ 10) (hW : W.size ≤ 10) {X Y : Nat} (hY : Y < 8) (hX : X < 8) (u v z : Int) : listing_reckons.F (((45 : Int), (X : Int), (Y : Int), u, v, z), B, ()) = some (evS B W (rkS 45 X Y), ()) := by
    show listing_reckons.F _ = _
    unfold listing_reckons.F listing_reckons.C listing_reckons.G
    refine (if_neg (show ¬ ((45 : Int) == 23) = true by decide)).trans ?_
    refine (if_neg (show ¬ ((45 : Int) == 24) = true by decide)).trans ?_
    refine (if_neg (show ¬ ((45 : Int) == 25) = true by decide)).trans ?_
    refine (if_neg (show ¬ ((45 : Int) == 26) = true by decide)).trans ?_
    refine (if_neg (show ¬ ((45 : Int) == 27) = true by decide)).trans ?_
    refine (if_neg (show ¬ ((45 : Int) == 28) = true by decide)).trans ?_
    refine (if_neg (show ¬ ((45 : Int) == 29) = true by decide)).trans ?_
    refine (if_neg (show ¬ ((45 : Int) == 30) = true by decide)).trans ?_
    refine (if_neg (show ¬ ((45 : Int) == 31) = true by decide)).trans ?_
    refine (if_neg (show ¬ ((45 : Int) == 43) = true by decide)).trans ?_
    refine (if_neg (show ¬ ((45 : Int) == 44) = true by decide)).trans ?_
    refine (if_pos (show ((45 : Int) == 45) = true by decide)).trans ?_
    refine (if_pos (show (0 : Int) ≤ wrap .i64 ((45 : Int) - 44) ∧ wrap .i64 ((45 : Int) - 44) < 3 by decide)).trans ?_
    refine (bind_eq (regT_spec (by omega) B W)).trans ?_
    have j := join_spec hB hW [cs [82, 69, 83, 32], [.c (48 + X)], cs [44], cs (regT Y)] (by simp only [List.length_cons, List.length_nil]; omega) (by simp only [List.flatten_cons, List.flatten_nil, List.length_append, List.length_cons, List.length_nil, cs, List.length_map]; have := regT_len Y; omega)
    simp only [List.map_cons, List.map_nil] at j
    rw [evS_dig hX B W] at j
    refine (bind_eq j).trans ?_
    simp only [List.flatten_cons, List.flatten_nil, List.append_nil]
    rfl
theorem reckons46 {B W : ByteArray} (hB : B.size ≤ 10) (hW : W.size ≤ 10) {X Y : Nat} (hY : Y < 8) (hX : X < 8) (u v z : Int) : listing_reckons.F (((46 : Int), (X : Int), (Y : Int), u, v, z), B, ()) = some (evS B W (rkS 46 X Y), ()) := by
    show listing_reckons.F _ = _
    unfold listing_reckons.F listing_reckons.C listing_reckons.G
    refine (if_neg (show ¬ ((46 : Int) == 23) = true by decide)).trans ?_
    refine (if_neg (show ¬ ((46 : Int) == 24) = true by decide)).trans ?_
    refine (if_neg (show ¬ ((46 : Int) == 25) = true by decide)).trans ?_
    refine (if_neg (show ¬ ((46 : Int) == 26) = true by decide)).trans ?_
    refine (if_neg (show ¬ ((46 : Int) == 27) = true by decide)).trans ?_
    refine (if_neg (show ¬ ((46 : Int) == 28) = true by decide)).trans ?_
    refine (if_neg (show ¬ ((46 : Int) == 29) = true by decide)).trans ?_
    refine (if_neg (show ¬ ((46 : Int) == 30) = true by decide)).trans ?_
    refine (if_neg (show ¬ ((46 : Int) == 31) = true by decide)).trans ?_
    refine (if_neg (show ¬ ((46 : Int) == 43) = true by decide)).trans ?_
    refine (if_neg (show ¬ ((46 : Int) == 44) = true by decide)).trans ?_
    refine (if_neg (show ¬ ((46 : Int) == 45) = true by decide)).trans ?_
    refine (if_pos (show ((46 : Int) == 46) = true by decide)).trans ?_
    refine (if_pos (show (0 : Int) ≤ wrap .i64 ((46 : Int) - 44) ∧ wrap .i64 ((46 : Int) - 44) < 3 by decide)).trans ?_
    refine (bind_eq (regT_spec (by omega) B W)).trans ?_
    have j := join_spec hB hW [cs [83, 69, 84, 32], [.c (48 + X)], cs [44], cs (regT Y)] (by simp only [List.length_cons, List.length_nil]; omega) (by simp only [List.flatten_cons, List.flatten_nil, List.length_append, List.length_cons, List.length_nil, cs, List.length_map]; have := regT_len Y; omega)
    simp only [List.map_cons, List.map_nil] at j
    rw [evS_dig hX B W] at j
    refine (bind_eq j).trans ?_
    simp only [List.flatten_cons, List.flatten_nil, List.append_nil]
    rfl
theorem reckons_no {B W : ByteArray} {k : Nat} (hk : k ≠ 23 ∧ k ≠ 24 ∧ k ≠ 25 ∧ k ≠ 26 ∧ k ≠ 27 ∧ k ≠ 28 ∧ k ≠ 29 ∧ k ≠ 30 ∧ k ≠ 31 ∧ k ≠ 43 ∧ k ≠ 44 ∧ k ≠ 45 ∧ k ≠ 46) (X Y u v z : Int) : listing_reckons.F (((k : Int), X, Y, u, v, z), B, ()) = some (evS B W [], ()) := by
    unfold listing_reckons.F listing_reckons.C listing_reckons.G
    refine (if_neg (show ¬ ((k : Int) == 23) = true by rw [beq_iff_eq]; omega)).trans ?_
    refine (if_neg (show ¬ ((k : Int) == 24) = true by rw [beq_iff_eq]; omega)).trans ?_
    refine (if_neg (show ¬ ((k : Int) == 25) = true by rw [beq_iff_eq]; omega)).trans ?_
    refine (if_neg (show ¬ ((k : Int) == 26) = true by rw [beq_iff_eq]; omega)).trans ?_
    refine (if_neg (show ¬ ((k : Int) == 27) = true by rw [beq_iff_eq]; omega)).trans ?_
    refine (if_neg (show ¬ ((k : Int) == 28) = true by rw [beq_iff_eq]; omega)).trans ?_
    refine (if_neg (show ¬ ((k : Int) == 29) = true by rw [beq_iff_eq]; omega)).trans ?_
    refine (if_neg (show ¬ ((k : Int) == 30) = true by rw [beq_iff_eq]; omega)).trans ?_
    refine (if_neg (show ¬ ((k : Int) == 31) = true by rw [beq_iff_eq]; omega)).trans ?_
    refine (if_neg (show ¬ ((k : Int) == 43) = true by rw [beq_iff_eq]; omega)).trans ?_
    refine (if_neg (show ¬ ((k : Int) == 44) = true by rw [beq_iff_eq]; omega)).trans ?_
    refine (if_neg (show ¬ ((k : Int) == 45) = true by rw [beq_iff_eq]; omega)).trans ?_
    refine (if_neg (show ¬ ((k : Int) == 46) = true by rw [beq_iff_eq]; omega)).trans ?_
    rfl
theorem rkS_nil {k : Nat} (hk : k ≠ 23 ∧ k ≠ 24 ∧ k ≠ 25 ∧ k ≠ 26 ∧ k ≠ 27 ∧ k ≠ 28 ∧ k ≠ 29 ∧ k ≠ 30 ∧ k ≠ 31 ∧ k ≠ 43 ∧ k ≠ 44 ∧ k ≠ 45 ∧ k ≠ 46) (X Y : Nat) : rkS k X Y = [] := by
    unfold rkS
    rw [if_neg (by omega), if_neg (by omega), if_neg (by omega), if_neg (by omega), if_neg (by omega), if_neg (by omega), if_neg (by omega), if_neg (by omega), if_neg (by omega), if_neg (by omega), if_neg (by omega), if_neg (by omega), if_neg (by omega)]
end Go.Proofs.YtkdeheoonannoaaDoor.E
