/- Functions of the program as plain Lean, and what they come to. Conditions: none. -/
import Derived.Test.YtkdeheoonannoaaDoorEwD
import Derived.Test.YtkdeheoonannoaaDoorPureTx
open Go Go.Ew
namespace Go.Proofs.YtkdeheoonannoaaDoor.E
open Go.IntKind (wrap)
set_option linter.unusedVariables false
set_option linter.unusedSimpArgs false
set_option maxRecDepth 100000
theorem ite_pred {α : Type} {Q : α → Prop} {c : Prop} [Decidable c] {a b : α} (h1 : Q a) (h2 : Q b) : Q (if c then a else b) := by split <;> assumption
theorem sEq_iff {a b : ByteArray} : sEq a b = true ↔ a = b := by
  unfold sEq
  rw [ByteArray.toList_eq, ByteArray.toList_eq, beq_iff_eq]
  exact ⟨ba_ext, fun h => by rw [h]⟩
theorem sEq_no {a b : ByteArray} (h : a ≠ b) : sEq a b = false := by
  cases e : sEq a b with
  | false => rfl
  | true => exact absurd (sEq_iff.1 e) h
/-! whole lines -/
structure okF (k X Y : Nat) : Prop where
  hk : k < 47
  hx : X < 8
  hy : Y < 8
  hx4 : k = 9 ∨ k = 10 → X < 4
  hx5 : k = 17 ∨ k = 21 ∨ k = 22 ∨ k = 27 ∨ k = 28 ∨ k = 29 ∨ k = 36 ∨ k = 37 ∨ k = 39 ∨ k = 40 → X < 5
theorem moves_spec {B W : ByteArray} (hB : B.size ≤ 10) (hW : W.size ≤ 10) {k X Y : Nat} (h : okF k X Y) (u v z : Int) : listing_moves.F (((k : Int), (X : Int), (Y : Int), u, v, z), B, W, ()) = some (evS B W (mvS k X Y), ()) := by
  by_cases e7 : k = 7
  · subst e7; exact moves7 hB hW h.hx h.hy u v z
  by_cases e8 : k = 8
  · subst e8; exact moves8 hB hW h.hx u v z
  by_cases e9 : k = 9
  · subst e9; exact moves9 hB hW (h.hx4 (by omega)) u v z
  by_cases e10 : k = 10
  · subst e10; exact moves10 hB hW (h.hx4 (by omega)) u v z
  by_cases e11 : k = 11
  · subst e11; exact moves11 hB hW  u v z
  by_cases e12 : k = 12
  · subst e12; exact moves12 hB hW  u v z
  by_cases e15 : k = 15
  · subst e15; exact moves15 hB hW  u v z
  by_cases e16 : k = 16
  · subst e16; exact moves16 hB hW  u v z
  by_cases e17 : k = 17
  · subst e17; exact moves17 hB hW (h.hx5 (by omega)) u v z
  by_cases e18 : k = 18
  · subst e18; exact moves18 hB hW  u v z
  by_cases e20 : k = 20
  · subst e20; exact moves20 hB hW  u v z
  by_cases e21 : k = 21
  · subst e21; exact moves21 hB hW (h.hx5 (by omega)) u v z
  by_cases e22 : k = 22
  · subst e22; exact moves22 hB hW (h.hx5 (by omega)) u v z
  rw [mvS_nil (by omega)]
  exact moves_no (by omega) _ _ u v z
theorem mvS_len (k X Y : Nat) : (mvS k X Y).length ≤ 40 := by
  have := regT_len X; have := regT_len Y; have := pairT_len X; have := placeT_len X; have := opnT_len X; have := shfT_len X
  unfold mvS
  repeat' apply ite_pred (Q := fun l : List Sy => l.length ≤ 40)
  all_goals (simp only [List.length_append, cs, List.length_map, List.length_cons, List.length_nil]; omega)
theorem reckons_spec {B W : ByteArray} (hB : B.size ≤ 10) (hW : W.size ≤ 10) {k X Y : Nat} (h : okF k X Y) (u v z : Int) : listing_reckons.F (((k : Int), (X : Int), (Y : Int), u, v, z), B, ()) = some (evS B W (rkS k X Y), ()) := by
  by_cases e23 : k = 23
  · subst e23; exact reckons23 hB hW h.hx h.hy u v z
  by_cases e24 : k = 24
  · subst e24; exact reckons24 hB hW h.hx u v z
  by_cases e25 : k = 25
  · subst e25; exact reckons25 hB hW h.hx u v z
  by_cases e26 : k = 26
  · subst e26; exact reckons26 hB hW h.hx u v z
  by_cases e27 : k = 27
  · subst e27; exact reckons27 hB hW (h.hx5 (by omega)) u v z
  by_cases e28 : k = 28
  · subst e28; exact reckons28 hB hW (h.hx5 (by omega)) u v z
  by_cases e29 : k = 29
  · subst e29; exact reckons29 hB hW (h.hx5 (by omega)) u v z
  by_cases e30 : k = 30
  · subst e30; exact reckons30 hB hW  u v z
  by_cases e31 : k = 31
  · subst e31; exact reckons31 hB hW h.hx u v z
  by_cases e43 : k = 43
  · subst e43; exact reckons43 hB hW h.hx h.hy u v z
  by_cases e44 : k = 44
  · subst e44; exact reckons44 hB hW h.hy h.hx u v z
  by_cases e45 : k = 45
  · subst e45; exact reckons45 hB hW h.hy h.hx u v z
  by_cases e46 : k = 46
  · subst e46; exact reckons46 hB hW h.hy h.hx u v z
  rw [rkS_nil (by omega)]
  exact reckons_no (by omega) _ _ u v z
theorem rkS_len (k X Y : Nat) : (rkS k X Y).length ≤ 40 := by
  have := regT_len X; have := regT_len Y; have := pairT_len X; have := placeT_len X; have := opnT_len X; have := shfT_len X
  unfold rkS
  repeat' apply ite_pred (Q := fun l : List Sy => l.length ≤ 40)
  all_goals (simp only [List.length_append, cs, List.length_map, List.length_cons, List.length_nil]; omega)
def if4S (nm : List Nat) (X : Nat) (l : List Sy) : List Sy := if X = 4 then cs nm ++ (cs [32] ++ l) else cs nm ++ (cs [32] ++ (cs (cndT X) ++ (cs [44] ++ l)))
def if4N (nm : List Nat) (X : Nat) : List Sy := if X = 4 then cs nm else cs nm ++ (cs [32] ++ cs (cndT X))
theorem if4_spec {B W : ByteArray} (hB : B.size ≤ 10) (hW : W.size ≤ 10) {nm : List Nat} (hn : nm.length ≤ 10) {X : Nat} (hX : X < 5) {l : List Sy} (hl : l.length ≤ 10) (ne : sEq (evS B W l) (bs []) = false) :
    listing_if4.F (evS B W (cs nm), (X : Int), evS B W l, ()) = some (evS B W (if4S nm X l), ()) := by
  unfold listing_if4.F listing_if4.C listing_if4.G if4S
  dsimp only
  by_cases h4 : X = 4
  · rw [if_pos h4]
    refine (if_pos (by rw [h4]; decide)).trans ?_
    refine (if_neg (by rw [ne]; decide)).trans ?_
    refine (if_pos (by rw [h4]; decide)).trans ?_
    have j := join_spec hB hW [cs nm, cs [32], l] (by simp only [List.length_cons, List.length_nil]; omega) (by simp only [List.flatten_cons, List.flatten_nil, List.length_append, List.length_cons, List.length_nil, cs, List.length_map]; omega)
    simp only [List.map_cons, List.map_nil] at j
    refine (bind_eq j).trans ?_
    simp only [List.flatten_cons, List.flatten_nil, List.append_nil]
  · rw [if_neg h4]
    refine (if_neg (show ¬ (((X : Int) == 4) == true) = true by simp; omega)).trans ?_
    refine (if_neg (show ¬ ((X : Int) == 4) = true by simp; omega)).trans ?_
    refine (if_neg (by rw [ne]; decide)).trans ?_
    refine (bind_eq (cndT_spec (by omega) B W)).trans ?_
    have := cndT_len X
    have j := join_spec hB hW [cs nm, cs [32], cs (cndT X), cs [44], l] (by simp only [List.length_cons, List.length_nil]; omega) (by simp only [List.flatten_cons, List.flatten_nil, List.length_append, List.length_cons, List.length_nil, cs, List.length_map]; omega)
    simp only [List.map_cons, List.map_nil] at j
    refine (bind_eq j).trans ?_
    simp only [List.flatten_cons, List.flatten_nil, List.append_nil]
theorem if4_nil {B W : ByteArray} (hB : B.size ≤ 10) (hW : W.size ≤ 10) {nm : List Nat} (hn : nm.length ≤ 10) {X : Nat} (hX : X < 5) :
    listing_if4.F (evS B W (cs nm), (X : Int), bs [], ()) = some (evS B W (if4N nm X), ()) := by
  unfold listing_if4.F listing_if4.C listing_if4.G if4N
  dsimp only
  have ye : sEq (bs []) (bs []) = true := sEq_iff.2 rfl
  by_cases h4 : X = 4
  · rw [if_pos h4]
    refine (if_pos (by rw [h4]; decide)).trans ?_
    exact if_pos ye
  · rw [if_neg h4]
    refine (if_neg (show ¬ (((X : Int) == 4) == true) = true by simp; omega)).trans ?_
    refine (if_neg (show ¬ ((X : Int) == 4) = true by simp; omega)).trans ?_
    refine (if_pos ye).trans ?_
    refine (bind_eq (cndT_spec (by omega) B W)).trans ?_
    have := cndT_len X
    have j := join_spec hB hW [cs nm, cs [32], cs (cndT X)] (by simp only [List.length_cons, List.length_nil]; omega) (by simp only [List.flatten_cons, List.flatten_nil, List.length_append, List.length_cons, List.length_nil, cs, List.length_map]; omega)
    simp only [List.map_cons, List.map_nil] at j
    refine (bind_eq j).trans ?_
    simp only [List.flatten_cons, List.flatten_nil, List.append_nil]
def spS (k X Y op : Nat) : List Sy :=
  if k = 1 then cs [83, 84, 79, 80, 32] ++ [.b] else if k = 5 then cs [68, 66, 32, 36] ++ hexSy op else if k = 6 then cs [68, 66, 32, 36] ++ hexSy op else
  if k = 36 then if4S [74, 82] X [.b] else if k = 37 then if4S [74, 80] X [.w] else if k = 39 then if4S [67, 65, 76, 76] X [.w] else if k = 40 then if4N [82, 69, 84] X else
  if k = 42 then cs [82, 83, 84, 32, 36] ++ hexSy (8 * X % 256) else cs (plS k) ++ mvS k X Y ++ rkS k X Y
theorem ne_of {B : ByteArray} (h : 1 ≤ B.size) : sEq B (bs []) = false := sEq_no fun e => by rw [e] at h; exact absurd h (by decide)
theorem text_spec {B W : ByteArray} (hB : B.size ≤ 10) (hB1 : 1 ≤ B.size) (hW : W.size ≤ 10) (hW1 : 1 ≤ W.size) {k X Y : Nat} (h : okF k X Y) (u v z : Int) {op : Nat} (ho : op < 256) :
    listing_text.F (((k : Int), (X : Int), (Y : Int), u, v, z), (op : Int), B, W, ()) = some (evS B W (spS k X Y op), ()) := by
  have neB : sEq (evS B W [.b]) (bs []) = false := by rw [evS_b]; exact ne_of hB1
  have neW : sEq (evS B W [.w]) (bs []) = false := by rw [evS_w]; exact ne_of hW1
  have joinH : ∀ (l : List Nat) (v : Nat), l.length ≤ 10 → listing_join.F ([evS B W (cs l), hexB v], ()) = some (evS B W (cs l ++ hexSy v), ()) := by
    intro l v hl
    have j := join_spec hB hW [cs l, hexSy v] (by simp only [List.length_cons, List.length_nil]; omega) (by simp only [List.flatten_cons, List.flatten_nil, List.length_append, List.length_cons, List.length_nil, cs, List.length_map, hexSy]; omega)
    simp only [List.map_cons, List.map_nil, hexSy_ev, List.flatten_cons, List.flatten_nil, List.append_nil] at j
    exact j
  unfold listing_text.F listing_text.C listing_text.G spS
  dsimp only
  by_cases e1 : k = 1
  · subst e1
    refine (if_pos (show ((1 : Int) == 1) = true by decide)).trans ?_
    have j := join_spec hB hW [cs [83, 84, 79, 80, 32], [.b]] (by decide) (by decide)
    simp only [List.map_cons, List.map_nil, evS_b, List.flatten_cons, List.flatten_nil, List.append_nil] at j
    refine (bind_eq j).trans ?_
    rfl
  rw [if_neg e1]
  refine (if_neg (show ¬ ((k : Int) == 1) = true by rw [beq_iff_eq]; omega)).trans ?_
  by_cases e5 : k = 5
  · subst e5
    refine (if_pos (show ((5 : Int) == 5) = true by decide)).trans ?_
    refine (bind_eq (hex_spec ho)).trans ?_
    refine (bind_eq (joinH [68, 66, 32, 36] op (by decide))).trans ?_
    rfl
  rw [if_neg e5]
  refine (if_neg (show ¬ ((k : Int) == 5) = true by rw [beq_iff_eq]; omega)).trans ?_
  by_cases e6 : k = 6
  · subst e6
    refine (if_pos (show ((6 : Int) == 6) = true by decide)).trans ?_
    refine (bind_eq (hex_spec ho)).trans ?_
    refine (bind_eq (joinH [68, 66, 32, 36] op (by decide))).trans ?_
    rfl
  rw [if_neg e6]
  refine (if_neg (show ¬ ((k : Int) == 6) = true by rw [beq_iff_eq]; omega)).trans ?_
  by_cases e36 : k = 36
  · subst e36
    refine (if_pos (show ((36 : Int) == 36) = true by decide)).trans ?_
    have j := if4_spec hB hW (nm := [74, 82]) (by decide) (h.hx5 (by omega)) (l := [.b]) (by decide) neB
    rw [evS_b] at j
    refine (bind_eq j).trans ?_
    rfl
  rw [if_neg e36]
  refine (if_neg (show ¬ ((k : Int) == 36) = true by rw [beq_iff_eq]; omega)).trans ?_
  by_cases e37 : k = 37
  · subst e37
    refine (if_pos (show ((37 : Int) == 37) = true by decide)).trans ?_
    have j := if4_spec hB hW (nm := [74, 80]) (by decide) (h.hx5 (by omega)) (l := [.w]) (by decide) neW
    rw [evS_w] at j
    refine (bind_eq j).trans ?_
    rfl
  rw [if_neg e37]
  refine (if_neg (show ¬ ((k : Int) == 37) = true by rw [beq_iff_eq]; omega)).trans ?_
  by_cases e39 : k = 39
  · subst e39
    refine (if_pos (show ((39 : Int) == 39) = true by decide)).trans ?_
    have j := if4_spec hB hW (nm := [67, 65, 76, 76]) (by decide) (h.hx5 (by omega)) (l := [.w]) (by decide) neW
    rw [evS_w] at j
    refine (bind_eq j).trans ?_
    rfl
  rw [if_neg e39]
  refine (if_neg (show ¬ ((k : Int) == 39) = true by rw [beq_iff_eq]; omega)).trans ?_
  by_cases e40 : k = 40
  · subst e40
    refine (if_pos (show ((40 : Int) == 40) = true by decide)).trans ?_
    have j := if4_nil hB hW (nm := [82, 69, 84]) (by decide) (h.hx5 (by omega))
    refine (bind_eq j).trans ?_
    rfl
  rw [if_neg e40]
  refine (if_neg (show ¬ ((k : Int) == 40) = true by rw [beq_iff_eq]; omega)).trans ?_
  by_cases e42 : k = 42
  · subst e42
    refine (if_pos (show ((42 : Int) == 42) = true by decide)).trans ?_
    have hx := h.hx
    have e : wrap .u8 (wrap .i64 (8 * (X : Int))) = ((8 * X % 256 : Nat) : Int) := by rw [w64 (by omega), w8 (by omega)]; omega
    refine (bind_eq (show word_Hex8.F _ = _ by rw [e]; exact hex_spec (by omega))).trans ?_
    refine (bind_eq (joinH [82, 83, 84, 32, 36] (8 * X % 256) (by decide))).trans ?_
    rfl
  rw [if_neg e42]
  refine (if_neg (show ¬ ((k : Int) == 42) = true by rw [beq_iff_eq]; omega)).trans ?_
  refine (bind_eq (plain_spec h.hk B W)).trans ?_
  refine (bind_eq (moves_spec hB hW h u v z)).trans ?_
  have l1 := pl_len k; have l2 := mvS_len k X Y; have l3 := rkS_len k X Y
  have s1 := evS_size hB hW (cs (plS k)); have s2 := evS_size hB hW (mvS k X Y); have s3 := evS_size hB hW (rkS k X Y)
  have lc : (cs (plS k)).length = (plS k).length := List.length_map _
  refine (if_pos (by rw [decide_eq_true_eq]; dsimp only; omega)).trans ?_
  refine (bind_eq (reckons_spec hB hW h u v z)).trans ?_
  refine (if_pos (by rw [decide_eq_true_eq]; dsimp only; rw [ba_size]; omega)).trans ?_
  dsimp only
  rw [evS_app, evS_app]
end Go.Proofs.YtkdeheoonannoaaDoor.E
