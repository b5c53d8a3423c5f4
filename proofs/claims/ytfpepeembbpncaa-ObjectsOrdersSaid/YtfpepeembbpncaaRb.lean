/- Functions of the program as plain Lean, and what they come to. Conditions: none. -/
import Derived.Test.YtfpepeembbpncaaEwD
import Derived.Test.YtfpepeembbpncaaRa
import Derived.Test.YtfpepeembbpncaaSym
open Go Go.Ew Go.Mrg
namespace Go.Proofs.Ytfpepeembbpncaa.E
open Go.IntKind (wrap)
set_option linter.unusedVariables false
set_option linter.unusedSimpArgs false
set_option maxRecDepth 100000
/-! what swapRange does -/
abbrev O5 := Int × Int × Int × Int × Int
theorem w64 {n : Int} (h1 : 0 ≤ n) (h2 : n ≤ 9223372036854775807) : wrap .i64 n = n := by unfold wrap; simp [IntKind.signed, IntKind.bits]; omega
theorem bind_eq {α β : Type} {o : Option α} {a : α} {f : α → Option β} (h : o = some a) : Option.bind o f = f a := by rw [h]; rfl
theorem set_sw (l : List O5) (i j : Nat) (hi : i < l.length) (hj : j < l.length) : List.set (List.set l (0 + i) (List.getD l (0 + j) (0, 0, 0, 0, 0))) (0 + j) (List.getD l (0 + i) (0, 0, 0, 0, 0)) = sw l i j := by
 unfold sw
 rw [List.getElem?_eq_getElem hi, List.getElem?_eq_getElem hj, Nat.zero_add, Nat.zero_add, List.getD_eq_getElem?_getD, List.getD_eq_getElem?_getD, List.getElem?_eq_getElem hi, List.getElem?_eq_getElem hj]
 rfl
theorem sw_len (l : List O5) (i j : Nat) : (sw l i j).length = l.length := by
 unfold sw
 split
 ·rw [List.length_set, List.length_set]
 ·rfl
theorem swR_len : ∀ (n : Nat) (l : List O5) (a b : Nat), (swR n l a b).length = l.length
 | 0, l, a, b => rfl
 | n + 1, l, a, b => by unfold swR; rw [swR_len, sw_len]
noncomputable def swstep (x : (Nat × Int × Int × Int × Int × Unit) × (((List O5) × Unit) × Unit) × Unit) := swapRange.L0.step x.1.1 x.1.2.1 x.1.2.2.1 x.1.2.2.2.1 x.1.2.2.2.2.1 x.2.1.1.1
theorem sw_loop (len a b n : Nat) (hlen : len ≤ 268435456) : ∀ (k i : Nat) (l : List O5), l.length = len → n = i + k → a + n ≤ len → b + n ≤ len →
  iterU swstep ((len, (a : Int), (b : Int), (n : Int), (i : Int), ()), ((l, ()), ()), ()) = some ((), ((swR k l (a + i) (b + i), ()), ()), ())
 | 0, i, l, hl, hn, h1, h2 => by
  rw [iterU_eq]
  have e : swstep ((len, (a : Int), (b : Int), (n : Int), (i : Int), ()), ((l, ()), ()), ()) = some (.inr ((), ((l, ()), ()), ())) := by
   unfold swstep swapRange.L0.step
   exact if_neg (by rw [decide_eq_true_eq]; show ¬ (i : Int) < (n : Int); omega)
  rw [e]; rfl
 | k + 1, i, l, hl, hn, h1, h2 => by
  rw [iterU_eq]
  have e : swstep ((len, (a : Int), (b : Int), (n : Int), (i : Int), ()), ((l, ()), ()), ()) = some (.inl ((len, (a : Int), (b : Int), (n : Int), ((i + 1 : Nat) : Int), ()), ((sw l (a + i) (b + i), ()), ()), ())) := by
   unfold swstep swapRange.L0.step
   dsimp only
   rw [w64 (n := (a : Int) + (i : Int)) (by omega) (by omega), w64 (n := (b : Int) + (i : Int)) (by omega) (by omega), w64 (n := (i : Int) + 1) (by omega) (by omega)]
   refine (if_pos (by rw [decide_eq_true_eq]; omega)).trans ?_
   refine (if_pos ⟨by omega, by omega⟩).trans ?_
   refine (if_pos ⟨by omega, by omega⟩).trans ?_
   refine (if_pos ⟨by omega, by omega⟩).trans ?_
   refine (if_pos ⟨by omega, by omega⟩).trans ?_
   rw [show Int.toNat ((a : Int) + (i : Int)) = a + i by omega, show Int.toNat ((b : Int) + (i : Int)) = b + i by omega, set_sw l (a + i) (b + i) (by omega) (by omega)]
   rfl
  rw [e]
  dsimp only
  exact sw_loop len a b n hlen k (i + 1) (sw l (a + i) (b + i)) (by rw [sw_len]; exact hl) (by omega) h1 h2
theorem swap_spec {l : List O5} {len a b n : Nat} (hl : l.length = len) (hlen : len ≤ 268435456) (h1 : a + n ≤ len) (h2 : b + n ≤ len) :
  swapRange.F len ((a : Int), (b : Int), (n : Int), ()) (l, ()) = some ((), (swR n l a b, ())) := by
 unfold swapRange.F swapRange.G
 exact bind_eq (show swapRange.L0.F _ = _ from sw_loop len a b n hlen n 0 l hl (by omega) h1 h2)
/-! what rotate does -/
theorem rot_succ (f : Nat) (l : List O5) (m i j : Nat) : rot (f + 1) l m i j = if i = j then swR i l (m - i) m else if j < i then rot f (swR j l (m - i) m) m (i - j) j else rot f (swR i l (m - i) (m + j - i)) m i (j - i) := rfl
noncomputable def rtstep (x : (Nat × Int × Unit × Int × Int × Unit) × (((List O5) × Unit) × Unit) × Unit) := rotate.L0.step swapRange.F x.1.1 x.1.2.1 x.1.2.2.2.1 x.1.2.2.2.2.1 x.2.1.1.1
theorem rt_loop (len m : Nat) (hlen : len ≤ 268435456) : ∀ (f i j : Nat) (l : List O5), l.length = len → 0 < i → 0 < j → i + j ≤ f → i ≤ m → m + j ≤ len →
  ∃ (k : Nat) (l' : List O5), iterU rtstep ((len, (m : Int), (), (i : Int), (j : Int), ()), ((l, ()), ()), ()) = some ((len, (m : Int), (), (k : Int), ()), ((l', ()), ()), ()) ∧ swR k l' (m - k) m = rot f l m i j ∧ k ≤ m ∧ m + k ≤ len ∧ l'.length = len
 | 0, i, j, l, hl, hi, hj, hf, h1, h2 => by omega
 | f + 1, i, j, l, hl, hi, hj, hf, h1, h2 => by
  rw [iterU_eq]
  by_cases c : i = j
  ·subst c
   have e : rtstep ((len, (m : Int), (), (i : Int), (i : Int), ()), ((l, ()), ()), ()) = some (.inr ((len, (m : Int), (), (i : Int), ()), ((l, ()), ()), ())) := by
    unfold rtstep rotate.L0.step
    exact if_neg (by simp)
   rw [e]
   exact ⟨i, l, rfl, by unfold rot; rw [if_pos rfl], h1, h2, hl⟩
  ·by_cases d : j < i
   ·have e : rtstep ((len, (m : Int), (), (i : Int), (j : Int), ()), ((l, ()), ()), ()) = some (.inl ((len, (m : Int), (), ((i - j : Nat) : Int), (j : Int), ()), ((swR j l (m - i) m, ()), ()), ())) := by
     unfold rtstep rotate.L0.step
     dsimp only
     refine (if_pos (by rw [bne_iff_ne]; omega)).trans ?_
     refine (if_pos (by rw [decide_eq_true_eq]; omega)).trans ?_
     refine (if_pos (by omega)).trans ?_
     rw [w64 (n := (m : Int) - (i : Int)) (by omega) (by omega), w64 (n := (i : Int) - (j : Int)) (by omega) (by omega), show (m : Int) - (i : Int) = ((m - i : Nat) : Int) by omega, show (i : Int) - (j : Int) = ((i - j : Nat) : Int) by omega]
     exact bind_eq (swap_spec hl hlen (by omega) (by omega))
    rw [e]
    obtain ⟨k, l', q1, q2, q3⟩ := rt_loop len m hlen f (i - j) j (swR j l (m - i) m) (by rw [swR_len]; exact hl) (by omega) hj (by omega) (by omega) h2
    refine ⟨k, l', q1, ?_, q3⟩
    rw [q2, rot_succ f l m i j, if_neg c, if_pos d]
   ·have e : rtstep ((len, (m : Int), (), (i : Int), (j : Int), ()), ((l, ()), ()), ()) = some (.inl ((len, (m : Int), (), (i : Int), ((j - i : Nat) : Int), ()), ((swR i l (m - i) (m + j - i), ()), ()), ())) := by
     unfold rtstep rotate.L0.step
     dsimp only
     refine (if_pos (by rw [bne_iff_ne]; omega)).trans ?_
     refine (if_neg (by rw [decide_eq_true_eq]; omega)).trans ?_
     refine (if_pos (by omega)).trans ?_
     rw [w64 (n := (m : Int) - (i : Int)) (by omega) (by omega), w64 (n := (j : Int) - (i : Int)) (by omega) (by omega), w64 (n := (m : Int) + (j : Int)) (by omega) (by omega), w64 (n := (m : Int) + (j : Int) - (i : Int)) (by omega) (by omega), show (m : Int) - (i : Int) = ((m - i : Nat) : Int) by omega, show (j : Int) - (i : Int) = ((j - i : Nat) : Int) by omega, show (m : Int) + (j : Int) - (i : Int) = ((m + j - i : Nat) : Int) by omega]
     exact bind_eq (swap_spec hl hlen (by omega) (by omega))
    rw [e]
    obtain ⟨k, l', q1, q2, q3⟩ := rt_loop len m hlen f i (j - i) (swR i l (m - i) (m + j - i)) (by rw [swR_len]; exact hl) hi (by omega) (by omega) h1 (by omega)
    refine ⟨k, l', q1, ?_, q3⟩
    rw [q2, rot_succ f l m i j, if_neg c, if_neg d]
theorem rot_spec {l : List O5} {len a m b : Nat} (hl : l.length = len) (hlen : len ≤ 268435456) (h1 : a < m) (h2 : m < b) (h3 : b ≤ len) :
  rotate.F len ((a : Int), (m : Int), (b : Int), ()) (l, ()) = some ((), (rot (m - a + (b - m)) l m (m - a) (b - m), ())) := by
 obtain ⟨k, l', q1, q2, q3, q4, q5⟩ := rt_loop len m hlen (m - a + (b - m)) (m - a) (b - m) l hl (by omega) (by omega) (Nat.le_refl _) (by omega) (by omega)
 unfold rotate.F rotate.G
 dsimp only
 rw [w64 (n := (m : Int) - (a : Int)) (by omega) (by omega), w64 (n := (b : Int) - (m : Int)) (by omega) (by omega), show (m : Int) - (a : Int) = ((m - a : Nat) : Int) by omega, show (b : Int) - (m : Int) = ((b - m : Nat) : Int) by omega]
 refine (bind_eq (show rotate.L0.F _ = _ from q1)).trans ?_
 dsimp only
 refine (if_pos (by omega)).trans ?_
 rw [w64 (n := (m : Int) - (k : Int)) (by omega) (by omega), show (m : Int) - (k : Int) = ((m - k : Nat) : Int) by omega]
 refine (bind_eq (swap_spec q5 hlen (by omega) (by omega))).trans ?_
 rw [q2]
end Go.Proofs.Ytfpepeembbpncaa.E
