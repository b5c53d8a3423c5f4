/- Functions of the program as plain Lean, and what they come to. Conditions: none. -/
import Derived.Test.YtfpepeembbpncaaEwD
import Derived.Test.YtfpepeembbpncaaRf
import Derived.Test.YtfpepeembbpncaaRh
open Go Go.Ew Go.Mrg
namespace Go.Proofs.Ytfpepeembbpncaa.E
open Go.IntKind (wrap)
set_option linter.unusedVariables false
set_option linter.unusedSimpArgs false
set_option maxRecDepth 100000
/-! the document's order, and the laws -/
theorem getD_in {l : List O5} {i : Nat} (h : i < l.length) : l.getD i Z5 = l[i] := by simp [List.getD_eq_getElem?_getD, List.getElem?_eq_getElem h]
theorem ahead_spec (a b : O5) : ref16_ahead.F (a, b, ()) = some (lt5 a b, ()) := by
 unfold ref16_ahead.F ref16_ahead.C ref16_ahead.G lt5
 by_cases h : a.2.1 = b.2.1
 ·simp [h]
 ·have : (a.2.1 != b.2.1) = true := by simp [h]
  simp [h, this]
theorem seek_loop {l : List O5} {i : Nat} (hi : i < l.length) (hl : l.length ≤ 1000) {out : List O5} (ho : out.length ≤ 1000) (hs : Srt lt5 out) : ∀ (k : Nat), k ≤ out.length →
  ∃ j, j ≤ k ∧ ref16_Order.L1.F ((l, out.length, (i : Int), (k : Int), ()), ((out, ()), ()), ()) = some ((l, out.length, (i : Int), (j : Int), ()), ((out, ()), ()), ()) ∧ mrg lt5 (out.take k) [l.getD i Z5] = out.take j ++ [l.getD i Z5] ++ (out.take k).drop j := by
 intro k
 induction k with
 | zero =>
  intro hk
  refine ⟨0, by omega, ?_, by simp [mrg_nl]⟩
  unfold ref16_Order.L1.F
  rw [iterU_eq]
  unfold ref16_Order.L1.step
  simp
 | succ k ih =>
  intro hk
  obtain ⟨j, hj, e, hins⟩ := ih (by omega)
  have g0 : ((k + 1 : Nat) : Int) > 0 := by omega
  have g1 : (0 : Int) ≤ (i : Int) ∧ (i : Int) < (l.length : Int) := by omega
  have g2 : (0 : Int) ≤ (k : Int) ∧ (k : Int) < (out.length : Int) := by omega
  have est : ref16_Order.L1.step ref16_ahead.F l out.length (i : Int) ((k + 1 : Nat) : Int) out = if lt5 (l.getD i Z5) (out.getD k Z5) = true then some (Sum.inl ((l, out.length, (i : Int), (k : Int), ()), ((out, ()), ()), ())) else some (Sum.inr ((l, out.length, (i : Int), ((k + 1 : Nat) : Int), ()), ((out, ()), ()), ())) := by
   unfold ref16_Order.L1.step
   rw [show ((k + 1 : Nat) : Int) - 1 = (k : Int) by omega, w64 (n := (k : Int)) (by omega) (by omega)]
   simp only [g0, decide_true, beq_self_eq_true, if_true, if_pos g1, if_pos g2, Int.toNat_natCast, Nat.zero_add]
   exact bind_eq (ahead_spec _ _)
  have hk' : k < out.length := by omega
  have et : out.take (k + 1) = out.take k ++ [out.getD k Z5] := by rw [getD_in hk', List.take_add_one, List.getElem?_eq_getElem hk']; rfl
  have hst : Srt lt5 (out.take k ++ [out.getD k Z5]) := by rw [← et]; exact List.Pairwise.sublist (List.take_sublist _ _) hs
  unfold ref16_Order.L1.F
  rw [iterU_eq]
  simp only []
  rw [est]
  by_cases hlt : lt5 (l.getD i Z5) (out.getD k Z5) = true
  ·rw [if_pos hlt]
   refine ⟨j, by omega, e, ?_⟩
   rw [et, put_behind _ _ _ hlt, hins, List.drop_append_of_le_length (by simp; omega)]
   simp
  ·rw [if_neg hlt]
   refine ⟨k + 1, by omega, rfl, ?_⟩
   rw [et, put_end lt5_swo _ _ _ hst (by simpa using hlt)]
   rw [List.drop_of_length_le (by simp only [List.length_append, List.length_take, List.length_singleton]; omega)]
   simp
theorem rorder_spec {l : List O5} (hl : l.length ≤ 1000) : ref16_Order.F (l, ()) = some (srt lt5 l, ()) := by
 have := iterU_inv (step := fun x => ref16_Order.L0.step ref16_Order.L1.F x.1.1 x.1.2.1 x.2.2.1) (fun a => ∃ i : Nat, i ≤ l.length ∧ a = ((l, (i : Int), ()), (), srt lt5 (l.take i), ()))
  (fun b => b = ((), (), srt lt5 l, ())) (fun a => (l.length - a.1.2.1).toNat) ?_ ((l, (0 : Int), ()), (), [], ()) ⟨0, by omega, rfl⟩
 ·obtain ⟨b, e, rfl⟩ := this
  unfold ref16_Order.F ref16_Order.C ref16_Order.G
  have e' : ref16_Order.L0.F ((l, (0 : Int), ()), (), [], ()) = some ((), (), srt lt5 l, ()) := e
  simp [e']
 ·rintro a ⟨i, hi, rfl⟩
  have hlen : (srt lt5 (l.take i)).length = i := by rw [srt_len, List.length_take]; omega
  unfold ref16_Order.L0.step
  dsimp only
  by_cases h : i < l.length
  ·left
   have h' : (i : Int) < (l.length : Int) := by omega
   have g1 : (0 : Int) ≤ (i : Int) ∧ (i : Int) < (l.length : Int) := by omega
   obtain ⟨j, hj, e, hins⟩ := seek_loop (l := l) h hl (out := srt lt5 (l.take i)) (by omega) (srt_srt lt5_swo _) i (by omega)
   rw [hlen] at e
   rw [if_pos (decide_eq_true h'), hlen, e]
   simp only [Option.bind_some]
   have g2 : (0 : Int) ≤ 0 ∧ (0 : Int) ≤ (j : Int) ∧ (j : Int) ≤ (i : Int) := by omega
   have g3 : (0 : Int) ≤ (j : Int) ∧ (j : Int) ≤ (i : Int) ∧ (i : Int) ≤ (i : Int) := by omega
   have g4 : 0 + (j - 0) + 1 ≤ 268435456 := by omega
   have g5 : 0 + (j - 0) + 1 + (i - j) ≤ 268435456 := by omega
   have g6 : 0 + (j - 0) ≤ 268435456 := by omega
   rw [if_pos g2]
   simp only [if_pos g3, if_pos g1, Int.toNat_natCast, if_pos g4, if_pos g5, if_pos g6]
   rw [w64 (n := (i : Int) + 1) (by omega) (by omega)]
   have efin : srt lt5 (l.take (i + 1)) = (srt lt5 (l.take i)).take j ++ [l.getD i Z5] ++ (srt lt5 (l.take i)).drop j := by
    have : l.take (i + 1) = l.take i ++ [l.getD i Z5] := by rw [getD_in h, List.take_add_one, List.getElem?_eq_getElem h]; rfl
    rw [this, srt_snoc]
    have e3 : (srt lt5 (l.take i)).take i = srt lt5 (l.take i) := List.take_of_length_le (by omega)
    rw [e3] at hins
    exact hins
   generalize srt lt5 (l.take i) = out at *
   have k1 : (out.take j).length = j := by rw [List.length_take]; omega
   have k2 : (out.drop j).length = i - j := by rw [List.length_drop]; omega
   have k3 : ((i + 1 : Nat) : Int) = (i : Int) + 1 := by omega
   have k4 : (0 + (j - 0) + 1 + (i - j)) = i + 1 := by omega
   rw [k4]
   by_cases z : 0 + (j - 0) ≤ 0
   ·obtain rfl : j = 0 := by omega
    rw [if_pos z]
    refine ⟨_, rfl, ⟨i + 1, by omega, ?_⟩, by simp only; omega⟩
    rw [efin, k3]
    simp [List.take_of_length_le (Nat.le_of_eq hlen)]
   ·rw [if_neg z]
    refine ⟨_, rfl, ⟨i + 1, by omega, ?_⟩, by simp only; omega⟩
    rw [efin, k3]
    simp only [List.take_zero, List.drop_zero, List.nil_append, List.take_take, Nat.min_self, List.take_succ_cons, Nat.zero_add, Nat.sub_zero]
    rw [List.take_of_length_le (l := out.take j ++ [l.getD i Z5]) (by simp only [List.length_append, List.length_singleton]; omega), List.take_of_length_le (l := out.drop j) (by omega), List.take_of_length_le (by simp only [List.length_append, List.length_singleton]; omega)]
  ·right
   obtain rfl : i = l.length := by omega
   have h' : ¬ ((l.length : Int) < (l.length : Int)) := by omega
   rw [if_neg (by simp)]
   refine ⟨_, rfl, ?_⟩
   simp
def eq5 (x y : O5) : Bool := (x.1 == y.1 && (x.2.1 == y.2.1 && (x.2.2.1 == y.2.2.1 && (x.2.2.2.1 == y.2.2.2.1 && (x.2.2.2.2 == y.2.2.2.2 && true)))))
theorem eq5_self (x : O5) : eq5 x x = true := by simp [eq5]
theorem Same_spec {l : List O5} (hl : l.length ≤ 268435456) : ref16_Same.F (l, l, ()) = some (true, ()) := by
 have := iterU_inv (step := fun x => ref16_Same.L0.step x.1.1 x.1.2.1 x.1.2.2.1) (fun a => ∃ i : Nat, i ≤ l.length ∧ a = ((l, l, (i : Int), ()), (), ()))
  (fun b => b = Sum.inr ((), (), ())) (fun a => (l.length - a.1.2.2.1).toNat) ?_ ((l, l, (0 : Int), ()), (), ()) ⟨0, by omega, rfl⟩
 ·obtain ⟨b, e, rfl⟩ := this
  unfold ref16_Same.F ref16_Same.C ref16_Same.G
  have e' : ref16_Same.L0.F ((l, l, (0 : Int), ()), (), ()) = some (Sum.inr ((), (), ())) := e
  simp [e']
 ·rintro a ⟨i, hi, rfl⟩
  unfold ref16_Same.L0.step
  by_cases h : i < l.length
  ·left
   have h' : (i : Int) < (l.length : Int) := by omega
   dsimp only
   rw [w64 (n := (i : Int) + 1) (by omega) (by omega)]
   simp only [h', decide_true, if_true, Int.natCast_nonneg, true_and, beq_self_eq_true, Bool.and_self, Bool.not_true, Bool.false_eq_true, if_false]
   exact ⟨_, rfl, ⟨i + 1, by omega, by simp⟩, by simp only; omega⟩
  ·right
   have h' : ¬ (i : Int) < (l.length : Int) := by omega
   simp only [h', decide_false, Bool.false_eq_true, if_false]
   exact ⟨_, rfl, rfl⟩
theorem orders_true (x : O5 × List O5 × Unit) : law16_Orders1.G law16_shown.F stable.F ref16_Order.F ref16_Same.F x = some (true, ()) := by
 obtain ⟨a, r, _⟩ := x
 unfold law16_Orders1.G
 dsimp only
 refine (bind_eq (show law16_shown.F () = some (true, ()) from rfl)).trans ?_
 generalize hL : a :: r = l
 have h1 : 1 ≤ l.length := by rw [← hL]; simp
 by_cases c : l.length > 1000
 ·rw [if_pos (by rw [decide_eq_true_eq]; omega)]
 ·rw [if_neg (by rw [decide_eq_true_eq]; omega)]
  refine (if_pos (by omega)).trans ?_
  refine (if_pos (by omega)).trans ?_
  simp only [List.take_zero, List.drop_zero, List.nil_append, Nat.zero_add, List.take_length]
  refine (bind_eq (stable_spec (l := l) rfl (by omega) h1)).trans ?_
  refine (bind_eq (rorder_spec (by omega))).trans ?_
  dsimp only
  have e : (srt lt5 l).take l.length = srt lt5 l := List.take_of_length_le (by rw [srt_len]; omega)
  rw [e]
  refine (bind_eq (Same_spec (by rw [srt_len]; omega))).trans ?_
  refine (bind_eq (Same_spec (by omega))).trans ?_
  rfl
/-! sorted -/
theorem mrg_perm : ∀ (n : Nat) (l r : List O5), l.length + r.length ≤ n → (mrg lt5 l r).Perm (l ++ r)
 | n, [], r, _ => by rw [mrg_nl]; exact List.Perm.refl _
 | n, a :: l, [], _ => by rw [mrg_nr, List.append_nil]
 | 0, a :: l, b :: r, h => by simp at h
 | n + 1, a :: l, b :: r, h => by
  rw [mrg_cc]
  split
  ·have := mrg_perm n (a :: l) r (by simp at h ⊢; omega)
   refine (this.cons b).trans ?_
   exact List.perm_middle.symm
  ·exact (mrg_perm n l (b :: r) (by simp at h ⊢; omega)).cons a
theorem srt_perm (l : List O5) : (srt lt5 l).Perm l := by
 have key : ∀ (l s : List O5), (l.foldl (fun s x => mrg lt5 s [x]) s).Perm (s ++ l) := by
  intro l
  induction l with
  | nil => intro s; simp
  | cons x l ih =>
   intro s
   rw [List.foldl_cons]
   refine (ih _).trans ?_
   have := (mrg_perm _ s [x] (Nat.le_refl _)).append_right l
   simpa using this
 have := key l []
 rw [List.nil_append] at this
 exact this
theorem srt_self : ∀ (n : Nat) (l : List O5), l.length = n → Srt lt5 l → srt lt5 l = l
 | 0, l, hn, _ => by rw [List.length_eq_zero_iff.1 hn]; rfl
 | n + 1, l, hn, hs => by
  rcases List.eq_nil_or_concat l with q | ⟨t, x, q⟩
  ·rw [q] at hn; cases hn
  ·rw [List.concat_eq_append] at q
   subst q
   have ht : t.length = n := by simpa using hn
   have hst := srt_pre hs
   rw [srt_snoc, srt_self n t ht hst]
   rcases List.eq_nil_or_concat t with q | ⟨s, y, q⟩
   ·subst q; simp [mrg_nl]
   ·rw [List.concat_eq_append] at q
    subst q
    rw [put_end lt5_swo x y s hst ((List.pairwise_append.1 hs).2.2 y (by simp) x (by simp))]
    simp
noncomputable def so1 (x : ((List O5) × Bool × Nat × Int × Int × Int × Int × Unit) × (((List O5) × Unit) × Unit) × Unit) := law16_Sorted1.L1.step x.1.1 x.1.2.1 x.1.2.2.1 x.1.2.2.2.1 x.1.2.2.2.2.1 x.1.2.2.2.2.2.1 x.1.2.2.2.2.2.2.1 x.2.1.1.1
noncomputable def so0 (x : ((List O5) × Bool × Nat × Int × Unit) × (((List O5) × Unit) × Unit) × Unit) := law16_Sorted1.L0.step law16_Sorted1.L1.F x.1.1 x.1.2.1 x.1.2.2.1 x.1.2.2.2.1 x.2.1.1.1
theorem so1_loop (l m : List O5) (z i : Nat) (u : Bool) (hl : l.length = z) (hm : m.length = z) (hz : z ≤ 1000) (hi : i < z) : ∀ (n k a b : Nat), n = z - k → k ≤ z → a ≤ k → b ≤ k →
  iterU so1 ((l, u, z, (i : Int), (a : Int), (b : Int), (k : Int), ()), ((m, ()), ()), ()) = some ((l, u, z, (i : Int), ((a + (m.drop k).countP (fun x => eq5 x (m.getD i Z5)) : Nat) : Int), ((b + (l.drop k).countP (fun x => eq5 x (m.getD i Z5)) : Nat) : Int), ()), ((m, ()), ()), ())
 | 0, k, a, b, hn, hk, ha, hb => by
  have : k = z := by omega
  subst this
  rw [iterU_eq]
  have e : so1 ((l, u, k, (i : Int), (a : Int), (b : Int), (k : Int), ()), ((m, ()), ()), ()) = some (.inr ((l, u, k, (i : Int), (a : Int), (b : Int), ()), ((m, ()), ()), ())) := by
   unfold so1 law16_Sorted1.L1.step
   exact if_neg (by simp)
  rw [e, List.drop_of_length_le (by omega), List.drop_of_length_le (by omega)]
  simp
 | n + 1, k, a, b, hn, hk, ha, hb => by
  rw [iterU_eq]
  have hk' : k < z := by omega
  have em : m.drop k = m.getD k Z5 :: m.drop (k + 1) := by rw [getD_in (by omega)]; exact List.drop_eq_getElem_cons (by omega)
  have el : l.drop k = l.getD k Z5 :: l.drop (k + 1) := by rw [getD_in (by omega)]; exact List.drop_eq_getElem_cons (by omega)
  have e : so1 ((l, u, z, (i : Int), (a : Int), (b : Int), (k : Int), ()), ((m, ()), ()), ()) = some (.inl ((l, u, z, (i : Int), ((a + (if eq5 (m.getD k Z5) (m.getD i Z5) = true then 1 else 0) : Nat) : Int), ((b + (if eq5 (l.getD k Z5) (m.getD i Z5) = true then 1 else 0) : Nat) : Int), ((k + 1 : Nat) : Int), ()), ((m, ()), ()), ())) := by
   unfold so1 law16_Sorted1.L1.step
   dsimp only
   rw [w64 (n := (a : Int) + 1) (by omega) (by omega), w64 (n := (b : Int) + 1) (by omega) (by omega), w64 (n := (k : Int) + 1) (by omega) (by omega), Int.toNat_natCast, Int.toNat_natCast, Nat.zero_add, Nat.zero_add]
   refine (if_pos (by rw [decide_eq_true_eq]; omega)).trans ?_
   refine (if_pos (by omega)).trans ?_
   refine (if_pos (by omega)).trans ?_
   by_cases c : eq5 (m.getD k Z5) (m.getD i Z5) = true
   ·refine (if_pos c).trans ?_
    refine (if_pos (by omega)).trans ?_
    refine (if_pos (by omega)).trans ?_
    by_cases d : eq5 (l.getD k Z5) (m.getD i Z5) = true
    ·refine (if_pos d).trans ?_
     rw [if_pos c, if_pos d]; rfl
    ·refine (if_neg d).trans ?_
     rw [if_pos c, if_neg d]; rfl
   ·refine (if_neg c).trans ?_
    refine (if_pos (by omega)).trans ?_
    refine (if_pos (by omega)).trans ?_
    by_cases d : eq5 (l.getD k Z5) (m.getD i Z5) = true
    ·refine (if_pos d).trans ?_
     rw [if_neg c, if_pos d]; rfl
    ·refine (if_neg d).trans ?_
     rw [if_neg c, if_neg d]; rfl
  rw [e]
  dsimp only
  rw [so1_loop l m z i u hl hm hz hi n (k + 1) _ _ (by omega) (by omega) (by split <;> omega) (by split <;> omega), em, el, List.countP_cons, List.countP_cons]
  simp only [Nat.add_assoc, Nat.add_comm, Nat.add_left_comm]
theorem so0_loop (l m : List O5) (z : Nat) (u : Bool) (hl : l.length = z) (hm : m.length = z) (hz : z ≤ 1000) (hp : m.Perm l) (hs : Srt lt5 m) : ∀ (n i : Nat), n = z - i → i ≤ z →
  iterU so0 ((l, u, z, (i : Int), ()), ((m, ()), ()), ()) = some (.inr ((u, z, ()), ((m, ()), ()), ()))
 | 0, i, hn, hi => by
  have : i = z := by omega
  subst this
  rw [iterU_eq]
  have e : so0 ((l, u, i, (i : Int), ()), ((m, ()), ()), ()) = some (.inr (.inr ((u, i, ()), ((m, ()), ()), ()))) := by
   unfold so0 law16_Sorted1.L0.step
   exact if_neg (by simp)
  rw [e]
 | n + 1, i, hn, hi => by
  rw [iterU_eq]
  have hi' : i < z := by omega
  have hc : (m.drop 0).countP (fun x => eq5 x (m.getD i Z5)) = (l.drop 0).countP (fun x => eq5 x (m.getD i Z5)) := hp.countP_eq _
  have hin := so1_loop l m z i u hl hm hz hi' z 0 0 0 (by omega) (by omega) (by omega) (by omega)
  rw [hc] at hin
  have e : so0 ((l, u, z, (i : Int), ()), ((m, ()), ()), ()) = some (.inl ((l, u, z, ((i + 1 : Nat) : Int), ()), ((m, ()), ()), ())) := by
   unfold so0 law16_Sorted1.L0.step
   dsimp only
   refine (if_pos (by rw [decide_eq_true_eq]; omega)).trans ?_
   refine (bind_eq (show law16_Sorted1.L1.F _ = _ from hin)).trans ?_
   dsimp only
   refine (if_pos (by simp)).trans ?_
   rw [w64 (n := (i : Int) + 1) (by omega) (by omega), show (i : Int) + 1 = ((i + 1 : Nat) : Int) by omega]
   by_cases c : 0 < i
   ·refine (if_pos (by simp; omega)).trans ?_
    rw [w64 (n := (i : Int) - 1) (by omega) (by omega), show (i : Int) - 1 = ((i - 1 : Nat) : Int) by omega, Int.toNat_natCast, Int.toNat_natCast]
    rw [show 0 + i = i by omega, show 0 + (i - 1) = i - 1 by omega]
    have hlt : lt5 (m.getD i Z5) (m.getD (i - 1) Z5) = false := by
     rw [getD_in (by omega), getD_in (by omega)]
     exact List.pairwise_iff_getElem.1 hs (i - 1) i (by omega) (by omega) (by omega)
    unfold lt5 at hlt
    simp only [Bool.or_eq_false_iff, Bool.and_eq_false_iff, decide_eq_false_iff_not] at hlt
    refine (if_pos (by omega)).trans ?_
    refine (if_pos (by omega)).trans ?_
    refine (if_pos (by simp only [beq_iff_eq, decide_eq_false_iff_not]; exact hlt.1)).trans ?_
    refine (if_pos (by omega)).trans ?_
    refine (if_pos (by omega)).trans ?_
    by_cases d : (m.getD i Z5).2.1 = (m.getD (i - 1) Z5).2.1
    ·refine (if_pos (by rw [beq_iff_eq, beq_iff_eq]; exact d)).trans ?_
     refine (if_pos (by omega)).trans ?_
     refine (if_pos (by omega)).trans ?_
     exact if_neg (by rw [decide_eq_true_eq]; exact hlt.2.resolve_left (fun h => h d))
    ·exact if_neg (by rw [beq_iff_eq, beq_iff_eq]; exact d)
   ·exact if_neg (by simp; omega)
  rw [e]
  exact so0_loop l m z u hl hm hz hp hs n (i + 1) (by omega) (by omega)
theorem sorted_true (x : O5 × List O5 × Unit) : law16_Sorted1.G law16_shown.F stable.F ref16_Same.F law16_Sorted1.L0.F x = some (true, ()) := by
 obtain ⟨a, r, _⟩ := x
 unfold law16_Sorted1.G
 dsimp only
 refine (bind_eq (show law16_shown.F () = some (true, ()) from rfl)).trans ?_
 generalize hL : a :: r = l
 have h1 : 1 ≤ l.length := by rw [← hL]; simp
 by_cases c : l.length > 300
 ·rw [if_pos (by rw [decide_eq_true_eq]; omega)]
 ·rw [if_neg (by rw [decide_eq_true_eq]; omega)]
  refine (if_pos (by omega)).trans ?_
  simp only [List.take_zero, List.drop_zero, List.nil_append, Nat.zero_add, List.take_length]
  refine (bind_eq (stable_spec (l := l) rfl (by omega) h1)).trans ?_
  dsimp only
  refine (if_neg (by simp)).trans ?_
  have hlen : (srt lt5 l).length = l.length := srt_len l
  refine (bind_eq (show law16_Sorted1.L0.F _ = _ from so0_loop l (srt lt5 l) l.length true rfl hlen (by omega) (srt_perm l) (srt_srt lt5_swo l) l.length 0 (by omega) (by omega))).trans ?_
  dsimp only [Sum.elim_inr]
  refine (if_pos h1).trans ?_
  refine (if_neg (by omega)).trans ?_
  refine (if_pos (by omega)).trans ?_
  refine (if_pos h1).trans ?_
  have e : (srt lt5 l).take l.length = srt lt5 l := List.take_of_length_le (by omega)
  rw [e]
  refine (bind_eq (stable_spec (l := srt lt5 l) hlen (by omega) h1)).trans ?_
  dsimp only
  rw [srt_self _ (srt lt5 l) rfl (srt_srt lt5_swo l), e]
  refine (bind_eq (Same_spec (by omega))).trans ?_
  rfl
/-! the laws -/
noncomputable def tblN : FuncId → Option Func
 | 8 => some Try.f8
 | 9 => some Try.f9
 | 11 => some Try.f11
 | 20 => some Try.f20
 | 21 => some Try.f21
 | 30 => some Try.f30
 | 31 => some Try.f31
 | 37 => some Try.f37
 | 39 => some Try.f39
 | _ => none
theorem tblN_ok : TblOK Try.prog tblN := by
 intro g fn h
 unfold tblN at h
 split at h
 ·simp only [Option.some.injEq] at h; subst h; exact ⟨Try.func8, by kernel_rfl⟩
 ·simp only [Option.some.injEq] at h; subst h; exact ⟨Try.func9, by kernel_rfl⟩
 ·simp only [Option.some.injEq] at h; subst h; exact ⟨Try.func11, by kernel_rfl⟩
 ·simp only [Option.some.injEq] at h; subst h; exact ⟨Try.func20, by kernel_rfl⟩
 ·simp only [Option.some.injEq] at h; subst h; exact ⟨Try.func21, by kernel_rfl⟩
 ·simp only [Option.some.injEq] at h; subst h; exact ⟨Try.func30, by kernel_rfl⟩
 ·simp only [Option.some.injEq] at h; subst h; exact ⟨Try.func31, by kernel_rfl⟩
 ·simp only [Option.some.injEq] at h; subst h; exact ⟨Try.func37, by kernel_rfl⟩
 ·simp only [Option.some.injEq] at h; subst h; exact ⟨Try.func39, by kernel_rfl⟩
 ·simp at h
noncomputable def knNil {P : Program} (g : FuncId) (t : Tag) (h1 : PureE P g (fun c : Nat => [.one (.c (.v (.slice none 0 c)))]) [.im t] fun _ => some ([], ())) (h2 : PureE P g (fun c : Addr × Nat => [.one (.c (.v (.slice (some c.1) 0 c.2)))]) [.im t] fun _ => some ([], ())) : Kn P where
 g := g
 run args h k := match args with
  | [.one (.c (.v (.slice _ 0 _)))] => k (.one (.c (.im t []))) h
  | [.one (.c (.r _ _ _ _ 0 _))] => k (.one (.c (.im t []))) h
  | [.one (.c (.im _ []))] => k (.one (.c (.im t []))) h
  | _ => none
 ok args h k r he := by
  have key : ∀ (S : Stay) (ρ : Rho) (w : World) (A0 : Option Addr) (c : Nat), Rel S ρ h w → Calls P g #[.slice A0 0 c] w fun e w' => ∃ S' ρ' V, e = .returned V ∧ (AV.one (.c (.im t []))).R S' ρ' V ∧ Rel S' ρ' h w' ∧ Frx S S' ρ ρ' w w' := by
   intro S ρ w A0 c hr
   have fin : ∀ {e : Ending} {w' : World}, (∃ S' V, e = .returned V ∧ (resOf [.im t] (([] : List t.T), ())).R S' [] V ∧ Rel S' [] [] w' ∧ Frx (all w) S' [] [] w w') → ∃ S' ρ' V, e = .returned V ∧ (AV.one (.c (.im t []))).R S' ρ' V ∧ Rel S' ρ' h w' ∧ Frx S S' ρ ρ' w w' := by
    rintro e w' ⟨S', V, rfl, rV, hr', hf'⟩
    obtain ⟨g1, g2⟩ := hr.away hf'.os hf'.tape hf'.output hf'.size fun k hk => hf'.block k hk (by simp [nums])
    refine ⟨S, ρ, V, rfl, ?_, g1, g2⟩
    obtain ⟨A, c, e, hc, _⟩ := rV
    exact ⟨A, c, e, hc, fun j x hj => by simp at hj⟩
   cases A0 with
   | none => exact ((h1 c _ rfl).2 (all w) w [_] (Rel.nothing w) ⟨⟨rfl, rfl⟩, trivial⟩).mono fun e w' q => fin q
   | some a => exact ((h2 (a, c) _ rfl).2 (all w) w [_] (Rel.nothing w) ⟨⟨rfl, rfl⟩, trivial⟩).mono fun e w' q => fin q
  split at he
  ·refine ⟨_, h, he, Ext.refl _ _, Nat.le_refl _, (h1 0 _ rfl).1, fun S ρ w A hr hA => ?_⟩
   match A, hA with
   | [V], hA =>
    obtain ⟨rfl, _⟩ := hA.1
    exact key S ρ w _ _ hr
  ·refine ⟨_, h, he, Ext.refl _ _, Nat.le_refl _, (h1 0 _ rfl).1, fun S ρ w A hr hA => ?_⟩
   match A, hA with
   | [V], hA =>
    obtain ⟨o, tb, _, _, _, hV⟩ := hA.1
    rcases hV with ⟨bb, c, _, rfl, _⟩ | ⟨A, rfl, _⟩
    ·exact key S ρ w _ _ hr
    ·exact key S ρ w _ _ hr
  ·refine ⟨_, h, he, Ext.refl _ _, Nat.le_refl _, (h1 0 _ rfl).1, fun S ρ w A hr hA => ?_⟩
   match A, hA with
   | [V], hA =>
    obtain ⟨A, c, rfl, _⟩ := hA.1
    exact key S ρ w _ _ hr
  ·simp at he
abbrev TO : Tag := ⟨.i .u8, [.i .u8, .i .u8, .i .u8, .i .u8]⟩
theorem order_nil1 : PureE Try.prog 20 (fun c : Nat => [.one (.c (.v (.slice none 0 c)))]) [.im TO] fun _ => some ([], ()) :=
 fnE_gen tblN_ok (ks := []) (ls := []) (n := 20) (d := 8) (by rfl) (fun c => by kernel_rfl)
theorem order_nil2 : PureE Try.prog 20 (fun c : Addr × Nat => [.one (.c (.v (.slice (some c.1) 0 c.2)))]) [.im TO] fun _ => some ([], ()) :=
 fnE_gen tblN_ok (ks := []) (ls := []) (n := 20) (d := 8) (by rfl) (fun c => by kernel_rfl)
noncomputable def tblM : FuncId → Option Func
 | 8 => some Try.f8
 | 9 => some Try.f9
 | 11 => some Try.f11
 | 21 => some Try.f21
 | _ => none
theorem tblM_ok : TblOK Try.prog tblM := by
 intro g fn h
 unfold tblM at h
 split at h
 ·simp only [Option.some.injEq] at h; subst h; exact ⟨Try.func8, by kernel_rfl⟩
 ·simp only [Option.some.injEq] at h; subst h; exact ⟨Try.func9, by kernel_rfl⟩
 ·simp only [Option.some.injEq] at h; subst h; exact ⟨Try.func11, by kernel_rfl⟩
 ·simp only [Option.some.injEq] at h; subst h; exact ⟨Try.func21, by kernel_rfl⟩
 ·simp at h
noncomputable abbrev ksN : List (Kn Try.prog) := [knView (P := Try.prog) 10 law16_shown.as law16_shown.rs law16_shown.F law16_shown.ok (by rfl) (by rfl) (by rfl), knNil 20 TO order_nil1 order_nil2]
theorem orders_nil1 : PureE Try.prog 8 (fun c : Nat => [.one (.c (.v (.slice none 0 c)))]) [.k .b] fun _ => some (true, ()) :=
 fnE_gen tblM_ok (ks := ksN) (ls := []) (n := 20) (d := 8) (by rfl) (fun c => by kernel_rfl)
theorem orders_nil2 : PureE Try.prog 8 (fun c : Addr × Nat => [.one (.c (.v (.slice (some c.1) 0 c.2)))]) [.k .b] fun _ => some (true, ()) :=
 fnE_gen tblM_ok (ks := ksN) (ls := []) (n := 20) (d := 8) (by rfl) (fun c => by kernel_rfl)
theorem sorted_nil1 : PureE Try.prog 9 (fun c : Nat => [.one (.c (.v (.slice none 0 c)))]) [.k .b] fun _ => some (true, ()) :=
 fnE_gen tblN_ok (ks := ksN) (ls := []) (n := 20) (d := 8) (by rfl) (fun c => by kernel_rfl)
theorem sorted_nil2 : PureE Try.prog 9 (fun c : Addr × Nat => [.one (.c (.v (.slice (some c.1) 0 c.2)))]) [.k .b] fun _ => some (true, ()) :=
 fnE_gen tblM_ok (ks := ksN) (ls := []) (n := 20) (d := 8) (by rfl) (fun c => by kernel_rfl)
theorem objectsOrders_walk : LawOK Try.prog 8 law16_Orders1.as :=
 .of (pure_list law16_Orders1.ok orders_nil1 orders_nil2) fun x _ => by
  obtain ⟨l, _⟩ := x
  cases l with
  | nil => rfl
  | cons a l => exact orders_true _
theorem objectsSorted_walk : LawOK Try.prog 9 law16_Sorted1.as :=
 .of (pure_list law16_Sorted1.ok sorted_nil1 sorted_nil2) fun x _ => by
  obtain ⟨l, _⟩ := x
  cases l with
  | nil => rfl
  | cons a l => exact sorted_true _
end Go.Proofs.Ytfpepeembbpncaa.E
