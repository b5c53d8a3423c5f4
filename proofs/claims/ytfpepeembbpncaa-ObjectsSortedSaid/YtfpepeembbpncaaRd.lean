/- Functions of the program as plain Lean, and what they come to. Conditions: none. -/
import Derived.Test.YtfpepeembbpncaaEwD
import Derived.Test.YtfpepeembbpncaaRb
import Derived.Test.YtfpepeembbpncaaRc
import Derived.Test.YtfpepeembbpncaaStb
open Go Go.Ew Go.Mrg
namespace Go.Proofs.Ytfpepeembbpncaa.E
open Go.IntKind (wrap)
set_option linter.unusedVariables false
set_option linter.unusedSimpArgs false
set_option maxRecDepth 100000
/-! what the insertion sort does -/
def lt5 (a b : O5) : Bool := decide (a.2.1 < b.2.1) || (decide (a.2.1 = b.2.1) && decide (a.2.2.2.2 < b.2.2.2.2))
theorem lt5_swo : SWO lt5 where
 asy {a b} h := by
  unfold lt5 at *
  simp only [Bool.or_eq_true, Bool.and_eq_true, decide_eq_true_eq, Bool.or_eq_false_iff, Bool.and_eq_false_iff, decide_eq_false_iff_not] at *
  omega
 neg {a b c} h := by
  unfold lt5 at *
  simp only [Bool.or_eq_true, Bool.and_eq_true, decide_eq_true_eq] at *
  omega
theorem cmp_spec (a b : Int) : cmp_Compare.F (a, b, ()) = some (if a < b then -1 else if b < a then 1 else 0, ()) := by
 unfold cmp_Compare.F cmp_Compare.C cmp_Compare.G
 by_cases h : a < b
 ·simp [h]
 ·by_cases h2 : b < a <;> simp [h, h2]
theorem ord_spec (a b : O5) : ∃ c, order1.F (a, b, ()) = some (c, ()) ∧ decide (c < 0) = lt5 a b := by
 unfold order1.F order1.C order1.G
 simp only [cmp_spec, Option.bind_some]
 unfold lt5
 by_cases h : a.2.1 < b.2.1
 ·exact ⟨-1, by simp [h], by simp [h]⟩
 ·by_cases h2 : b.2.1 < a.2.1
  ·exact ⟨1, by simp [h, h2], by simp [h]; omega⟩
  ·have q : a.2.1 = b.2.1 := by omega
   by_cases h3 : a.2.2.2.2 < b.2.2.2.2
   ·exact ⟨-1, by simp [q, h3], by simp [q, h3]⟩
   ·by_cases h4 : b.2.2.2.2 < a.2.2.2.2
    ·exact ⟨1, by simp [q, h3, h4], by simp [q, h3]⟩
    ·exact ⟨0, by simp [q, h3, h4], by simp [q, h3]⟩
abbrev Z5 : O5 := ((0 : Int), (0 : Int), (0 : Int), (0 : Int), (0 : Int))
noncomputable def in1 (x : (Nat × Int × Int × Unit × Int × Int × Unit) × (((List O5) × Unit) × Unit) × Unit) := insertion.L1.step order1.F x.1.1 x.1.2.1 x.1.2.2.1 x.1.2.2.2.2.1 x.1.2.2.2.2.2.1 x.2.1.1.1
noncomputable def in0 (x : (Nat × Int × Int × Unit × Int × Unit) × (((List O5) × Unit) × Unit) × Unit) := insertion.L0.step insertion.L1.F x.1.1 x.1.2.1 x.1.2.2.1 x.1.2.2.2.2.1 x.2.1.1.1
theorem in1_eq : insertion.L1.F = iterU in1 := rfl
theorem in0_eq : insertion.L0.F = iterU in0 := rfl
theorem in1_step {a b i : Int} {n : Nat} {m : List O5} {k : Nat} (hn : m.length = n) (hk : k < n) (h1 : a < (k : Int)) (h0 : 0 ≤ a) (hb : n ≤ 268435456) :
  in1 ((n, a, b, (), i, (k : Int), ()), ((m, ()), ()), ()) = if lt5 (m.getD k Z5) (m.getD (k - 1) Z5) = true
   then some (Sum.inl ((n, a, b, (), i, ((k - 1 : Nat) : Int), ()), (((m.set k (m.getD (k - 1) Z5)).set (k - 1) (m.getD k Z5), ()), ()), ()))
   else some (Sum.inr ((n, a, b, (), i, ()), ((m, ()), ()), ())) := by
 unfold in1 insertion.L1.step
 dsimp only
 have hk0 : 0 < k := by omega
 rw [w64 (n := (k : Int) - 1) (by omega) (by omega), show (k : Int) - 1 = ((k - 1 : Nat) : Int) by omega]
 have g1 : (k : Int) > a := h1
 have g2 : (0 : Int) ≤ (k : Int) ∧ (k : Int) < (n : Int) := by omega
 have g3 : (0 : Int) ≤ ((k - 1 : Nat) : Int) ∧ ((k - 1 : Nat) : Int) < (n : Int) := by omega
 obtain ⟨c, q1, q2⟩ := ord_spec (m.getD k Z5) (m.getD (k - 1) Z5)
 simp only [g1, decide_true, beq_self_eq_true, if_true, if_pos g2, if_pos g3, Int.toNat_natCast, Nat.zero_add]
 refine (bind_eq q1).trans ?_
 simp only [q2]
theorem in1_end {a b i j : Int} {n : Nat} {m : List O5} (h1 : ¬ a < j) :
  in1 ((n, a, b, (), i, j, ()), ((m, ()), ()), ()) = some (Sum.inr ((n, a, b, (), i, ()), ((m, ()), ()), ())) := by
 unfold in1 insertion.L1.step
 have g1 : ¬ j > a := h1
 simp [g1]
theorem getD_mid {p q : List O5} {x d : O5} : (p ++ x :: q).getD p.length d = x := by simp [List.getD_eq_getElem?_getD]
theorem srt_pre {t : List O5} {y : O5} (h : Srt lt5 (t ++ [y])) : Srt lt5 t := (List.pairwise_append.1 h).1
theorem in1_loop {b i : Int} {p : List O5} {x : O5} : ∀ (n : Nat) (t : List O5), t.length = n → Srt lt5 t → ∀ (u : List O5) (z : Nat), z = (p ++ t ++ x :: u).length → z ≤ 268435456 →
  iterU in1 ((z, (p.length : Int), b, (), i, ((p.length + t.length : Nat) : Int), ()), ((p ++ t ++ x :: u, ()), ()), ()) =
   some ((z, (p.length : Int), b, (), i, ()), ((p ++ mrg lt5 t [x] ++ u, ()), ()), ()) := by
 intro n
 induction n with
 | zero =>
  intro t ht hs u z hz hu
  obtain rfl := List.length_eq_zero_iff.1 ht
  rw [iterU_eq]
  simp only [List.length_nil, Nat.add_zero]
  rw [in1_end (by omega)]
  simp [mrg_nl]
 | succ n ih =>
  intro t ht hst u z hz hu
  obtain ⟨s, y, rfl⟩ : ∃ s y, t = s ++ [y] := by
   rcases List.eq_nil_or_concat t with rfl | ⟨s, y, e⟩
   ·simp at ht
   ·exact ⟨s, y, by simpa using e⟩
  have hs : s.length = n := by simpa using ht
  rw [iterU_eq]
  have hz' : z = p.length + n + 2 + u.length := by rw [hz]; simp [hs]; omega
  rw [in1_step hz.symm (by simp; omega) (by simp; omega) (by omega) hu]
  have e1 : (p ++ (s ++ [y]) ++ x :: u).getD (p.length + (s ++ [y]).length) Z5 = x := by
   rw [← List.length_append]; exact getD_mid
  have e2 : (p ++ (s ++ [y]) ++ x :: u).getD (p.length + (s ++ [y]).length - 1) Z5 = y := by
   have : p ++ (s ++ [y]) ++ x :: u = (p ++ s) ++ y :: x :: u := by simp
   rw [this, show p.length + (s ++ [y]).length - 1 = (p ++ s).length by simp only [List.length_append, List.length_singleton]; omega]; exact getD_mid
  rw [e1, e2]
  by_cases hlt : lt5 x y = true
  ·rw [if_pos hlt, put_behind x y s hlt]
   dsimp only
   have e3 : ((p ++ (s ++ [y]) ++ x :: u).set (p.length + (s ++ [y]).length) y).set (p.length + (s ++ [y]).length - 1) x = p ++ s ++ x :: (y :: u) := by
    have : p ++ (s ++ [y]) ++ x :: u = (p ++ s) ++ y :: x :: u := by simp
    rw [this, show p.length + (s ++ [y]).length - 1 = (p ++ s).length by simp only [List.length_append, List.length_singleton]; omega, show p.length + (s ++ [y]).length = (p ++ s).length + 1 by simp only [List.length_append, List.length_singleton]; omega]
    rw [List.set_append_right _ _ (by omega), List.set_append_right _ _ (by omega)]
    simp
   have e5 : p.length + (s ++ [y]).length - 1 = p.length + s.length := by simp only [List.length_append, List.length_singleton]; omega
   rw [e3, e5]
   have := ih s hs (srt_pre hst) (y :: u) z (by rw [hz]; simp) hu
   rw [this]
   simp
  ·rw [if_neg hlt, put_end lt5_swo x y s hst (by simpa using hlt)]
   simp
theorem in0_loop {p q : List O5} : ∀ (k : Nat) (d r : List O5) (z : Nat) (e : Int), r.length = k → z = (p ++ d ++ r ++ q).length → e = ((p.length + (d ++ r).length : Nat) : Int) → z ≤ 268435456 →
  iterU in0 ((z, (p.length : Int), e, (), ((p.length + d.length : Nat) : Int), ()), ((p ++ srt lt5 d ++ r ++ q, ()), ()), ()) =
   some ((), ((p ++ srt lt5 (d ++ r) ++ q, ()), ()), ()) := by
 intro k
 induction k with
 | zero =>
  intro d r z e hr hz he hl
  obtain rfl := List.length_eq_zero_iff.1 hr
  rw [iterU_eq]
  unfold in0 insertion.L0.step
  subst he
  simp
 | succ k ih =>
  intro d r z e hr hz he hl
  obtain ⟨x, r, rfl⟩ : ∃ x r', r = x :: r' := by
   cases r with
   | nil => simp at hr
   | cons x r => exact ⟨x, r, rfl⟩
  have hr' : r.length = k := by simpa using hr
  have hz' : z = p.length + d.length + (r.length + 1) + q.length := by rw [hz]; simp; omega
  have he' : e = ((p.length + d.length + (r.length + 1) : Nat) : Int) := by rw [he]; simp; omega
  rw [iterU_eq]
  have hin := in1_loop (b := e) (i := ((p.length + d.length : Nat) : Int)) (p := p) (x := x) (srt lt5 d).length (srt lt5 d) rfl (srt_srt lt5_swo d) (r ++ q) z (by rw [hz']; simp [srt_len]; omega) hl
  rw [srt_len] at hin
  have hst : in0 ((z, (p.length : Int), e, (), ((p.length + d.length : Nat) : Int), ()), ((p ++ srt lt5 d ++ (x :: r) ++ q, ()), ()), ()) = some (Sum.inl ((z, (p.length : Int), e, (), ((p.length + (d ++ [x]).length : Nat) : Int), ()), ((p ++ srt lt5 (d ++ [x]) ++ r ++ q, ()), ()), ())) := by
   unfold in0 insertion.L0.step
   dsimp only
   refine (if_pos (by rw [decide_eq_true_eq]; omega)).trans ?_
   rw [in1_eq]
   have e1 : p ++ srt lt5 d ++ (x :: r) ++ q = p ++ srt lt5 d ++ x :: (r ++ q) := by simp
   rw [e1]
   refine (bind_eq hin).trans ?_
   dsimp only
   rw [w64 (n := ((p.length + d.length : Nat) : Int) + 1) (by omega) (by omega), srt_snoc]
   simp
   omega
  rw [hst]
  dsimp only
  have := ih (d ++ [x]) r z e hr' (by rw [hz]; simp) (by rw [he]; simp) hl
  rw [this]
  simp
theorem ins_spec {l : List O5} {z a b : Nat} (hz : l.length = z) (hl : z ≤ 268435456) (h1 : a ≤ b) (h2 : b ≤ z) :
  insertion.F z ((a : Int), (b : Int), ()) (l, ()) = some ((), (insG lt5 l a b, ())) := by
 unfold insertion.F insertion.G
 dsimp only
 rw [w64 (n := (a : Int) + 1) (by omega) (by omega), in0_eq]
 have hp : (l.take a).length = a := by rw [List.length_take]; omega
 by_cases c : a < b
 ·have e : l.drop a = l[a] :: l.drop (a + 1) := List.drop_eq_getElem_cons (by omega)
  have hq := in0_loop (p := l.take a) (q := l.drop b) (b - a - 1) [l[a]] ((l.drop (a + 1)).take (b - a - 1)) z (b : Int) (by rw [List.length_take, List.length_drop]; omega) (by simp; omega) (by simp; omega) hl
  have e1 : srt lt5 [l[a]] = [l[a]] := by simp [srt, mrg_nl]
  have e2 : l.take a ++ [l[a]] ++ (l.drop (a + 1)).take (b - a - 1) ++ l.drop b = l := by
   have h3 : (l.drop (a + 1)).take (b - a - 1) ++ l.drop b = l.drop (a + 1) := by
    have := List.take_append_drop (b - a - 1) (l.drop (a + 1))
    rw [List.drop_drop, show a + 1 + (b - a - 1) = b by omega] at this
    exact this
   rw [List.append_assoc, h3]
   simp
  have e3 : [l[a]] ++ (l.drop (a + 1)).take (b - a - 1) = (l.drop a).take (b - a) := by
   rw [e, List.singleton_append, show b - a = (b - a - 1) + 1 by omega, List.take_succ_cons, Nat.add_sub_cancel]
  rw [e1, e2, e3, hp, show ((a + [l[a]].length : Nat) : Int) = (a : Int) + 1 by simp] at hq
  refine (bind_eq hq).trans ?_
  unfold insG
  simp
 ·have : a = b := by omega
  subst this
  have e : iterU in0 ((z, (a : Int), (a : Int), (), (a : Int) + 1, ()), ((l, ()), ()), ()) = some ((), ((l, ()), ()), ()) := by
   rw [iterU_eq]
   unfold in0 insertion.L0.step
   dsimp only
   rw [if_neg (by rw [decide_eq_true_eq]; omega)]
  refine (bind_eq e).trans ?_
  unfold insG
  have : srt lt5 ([] : List O5) = [] := rfl
  simp [this]
end Go.Proofs.Ytfpepeembbpncaa.E
