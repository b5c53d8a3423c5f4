/- Functions of the program as plain Lean, and what they come to. Conditions: none. -/
import Derived.Test.YtfpepeembbpncaaEwD
import Derived.Test.YtfpepeembbpncaaSmg
/- symMerge comes to the stable merge. Conditions: none. -/
namespace Go.Mrg
variable {α : Type} {lt : α → α → Bool}
theorem ix_L {P L R Q : List α} {c : Nat} (h1 : P.length ≤ c) (h2 : c < P.length + L.length) : (P ++ (L ++ (R ++ Q)))[c]? = L[c - P.length]? := by
 rw [List.getElem?_append_right h1, List.getElem?_append_left (by omega)]
theorem ix_R {P L R Q : List α} {c : Nat} (h1 : P.length + L.length ≤ c) (h2 : c < P.length + L.length + R.length) : (P ++ (L ++ (R ++ Q)))[c]? = R[c - P.length - L.length]? := by
 rw [List.getElem?_append_right (by omega), List.getElem?_append_right (by omega), List.getElem?_append_left (by omega)]
theorem last_take {l : List α} {k : Nat} {y : α} (h : (l.take k).getLast? = some y) : 0 < k ∧ k - 1 < l.length ∨ 0 < k ∧ l.length ≤ k - 1 := by
 rcases Nat.eq_zero_or_pos k with q | q
 ·rw [q] at h; simp at h
 ·omega
theorem last_take' {l : List α} {k : Nat} (hk : k ≤ l.length) {y : α} (h : (l.take k).getLast? = some y) : 0 < k ∧ l[k - 1]? = some y := by
 rcases Nat.eq_zero_or_pos k with q | q
 ·rw [q] at h; simp at h
 ·refine ⟨q, ?_⟩
  rw [List.getLast?_eq_getElem?, List.length_take, Nat.min_eq_left hk, List.getElem?_take_of_lt (by omega)] at h
  exact h
theorem head_drop' {l : List α} {k : Nat} {y : α} (h : (l.drop k).head? = some y) : k < l.length ∧ l[k]? = some y := by
 rw [List.head?_drop] at h
 exact ⟨(List.getElem?_eq_some_iff.1 h).1, h⟩
theorem at2_of {l : List α} {i j : Nat} {x y : α} (h1 : l[i]? = some x) (h2 : l[j]? = some y) : at2 lt l i j = lt x y := by
 unfold at2; rw [h1, h2]
theorem sym_at (H : SWO lt) : ∀ (f : Nat) (P L R Q : List α) (a m b : Nat), P.length = a → a + L.length = m → m + R.length = b → 1 ≤ L.length → 1 ≤ R.length → Srt lt L → Srt lt R → L.length + R.length ≤ f →
  symG lt f (P ++ (L ++ (R ++ Q))) a m b = P ++ (mrg lt L R ++ Q)
 | 0, P, L, R, Q, a, m, b, _, _, _, h4, _, _, _, h8 => by omega
 | f + 1, P, L, R, Q, a, m, b, ha, hm, hb, hL1, hR1, hL, hR, hf => by
  subst ha
  unfold symG
  by_cases c1 : m - P.length = 1
  ·rw [if_pos c1]
   dsimp only
   obtain ⟨s1, s2, s3, s4⟩ := bsr_spec (fun h => at2 lt (P ++ (L ++ (R ++ Q))) h P.length) m b (b - m) m b (Nat.le_refl _) (Nat.le_refl _) (by omega) (Nat.le_refl _) (.inl rfl) (.inl rfl)
   generalize bsr (fun h => at2 lt (P ++ (L ++ (R ++ Q))) h P.length) (b - m) m b = i at s1 s2 s3 s4 ⊢
   obtain ⟨x, rfl⟩ : ∃ x, L = [x] := List.length_eq_one_iff.1 (by omega)
   have hx : (P ++ ([x] ++ (R ++ Q)))[P.length]? = some x := by rw [ix_L (Nat.le_refl _) (by simp), Nat.sub_self]; rfl
   have e := mrg_one_l H (x := x) (R1 := R.take (i - m)) (R2 := R.drop (i - m)) (by rw [List.take_append_drop]; exact hR) (fun y hy => by
    obtain ⟨k1, k2⟩ := last_take' (by omega) hy
    have hq := s3.resolve_left (by omega)
    have : (P ++ ([x] ++ (R ++ Q)))[i - 1]? = some y := by rw [ix_R (by simp at hm ⊢; omega) (by simp at hm ⊢; omega), ← k2]; congr 1; simp at hm ⊢; omega
    rw [at2_of this hx] at hq; exact hq) (fun y hy => by
    obtain ⟨k1, k2⟩ := head_drop' hy
    have hq := s4.resolve_left (by omega)
    have : (P ++ ([x] ++ (R ++ Q)))[i]? = some y := by rw [ix_R (by simp at hm ⊢; omega) (by simp at hm ⊢; omega), ← k2]; congr 1; simp at hm ⊢; omega
    rw [at2_of this hx] at hq; exact hq)
   rw [List.take_append_drop] at e
   have mv := mvR_at (R.take (i - m)) P (R.drop (i - m) ++ Q) x
   have l1 : (R.take (i - m)).length = i - 1 - P.length := by rw [List.length_take]; omega
   rw [l1, ← List.append_assoc (R.take _), List.take_append_drop] at mv
   rw [show P ++ ([x] ++ (R ++ Q)) = P ++ (x :: (R ++ Q)) from rfl, mv, e]
   simp
  rw [if_neg c1]
  by_cases c2 : b - m = 1
  ·rw [if_pos c2]
   dsimp only
   obtain ⟨s1, s2, s3, s4⟩ := bsr_spec (fun h => !at2 lt (P ++ (L ++ (R ++ Q))) m h) P.length m (m - P.length) P.length m (Nat.le_refl _) (Nat.le_refl _) (by omega) (Nat.le_refl _) (.inl rfl) (.inl rfl)
   generalize bsr (fun h => !at2 lt (P ++ (L ++ (R ++ Q))) m h) (m - P.length) P.length m = i at s1 s2 s3 s4 ⊢
   obtain ⟨y, rfl⟩ : ∃ y, R = [y] := List.length_eq_one_iff.1 (by omega)
   have hy : (P ++ (L ++ ([y] ++ Q)))[m]? = some y := by rw [ix_R (by omega) (by simp; omega), show m - P.length - L.length = 0 by omega]; rfl
   have e := mrg_one_r H (y := y) (L1 := L.take (i - P.length)) (L2 := L.drop (i - P.length)) (by rw [List.take_append_drop]; exact hL) (fun x hx => by
    obtain ⟨k1, k2⟩ := last_take' (by omega) hx
    have hq := s3.resolve_left (by omega)
    have : (P ++ (L ++ ([y] ++ Q)))[i - 1]? = some x := by rw [ix_L (by omega) (by omega), ← k2]; congr 1; omega
    rw [at2_of hy this] at hq; simpa using hq) (fun x hx => by
    obtain ⟨k1, k2⟩ := head_drop' hx
    have hq := s4.resolve_left (by omega)
    have : (P ++ (L ++ ([y] ++ Q)))[i]? = some x := by rw [ix_L (by omega) (by omega), ← k2]
    rw [at2_of hy this] at hq; simpa using hq)
   rw [List.take_append_drop] at e
   have mv := mvL_at (m - i) (L.drop (i - P.length)) (P ++ L.take (i - P.length)) Q y (by rw [List.length_drop]; omega)
   have l1 : (P ++ L.take (i - P.length)).length + (m - i) = m := by rw [List.length_append, List.length_take]; omega
   rw [l1, List.append_assoc, ← List.append_assoc (L.take _), List.take_append_drop] at mv
   rw [show P ++ (L ++ ([y] ++ Q)) = P ++ (L ++ (y :: Q)) from rfl, mv, e]
   simp
  rw [if_neg c2]
  dsimp only
  generalize hmid : (P.length + b) / 2 = mid
  generalize hs0 : (if mid < m then mid + m - b else P.length) = s0
  generalize hr0 : (if mid < m then mid else m) = r0
  have b1 : P.length ≤ s0 ∧ s0 ≤ r0 ∧ r0 ≤ m ∧ r0 ≤ mid ∧ (s0 = mid + m - b ∨ s0 = P.length) ∧ mid + m - b ≤ s0 ∧ (r0 = mid ∨ r0 = m) := by
   by_cases q : mid < m
   ·rw [if_pos q] at hs0 hr0; omega
   ·rw [if_neg q] at hs0 hr0; omega
  obtain ⟨d1, d2, d3, d4, d5, d6, d7⟩ := b1
  obtain ⟨s1, s2, s3, s4⟩ := bsr_spec (fun c => !at2 lt (P ++ (L ++ (R ++ Q))) (mid + m - 1 - c) c) s0 r0 (r0 - s0) s0 r0 (Nat.le_refl _) (Nat.le_refl _) d2 (Nat.le_refl _) (.inl rfl) (.inl rfl)
  generalize bsr (fun c => !at2 lt (P ++ (L ++ (R ++ Q))) (mid + m - 1 - c) c) (r0 - s0) s0 r0 = s at s1 s2 s3 s4 ⊢
  generalize he : mid + m - s = e
  have eb : m ≤ e ∧ e ≤ b ∧ mid ≤ e := by omega
  have cut := cut_at H (L1 := L.take (s - P.length)) (L2 := L.drop (s - P.length)) (R1 := R.take (e - m)) (R2 := R.drop (e - m)) (by rw [List.take_append_drop]; exact hL) (by rw [List.take_append_drop]; exact hR)
   (fun x hx y hy => by
    obtain ⟨k1, k2⟩ := last_take' (by omega) hx
    obtain ⟨k3, k4⟩ := head_drop' hy
    have hq := s3.resolve_left (by omega)
    have ix : (P ++ (L ++ (R ++ Q)))[s - 1]? = some x := by rw [ix_L (by omega) (by omega), ← k2]; congr 1; omega
    have iy : (P ++ (L ++ (R ++ Q)))[mid + m - 1 - (s - 1)]? = some y := by rw [ix_R (by omega) (by omega), ← k4]; congr 1; omega
    rw [at2_of iy ix] at hq; simpa using hq)
   (fun x hx y hy => by
    obtain ⟨k1, k2⟩ := head_drop' hx
    obtain ⟨k3, k4⟩ := last_take' (by omega) hy
    have hq := s4.resolve_left (by omega)
    have ix : (P ++ (L ++ (R ++ Q)))[s]? = some x := by rw [ix_L (by omega) (by omega), ← k2]
    have iy : (P ++ (L ++ (R ++ Q)))[mid + m - 1 - s]? = some y := by rw [ix_R (by omega) (by omega), ← k4]; congr 1; omega
    rw [at2_of iy ix] at hq; simpa using hq)
  rw [List.take_append_drop, List.take_append_drop] at cut
  have hL' : Srt lt (L.take (s - P.length)) ∧ Srt lt (L.drop (s - P.length)) := by
   have : Srt lt (L.take (s - P.length) ++ L.drop (s - P.length)) := by rw [List.take_append_drop]; exact hL
   exact ⟨(List.pairwise_append.1 this).1, (List.pairwise_append.1 this).2.1⟩
  have hR' : Srt lt (R.take (e - m)) ∧ Srt lt (R.drop (e - m)) := by
   have : Srt lt (R.take (e - m) ++ R.drop (e - m)) := by rw [List.take_append_drop]; exact hR
   exact ⟨(List.pairwise_append.1 this).1, (List.pairwise_append.1 this).2.1⟩
  have lL1 : (L.take (s - P.length)).length = s - P.length := by rw [List.length_take]; omega
  have lL2 : (L.drop (s - P.length)).length = m - s := by rw [List.length_drop]; omega
  have lR1 : (R.take (e - m)).length = e - m := by rw [List.length_take]; omega
  have lR2 : (R.drop (e - m)).length = b - e := by rw [List.length_drop]; omega
  have el : P ++ (L ++ (R ++ Q)) = (P ++ L.take (s - P.length)) ++ (L.drop (s - P.length) ++ (R.take (e - m) ++ (R.drop (e - m) ++ Q))) := by
   rw [← List.append_assoc (R.take _), List.take_append_drop, List.append_assoc, ← List.append_assoc (L.take _), List.take_append_drop]
  generalize L.take (s - P.length) = L1 at *
  generalize L.drop (s - P.length) = L2 at *
  generalize R.take (e - m) = R1 at *
  generalize R.drop (e - m) = R2 at *
  have e1 : (if s < m ∧ m < e then rot (m - s + (e - m)) (P ++ (L ++ (R ++ Q))) m (m - s) (e - m) else P ++ (L ++ (R ++ Q))) = P ++ (L1 ++ (R1 ++ (L2 ++ (R2 ++ Q)))) := by
   by_cases q : s < m ∧ m < e
   ·rw [if_pos q, el, rot_at _ (P ++ L1) L2 R1 (R2 ++ Q) m (m - s) (e - m) lL2 lR1 (by omega) (by omega) (Nat.le_refl _) (by rw [List.length_append]; omega)]
    simp
   ·rw [if_neg q, el]
    by_cases q1 : s < m
    ·have : R1 = [] := List.length_eq_zero_iff.1 (by omega)
     subst this; simp
    ·have : L2 = [] := List.length_eq_zero_iff.1 (by omega)
     subst this; simp
  rw [e1]
  have e2 : (if P.length < s ∧ s < mid then symG lt f (P ++ (L1 ++ (R1 ++ (L2 ++ (R2 ++ Q))))) P.length s mid else P ++ (L1 ++ (R1 ++ (L2 ++ (R2 ++ Q))))) = P ++ (mrg lt L1 R1 ++ (L2 ++ (R2 ++ Q))) := by
   by_cases q : P.length < s ∧ s < mid
   ·rw [if_pos q]
    exact sym_at H f P L1 R1 _ _ s mid rfl (by omega) (by omega) (by omega) (by omega) hL'.1 hR'.1 (by omega)
   ·rw [if_neg q]
    by_cases q1 : P.length < s
    ·have : R1 = [] := List.length_eq_zero_iff.1 (by omega)
     subst this; rw [mrg_nr]; simp
    ·have : L1 = [] := List.length_eq_zero_iff.1 (by omega)
     subst this; rw [mrg_nl]; simp
  rw [e2, cut]
  have lm : (mrg lt L1 R1).length = L1.length + R1.length := mrg_len _ (Nat.le_refl _)
  by_cases q : mid < e ∧ e < b
  ·rw [if_pos q]
   have ih := sym_at H f (P ++ mrg lt L1 R1) L2 R2 Q mid e b (by rw [List.length_append, lm]; omega) (by omega) (by omega) (by omega) (by omega) hL'.2 hR'.2 (by omega)
   rw [← List.append_assoc P, ih]
   simp
  ·rw [if_neg q]
   by_cases q1 : mid < e
   ·have : R2 = [] := List.length_eq_zero_iff.1 (by omega)
    subst this; rw [mrg_nr]; simp
   ·have : L2 = [] := List.length_eq_zero_iff.1 (by omega)
    subst this; rw [mrg_nl]; simp
end Go.Mrg
