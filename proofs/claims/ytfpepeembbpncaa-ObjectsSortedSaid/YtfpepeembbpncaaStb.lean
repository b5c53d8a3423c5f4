/- Functions of the program as plain Lean, and what they come to. Conditions: none. -/
import Derived.Test.YtfpepeembbpncaaEwD
import Derived.Test.YtfpepeembbpncaaSat
/- The stable sort by blocks comes to the sort, whatever the blocks. Conditions: none. -/
namespace Go.Mrg
variable {α : Type} {lt : α → α → Bool}
theorem srt_len (l : List α) : (srt lt l).length = l.length := by
 have key : ∀ (l s : List α), (l.foldl (fun s x => mrg lt s [x]) s).length = s.length + l.length := by
  intro l
  induction l with
  | nil => intro s; rfl
  | cons x l ih => intro s; rw [List.foldl_cons, ih, mrg_len _ (Nat.le_refl _)]; simp only [List.length_cons, List.length_nil]; omega
 have := key l []
 simpa [srt] using this
def srtC (lt : α → α → Bool) (s : Nat) : Nat → List α → List α
 | 0, l => srt lt l
 | f + 1, l => if l.length ≤ s then srt lt l else srt lt (l.take s) ++ srtC lt s f (l.drop s)
theorem srtC_len (s : Nat) : ∀ (f : Nat) (l : List α), (srtC lt s f l).length = l.length
 | 0, l => srt_len l
 | f + 1, l => by
  unfold srtC
  split
  ·exact srt_len l
  ·rw [List.length_append, srt_len, srtC_len s f, ← List.length_append, List.take_append_drop]
def insG (lt : α → α → Bool) (l : List α) (a b : Nat) : List α := l.take a ++ (srt lt ((l.drop a).take (b - a)) ++ l.drop b)
theorem insG_at (P X Q : List α) : insG lt (P ++ (X ++ Q)) P.length (P.length + X.length) = P ++ (srt lt X ++ Q) := by
 unfold insG
 rw [List.take_left' rfl, List.drop_left' rfl, show P.length + X.length - P.length = X.length by omega, List.take_left' rfl, ← List.append_assoc P X Q, List.drop_left' (by simp)]
def ph1 (lt : α → α → Bool) (s : Nat) : Nat → List α → Nat → Nat → Nat → List α
 | 0, l, _, _, _ => l
 | f + 1, l, a, b, n => if b ≤ n then ph1 lt s f (insG lt l a b) b (b + s) n else insG lt l a n
theorem ph1_at (s : Nat) (hs : 0 < s) : ∀ (f : Nat) (P X : List α) (n g : Nat), P.length + X.length = n → X.length < f → X.length ≤ g → ph1 lt s f (P ++ X) P.length (P.length + s) n = P ++ srtC lt s g X
 | 0, P, X, n, g, _, h, _ => by omega
 | f + 1, P, X, n, g, hn, hf, hg => by
  unfold ph1
  by_cases c : P.length + s ≤ n
  ·rw [if_pos c]
   have l1 : (X.take s).length = s := by rw [List.length_take]; omega
   have e := insG_at (lt := lt) P (X.take s) (X.drop s)
   rw [List.take_append_drop, l1] at e
   rw [e, ← List.append_assoc]
   have l2 : (P ++ srt lt (X.take s)).length = P.length + s := by rw [List.length_append, srt_len, l1]
   have ih := ph1_at s hs f (P ++ srt lt (X.take s)) (X.drop s) n (g - 1) (by rw [l2, List.length_drop]; omega) (by rw [List.length_drop]; omega) (by rw [List.length_drop]; omega)
   rw [l2] at ih
   rw [ih, List.append_assoc]
   congr 1
   obtain ⟨g', rfl⟩ : ∃ k, g = k + 1 := ⟨g - 1, by omega⟩
   rw [Nat.add_sub_cancel]
   by_cases q : X.length ≤ s
   ·have : X.drop s = [] := List.drop_eq_nil_of_le q
    rw [this]
    have t0 : srtC lt s g' ([] : List α) = [] := by cases g' <;> (unfold srtC; rfl)
    rw [t0, List.append_nil, List.take_of_length_le q]
    unfold srtC
    rw [if_pos q]
   ·show _ = srtC lt s (g' + 1) X
    rw [srtC, if_neg q]
  ·rw [if_neg c]
   have e := insG_at (lt := lt) P X []
   rw [List.append_nil, List.append_nil, hn] at e
   rw [e]
   congr 1
   cases g with
   | zero => rfl
   | succ g => rw [srtC, if_pos (by omega)]
def rnd (lt : α → α → Bool) (s : Nat) : Nat → List α → Nat → Nat → Nat → List α
 | 0, l, _, _, _ => l
 | f + 1, l, a, b, n => if b ≤ n then rnd lt s f (symG lt (b - a) l a (a + s) b) b (b + 2 * s) n else if a + s < n then symG lt (n - a) l a (a + s) n else l
theorem srtC_small {s : Nat} {g : Nat} {X : List α} (h : X.length ≤ s) : srtC lt s g X = srt lt X := by
 cases g with
 | zero => rfl
 | succ g => rw [srtC, if_pos h]
theorem srtC_step {s : Nat} {g : Nat} {X : List α} (h : s < X.length) : srtC lt s (g + 1) X = srt lt (X.take s) ++ srtC lt s g (X.drop s) := by rw [srtC, if_neg (by omega)]
theorem rnd_at (H : SWO lt) (s : Nat) (hs : 0 < s) : ∀ (f : Nat) (P X : List α) (n g g2 : Nat), P.length + X.length = n → X.length < f → X.length ≤ g → X.length ≤ g2 →
  rnd lt s f (P ++ srtC lt s g X) P.length (P.length + 2 * s) n = P ++ srtC lt (2 * s) g2 X
 | 0, P, X, n, g, g2, _, h, _, _ => by omega
 | f + 1, P, X, n, g, g2, hn, hf, hg, hg2 => by
  unfold rnd
  have tk : (X.take s).length = min s X.length := List.length_take ..
  by_cases c : P.length + 2 * s ≤ n
  ·rw [if_pos c]
   have tk2 : ((X.drop s).take s).length = s := by rw [List.length_take, List.length_drop]; omega
   have tk1 : (X.take s).length = s := by omega
   obtain ⟨g', rfl⟩ : ∃ k, g = k + 2 := ⟨g - 2, by omega⟩
   have e1 : srtC lt s (g' + 2) X = srt lt (X.take s) ++ (srt lt ((X.drop s).take s) ++ srtC lt s g' ((X.drop s).drop s)) := by
    rw [srtC_step (by omega)]
    congr 1
    by_cases q : s < (X.drop s).length
    ·rw [srtC_step q]
    ·have q' : (X.drop s).length ≤ s := by omega
     rw [srtC_small q', List.take_of_length_le q', List.drop_eq_nil_of_le q', srtC_small (Nat.zero_le _)]
     exact (List.append_nil _).symm
   have sy := sym_at H (P.length + 2 * s - P.length) P (srt lt (X.take s)) (srt lt ((X.drop s).take s)) (srtC lt s g' ((X.drop s).drop s)) P.length (P.length + s) (P.length + 2 * s) rfl (by rw [srt_len, tk1]) (by rw [srt_len, tk2]; omega) (by rw [srt_len, tk1]; exact hs) (by rw [srt_len, tk2]; exact hs) (srt_srt H _) (srt_srt H _) (by rw [srt_len, srt_len, tk1, tk2]; omega)
   have e2 : X.take s ++ (X.drop s).take s = X.take (2 * s) := by
    rw [show 2 * s = s + s by omega, List.take_add]
   rw [e1, sy, ← srt_append H, e2, ← List.append_assoc P]
   have l2 : (P ++ srt lt (X.take (2 * s))).length = P.length + 2 * s := by rw [List.length_append, srt_len, List.length_take]; omega
   have e3 : (X.drop s).drop s = X.drop (2 * s) := by rw [List.drop_drop]; congr 1; omega
   rw [e3]
   have ih := rnd_at H s hs f (P ++ srt lt (X.take (2 * s))) (X.drop (2 * s)) n g' (g2 - 1) (by rw [l2, List.length_drop]; omega) (by rw [List.length_drop]; omega) (by rw [List.length_drop]; omega) (by rw [List.length_drop]; omega)
   rw [l2] at ih
   rw [ih, List.append_assoc]
   congr 1
   obtain ⟨k, rfl⟩ : ∃ k, g2 = k + 1 := ⟨g2 - 1, by omega⟩
   rw [Nat.add_sub_cancel]
   by_cases q : 2 * s < X.length
   ·rw [srtC_step q]
   ·have q' : X.length ≤ 2 * s := by omega
    rw [srtC_small q', List.drop_eq_nil_of_le q', List.take_of_length_le q', srtC_small (Nat.zero_le _)]
    exact List.append_nil _
  ·rw [if_neg c]
   have small : X.length ≤ 2 * s := by omega
   rw [srtC_small (s := 2 * s) small]
   by_cases d : P.length + s < n
   ·rw [if_pos d]
    obtain ⟨g', rfl⟩ : ∃ k, g = k + 1 := ⟨g - 1, by omega⟩
    have tk1 : (X.take s).length = s := by omega
    have dr : (X.drop s).length = X.length - s := List.length_drop ..
    have sy := sym_at H (n - P.length) P (srt lt (X.take s)) (srt lt (X.drop s)) [] P.length (P.length + s) n rfl (by rw [srt_len, tk1]) (by rw [srt_len, dr]; omega) (by rw [srt_len, tk1]; exact hs) (by rw [srt_len, dr]; omega) (srt_srt H _) (srt_srt H _) (by rw [srt_len, srt_len, tk1, dr]; omega)
    rw [List.append_nil, List.append_nil, ← srt_append H, List.take_append_drop] at sy
    rw [srtC_step (by omega), srtC_small (by omega), sy]
   ·rw [if_neg d, srtC_small (by omega)]
def phs (lt : α → α → Bool) : Nat → List α → Nat → Nat → List α
 | 0, l, _, _ => l
 | f + 1, l, s, n => if s < n then phs lt f (rnd lt s (n + 1) l 0 (2 * s) n) (2 * s) n else l
theorem phs_at (H : SWO lt) : ∀ (f : Nat) (X : List α) (s n g : Nat), 0 < s → X.length = n → n ≤ g → n < s + f → phs lt f (srtC lt s g X) s n = srt lt X
 | 0, X, s, n, g, hs, hn, hg, hf => srtC_small (by omega)
 | f + 1, X, s, n, g, hs, hn, hg, hf => by
  unfold phs
  by_cases c : s < n
  ·rw [if_pos c]
   have e := rnd_at H s hs (n + 1) [] X n g g (by simp; omega) (by omega) (by omega) (by omega)
   rw [List.nil_append, List.nil_append] at e
   rw [show rnd lt s (n + 1) (srtC lt s g X) 0 (2 * s) n = srtC lt (2 * s) g X by simpa using e]
   exact phs_at H f X (2 * s) n g (by omega) hn hg (by omega)
  ·rw [if_neg c]
   exact srtC_small (by omega)
def stb (lt : α → α → Bool) (l : List α) : List α := phs lt l.length (ph1 lt 20 (l.length + 1) l 0 20 l.length) 20 l.length
theorem stb_srt (H : SWO lt) (l : List α) : stb lt l = srt lt l := by
 unfold stb
 have e := ph1_at (lt := lt) 20 (by decide) (l.length + 1) [] l l.length l.length (by simp) (by omega) (Nat.le_refl _)
 rw [List.nil_append, List.nil_append] at e
 rw [show ph1 lt 20 (l.length + 1) l 0 20 l.length = srtC lt 20 l.length l by simpa using e]
 exact phs_at H l.length l 20 l.length l.length (by decide) rfl (Nat.le_refl _) (by omega)
end Go.Mrg
