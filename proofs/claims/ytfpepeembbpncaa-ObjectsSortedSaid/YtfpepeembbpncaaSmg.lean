/- Functions of the program as plain Lean, and what they come to. Conditions: none. -/
import Derived.Test.YtfpepeembbpncaaEwD
import Derived.Test.YtfpepeembbpncaaSym
/- symMerge in place, as plain Lean over rows. Conditions: none. -/
namespace Go.Mrg
variable {α : Type} {lt : α → α → Bool}
def bsr (q : Nat → Bool) : Nat → Nat → Nat → Nat
 | 0, lo, _ => lo
 | f + 1, lo, hi => if lo < hi then (if q ((lo + hi) / 2) = true then bsr q f ((lo + hi) / 2 + 1) hi else bsr q f lo ((lo + hi) / 2)) else lo
theorem bsr_spec (q : Nat → Bool) (a b : Nat) : ∀ (f lo hi : Nat), hi - lo ≤ f → a ≤ lo → lo ≤ hi → hi ≤ b → (lo = a ∨ q (lo - 1) = true) → (hi = b ∨ q hi = false) →
  a ≤ bsr q f lo hi ∧ bsr q f lo hi ≤ b ∧ (bsr q f lo hi = a ∨ q (bsr q f lo hi - 1) = true) ∧ (bsr q f lo hi = b ∨ q (bsr q f lo hi) = false)
 | 0, lo, hi, hf, h1, h2, h3, h4, h5 => by
  have : lo = hi := by omega
  subst this
  exact ⟨h1, h3, h4, h5⟩
 | f + 1, lo, hi, hf, h1, h2, h3, h4, h5 => by
  unfold bsr
  by_cases c : lo < hi
  ·rw [if_pos c]
   by_cases d : q ((lo + hi) / 2) = true
   ·rw [if_pos d]
    exact bsr_spec q a b f _ hi (by omega) (by omega) (by omega) h3 (.inr (by rw [Nat.add_sub_cancel]; exact d)) h5
   ·rw [if_neg d]
    exact bsr_spec q a b f lo _ (by omega) h1 (by omega) (by omega) h4 (.inr (by simpa using d))
  ·rw [if_neg c]
   have : lo = hi := by omega
   subst this
   exact ⟨h1, h3, h4, h5⟩
def mvR : Nat → List α → Nat → List α
 | 0, l, _ => l
 | n + 1, l, a => mvR n (sw l a (a + 1)) (a + 1)
theorem mvR_at : ∀ (R P Q : List α) (x : α), mvR R.length (P ++ (x :: (R ++ Q))) P.length = P ++ (R ++ (x :: Q))
 | [], P, Q, x => rfl
 | y :: R, P, Q, x => by
  show mvR R.length (sw _ _ _) _ = _
  have e := sw_at P [] (R ++ Q) x y
  have e1 : P ++ (x :: (y :: R ++ Q)) = P ++ (x :: ([] ++ (y :: (R ++ Q)))) := by simp
  rw [e1, show P.length + 1 = P.length + 1 + ([] : List α).length from rfl, e]
  have ih := mvR_at R (P ++ [y]) Q x
  have e2 : P ++ (y :: ([] ++ (x :: (R ++ Q)))) = (P ++ [y]) ++ (x :: (R ++ Q)) := by simp
  rw [e2, show P.length + 1 + ([] : List α).length = (P ++ [y]).length by simp, ih]
  simp
def mvL : Nat → List α → Nat → List α
 | 0, l, _ => l
 | n + 1, l, k => mvL n (sw l (k - 1) k) (k - 1)
theorem mvL_at : ∀ (n : Nat) (L P Q : List α) (y : α), L.length = n → mvL n (P ++ (L ++ (y :: Q))) (P.length + n) = P ++ (y :: (L ++ Q))
 | 0, L, P, Q, y, h => by rw [List.length_eq_zero_iff.1 h]; rfl
 | n + 1, L, P, Q, y, h => by
  rcases List.eq_nil_or_concat L with q | ⟨t, z, q⟩
  ·rw [q] at h; cases h
  ·rw [List.concat_eq_append] at q
   subst q
   have ht : t.length = n := by simpa using h
   show mvL n (sw _ _ _) _ = _
   have e := sw_at (P ++ t) [] Q z y
   have e1 : P ++ ((t ++ [z]) ++ (y :: Q)) = (P ++ t) ++ (z :: ([] ++ (y :: Q))) := by simp
   rw [e1, show P.length + (n + 1) - 1 = (P ++ t).length by simp [ht], show P.length + (n + 1) = (P ++ t).length + 1 + ([] : List α).length by simp [ht]; omega, e]
   have ih := mvL_at n t P (z :: Q) y ht
   have e2 : (P ++ t) ++ (y :: ([] ++ (z :: Q))) = P ++ (t ++ (y :: (z :: Q))) := by simp
   rw [e2, show (P ++ t).length = P.length + n by simp [ht], ih]
   simp
def at2 (lt : α → α → Bool) (l : List α) (i j : Nat) : Bool := match l[i]?, l[j]? with
 | some x, some y => lt x y
 | _, _ => false
def symG (lt : α → α → Bool) : Nat → List α → Nat → Nat → Nat → List α
 | 0, l, _, _, _ => l
 | f + 1, l, a, m, b =>
  if m - a = 1 then
   let i := bsr (fun h => at2 lt l h a) (b - m) m b
   mvR (i - 1 - a) l a
  else if b - m = 1 then
   let i := bsr (fun h => !at2 lt l m h) (m - a) a m
   mvL (m - i) l m
  else
   let mid := (a + b) / 2
   let n := mid + m
   let s0 := if mid < m then n - b else a
   let r0 := if mid < m then mid else m
   let s := bsr (fun c => !at2 lt l (n - 1 - c) c) (r0 - s0) s0 r0
   let e := n - s
   let l1 := if s < m ∧ m < e then rot ((m - s) + (e - m)) l m (m - s) (e - m) else l
   let l2 := if a < s ∧ s < mid then symG lt f l1 a s mid else l1
   if mid < e ∧ e < b then symG lt f l2 mid e b else l2
theorem mrg_one_l (H : SWO lt) {x : α} {R1 R2 : List α} (hR : Srt lt (R1 ++ R2)) (h1 : ∀ y, R1.getLast? = some y → lt y x = true) (h2 : ∀ y, R2.head? = some y → lt y x = false) :
  mrg lt [x] (R1 ++ R2) = R1 ++ (x :: R2) := by
 have a := cut_at H (L1 := []) (L2 := [x]) (R1 := R1) (R2 := R2) (List.pairwise_singleton _ _) hR (fun _ h => by cases h) (fun z hz y hy => by simp at hz; rw [← hz]; exact h1 y hy)
 have b := cut_at H (L1 := [x]) (L2 := []) (R1 := []) (R2 := R2) (List.pairwise_singleton _ _) (List.pairwise_append.1 hR).2.1 (fun z hz y hy => by simp at hz; rw [← hz]; exact h2 y hy) (fun _ h => by cases h)
 rw [List.nil_append] at a
 rw [List.append_nil, List.nil_append, mrg_nr, mrg_nl] at b
 rw [a, mrg_nl, b]; rfl
theorem mrg_one_r (H : SWO lt) {y : α} {L1 L2 : List α} (hL : Srt lt (L1 ++ L2)) (h1 : ∀ x, L1.getLast? = some x → lt y x = false) (h2 : ∀ x, L2.head? = some x → lt y x = true) :
  mrg lt (L1 ++ L2) [y] = L1 ++ (y :: L2) := by
 have a := cut_at H (L1 := L1) (L2 := L2) (R1 := []) (R2 := [y]) hL (List.pairwise_singleton _ _) (fun x hx z hz => by simp at hz; rw [← hz]; exact h1 x hx) (fun _ _ _ h => by cases h)
 have b := cut_at H (L1 := []) (L2 := L2) (R1 := [y]) (R2 := []) (List.pairwise_append.1 hL).2.1 (List.pairwise_singleton _ _) (fun _ h => by cases h) (fun x hx z hz => by simp at hz; rw [← hz]; exact h2 x hx)
 rw [List.nil_append] at a
 rw [List.append_nil, List.nil_append, mrg_nl, mrg_nr] at b
 rw [a, mrg_nr, b]; rfl
end Go.Mrg
