/- Functions of the program as plain Lean, and what they come to. Conditions: none. -/
import Derived.Test.YtfpepeembbpncaaEwD
/- Stable merging in plain Lean: what Go's stable sort comes to, whatever the blocks. Conditions: none. -/
namespace Go.Mrg
variable {α : Type} {lt : α → α → Bool}
structure SWO (lt : α → α → Bool) : Prop where
 asy : ∀ {a b}, lt a b = true → lt b a = false
 neg : ∀ {a b c}, lt a c = true → lt a b = true ∨ lt b c = true
theorem SWO.tr (h : SWO lt) {a b c : α} (h1 : lt a b = true) (h2 : lt b c = true) : lt a c = true := by
 rcases h.neg (b := c) h1 with q | q
 ·exact q
 ·rw [h.asy h2] at q; cases q
theorem SWO.ntr (h : SWO lt) {a b c : α} (h1 : lt b a = false) (h2 : lt c b = false) : lt c a = false := by
 cases e : lt c a with
 | false => rfl
 | true =>
  rcases h.neg (b := b) e with q | q
  ·rw [q] at h2; cases h2
  ·rw [q] at h1; cases h1
def mrg (lt : α → α → Bool) : List α → List α → List α
 | [], r => r
 | a :: l, [] => a :: l
 | a :: l, b :: r => if lt b a = true then b :: mrg lt (a :: l) r else a :: mrg lt l (b :: r)
termination_by l r => l.length + r.length
theorem mrg_nl (r : List α) : mrg lt [] r = r := by unfold mrg; rfl
theorem mrg_nr (l : List α) : mrg lt l [] = l := by
 cases l with
 | nil => exact mrg_nl _
 | cons a l => unfold mrg; rfl
theorem mrg_cc (a b : α) (l r : List α) : mrg lt (a :: l) (b :: r) = if lt b a = true then b :: mrg lt (a :: l) r else a :: mrg lt l (b :: r) := by
 rw [mrg]
theorem mrg_mem : ∀ (n : Nat) {l r : List α}, l.length + r.length ≤ n → ∀ x, x ∈ mrg lt l r ↔ x ∈ l ∨ x ∈ r
 | _, [], r, _, x => by rw [mrg_nl]; simp
 | _, a :: l, [], _, x => by rw [mrg_nr]; simp
 | 0, a :: l, b :: r, h, x => by simp at h
 | n + 1, a :: l, b :: r, h, x => by
  simp only [List.length_cons] at h
  rw [mrg_cc]
  split
  ·rw [List.mem_cons, mrg_mem n (l := a :: l) (by simp only [List.length_cons]; omega), List.mem_cons (a := x) (b := b)]
   exact ⟨fun z => z.elim (fun z => .inr (.inl z)) (fun z => z.elim .inl (fun z => .inr (.inr z))), fun z => z.elim (fun z => .inr (.inl z)) (fun z => z.elim .inl (fun z => .inr (.inr z)))⟩
  ·rw [List.mem_cons, mrg_mem n (r := b :: r) (by simp only [List.length_cons]; omega), List.mem_cons (a := x) (b := a)]
   exact ⟨fun z => z.elim (fun z => .inl (.inl z)) (fun z => z.elim (fun z => .inl (.inr z)) .inr), fun z => z.elim (fun z => z.elim .inl (fun z => .inr (.inl z))) (fun z => .inr (.inr z))⟩
theorem mrg_len : ∀ (n : Nat) {l r : List α}, l.length + r.length ≤ n → (mrg lt l r).length = l.length + r.length
 | _, [], r, _ => by rw [mrg_nl]; simp
 | _, a :: l, [], _ => by rw [mrg_nr]; simp
 | 0, a :: l, b :: r, h => by simp at h
 | n + 1, a :: l, b :: r, h => by
  simp only [List.length_cons] at h
  rw [mrg_cc]
  split
  ·rw [List.length_cons, mrg_len n (by simp only [List.length_cons]; omega)]; simp only [List.length_cons]; omega
  ·rw [List.length_cons, mrg_len n (by simp only [List.length_cons]; omega)]; simp only [List.length_cons]; omega
theorem mrg_split : ∀ (n : Nat) {L1 L2 R1 R2 : List α}, L1.length + R1.length ≤ n → (∀ x ∈ L1, ∀ y ∈ R2, lt y x = false) → (∀ x ∈ L2, ∀ y ∈ R1, lt y x = true) →
  mrg lt (L1 ++ L2) (R1 ++ R2) = mrg lt L1 R1 ++ mrg lt L2 R2
 | _, [], L2, [], R2, _, _, _ => by rw [mrg_nl]; rfl
 | 0, [], L2, b :: R1, R2, h, h1, h2 => by simp at h
 | 0, a :: L1, L2, [], R2, h, h1, h2 => by simp at h
 | 0, a :: L1, L2, b :: R1, R2, h, h1, h2 => by simp at h
 | n + 1, [], L2, b :: R1, R2, h, h1, h2 => by
  rw [mrg_nl]
  cases L2 with
  | nil => rw [List.nil_append, mrg_nl, mrg_nl]
  | cons a L2 =>
   have := mrg_split n (L1 := []) (L2 := a :: L2) (R1 := R1) (R2 := R2) (by simp only [List.length_cons] at h ⊢; omega) h1 (fun x hx y hy => h2 x hx y (List.mem_cons_of_mem _ hy))
   rw [mrg_nl] at this
   show mrg lt (a :: L2) (b :: (R1 ++ R2)) = b :: (R1 ++ mrg lt (a :: L2) R2)
   rw [mrg_cc, if_pos (h2 a (List.mem_cons_self ..) b (List.mem_cons_self ..))]
   exact congrArg (b :: ·) this
 | n + 1, a :: L1, L2, [], R2, h, h1, h2 => by
  rw [mrg_nr]
  cases R2 with
  | nil => rw [List.nil_append, mrg_nr, mrg_nr]
  | cons b R2 =>
   have := mrg_split n (L1 := L1) (L2 := L2) (R1 := []) (R2 := b :: R2) (by simp only [List.length_cons] at h ⊢; omega) (fun x hx => h1 x (List.mem_cons_of_mem _ hx)) h2
   rw [mrg_nr] at this
   show mrg lt (a :: (L1 ++ L2)) (b :: R2) = a :: (L1 ++ mrg lt L2 (b :: R2))
   rw [mrg_cc, if_neg (by rw [h1 a (List.mem_cons_self ..) b (List.mem_cons_self ..)]; decide)]
   exact congrArg (a :: ·) this
 | n + 1, a :: L1, L2, b :: R1, R2, h, h1, h2 => by
  simp only [List.length_cons] at h
  show mrg lt (a :: (L1 ++ L2)) (b :: (R1 ++ R2)) = _
  rw [mrg_cc, mrg_cc]
  by_cases q : lt b a = true
  ·rw [if_pos q, if_pos q]
   exact congrArg (b :: ·) (mrg_split n (L1 := a :: L1) (L2 := L2) (R1 := R1) (R2 := R2) (by simp only [List.length_cons]; omega) h1 (fun x hx y hy => h2 x hx y (List.mem_cons_of_mem _ hy)))
  ·rw [if_neg q, if_neg q]
   exact congrArg (a :: ·) (mrg_split n (L1 := L1) (L2 := L2) (R1 := b :: R1) (R2 := R2) (by simp only [List.length_cons]; omega) (fun x hx => h1 x (List.mem_cons_of_mem _ hx)) h2)
theorem mrg_assoc (H : SWO lt) : ∀ (n : Nat) {A B C : List α}, A.length + B.length + C.length ≤ n → mrg lt (mrg lt A B) C = mrg lt A (mrg lt B C)
 | _, [], B, C, _ => by rw [mrg_nl, mrg_nl]
 | _, a :: A, [], C, _ => by rw [mrg_nr, mrg_nl]
 | _, a :: A, b :: B, [], _ => by rw [mrg_nr, mrg_nr]
 | 0, a :: A, b :: B, c :: C, h => by simp at h
 | n + 1, a :: A, b :: B, c :: C, h => by
  simp only [List.length_cons] at h
  have i1 := mrg_assoc H n (A := a :: A) (B := B) (C := c :: C) (by simp only [List.length_cons]; omega)
  have i2 := mrg_assoc H n (A := A) (B := b :: B) (C := c :: C) (by simp only [List.length_cons]; omega)
  have i3 := mrg_assoc H n (A := a :: A) (B := b :: B) (C := C) (by simp only [List.length_cons]; omega)
  by_cases ba : lt b a = true
  ·have e1 : mrg lt (a :: A) (b :: B) = b :: mrg lt (a :: A) B := by rw [mrg_cc, if_pos ba]
   by_cases cb : lt c b = true
   ·have ca := H.tr cb ba
    rw [e1] at i3
    rw [e1, mrg_cc, if_pos cb, i3]
    rw [mrg_cc b c, if_pos cb, mrg_cc, if_pos ca]
   ·rw [e1, mrg_cc, if_neg cb, i1, mrg_cc b c, if_neg cb, mrg_cc, if_pos ba]
  ·have e1 : mrg lt (a :: A) (b :: B) = a :: mrg lt A (b :: B) := by rw [mrg_cc, if_neg ba]
   by_cases ca : lt c a = true
   ·have cb : lt c b = true := (H.neg (b := b) ca).resolve_right ba
    rw [e1] at i3
    rw [e1, mrg_cc, if_pos ca, i3, mrg_cc b c, if_pos cb, mrg_cc, if_pos ca]
   ·rw [e1, mrg_cc, if_neg ca, i2, mrg_cc b c]
    by_cases cb : lt c b = true
    ·rw [if_pos cb, mrg_cc, if_neg ca]
    ·rw [if_neg cb, mrg_cc, if_neg ba]
def Srt (lt : α → α → Bool) (l : List α) : Prop := l.Pairwise fun a b => lt b a = false
theorem mrg_srt (H : SWO lt) : ∀ (n : Nat) {l r : List α}, l.length + r.length ≤ n → Srt lt l → Srt lt r → Srt lt (mrg lt l r)
 | _, [], r, _, _, hr => by rw [mrg_nl]; exact hr
 | _, a :: l, [], _, hl, _ => by rw [mrg_nr]; exact hl
 | 0, a :: l, b :: r, h, _, _ => by simp at h
 | n + 1, a :: l, b :: r, h, hl, hr => by
  simp only [List.length_cons] at h
  have hl' := List.pairwise_cons.1 hl
  have hr' := List.pairwise_cons.1 hr
  rw [mrg_cc]
  by_cases q : lt b a = true
  ·rw [if_pos q]
   refine List.pairwise_cons.2 ⟨fun x hx => ?_, mrg_srt H n (by simp only [List.length_cons]; omega) hl hr'.2⟩
   rcases (mrg_mem n (by simp only [List.length_cons]; omega) x).1 hx with z | z
   ·rcases List.mem_cons.1 z with z | z
    ·rw [z]; exact H.asy q
    ·exact H.ntr (H.asy q) (hl'.1 x z)
   ·exact hr'.1 x z
  ·rw [if_neg q]
   have q' : lt b a = false := by simpa using q
   refine List.pairwise_cons.2 ⟨fun x hx => ?_, mrg_srt H n (by simp only [List.length_cons]; omega) hl'.2 hr⟩
   rcases (mrg_mem n (by simp only [List.length_cons]; omega) x).1 hx with z | z
   ·exact hl'.1 x z
   ·rcases List.mem_cons.1 z with z | z
    ·rw [z]; exact q'
    ·exact H.ntr q' (hr'.1 x z)
def srt (lt : α → α → Bool) (l : List α) : List α := l.foldl (fun s x => mrg lt s [x]) []
theorem srt_snoc (l : List α) (x : α) : srt lt (l ++ [x]) = mrg lt (srt lt l) [x] := by simp [srt, List.foldl_append]
theorem srt_srt (H : SWO lt) (l : List α) : Srt lt (srt lt l) := by
 have key : ∀ (l s : List α), Srt lt s → Srt lt (l.foldl (fun s x => mrg lt s [x]) s) := by
  intro l
  induction l with
  | nil => intro s h; exact h
  | cons x l ih => intro s h; exact ih _ (mrg_srt H _ (Nat.le_refl _) h (List.pairwise_singleton _ _))
 exact key l [] List.Pairwise.nil
theorem srt_append (H : SWO lt) (a b : List α) : srt lt (a ++ b) = mrg lt (srt lt a) (srt lt b) := by
 have key : ∀ (n : Nat) (b : List α), b.length = n → srt lt (a ++ b) = mrg lt (srt lt a) (srt lt b) := by
  intro n
  induction n with
  | zero =>
   intro b hb
   rw [List.length_eq_zero_iff.1 hb, List.append_nil]
   show _ = mrg lt _ []
   rw [mrg_nr]
  | succ n ih =>
   intro b hb
   rcases List.eq_nil_or_concat b with q | ⟨c, x, q⟩
   ·rw [q] at hb; cases hb
   ·rw [List.concat_eq_append] at q
    subst q
    rw [← List.append_assoc, srt_snoc, srt_snoc, ih c (by simpa using hb), mrg_assoc H _ (Nat.le_refl _)]
 exact key _ b rfl
theorem put_behind (x y : α) (t : List α) (h : lt x y = true) : mrg lt (t ++ [y]) [x] = mrg lt t [x] ++ [y] := by
 have := mrg_split (lt := lt) _ (L1 := t) (L2 := [y]) (R1 := [x]) (R2 := []) (Nat.le_refl _) (fun _ _ _ h => nomatch h) (fun a ha b hb => by rw [List.mem_singleton.1 ha, List.mem_singleton.1 hb]; exact h)
 rw [List.append_nil, mrg_nr] at this
 exact this
theorem put_end (H : SWO lt) (x y : α) (t : List α) (hs : Srt lt (t ++ [y])) (h : lt x y = false) : mrg lt (t ++ [y]) [x] = t ++ [y, x] := by
 have := mrg_split (lt := lt) _ (L1 := t ++ [y]) (L2 := []) (R1 := []) (R2 := [x]) (Nat.le_refl _) (fun a ha b hb => by
  rw [List.mem_singleton.1 hb]
  rcases List.mem_append.1 ha with z | z
  ·exact H.ntr ((List.pairwise_append.1 hs).2.2 a z y (List.mem_singleton_self _)) h
  ·rw [List.mem_singleton.1 z]; exact h) (fun _ h => nomatch h)
 rw [List.append_nil, List.nil_append, mrg_nr, mrg_nl] at this
 rw [this, List.append_assoc]; rfl
end Go.Mrg
