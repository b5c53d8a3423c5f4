/- Functions of the program as plain Lean, and what they come to. Conditions: none. -/
import Derived.Test.YtfpepeembbpncaaEwD
import Derived.Test.YtfpepeembbpncaaMrg
/- Go's stable sort in place, as plain Lean over rows: exchange, rotate, merge. Conditions: none. -/
namespace Go.Mrg
variable {α : Type} {lt : α → α → Bool}
def sw (l : List α) (i j : Nat) : List α := match l[i]?, l[j]? with
 | some x, some y => (l.set i y).set j x
 | _, _ => l
theorem sw_at (P Z Q : List α) (x y : α) : sw (P ++ (x :: (Z ++ (y :: Q)))) P.length (P.length + 1 + Z.length) = P ++ (y :: (Z ++ (x :: Q))) := by
 have h1 : (P ++ (x :: (Z ++ (y :: Q))))[P.length]? = some x := by rw [List.getElem?_append_right (Nat.le_refl _), Nat.sub_self]; rfl
 have h2 : (P ++ (x :: (Z ++ (y :: Q))))[P.length + 1 + Z.length]? = some y := by
  rw [List.getElem?_append_right (by omega), show P.length + 1 + Z.length - P.length = Z.length + 1 by omega, List.getElem?_cons_succ, List.getElem?_append_right (Nat.le_refl _), Nat.sub_self]; rfl
 unfold sw
 rw [h1, h2]
 dsimp only
 rw [List.set_append_right _ _ (Nat.le_refl _), Nat.sub_self, List.set_cons_zero, List.set_append_right _ _ (by omega), show P.length + 1 + Z.length - P.length = Z.length + 1 by omega, List.set_cons_succ, List.set_append_right _ _ (Nat.le_refl _), Nat.sub_self, List.set_cons_zero]
def swR : Nat → List α → Nat → Nat → List α
 | 0, l, _, _ => l
 | n + 1, l, a, b => swR n (sw l a b) (a + 1) (b + 1)
theorem swR_at : ∀ (n : Nat) (P X Z Y Q : List α), X.length = n → Y.length = n → swR n (P ++ (X ++ (Z ++ (Y ++ Q)))) P.length (P.length + n + Z.length) = P ++ (Y ++ (Z ++ (X ++ Q)))
 | 0, P, X, Z, Y, Q, hx, hy => by rw [List.length_eq_zero_iff.1 hx, List.length_eq_zero_iff.1 hy]; rfl
 | n + 1, P, [], Z, Y, Q, hx, hy => by cases hx
 | n + 1, P, x :: X, Z, [], Q, hx, hy => by cases hy
 | n + 1, P, x :: X, Z, y :: Y, Q, hx, hy => by
  simp only [List.length_cons, Nat.add_right_cancel_iff] at hx hy
  have e := sw_at P (X ++ Z) (Y ++ Q) x y
  have ih := swR_at n (P ++ [y]) X (Z ++ [x]) Y Q hx hy
  unfold swR
  have e2 : sw (P ++ (x :: X ++ (Z ++ (y :: Y ++ Q)))) P.length (P.length + (n + 1) + Z.length) = (P ++ [y]) ++ (X ++ ((Z ++ [x]) ++ (Y ++ Q))) := by
   have : P ++ (x :: X ++ (Z ++ (y :: Y ++ Q))) = P ++ (x :: ((X ++ Z) ++ (y :: (Y ++ Q)))) := by simp
   rw [this, show P.length + (n + 1) + Z.length = P.length + 1 + (X ++ Z).length by simp [hx]; omega, e]
   simp
  rw [e2, show P.length + 1 = (P ++ [y]).length by simp, show P.length + (n + 1) + Z.length + 1 = (P ++ [y]).length + n + (Z ++ [x]).length by simp; omega, ih]
  simp
def rot : Nat → List α → Nat → Nat → Nat → List α
 | 0, l, _, _, _ => l
 | f + 1, l, m, i, j => if i = j then swR i l (m - i) m else if j < i then rot f (swR j l (m - i) m) m (i - j) j else rot f (swR i l (m - i) (m + j - i)) m i (j - i)
theorem rot_at : ∀ (f : Nat) (P X Y Q : List α) (m i j : Nat), X.length = i → Y.length = j → 0 < i → 0 < j → i + j ≤ f → m = P.length + i → rot f (P ++ (X ++ (Y ++ Q))) m i j = P ++ (Y ++ (X ++ Q))
 | 0, P, X, Y, Q, m, i, j, _, _, h1, _, h3, _ => by omega
 | f + 1, P, X, Y, Q, m, i, j, hx, hy, hi, hj, hf, hm => by
  unfold rot
  have em : m - i = P.length := by omega
  by_cases c : i = j
  ·rw [if_pos c, em, hm]
   have := swR_at i P X [] Y Q hx (by omega)
   simpa using this
  ·rw [if_neg c]
   by_cases d : j < i
   ·rw [if_pos d, em]
    have s1 : X = X.take j ++ X.drop j := (List.take_append_drop j X).symm
    have l1 : (X.take j).length = j := by rw [List.length_take]; omega
    have l2 : (X.drop j).length = i - j := by rw [List.length_drop]; omega
    have h1 := swR_at j P (X.take j) (X.drop j) Y Q l1 hy
    have e1 : P ++ (X ++ (Y ++ Q)) = P ++ (X.take j ++ (X.drop j ++ (Y ++ Q))) := by rw [← List.append_assoc (X.take j), List.take_append_drop]
    rw [e1, show m = P.length + j + (X.drop j).length by omega, h1, show P.length + j + (X.drop j).length = m by omega]
    have ih := rot_at f (P ++ Y) (X.drop j) (X.take j) Q m (i - j) j l2 l1 (by omega) hj (by omega) (by rw [List.length_append]; omega)
    have e2 : P ++ (Y ++ (X.drop j ++ (X.take j ++ Q))) = (P ++ Y) ++ (X.drop j ++ (X.take j ++ Q)) := by simp
    rw [e2, ih, List.append_assoc, ← List.append_assoc (X.take j), List.take_append_drop]
   ·rw [if_neg d, em]
    have l1 : (Y.take (j - i)).length = j - i := by rw [List.length_take]; omega
    have l2 : (Y.drop (j - i)).length = i := by rw [List.length_drop]; omega
    have h1 := swR_at i P X (Y.take (j - i)) (Y.drop (j - i)) Q hx l2
    have e1 : P ++ (X ++ (Y ++ Q)) = P ++ (X ++ (Y.take (j - i) ++ (Y.drop (j - i) ++ Q))) := by rw [← List.append_assoc (Y.take (j - i)), List.take_append_drop]
    rw [e1, show m + j - i = P.length + i + (Y.take (j - i)).length by omega, h1]
    have ih := rot_at f P (Y.drop (j - i)) (Y.take (j - i)) (X ++ Q) m i (j - i) l2 l1 hi (by omega) (by omega) hm
    rw [ih, ← List.append_assoc (Y.take (j - i)), List.take_append_drop]
theorem cut_at (H : SWO lt) {L1 L2 R1 R2 : List α} (hL : Srt lt (L1 ++ L2)) (hR : Srt lt (R1 ++ R2))
  (h1 : ∀ x, L1.getLast? = some x → ∀ y, R2.head? = some y → lt y x = false) (h2 : ∀ x, L2.head? = some x → ∀ y, R1.getLast? = some y → lt y x = true) :
  mrg lt (L1 ++ L2) (R1 ++ R2) = mrg lt L1 R1 ++ mrg lt L2 R2 := by
 have srtL := List.pairwise_append.1 hL
 have srtR := List.pairwise_append.1 hR
 have last : ∀ {l : List α}, Srt lt l → ∀ x ∈ l, ∀ z, l.getLast? = some z → x = z ∨ lt z x = false := by
  intro l hl x hx z hz
  obtain ⟨t, rfl⟩ : ∃ t, l = t ++ [z] := by
   rcases List.eq_nil_or_concat l with q | ⟨t, w, q⟩
   ·rw [q] at hz; cases hz
   ·rw [List.concat_eq_append] at q; rw [q, List.getLast?_concat] at hz; exact ⟨t, by rw [q]; simp at hz; rw [hz]⟩
  rcases List.mem_append.1 hx with q | q
  ·exact .inr ((List.pairwise_append.1 hl).2.2 x q z (List.mem_singleton_self _))
  ·exact .inl (List.mem_singleton.1 q)
 have head : ∀ {l : List α}, Srt lt l → ∀ y ∈ l, ∀ z, l.head? = some z → y = z ∨ lt y z = false := by
  intro l hl y hy z hz
  cases l with
  | nil => cases hz
  | cons a l =>
   simp at hz; subst hz
   rcases List.mem_cons.1 hy with q | q
   ·exact .inl q
   ·exact .inr ((List.pairwise_cons.1 hl).1 y q)
 refine mrg_split _ (Nat.le_refl _) (fun x hx y hy => ?_) (fun x hx y hy => ?_)
 ·obtain ⟨u, hu⟩ : ∃ u, L1.getLast? = some u := by cases e : L1.getLast? with | none => rw [List.getLast?_eq_none_iff.1 e] at hx; cases hx | some u => exact ⟨u, rfl⟩
  obtain ⟨v, hv⟩ : ∃ v, R2.head? = some v := by cases e : R2.head? with | none => rw [List.head?_eq_none_iff.1 e] at hy; cases hy | some v => exact ⟨v, rfl⟩
  have c := h1 u hu v hv
  have a : lt u x = false ∨ x = u := (last srtL.1 x hx u hu).symm
  have b : lt y v = false ∨ y = v := (head srtR.2.1 y hy v hv).symm
  have c2 : lt y u = false := by rcases b with q | q; exact H.ntr c q; rw [q]; exact c
  rcases a with q | q
  ·exact H.ntr q c2
  ·rw [q]; exact c2
 ·obtain ⟨u, hu⟩ : ∃ u, L2.head? = some u := by cases e : L2.head? with | none => rw [List.head?_eq_none_iff.1 e] at hx; cases hx | some u => exact ⟨u, rfl⟩
  obtain ⟨v, hv⟩ : ∃ v, R1.getLast? = some v := by cases e : R1.getLast? with | none => rw [List.getLast?_eq_none_iff.1 e] at hy; cases hy | some v => exact ⟨v, rfl⟩
  have c := h2 u hu v hv
  have a : x = u ∨ lt x u = false := head srtL.2.1 x hx u hu
  have b : y = v ∨ lt v y = false := last srtR.1 y hy v hv
  have c2 : lt y u = true := by
   rcases b with q | q
   ·rw [q]; exact c
   ·exact (H.neg (b := y) c).resolve_left (by rw [q]; decide)
  rcases a with q | q
  ·rw [q]; exact c2
  ·exact (H.neg (b := x) c2).resolve_right (by rw [q]; decide)
end Go.Mrg
