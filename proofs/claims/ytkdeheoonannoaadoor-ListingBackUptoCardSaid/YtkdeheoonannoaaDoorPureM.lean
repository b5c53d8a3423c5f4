/- Functions of the program as plain Lean, and what they come to. Conditions: none. -/
import Derived.Test.YtkdeheoonannoaaDoorEwD
import Derived.Test.YtkdeheoonannoaaDoorPureF
open Go Go.Ew
namespace Go.Proofs.YtkdeheoonannoaaDoor.E
set_option linter.unusedVariables false
set_option linter.unusedSimpArgs false
set_option maxRecDepth 100000
/-! a text shows its pattern, and which instruction it is -/
def mat : List Nat → List UInt8 → Prop
  | [], [] => True
  | a :: l, c :: r => (if a = 0 then hexc c.toNat = true else c.toNat = a) ∧ mat l r
  | _, _ => False
theorem inc_mat : ∀ {p q : List Nat} {s : List UInt8}, inc p q = true → mat p s → mat q s → False
  | [], [], _, h, _, _ => by simp [inc] at h
  | [], _ :: _, [], _, _, h => h
  | [], _ :: _, _ :: _, _, h, _ => h
  | _ :: _, [], [], _, h, _ => h
  | _ :: _, [], _ :: _, _, _, h => h
  | a :: l, b :: r, [], _, h, _ => h
  | a :: l, b :: r, c :: s, h, h1, h2 => by
    obtain ⟨a1, a2⟩ := h1
    obtain ⟨b1, b2⟩ := h2
    unfold inc at h
    cases e : Nat.beq a b with
    | true => rw [e] at h; exact inc_mat h a2 b2
    | false =>
      rw [e] at h
      dsimp only at h
      have ne : a ≠ b := Nat.ne_of_beq_eq_false e
      cases e0 : Nat.beq a 0 with
      | true =>
        rw [e0] at h
        have a0 : a = 0 := Nat.eq_of_beq_eq_true e0
        rw [if_pos a0] at a1
        rw [if_neg (show ¬ b = 0 by omega)] at b1
        dsimp only at h
        rw [← b1, a1] at h
        exact inc_mat (by simpa using h) a2 b2
      | false =>
        rw [e0] at h
        dsimp only at h
        have a0 : a ≠ 0 := Nat.ne_of_beq_eq_false e0
        rw [if_neg a0] at a1
        cases e1 : Nat.beq b 0 with
        | true =>
          rw [e1] at h
          have b0 : b = 0 := Nat.eq_of_beq_eq_true e1
          rw [if_pos b0] at b1
          dsimp only at h
          rw [← a1, b1] at h
          exact inc_mat (by simpa using h) a2 b2
        | false =>
          rw [if_neg (Nat.ne_of_beq_eq_false e1)] at b1
          omega
theorem inc_symm : ∀ {p q : List Nat}, inc p q = true → inc q p = true
  | [], [], h => h
  | [], _ :: _, h => rfl
  | _ :: _, [], h => rfl
  | a :: l, b :: r, h => by
    unfold inc at h ⊢
    have : Nat.beq b a = Nat.beq a b := by
      exact Bool.eq_iff_iff.2 ⟨fun z => by rw [Nat.eq_of_beq_eq_true z]; exact Nat.beq_refl _, fun z => by rw [Nat.eq_of_beq_eq_true z]; exact Nat.beq_refl _⟩
    rw [this]
    cases e : Nat.beq a b with
    | true => rw [e] at h; exact inc_symm h
    | false =>
      rw [e] at h
      dsimp only at h ⊢
      cases e0 : Nat.beq a 0 <;> cases e1 : Nat.beq b 0 <;> rw [e0] at h <;> (try rw [e1] at h) <;> dsimp only at h ⊢
      · simp only [Bool.or_eq_true] at h ⊢; exact h.imp id inc_symm
      · simp only [Bool.or_eq_true] at h ⊢; exact h.imp id inc_symm
      · have := Nat.eq_of_beq_eq_true e0; have := Nat.eq_of_beq_eq_true e1; subst a; subst b; simp at e
theorem mat_app : ∀ {p q : List Nat} {s t : List UInt8}, mat p s → mat q t → mat (p ++ q) (s ++ t)
  | [], _, [], _, _, h => h
  | [], _, _ :: _, _, h, _ => h.elim
  | _ :: _, _, [], _, h, _ => h.elim
  | a :: l, _, c :: r, _, h, h2 => ⟨h.1, mat_app h.2 h2⟩
theorem incAll_at {p : List Nat} : ∀ {l : List (List Nat)}, incAll p l = true → ∀ q ∈ l, inc p q = true
  | [], _, q, hq => nomatch hq
  | x :: l, h, q, hq => by
    unfold incAll at h
    rw [Bool.and_eq_true] at h
    rcases List.mem_cons.1 hq with e | e
    · rw [e]; exact h.1
    · exact incAll_at h.2 q e
theorem incPairs_at : ∀ {l : List (List Nat)}, incPairs l = true → ∀ {i j : Nat} {p q : List Nat}, i < j → l[i]? = some p → l[j]? = some q → skips p = false → skips q = false → inc p q = true
  | [], _, i, j, p, q, _, h, _, _, _ => by simp at h
  | x :: l, h, 0, j + 1, p, q, _, hp, hq, sp, sq => by
    unfold incPairs at h
    rw [Bool.and_eq_true, Bool.or_eq_true] at h
    simp only [List.getElem?_cons_zero, Option.some.injEq] at hp
    subst hp
    rcases h.1 with e | e
    · rw [sp] at e; cases e
    · exact incAll_at e q (List.mem_filter.2 ⟨List.mem_of_getElem? (by simpa using hq), by rw [sq]; rfl⟩)
  | x :: l, h, i + 1, j + 1, p, q, hij, hp, hq, sp, sq => by
    unfold incPairs at h
    rw [Bool.and_eq_true] at h
    exact incPairs_at h.2 (Nat.lt_of_succ_lt_succ hij) (by simpa using hp) (by simpa using hq) sp sq
/-- before, which hole, behind -/
def csOf : List Sy → List Nat
  | [] => []
  | .c n :: l => n :: csOf l
  | _ :: l => 0 :: csOf l
def spl : List Sy → List Nat × Nat × List Nat
  | [] => ([], 0, [])
  | .c n :: l => (n :: (spl l).1, (spl l).2)
  | .b :: l => ([], 1, csOf l)
  | .w :: l => ([], 2, csOf l)
def zS : Nat → List Sy
  | 0 => []
  | 1 => [.b]
  | _ => [.w]
def headok : List Nat → Bool
  | [] => true
  | n :: _ => (hd n).isNone
def txA (i : Nat) : List Nat := (spl (txI i)).1
def txZ (i : Nat) : Nat := (spl (txI i)).2.1
def txC (i : Nat) : List Nat := (spl (txI i)).2.2
def plainC (n : Nat) : Bool := decide (0 < n ∧ n < 97)
def infoB (i : Nat) : Bool := decide (txI i = cs (txA i) ++ (zS (txZ i) ++ cs (txC i))) && (txA i).all plainC && (txC i).all plainC && decide (txZ i < 3) && decide (txZ i ≠ 0 → 36 ∉ txA i ∧ 36 ∉ txC i ∧ headok (txC i) = true) && decide (txZ i = 0 → txC i = []) && decide (if i < 256 then goodI i = true → lN i false = 1 + txZ i else txZ i = 0)
theorem info_fin : ∀ i : Fin 512, infoB i.val = true := by decide +kernel
theorem good_cb : ∀ i : Fin 256, goodI (256 + i.val) = true := by decide +kernel
theorem good_k : ∀ i : Fin 256, (goodI i.val = false → kN i.val false = 5 ∨ kN i.val false = 6) ∧ (goodI i.val = true → kN i.val false ≠ 5 ∧ kN i.val false ≠ 6) := by decide +kernel
theorem ill_tx : ∀ i : Fin 256, kN i.val false = 5 → txI i.val = cs [68, 66, 32, 36, digN (i.val / 16), digN (i.val % 16)] := by decide +kernel
end Go.Proofs.YtkdeheoonannoaaDoor.E
