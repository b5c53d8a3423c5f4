/- Functions of the program as plain Lean, and what they come to. Conditions: none. -/
import Derived.Test.YtmhkjafcfpgikaaGreatEwD
import Derived.Test.YtmhkjafcfpgikaaGreatPureE
open Go Go.Ew
namespace Go.Proofs.YtmhkjafcfpgikaaGreat.E
set_option linter.unusedVariables false
set_option linter.unusedSimpArgs false
set_option maxRecDepth 100000
theorem form_fin : ∀ op : Fin 256, ∀ cb : Bool, ((T.formS (op.val : Int) cb).1 = 17 ∨ (T.formS (op.val : Int) cb).1 = 22 ∨ (T.formS (op.val : Int) cb).1 = 21 ∨ (T.formS (op.val : Int) cb).1 = 27 ∨ (T.formS (op.val : Int) cb).1 = 28 ∨ (T.formS (op.val : Int) cb).1 = 29 → (T.formS (op.val : Int) cb).2.1 < 5) ∧ ((T.formS (op.val : Int) cb).1 = 31 → (T.formS (op.val : Int) cb).2.1 < 4) := by decide +kernel
structure fok (f : T.F6) : Prop where
 k0 : 0 ≤ f.1
 k1 : f.1 < 47
 x0 : 0 ≤ f.2.1
 x1 : f.2.1 < 8
 y0 : 0 ≤ f.2.2.1
 y1 : f.2.2.1 < 8
 p : f.1 = 17 ∨ f.1 = 22 ∨ f.1 = 21 ∨ f.1 = 27 ∨ f.1 = 28 ∨ f.1 = 29 → f.2.1 < 5
 q : f.1 = 31 → f.2.1 < 4
theorem fok_of {s : St} (h : sok s) : fok s.f := by
 have a := h.op.1
 have b := h.op.2
 have e : ((s.op.toNat : Nat) : Int) = s.op := Int.toNat_of_nonneg a
 have g := T.form_kind ⟨s.op.toNat, by omega⟩ s.cb
 have g' := form_fin ⟨s.op.toNat, by omega⟩ s.cb
 dsimp only at g g'
 rw [e] at g g'
 exact ⟨g.1, g.2.1, g.2.2.1, g.2.2.2.1, g.2.2.2.2.1, g.2.2.2.2.2.1, g'.1, g'.2⟩
theorem getD_mem {α : Type} {l : List α} {n : Nat} (h : n < l.length) (d : α) : l.getD n d ∈ l := by
 rw [List.getD_eq_getElem?_getD, List.getElem?_eq_getElem h]
 exact List.getElem_mem h
theorem due_spec {s : St} (h : sok s) (hs : 1 ≤ s.step) (hb : s.step < lenS s) (hn : ¬ (s.step = 1 ∧ (s.op = 203 ∨ s.cb = true))) : ref22_due.F (s.c, ()) = some ((cycS s).1, ()) := by
 have a := h.step.2
 have q : ¬ (s.op = 203 ∧ s.cb = false) := fun z => by
  unfold lenS at hb
  rw [if_pos z] at hb
  exact hn ⟨by omega, .inl z.1⟩
 unfold lenS at hb
 rw [if_neg q] at hb
 unfold ref22_due.F ref22_due.G
 refine (bind_eq (rform_spec h.op s.cb)).trans ?_
 refine (bind_eq (rholds_spec (r := s.r) h.r _)).trans ?_
 refine (bind_eq (rplan_spec' h.op s.cb _)).trans ?_
 dsimp +instances only [St.c, Prod.x10, Prod.x11, Prod.x12, Prod.x13, Prod.x14, Prod.x15, Prod.x16, Prod.x17]
 rw [show T.planS (T.formS s.op s.cb).1 (T.formS s.op s.cb).2.1 (T.formS s.op s.cb).2.2.1 (holdS s.r (T.formS s.op s.cb).2.1) = s.pl from rfl]
 rw [w64 (n := s.step) (by omega), w64 (n := s.step - 2) (by omega), w64 (n := s.step - 1) (by omega)]
 unfold cycS
 rw [if_neg q]
 cases c : s.cb with
 | true =>
  rw [c] at hb
  simp only [↓reduceIte] at hb
  have n1 : s.step ≠ 1 := fun z => hn ⟨z, .inr c⟩
  rw [if_pos rfl, if_pos (by omega), if_neg (fun z => hn ⟨z.2, .inr c⟩)]
  simp only [↓reduceIte]
  rw [if_pos (by omega)]
  rw [show s.step - 1 - 1 = s.step - 2 by omega]
 | false =>
  rw [c] at hb
  simp only [Bool.false_eq_true, ↓reduceIte] at hb
  rw [if_neg (by decide), if_pos (by omega), if_neg (fun z => by simp at z)]
  simp only [Bool.false_eq_true, ↓reduceIte]
  rw [if_pos (by omega)]
  rw [show s.step - 1 - 0 = s.step - 1 by omega]
theorem and31_fin : ∀ p : Fin 256, bits .and .u8 (p.val : Int) 31 = (p.val : Int) % 32 := by decide +kernel
theorem and31 {p : Int} (h : byte p) : bits .and .u8 p 31 = p % 32 := by
 have a := h.1
 have b := h.2
 obtain ⟨m, rfl⟩ := Int.eq_ofNat_of_zero_le a
 exact and31_fin ⟨m, by omega⟩
theorem tmod32 {p : Int} (h : byte p) : Int.tmod p 32 = p % 32 := tmodN h.1
theorem pl_len (s : St) : s.pl.length ≤ 10 := plan_len _ _ _ _
theorem len_le (s : St) : lenS s ≤ 12 := by
 have := pl_len s
 unfold lenS
 split
 ·omega
 ·split <;> omega
theorem busy_fields {s : St} (hb : busyS s = true) (hm : s.mode ≠ 4) : s.step ≠ 0 ∧ s.step < lenS s := by
 unfold busyS at hb
 split at hb
 ·simp at hb
 split at hb
 ·simp at hb
 ·rename_i e
  first | rw [if_neg hm] at hb | skip
  exact ⟨e, of_decide_eq_true hb⟩
end Go.Proofs.YtmhkjafcfpgikaaGreat.E
