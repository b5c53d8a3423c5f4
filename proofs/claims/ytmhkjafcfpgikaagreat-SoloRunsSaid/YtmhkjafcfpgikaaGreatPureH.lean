/- Functions of the program as plain Lean, and what they come to. Conditions: none. -/
import Derived.Test.YtmhkjafcfpgikaaGreatEwD
import Derived.Test.YtmhkjafcfpgikaaGreatPureG
import Derived.Test.YtmhkjafcfpgikaaGreatPureD
open Go Go.Ew
namespace Go.Proofs.YtmhkjafcfpgikaaGreat.E
set_option linter.unusedVariables false
set_option linter.unusedSimpArgs false
set_option maxRecDepth 100000
def tailS (t : St) (p : Int) : St := if (cycS t).2 = true then t else endOf t p
def St.m0 (s : St) : St := { s with mode := 0 }
theorem m0_ok {s : St} (h : sok s) : sok s.m0 := ⟨h.r, h.op, h.step, h.lo, h.hi⟩
theorem fet_ok {s : St} (h : sok s) {d : Int} (hd : byte d) : sok (fetS s d) := by
 refine ⟨?_, hd, ⟨by show (0 : Int) ≤ 1; decide, by show (1 : Int) ≤ 255; decide⟩, h.lo, h.hi⟩
 show rok (if s.bug = true then s.r else _)
 split
 ·exact h.r
 ·exact setPC_ok h.r (word_mod _)
theorem mov_ok {s : St} (h : sok s) (m : Int × Int × Int) {d : Int} (hd : byte d) : sok (movS s m d) := by
 refine ⟨?_, h.op, ⟨?_, ?_⟩, ?_, ?_⟩
 ·show rok (plR s m.2.1)
  unfold plR
  split
  ·exact setPC_ok h.r (word_mod _)
  split
  ·exact putP_ok h.r 2 (word_mod _)
  split
  ·exact putP_ok h.r 2 (word_mod _)
  split
  ·exact setSP_ok h.r (word_mod _)
  split
  ·exact setSP_ok h.r (word_mod _)
  ·exact h.r
 ·show 0 ≤ (s.step + 1) % 256; omega
 ·show (s.step + 1) % 256 ≤ 255; omega
 ·show byte (if _ then d else s.lo)
  split
  ·exact hd
  ·exact h.lo
 ·show byte (if _ then d else s.hi)
  split
  ·exact hd
  ·exact h.hi
def scdS (s : St) (d : Int) : St := { s with r := setPC s.r ((pcR s.r + 1) % 65536), op := d, cb := true, step := 2 }
theorem scd_ok {s : St} (h : sok s) {d : Int} (hd : byte d) : sok (scdS s d) :=
 ⟨setPC_ok h.r (word_mod _), hd, ⟨by show (0 : Int) ≤ 2; decide, by show (2 : Int) ≤ 255; decide⟩, h.lo, h.hi⟩
def nextS (s : St) (d : Int) : St := if busyS s = false then fetS s d else if s.step = 1 ∧ (s.op = 203 ∨ s.cb = true) then scdS s d else movS s (cycS s).1 d
def doneS (s : St) (d p : Int) : St := if waitS s = true then s else if s.mode = 4 then calS s else tailS (nextS s d).m0 (p % 32)
theorem done_spec {s : St} (h : sok s) {d p : Int} (hd : byte d) (hp : byte p) : cpu_Done.F (s.c, d, p, ()) = some ((doneS s d p).c, ()) := by
 unfold cpu_Done.F cpu_Done.G doneS waitS
 dsimp +instances only [St.c]
 by_cases m1 : s.mode = 1
 ·rw [if_neg (by simp [m1]), if_pos (by simp [m1])]
 by_cases m2 : s.mode = 2
 ·rw [if_pos (by simp [m1]), if_neg (by simp [m2]), if_pos (by simp [m2])]
 by_cases m3 : s.mode = 3
 ·rw [if_pos (by simp [m1]), if_pos (by simp [m2]), if_pos (by simp [m3]), if_pos (by simp [m3])]
 by_cases m4 : s.mode = 4
 ·rw [if_pos (by simp [m1]), if_pos (by simp [m2]), if_neg (by simp [m3]), if_pos (by simp [m4])]
  refine (bind_eq (called_spec h)).trans ?_
  rw [if_neg (show ¬ decide (s.mode = 1 ∨ s.mode = 2 ∨ s.mode = 3) = true by simp [m1, m2, m3]), if_pos m4]
  rfl
 rw [if_pos (by simp [m1]), if_pos (by simp [m2]), if_neg (by simp [m3]), if_neg (by simp [m4])]
 refine (bind_eq (busy_spec h)).trans ?_
 rw [if_neg (show ¬ decide (s.mode = 1 ∨ s.mode = 2 ∨ s.mode = 3) = true by simp [m1, m2, m3]), if_neg m4, and31 hp]
 dsimp only
 unfold tailS
 cases hb : busyS s with
 | false =>
  rw [show nextS s d = fetS s d by unfold nextS; rw [if_pos hb]]
  simp only [Bool.not_false, ↓reduceIte]
  refine (bind_eq (fetched_spec s d)).trans ?_
  refine (bind_eq (cycle_spec (s := (fetS s d).m0) (m0_ok (fet_ok h hd)))).trans ?_
  dsimp only
  cases hc : (cycS (fetS s d).m0).2 with
  | false =>
   simp only [Bool.not_false, Bool.false_eq_true, ↓reduceIte]
   refine (bind_eq (end_spec (s := (fetS s d).m0) (m0_ok (fet_ok h hd)) _)).trans ?_
   rfl
  | true =>
   simp only [Bool.not_true, Bool.false_eq_true, ↓reduceIte]
   rfl
 | true =>
  simp only [Bool.not_true, Bool.false_eq_true, ↓reduceIte]
  refine (bind_eq (fetches_spec s)).trans ?_
  dsimp only
  by_cases q : s.step = 1 ∧ (s.op = 203 ∨ s.cb = true)
  ·rw [if_pos (decide_eq_true q), show nextS s d = scdS s d by unfold nextS; rw [if_neg (by rw [hb]; decide), if_pos q]]
   refine (bind_eq (cycle_spec (s := (scdS s d).m0) (m0_ok (scd_ok h hd)))).trans ?_
   dsimp only
   cases hc : (cycS (scdS s d).m0).2 with
   | false =>
    simp only [Bool.not_false, Bool.false_eq_true, ↓reduceIte]
    refine (bind_eq (end_spec (s := (scdS s d).m0) (m0_ok (scd_ok h hd)) _)).trans ?_
    rfl
   | true =>
    simp only [Bool.not_true, Bool.false_eq_true, ↓reduceIte]
    rfl
  ·rw [if_neg (by simpa using q), show nextS s d = movS s (cycS s).1 d by unfold nextS; rw [if_neg (by rw [hb]; decide), if_neg q]]
   refine (bind_eq (moved_spec h d)).trans ?_
   refine (bind_eq (cycle_spec (s := (movS s (cycS s).1 d).m0) (m0_ok (mov_ok h _ hd)))).trans ?_
   dsimp only
   cases hc : (cycS (movS s (cycS s).1 d).m0).2 with
   | false =>
    simp only [Bool.not_false, Bool.false_eq_true, ↓reduceIte]
    refine (bind_eq (end_spec (s := (movS s (cycS s).1 d).m0) (m0_ok (mov_ok h _ hd)) _)).trans ?_
    rfl
   | true =>
    simp only [Bool.not_true, Bool.false_eq_true, ↓reduceIte]
    rfl
theorem bind_self {α : Type} (o : Option α) : (o.bind fun y => some y) = o := by cases o <;> rfl
theorem rtail {t : St} (h : sok t) (h1 : 1 ≤ t.step) {p : Int} (hp : byte p) {c : Bool} {kc : Option (CC × Unit)} :
  c = decide (t.step < lenS t) → kc = ref22_Ends.F (t.z.c, t.f, p % 32, ()) → (if c = true then some (t.c, ()) else kc) = some ((tailS t (p % 32)).c, ()) := by
 intro e1 e2
 rw [e1, e2, ← cyc_len h1]
 unfold tailS
 cases (cycS t).2 with
 | true => rfl
 | false =>
  rw [if_neg (by decide), if_neg (by decide)]
  exact rend_spec h (by have := hp.1; omega)
theorem rdone_spec {s : St} (h : sok s) {d p : Int} (hd : byte d) (hp : byte p) : ref22_Done.F (s.c, d, p, ()) = some ((doneS s d p).c, ()) := by
 unfold ref22_Done.F ref22_Done.G doneS
 refine (bind_eq (waits_spec s)).trans ?_
 dsimp only
 by_cases hw : waitS s = true
 ·rw [if_pos hw, if_pos hw]
 rw [if_neg hw, if_neg hw]
 by_cases m4 : s.mode = 4
 ·rw [if_pos m4]
  refine (if_pos (show (s.mode == 4) = true by simp [m4])).trans ?_
  exact bind_eq (rcalled_spec h)
 rw [if_neg m4]
 refine (if_neg (show ¬ (s.mode == 4) = true by simp [m4])).trans ?_
 refine (bind_eq (rBusy_spec h)).trans ?_
 dsimp only
 have a0 := h.step.1
 rw [tmod32 hp]
 cases hb : busyS s with
 | false =>
  rw [show nextS s d = fetS s d by unfold nextS; rw [if_pos hb]]
  simp only [Bool.not_false, ↓reduceIte]
  have hf := m0_ok (fet_ok h hd)
  cases hg : s.bug with
  | false =>
   have er : (fetS s d).m0 = ⟨setPC s.r ((pcR s.r + 1) % 65536), s.ime, s.arm, false, 0, d, false, 1, s.lo, s.hi⟩ := by
    unfold fetS St.m0
    rw [hg]; rfl
   refine (if_pos (show (!s.bug) = true by rw [hg]; rfl)).trans ?_
   refine (bind_eq (more_spec h.r.pc (by omega) (by omega))).trans ?_
   rw [er] at hf ⊢
   refine (bind_eq (length_spec hf (by have := pl_len (St.mk (setPC s.r ((pcR s.r + 1) % 65536)) s.ime s.arm false 0 d false 1 s.lo s.hi); omega))).trans ?_
   refine rtail hf (by show (1 : Int) ≤ 1; decide) hp rfl ?_
   refine (bind_eq (rform_spec hd false)).trans ?_
   exact bind_self _
  | true =>
   have er : (fetS s d).m0 = ⟨s.r, s.ime, s.arm, false, 0, d, false, 1, s.lo, s.hi⟩ := by
    unfold fetS St.m0
    rw [hg]; rfl
   refine (if_neg (show ¬ (!s.bug) = true by rw [hg]; decide)).trans ?_
   rw [er] at hf ⊢
   refine (bind_eq (length_spec hf (by have := pl_len (St.mk s.r s.ime s.arm false 0 d false 1 s.lo s.hi); omega))).trans ?_
   refine rtail hf (by show (1 : Int) ≤ 1; decide) hp rfl ?_
   refine (bind_eq (rform_spec hd false)).trans ?_
   exact bind_self _
 | true =>
  simp only [Bool.not_true, Bool.false_eq_true, ↓reduceIte]
  refine (bind_eq (rsecond_spec s)).trans ?_
  dsimp only
  have hs := busy_fields hb m4
  by_cases q : s.step = 1 ∧ (s.op = 203 ∨ s.cb = true)
  ·rw [if_pos (decide_eq_true q), show nextS s d = scdS s d by unfold nextS; rw [if_neg (by rw [hb]; decide), if_pos q]]
   have hf := m0_ok (scd_ok h hd)
   refine (bind_eq (more_spec h.r.pc (by omega) (by omega))).trans ?_
   refine (bind_eq (length_spec hf (by have := pl_len (scdS s d).m0; omega))).trans ?_
   refine rtail hf (by show (1 : Int) ≤ 2; decide) hp rfl ?_
   refine (bind_eq (rform_spec hd true)).trans ?_
   exact bind_self _
  ·rw [if_neg (by simpa using q), show nextS s d = movS s (cycS s).1 d by unfold nextS; rw [if_neg (by rw [hb]; decide), if_neg q]]
   have hf := m0_ok (mov_ok h (cycS s).1 hd)
   have l := len_le s
   refine (bind_eq (due_spec h (by omega) hs.2 q)).trans ?_
   refine (bind_eq (rmoved_spec h (cyc_bus h) d)).trans ?_
   refine (bind_eq (length_spec hf (by have := pl_len (movS s (cycS s).1 d).m0; omega))).trans ?_
   have st : (movS s (cycS s).1 d).m0.step = s.step + 1 := by
    show (s.step + 1) % 256 = s.step + 1
    omega
   refine rtail hf (by rw [st]; omega) hp ?_ ?_
   ·exact congrArg (fun x : Int => decide (x < lenS (movS s (cycS s).1 d).m0)) (w64 (n := (movS s (cycS s).1 d).m0.step) (by have := hf.step.1; have := hf.step.2; omega))
   ·refine (bind_eq (rform_spec h.op s.cb)).trans ?_
    exact bind_self _
end Go.Proofs.YtmhkjafcfpgikaaGreat.E
