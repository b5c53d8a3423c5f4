/- Functions of the program as plain Lean, and what they come to. Conditions: none. -/
import Derived.Test.YtddeejpffdccpaaEwD
import Derived.Test.YtddeejpffdccpaaPureR
import Derived.Test.YtddeejpffdccpaaWalkCalls
open Go Go.Ew
namespace Go.Proofs.Ytddeejpffdccpaa.E

set_option linter.unusedVariables false
set_option linter.unusedSimpArgs false
set_option maxRecDepth 100000
abbrev c0D := ((Int × Int × Unit × Bool × Unit × Int × Int × Unit) × ((Int × Int × Int × Int × Int × Int × Int × Int × Int × Int × Unit) × CB × Unit) × ((List (Int × Int × Int)) × Unit))
abbrev c0X := (((Bool × Unit) × Unit × Unit) ⊕ ((Int × Unit × Bool × Unit × Int × Unit) × ((Int × Int × Int × Int × Int × Int × Int × Int × Int × Int × Unit) × CB × Unit) × ((List (Int × Int × Int)) × Unit)))
noncomputable def c0step (x : c0D) : Option (c0D ⊕ c0X) := law22_CpuCalls.L0.step cpu_Want.F cpu_Done.F cpu_Busy.F x.1.1 x.1.2.1 x.1.2.2.2.1 x.1.x5 x.1.x6 x.2.1.1.1 x.2.1.1.2.1 x.2.1.1.2.2.1 x.2.1.1.2.2.2.1 x.2.1.1.2.2.2.2.1 x.2.1.1.x5 x.2.1.1.x6 x.2.1.1.x7 x.2.1.1.x8 x.2.1.1.x9 x.2.1.2.1.1 x.2.1.2.1.2.1 x.2.1.2.1.2.2.1 x.2.1.2.1.2.2.2.1 x.2.1.2.1.2.2.2.2.1 x.2.1.2.1.x5 x.2.1.2.1.x6 x.2.1.2.1.x7 x.2.1.2.1.x8 x.2.1.2.1.x9 x.2.1.2.1.x10 x.2.1.2.1.x11 x.2.1.2.1.x12 x.2.1.2.1.x13 x.2.1.2.1.x14 x.2.1.2.1.x15 x.2.1.2.1.x16 x.2.1.2.1.x17 x.2.1.2.1.x18 x.2.2.1
theorem L0_F_eq : law22_CpuCalls.L0.F = iterU c0step := rfl
abbrev c1D := ((Int × Unit × Bool × Unit × Int × Nat × Unit × Unit × Unit × Int × Int × Unit) × ((Int × Int × Int × Int × Int × Int × Int × Int × Int × Int × Unit) × CB × ((List (Int × Int × Int)) × Unit) × (Int × Int × Int × Unit) × (Int × Int × Int × Unit) × (Int × Int × Int × Unit) × Unit) × Unit)
abbrev c1X := (((Bool × Unit) × Unit × Unit) ⊕ ((Int × Unit × Bool × Unit × Int × Nat × Unit × Unit × Unit × Int × Unit) × ((Int × Int × Int × Int × Int × Int × Int × Int × Int × Int × Unit) × CB × ((List (Int × Int × Int)) × Unit) × (Int × Int × Int × Unit) × (Int × Int × Int × Unit) × (Int × Int × Int × Unit) × Unit) × Unit))
noncomputable def c1step (x : c1D) : Option (c1D ⊕ c1X) := law22_CpuCalls.L1.step x.1.1 x.1.2.2.1 x.1.2.2.2.2.1 x.1.x5 x.1.x9 x.1.x10 x.2.1.1.1 x.2.1.1.2.1 x.2.1.1.2.2.1 x.2.1.1.2.2.2.1 x.2.1.1.2.2.2.2.1 x.2.1.1.x5 x.2.1.1.x6 x.2.1.1.x7 x.2.1.1.x8 x.2.1.1.x9 x.2.1.2.1.1 x.2.1.2.1.2.1 x.2.1.2.1.2.2.1 x.2.1.2.1.2.2.2.1 x.2.1.2.1.2.2.2.2.1 x.2.1.2.1.x5 x.2.1.2.1.x6 x.2.1.2.1.x7 x.2.1.2.1.x8 x.2.1.2.1.x9 x.2.1.2.1.x10 x.2.1.2.1.x11 x.2.1.2.1.x12 x.2.1.2.1.x13 x.2.1.2.1.x14 x.2.1.2.1.x15 x.2.1.2.1.x16 x.2.1.2.1.x17 x.2.1.2.1.x18 x.2.1.2.2.1.1 x.2.1.2.2.2.1.1 x.2.1.2.2.2.1.2.1 x.2.1.2.2.2.1.2.2.1 x.2.1.2.2.2.2.1.1 x.2.1.2.2.2.2.1.2.1 x.2.1.2.2.2.2.1.2.2.1 x.2.1.x5.1 x.2.1.x5.2.1 x.2.1.x5.2.2.1
theorem L1_F_eq : law22_CpuCalls.L1.F = iterU c1step := rfl
def rbS (r : R10) : Int × Int × Int × Int × Int × Int × Int × Int × Int × Int × Unit := (r.1, r.2.1, r.2.2.1, r.2.2.2.1, r.2.2.2.2.1, r.2.2.2.2.2.1, r.2.2.2.2.2.2.1, r.2.2.2.2.2.2.2.1, r.2.2.2.2.2.2.2.2.1, r.2.2.2.2.2.2.2.2.2, ())
def bitT (p k : Int) : Bool := bits BinOp.and IntKind.u8 (Int.fdiv p ((2 : Int) ^ min (Int.toNat k) (8 : Nat))) (1 : Int) == (1 : Int)
theorem first_fin : ∀ p : Fin 256, (I.firstV ((p.val : Int) % 32)).2 = decide ((p.val : Int) % 32 ≠ 0) ∧ ((I.firstV ((p.val : Int) % 32)).2 = true → 0 ≤ (I.firstV ((p.val : Int) % 32)).1 ∧ (I.firstV ((p.val : Int) % 32)).1 < 5 ∧ bitT (p.val : Int) (I.firstV ((p.val : Int) % 32)).1 = true ∧ ∀ k : Fin 5, (k.val : Int) < (I.firstV ((p.val : Int) % 32)).1 → bitT (p.val : Int) (k.val : Int) = false) := by decide +kernel
theorem first_byte {p : Int} (h : byte p) : (I.firstV (p % 32)).2 = decide (p % 32 ≠ 0) ∧ ((I.firstV (p % 32)).2 = true → 0 ≤ (I.firstV (p % 32)).1 ∧ (I.firstV (p % 32)).1 < 5 ∧ bitT p (I.firstV (p % 32)).1 = true ∧ ∀ k : Int, 0 ≤ k → k < (I.firstV (p % 32)).1 → bitT p k = false) := by
  have a := h.1
  have b := h.2
  obtain ⟨m, rfl⟩ := Int.eq_ofNat_of_zero_le a
  have f := first_fin ⟨m, by omega⟩
  refine ⟨f.1, fun q => ?_⟩
  obtain ⟨f1, f2, f3, f4⟩ := f.2 q
  refine ⟨f1, f2, f3, fun k k0 k1 => ?_⟩
  dsimp only at f2 f4
  have := f4 ⟨k.toNat, by omega⟩
  simp only [Int.toNat_of_nonneg k0] at this
  exact this k1
/-! the five cycles -/
def k0 (r : R10) : St := { begunS r with ime := true }
def k0' (r : R10) : St := { k0 r with mode := 4, step := 0 }
def k1 (r : R10) : St := { k0' r with ime := false, arm := false, step := 1 }
def k2 (r : R10) : St := { k1 r with step := 2 }
def k3 (r : R10) : St := { k2 r with r := setSP (begunS r).r ((spR r + -1) % 65536), step := 3 }
def k3' (r : R10) (lo : Int) : St := { k3 r with lo := lo }
def k4 (r : R10) (lo : Int) : St := { k3' r lo with r := setSP (k3 r).r (((spR r + -1) % 65536 + -1) % 65536), step := 4 }
def k5 (r : R10) (lo : Int) : St := { k4 r lo with r := setPC (k4 r lo).r (if lo < 5 then 64 + 8 * lo else 0), mode := 0, step := 0 }
theorem b1_ok : byte 1 := ⟨by decide, by decide⟩
theorem ok0 {r : R10} (h : rok r) : sok (k0 r) := by have := begun_ok h; exact ⟨this.r, this.op, this.step, this.lo, this.hi⟩
theorem ok0' {r : R10} (h : rok r) : sok (k0' r) := by have := begun_ok h; exact ⟨this.r, this.op, this.step, this.lo, this.hi⟩
theorem ok1 {r : R10} (h : rok r) : sok (k1 r) := by have := begun_ok h; exact ⟨this.r, this.op, b1_ok, this.lo, this.hi⟩
theorem ok2 {r : R10} (h : rok r) : sok (k2 r) := by have := begun_ok h; exact ⟨this.r, this.op, ⟨by show (0 : Int) ≤ 2; decide, by show (2 : Int) ≤ 255; decide⟩, this.lo, this.hi⟩
theorem ok3 {r : R10} (h : rok r) : sok (k3 r) := by have := begun_ok h; exact ⟨setSP_ok this.r (word_mod _), this.op, ⟨by show (0 : Int) ≤ 3; decide, by show (3 : Int) ≤ 255; decide⟩, this.lo, this.hi⟩
theorem ok3' {r : R10} (h : rok r) {lo : Int} (hl : byte lo) : sok (k3' r lo) := by have := ok3 h; exact ⟨this.r, this.op, this.step, hl, this.hi⟩
theorem ok4 {r : R10} (h : rok r) {lo : Int} (hl : byte lo) : sok (k4 r lo) := by have := ok3' h hl; exact ⟨setSP_ok (ok3 h).r (word_mod _), this.op, ⟨by show (0 : Int) ≤ 4; decide, by show (4 : Int) ≤ 255; decide⟩, this.lo, this.hi⟩
theorem ok5 {r : R10} (h : rok r) {lo : Int} (hl : byte lo) : sok (k5 r lo) := by
  have := ok4 h hl
  have a := hl.1
  refine ⟨setPC_ok this.r ?_, this.op, byte0, this.lo, this.hi⟩
  split
  · exact ⟨by omega, by omega⟩
  · exact ⟨by decide, by decide⟩
theorem cw0 {r : R10} (h : rok r) {p : Int} (hp : byte p) (h0 : p % 32 ≠ 0) : cpu_Want.F ((k0 r).c, p, ()) = some ((k0' r).c, (0, 0, 0), -1, ()) := by
  rw [want_spec (ok0 h) hp, want0 rfl rfl]
  unfold begS
  rw [if_pos ⟨rfl, h0⟩]
  rfl
theorem want_call {s : St} (m : s.mode = 4) (b : busyS s = true) (p : Int) : wantS s p = callS s p := by
  unfold wantS
  rw [if_neg (by omega), if_neg (by rw [b]; decide), if_pos m]
theorem cd0 {r : R10} (h : rok r) {p : Int} (hp : byte p) : cpu_Done.F ((k0' r).c, 0, p, ()) = some ((k1 r).c, ()) := by rw [done_spec (ok0' h) byte0 hp]; rfl
theorem cw1 {r : R10} (h : rok r) {p : Int} (hp : byte p) : cpu_Want.F ((k1 r).c, p, ()) = some ((k1 r).c, (0, 0, 0), -1, ()) := by rw [want_spec (ok1 h) hp, want_call rfl rfl]; rfl
theorem cd1 {r : R10} (h : rok r) {p : Int} (hp : byte p) : cpu_Done.F ((k1 r).c, 0, p, ()) = some ((k2 r).c, ()) := by rw [done_spec (ok1 h) byte0 hp]; rfl
theorem cw2 {r : R10} (h : rok r) {p : Int} (hp : byte p) : cpu_Want.F ((k2 r).c, p, ()) = some ((k2 r).c, (3, (spR r + -1) % 65536, pcR r / 256), -1, ()) := by rw [want_spec (ok2 h) hp, want_call rfl rfl]; rfl
theorem cd2 {r : R10} (h : rok r) {p : Int} (hp : byte p) : cpu_Done.F ((k2 r).c, 0, p, ()) = some ((k3 r).c, ()) := by rw [done_spec (ok2 h) byte0 hp]; rfl
def loV (p : Int) : Int := if (I.firstV (p % 32)).2 = true then (I.firstV (p % 32)).1 else 5
def tookV (p : Int) : Int := if (I.firstV (p % 32)).2 = true then (I.firstV (p % 32)).1 else -1
theorem loV_ok {p : Int} (h : byte p) : byte (loV p) := by
  unfold loV
  split
  · rename_i q
    obtain ⟨a, b, _⟩ := (first_byte h).2 q
    exact ⟨a, by omega⟩
  · exact ⟨by decide, by decide⟩
theorem cw3 {r : R10} (h : rok r) {p : Int} (hp : byte p) : cpu_Want.F ((k3 r).c, p, ()) = some ((k3' r (loV p)).c, (3, ((spR r + -1) % 65536 + -1) % 65536, pcR r % 256), tookV p, ()) := by
  rw [want_spec (ok3 h) hp, want_call rfl rfl]
  unfold callS loV tookV
  rw [if_neg (show ¬ (k3 r).step = 2 by show ¬ (3 : Int) = 2; decide), if_pos (show (k3 r).step = 3 from rfl)]
  by_cases q : (I.firstV (p % 32)).2 = true
  · rw [if_pos q, if_pos q, if_pos q]
    obtain ⟨a, b, _⟩ := (first_byte hp).2 q
    rw [w8 (n := (I.firstV (p % 32)).1) (by omega)]
    rfl
  · rw [if_neg q, if_neg q, if_neg q]
    rfl
theorem cd3 {r : R10} (h : rok r) {lo p : Int} (hl : byte lo) (hp : byte p) : cpu_Done.F ((k3' r lo).c, 0, p, ()) = some ((k4 r lo).c, ()) := by rw [done_spec (ok3' h hl) byte0 hp]; rfl
theorem cw4 {r : R10} (h : rok r) {lo p : Int} (hl : byte lo) (hp : byte p) : cpu_Want.F ((k4 r lo).c, p, ()) = some ((k4 r lo).c, (0, 0, 0), -1, ()) := by rw [want_spec (ok4 h hl) hp, want_call rfl rfl]; rfl
theorem cd4 {r : R10} (h : rok r) {lo p : Int} (hl : byte lo) (hp : byte p) : cpu_Done.F ((k4 r lo).c, 0, p, ()) = some ((k5 r lo).c, ()) := by rw [done_spec (ok4 h hl) byte0 hp]; rfl
theorem bz1 {r : R10} (h : rok r) : cpu_Busy.F ((k1 r).c, ()) = some (true, ()) := by rw [Busy_spec (ok1 h)]; rfl
theorem bz2 {r : R10} (h : rok r) : cpu_Busy.F ((k2 r).c, ()) = some (true, ()) := by rw [Busy_spec (ok2 h)]; rfl
theorem bz3 {r : R10} (h : rok r) : cpu_Busy.F ((k3 r).c, ()) = some (true, ()) := by rw [Busy_spec (ok3 h)]; rfl
theorem bz4 {r : R10} (h : rok r) {lo : Int} (hl : byte lo) : cpu_Busy.F ((k4 r lo).c, ()) = some (true, ()) := by rw [Busy_spec (ok4 h hl)]; rfl
theorem bz5 {r : R10} (h : rok r) {lo : Int} (hl : byte lo) : cpu_Busy.F ((k5 r lo).c, ()) = some (false, ()) := by rw [Busy_spec (ok5 h hl)]; rfl
theorem cstep0 {r : R10} (h : rok r) {f l : Int} (hf : byte f) (h0 : f % 32 ≠ 0) (hl : byte l) (up : Bool) : c0step ((f, l, (), up, (), (-1 : Int), (0 : Int), ()), (rbS r, (k0 r).b, ()), [], ()) = some (.inl ((f, l, (), up, (), (-1 : Int), (1 : Int), ()), (rbS r, (k1 r).b, ()), [(0, 0, 0)], ())) := by
  unfold c0step law22_CpuCalls.L0.step
  refine (if_pos (show decide ((0 : Int) < 5) = true by decide)).trans ?_
  refine (if_neg (show ¬ decide ((0 : Int) > 2) = true by decide)).trans ?_
  refine (bind_eq (cw0 h hf h0)).trans ?_
  refine (if_neg (show ¬ decide ((-1 : Int) ≥ 0) = true by decide)).trans ?_
  refine (if_neg (show ¬ (((0 : Int) == 3) == true) = true by decide)).trans ?_
  refine (if_pos (show (((!decide ((-1 : Int) ≥ 0)) == false) == false) = true by decide)).trans ?_
  · skip
    refine (bind_eq (cd0 h hf)).trans ?_
    refine (bind_eq (bz1 h)).trans ?_
    refine (if_neg (by show ¬ ((!true) == decide ((0 : Int) < 4)) = true; decide)).trans ?_
    refine (if_pos (by simp)).trans ?_
    refine (bind_eq (cd0 h hf)).trans ?_
    rfl
theorem cstep1 {r : R10} (h : rok r) {f l : Int} (hf : byte f) (h0 : f % 32 ≠ 0) (hl : byte l) (up : Bool) : c0step ((f, l, (), up, (), (-1 : Int), (1 : Int), ()), (rbS r, (k1 r).b, ()), [(0, 0, 0)], ()) = some (.inl ((f, l, (), up, (), (-1 : Int), (2 : Int), ()), (rbS r, (k2 r).b, ()), [(0, 0, 0), (0, 0, 0)], ())) := by
  unfold c0step law22_CpuCalls.L0.step
  refine (if_pos (show decide ((1 : Int) < 5) = true by decide)).trans ?_
  refine (if_neg (show ¬ decide ((1 : Int) > 2) = true by decide)).trans ?_
  refine (bind_eq (cw1 h hf)).trans ?_
  refine (if_neg (show ¬ decide ((-1 : Int) ≥ 0) = true by decide)).trans ?_
  refine (if_neg (show ¬ (((1 : Int) == 3) == true) = true by decide)).trans ?_
  refine (if_pos (show (((!decide ((-1 : Int) ≥ 0)) == false) == false) = true by decide)).trans ?_
  · skip
    refine (bind_eq (cd1 h hf)).trans ?_
    refine (bind_eq (bz2 h)).trans ?_
    refine (if_neg (by show ¬ ((!true) == decide ((1 : Int) < 4)) = true; decide)).trans ?_
    refine (if_pos (by simp)).trans ?_
    refine (bind_eq (cd1 h hf)).trans ?_
    rfl
theorem cstep2 {r : R10} (h : rok r) {f l : Int} (hf : byte f) (h0 : f % 32 ≠ 0) (hl : byte l) (up : Bool) : c0step ((f, l, (), up, (), (-1 : Int), (2 : Int), ()), (rbS r, (k2 r).b, ()), [(0, 0, 0), (0, 0, 0)], ()) = some (.inl ((f, l, (), up, (), (-1 : Int), (3 : Int), ()), (rbS r, (k3 r).b, ()), [(0, 0, 0), (0, 0, 0), (3, (spR r + -1) % 65536, pcR r / 256)], ())) := by
  unfold c0step law22_CpuCalls.L0.step
  refine (if_pos (show decide ((2 : Int) < 5) = true by decide)).trans ?_
  refine (if_neg (show ¬ decide ((2 : Int) > 2) = true by decide)).trans ?_
  refine (bind_eq (cw2 h hf)).trans ?_
  refine (if_neg (show ¬ decide ((-1 : Int) ≥ 0) = true by decide)).trans ?_
  refine (if_neg (show ¬ (((2 : Int) == 3) == true) = true by decide)).trans ?_
  refine (if_pos (show (((!decide ((-1 : Int) ≥ 0)) == false) == false) = true by decide)).trans ?_
  · skip
    refine (bind_eq (cd2 h hf)).trans ?_
    refine (bind_eq (bz3 h)).trans ?_
    refine (if_neg (by show ¬ ((!true) == decide ((2 : Int) < 4)) = true; decide)).trans ?_
    refine (if_pos (by simp)).trans ?_
    refine (bind_eq (cd2 h hf)).trans ?_
    rfl
theorem cstep3 {r : R10} (h : rok r) {f l : Int} (hf : byte f) (h0 : f % 32 ≠ 0) (hl : byte l) (up : Bool) : c0step ((f, l, (), up, (), (-1 : Int), (3 : Int), ()), (rbS r, (k3 r).b, ()), [(0, 0, 0), (0, 0, 0), (3, (spR r + -1) % 65536, pcR r / 256)], ()) = some (.inl ((f, l, (), up, (), tookV l, (4 : Int), ()), (rbS r, (k4 r (loV l)).b, ()), [(0, 0, 0), (0, 0, 0), (3, (spR r + -1) % 65536, pcR r / 256), (3, ((spR r + -1) % 65536 + -1) % 65536, pcR r % 256)], ())) := by
  unfold c0step law22_CpuCalls.L0.step
  refine (if_pos (show decide ((3 : Int) < 5) = true by decide)).trans ?_
  refine (if_pos (show decide ((3 : Int) > 2) = true by decide)).trans ?_
  refine (bind_eq (cw3 h hl)).trans ?_
  have tm : Int.tmod l 32 = l % 32 := tmodN hl.1
  have fb := first_byte hl
  by_cases q : (I.firstV (l % 32)).2 = true
  · obtain ⟨g0, g1, _⟩ := fb.2 q
    have g2 : tookV l ≥ 0 := by unfold tookV; rw [if_pos q]; exact g0
    have g3 : l % 32 ≠ 0 := by have := fb.1; rw [q] at this; exact of_decide_eq_true this.symm
    refine (if_pos (decide_eq_true g2)).trans ?_
    refine (if_pos (show (((3 : Int) == 3) == true) = true by decide)).trans ?_
    refine (if_pos (show ((!(decide (tookV l ≥ 0) == (Int.tmod l 32 != 0))) == false) = true by rw [tm, decide_eq_true g2]; simp [g3])).trans ?_
    refine (bind_eq (cd3 h (loV_ok hl) hl)).trans ?_
    refine (bind_eq (bz4 h (loV_ok hl))).trans ?_
    refine (if_neg (by show ¬ ((!true) == decide ((3 : Int) < 4)) = true; decide)).trans ?_
    refine (if_pos (by simp)).trans ?_
    refine (bind_eq (cd3 h (loV_ok hl) hl)).trans ?_
    rfl
  · have g2 : ¬ tookV l ≥ 0 := by unfold tookV; rw [if_neg q]; decide
    have e1 : tookV l = -1 := by unfold tookV; rw [if_neg q]
    have g3 : l % 32 = 0 := by
      have := fb.1
      rw [Bool.eq_false_iff.2 q] at this
      exact Decidable.not_not.1 (of_decide_eq_false this.symm)
    refine (if_neg (by rw [decide_eq_true_eq]; exact g2)).trans ?_
    refine (if_pos (show (((3 : Int) == 3) == true) = true by decide)).trans ?_
    refine (if_pos (show ((!(decide (tookV l ≥ 0) == (Int.tmod l 32 != 0))) == false) = true by rw [tm, decide_eq_false g2]; simp [g3])).trans ?_
    refine (bind_eq (cd3 h (loV_ok hl) hl)).trans ?_
    refine (bind_eq (bz4 h (loV_ok hl))).trans ?_
    refine (if_neg (by show ¬ ((!true) == decide ((3 : Int) < 4)) = true; decide)).trans ?_
    refine (if_pos (by simp)).trans ?_
    refine (bind_eq (cd3 h (loV_ok hl) hl)).trans ?_
    rw [e1]; rfl
theorem cstep4 {r : R10} (h : rok r) {f l : Int} (hf : byte f) (h0 : f % 32 ≠ 0) (hl : byte l) (up : Bool) : c0step ((f, l, (), up, (), tookV l, (4 : Int), ()), (rbS r, (k4 r (loV l)).b, ()), [(0, 0, 0), (0, 0, 0), (3, (spR r + -1) % 65536, pcR r / 256), (3, ((spR r + -1) % 65536 + -1) % 65536, pcR r % 256)], ()) = some (.inl ((f, l, (), up, (), tookV l, (5 : Int), ()), (rbS r, (k5 r (loV l)).b, ()), [(0, 0, 0), (0, 0, 0), (3, (spR r + -1) % 65536, pcR r / 256), (3, ((spR r + -1) % 65536 + -1) % 65536, pcR r % 256), (0, 0, 0)], ())) := by
  unfold c0step law22_CpuCalls.L0.step
  refine (if_pos (show decide ((4 : Int) < 5) = true by decide)).trans ?_
  refine (if_pos (show decide ((4 : Int) > 2) = true by decide)).trans ?_
  refine (bind_eq (cw4 h (loV_ok hl) hl)).trans ?_
  refine (if_neg (show ¬ decide ((-1 : Int) ≥ 0) = true by decide)).trans ?_
  refine (if_neg (show ¬ (((4 : Int) == 3) == true) = true by decide)).trans ?_
  refine (if_pos (show (((!decide ((-1 : Int) ≥ 0)) == false) == false) = true by decide)).trans ?_
  · skip
    refine (bind_eq (cd4 h (loV_ok hl) hl)).trans ?_
    refine (bind_eq (bz5 h (loV_ok hl))).trans ?_
    refine (if_neg (by show ¬ ((!false) == decide ((4 : Int) < 4)) = true; decide)).trans ?_
    refine (if_pos (by simp)).trans ?_
    refine (bind_eq (cd4 h (loV_ok hl) hl)).trans ?_
    rfl
theorem calls_loop {r : R10} (h : rok r) {f l : Int} (hf : byte f) (h0 : f % 32 ≠ 0) (hl : byte l) (up : Bool) : iterU c0step ((f, l, (), up, (), (-1 : Int), (0 : Int), ()), (rbS r, (k0 r).b, ()), [], ()) =
    some (.inr ((l, (), up, (), tookV l, ()), (rbS r, (k5 r (loV l)).b, ()), [(0, 0, 0), (0, 0, 0), (3, (spR r + -1) % 65536, pcR r / 256), (3, ((spR r + -1) % 65536 + -1) % 65536, pcR r % 256), (0, 0, 0)], ())) := by
  rw [iterU_eq, cstep0 h hf h0 hl up]; dsimp only
  rw [iterU_eq, cstep1 h hf h0 hl up]; dsimp only
  rw [iterU_eq, cstep2 h hf h0 hl up]; dsimp only
  rw [iterU_eq, cstep3 h hf h0 hl up]; dsimp only
  rw [iterU_eq, cstep4 h hf h0 hl up]; dsimp only
  rw [iterU_eq]
  rfl
theorem calls_bits {l : Int} (hl : byte l) (up : Bool) (tk : Int) (htk : tk = tookV l) (n : Nat) (to : Int) (rb) (cb : CB) (ac : List A3) (z1 z2 z3 : Int × Int × Int × Unit) :
    iterU c1step ((l, (), up, (), tk, n, (), (), (), to, (0 : Int), ()), (rb, cb, (ac, ()), z1, z2, z3, ()), ()) = some (.inr ((l, (), up, (), tk, n, (), (), (), to, ()), (rb, cb, (ac, ()), z1, z2, z3, ()), ())) := by
  subst htk
  have fb := first_byte hl
  refine iterU_range (fun k => ((l, (), up, (), tookV l, n, (), (), (), to, (k : Int), ()), (rb, cb, (ac, ()), z1, z2, z3, ()), ())) _ (tookV l).toNat ?_ ?_ 0 (by omega)
  · intro k hk
    have q : (I.firstV (l % 32)).2 = true := by
      rw [← Bool.not_eq_false]
      intro q
      unfold tookV at hk
      rw [q] at hk
      simp at hk
    have e : tookV l = (I.firstV (l % 32)).1 := by unfold tookV; rw [if_pos q]
    obtain ⟨g0, g1, g2, g3⟩ := fb.2 q
    rw [← e] at g0 g1 g3
    have hk' : (k : Int) < tookV l := by omega
    unfold c1step law22_CpuCalls.L1.step
    refine (if_pos (decide_eq_true hk')).trans ?_
    refine (if_pos (show (!decide ((k : Int) < 0)) = true by simp)).trans ?_
    refine (if_neg (show ¬ bitT l (k : Int) = true by rw [g3 (k : Int) (by omega) hk']; decide)).trans ?_
    have : IntKind.wrap .i64 ((k : Int) + 1) = ((k + 1 : Nat) : Int) := by rw [w64 (by omega)]; omega
    show some (Sum.inl ((l, (), up, (), tookV l, n, (), (), (), to, IntKind.wrap .i64 ((k : Int) + 1), ()), _, ())) = _
    rw [this]
  · unfold c1step law22_CpuCalls.L1.step
    exact if_neg (by rw [decide_eq_true_eq]; dsimp only [Prod.x10]; omega)
theorem spm (s : Int) : IntKind.wrap .u16 (s - 1) = (s + -1) % 65536 := rfl
theorem spm2 (s : Int) : IntKind.wrap .u16 (s - 2) = ((s + -1) % 65536 + -1) % 65536 := by rw [u16m]; omega
theorem calls_core {r : R10} (hr : rok r) {f l : Int} (hf : byte f) (hl : byte l) : law22_CpuCalls.G law22_shown.F law22_begun.F law22_CpuCalls.L0.F law22_CpuCalls.L1.F r f l = some (true, ()) := by
  have tf : Int.tmod f 32 = f % 32 := tmodN hf.1
  rw [L0_F_eq, L1_F_eq]
  unfold law22_CpuCalls.G
  refine (bind_eq (show law22_shown.F () = some (true, ()) from rfl)).trans ?_
  refine (bind_eq (show law22_begun.F (r, ()) = some ((begunS r).c, ()) from rfl)).trans ?_
  by_cases c : f % 32 = 0
  · refine (if_pos (by rw [tf, c]; rfl)).trans ?_
    refine (bind_eq (calls_loop hr (f := 1) b1_ok (by decide) hl true)).trans ?_
    dsimp only [Sum.elim_inr]
    have fb := first_byte hl
    by_cases q : (I.firstV (l % 32)).2 = true
    · obtain ⟨g0, g1, g2, g3⟩ := fb.2 q
      have e : tookV l = (I.firstV (l % 32)).1 := by unfold tookV; rw [if_pos q]
      have e2 : loV l = tookV l := by unfold loV tookV; rw [if_pos q, if_pos q]
      rw [← e] at g0 g1 g2
      refine (if_pos (decide_eq_true g0)).trans ?_
      rw [w16 (n := tookV l) (by omega), w16 (n := 8 * tookV l) (by omega), w16 (n := 64 + 8 * tookV l) (by omega)]
      refine (bind_eq (calls_bits hl true (tookV l) rfl _ _ _ _ _ _ _ _)).trans ?_
      dsimp only [Sum.elim_inr]
      refine (if_pos rfl).trans ?_
      refine (if_pos (show (0 : Int) ≤ 0 ∧ (0 : Int) < ((5 : Nat) : Int) by decide)).trans ?_
      refine (if_pos ?_).trans ?_
      · rfl
      refine (if_pos (show (0 : Int) ≤ 1 ∧ (1 : Int) < ((5 : Nat) : Int) by decide)).trans ?_
      refine (if_pos ?_).trans ?_
      · rfl
      refine (if_pos (show (0 : Int) ≤ 2 ∧ (2 : Int) < ((5 : Nat) : Int) by decide)).trans ?_
      refine (if_pos ?_).trans ?_
      · show (((3 : Int) == 3 && ((spR r + -1) % 65536 == IntKind.wrap .u16 (spR r - 1) && (pcR r / 256 == IntKind.wrap .u8 (Int.fdiv (pcR r) 256) && true))) == true) = true
        rw [hi8 (w := pcR r) hr.pc, spm]; simp
      refine (if_pos (show (0 : Int) ≤ 3 ∧ (3 : Int) < ((5 : Nat) : Int) by decide)).trans ?_
      refine (if_pos ?_).trans ?_
      · show (((3 : Int) == 3 && (((spR r + -1) % 65536 + -1) % 65536 == IntKind.wrap .u16 (spR r - 2) && (pcR r % 256 == IntKind.wrap .u8 (pcR r) && true))) == true) = true
        rw [spm2, show IntKind.wrap .u8 (pcR r) = pcR r % 256 from rfl]; simp
      refine (if_pos (show (0 : Int) ≤ 4 ∧ (4 : Int) < ((5 : Nat) : Int) by decide)).trans ?_
      refine (if_pos ?_).trans ?_
      · rfl
      refine (if_pos (show (((setPC (k4 r (loV l)).r (if loV l < 5 then 64 + 8 * loV l else 0)).2.2.2.2.2.2.2.2.2 == (64 + 8 * tookV l)) == true) = true by
        rw [e2, if_pos g1]; simp [setPC])).trans ?_
      refine (if_pos (show ((((spR r + -1) % 65536 + -1) % 65536 == IntKind.wrap .u16 (spR r - 2)) == true) = true by rw [spm2]; simp)).trans ?_
      refine (if_pos rfl).trans ?_
      refine (if_pos rfl).trans ?_
      refine (if_pos (show (decide (tookV l < 0) == false) = true by rw [decide_eq_false (by omega)]; rfl)).trans ?_
      refine (if_pos (show (!decide (tookV l < 0)) = true by rw [decide_eq_false (by omega)]; rfl)).trans ?_
      show some (bitT l (tookV l), ()) = _
      rw [g2]
    · have e : tookV l = -1 := by unfold tookV; rw [if_neg q]
      have e2 : loV l = 5 := by unfold loV; rw [if_neg q]
      refine (if_neg (show ¬ decide (tookV l ≥ 0) = true by rw [e]; decide)).trans ?_
      refine (bind_eq (calls_bits hl true (tookV l) rfl _ _ _ _ _ _ _ _)).trans ?_
      dsimp only [Sum.elim_inr]
      refine (if_pos rfl).trans ?_
      refine (if_pos (show (0 : Int) ≤ 0 ∧ (0 : Int) < ((5 : Nat) : Int) by decide)).trans ?_
      refine (if_pos ?_).trans ?_
      · rfl
      refine (if_pos (show (0 : Int) ≤ 1 ∧ (1 : Int) < ((5 : Nat) : Int) by decide)).trans ?_
      refine (if_pos ?_).trans ?_
      · rfl
      refine (if_pos (show (0 : Int) ≤ 2 ∧ (2 : Int) < ((5 : Nat) : Int) by decide)).trans ?_
      refine (if_pos ?_).trans ?_
      · show (((3 : Int) == 3 && ((spR r + -1) % 65536 == IntKind.wrap .u16 (spR r - 1) && (pcR r / 256 == IntKind.wrap .u8 (Int.fdiv (pcR r) 256) && true))) == true) = true
        rw [hi8 (w := pcR r) hr.pc, spm]; simp
      refine (if_pos (show (0 : Int) ≤ 3 ∧ (3 : Int) < ((5 : Nat) : Int) by decide)).trans ?_
      refine (if_pos ?_).trans ?_
      · show (((3 : Int) == 3 && (((spR r + -1) % 65536 + -1) % 65536 == IntKind.wrap .u16 (spR r - 2) && (pcR r % 256 == IntKind.wrap .u8 (pcR r) && true))) == true) = true
        rw [spm2, show IntKind.wrap .u8 (pcR r) = pcR r % 256 from rfl]; simp
      refine (if_pos (show (0 : Int) ≤ 4 ∧ (4 : Int) < ((5 : Nat) : Int) by decide)).trans ?_
      refine (if_pos ?_).trans ?_
      · rfl
      refine (if_pos (show (((setPC (k4 r (loV l)).r (if loV l < 5 then 64 + 8 * loV l else 0)).2.2.2.2.2.2.2.2.2 == 0) == true) = true by
        rw [e2]; rfl)).trans ?_
      refine (if_pos (show ((((spR r + -1) % 65536 + -1) % 65536 == IntKind.wrap .u16 (spR r - 2)) == true) = true by rw [spm2]; simp)).trans ?_
      refine (if_pos rfl).trans ?_
      refine (if_pos rfl).trans ?_
      refine (if_neg (show ¬ (decide (tookV l < 0) == false) = true by rw [e]; decide)).trans ?_
      rfl
  · refine (if_neg (by rw [tf]; simpa using c)).trans ?_
    refine (bind_eq (calls_loop hr (f := f) hf c hl true)).trans ?_
    dsimp only [Sum.elim_inr]
    have fb := first_byte hl
    by_cases q : (I.firstV (l % 32)).2 = true
    · obtain ⟨g0, g1, g2, g3⟩ := fb.2 q
      have e : tookV l = (I.firstV (l % 32)).1 := by unfold tookV; rw [if_pos q]
      have e2 : loV l = tookV l := by unfold loV tookV; rw [if_pos q, if_pos q]
      rw [← e] at g0 g1 g2
      refine (if_pos (decide_eq_true g0)).trans ?_
      rw [w16 (n := tookV l) (by omega), w16 (n := 8 * tookV l) (by omega), w16 (n := 64 + 8 * tookV l) (by omega)]
      refine (bind_eq (calls_bits hl true (tookV l) rfl _ _ _ _ _ _ _ _)).trans ?_
      dsimp only [Sum.elim_inr]
      refine (if_pos rfl).trans ?_
      refine (if_pos (show (0 : Int) ≤ 0 ∧ (0 : Int) < ((5 : Nat) : Int) by decide)).trans ?_
      refine (if_pos ?_).trans ?_
      · rfl
      refine (if_pos (show (0 : Int) ≤ 1 ∧ (1 : Int) < ((5 : Nat) : Int) by decide)).trans ?_
      refine (if_pos ?_).trans ?_
      · rfl
      refine (if_pos (show (0 : Int) ≤ 2 ∧ (2 : Int) < ((5 : Nat) : Int) by decide)).trans ?_
      refine (if_pos ?_).trans ?_
      · show (((3 : Int) == 3 && ((spR r + -1) % 65536 == IntKind.wrap .u16 (spR r - 1) && (pcR r / 256 == IntKind.wrap .u8 (Int.fdiv (pcR r) 256) && true))) == true) = true
        rw [hi8 (w := pcR r) hr.pc, spm]; simp
      refine (if_pos (show (0 : Int) ≤ 3 ∧ (3 : Int) < ((5 : Nat) : Int) by decide)).trans ?_
      refine (if_pos ?_).trans ?_
      · show (((3 : Int) == 3 && (((spR r + -1) % 65536 + -1) % 65536 == IntKind.wrap .u16 (spR r - 2) && (pcR r % 256 == IntKind.wrap .u8 (pcR r) && true))) == true) = true
        rw [spm2, show IntKind.wrap .u8 (pcR r) = pcR r % 256 from rfl]; simp
      refine (if_pos (show (0 : Int) ≤ 4 ∧ (4 : Int) < ((5 : Nat) : Int) by decide)).trans ?_
      refine (if_pos ?_).trans ?_
      · rfl
      refine (if_pos (show (((setPC (k4 r (loV l)).r (if loV l < 5 then 64 + 8 * loV l else 0)).2.2.2.2.2.2.2.2.2 == (64 + 8 * tookV l)) == true) = true by
        rw [e2, if_pos g1]; simp [setPC])).trans ?_
      refine (if_pos (show ((((spR r + -1) % 65536 + -1) % 65536 == IntKind.wrap .u16 (spR r - 2)) == true) = true by rw [spm2]; simp)).trans ?_
      refine (if_pos rfl).trans ?_
      refine (if_pos rfl).trans ?_
      refine (if_pos (show (decide (tookV l < 0) == false) = true by rw [decide_eq_false (by omega)]; rfl)).trans ?_
      refine (if_pos (show (!decide (tookV l < 0)) = true by rw [decide_eq_false (by omega)]; rfl)).trans ?_
      show some (bitT l (tookV l), ()) = _
      rw [g2]
    · have e : tookV l = -1 := by unfold tookV; rw [if_neg q]
      have e2 : loV l = 5 := by unfold loV; rw [if_neg q]
      refine (if_neg (show ¬ decide (tookV l ≥ 0) = true by rw [e]; decide)).trans ?_
      refine (bind_eq (calls_bits hl true (tookV l) rfl _ _ _ _ _ _ _ _)).trans ?_
      dsimp only [Sum.elim_inr]
      refine (if_pos rfl).trans ?_
      refine (if_pos (show (0 : Int) ≤ 0 ∧ (0 : Int) < ((5 : Nat) : Int) by decide)).trans ?_
      refine (if_pos ?_).trans ?_
      · rfl
      refine (if_pos (show (0 : Int) ≤ 1 ∧ (1 : Int) < ((5 : Nat) : Int) by decide)).trans ?_
      refine (if_pos ?_).trans ?_
      · rfl
      refine (if_pos (show (0 : Int) ≤ 2 ∧ (2 : Int) < ((5 : Nat) : Int) by decide)).trans ?_
      refine (if_pos ?_).trans ?_
      · show (((3 : Int) == 3 && ((spR r + -1) % 65536 == IntKind.wrap .u16 (spR r - 1) && (pcR r / 256 == IntKind.wrap .u8 (Int.fdiv (pcR r) 256) && true))) == true) = true
        rw [hi8 (w := pcR r) hr.pc, spm]; simp
      refine (if_pos (show (0 : Int) ≤ 3 ∧ (3 : Int) < ((5 : Nat) : Int) by decide)).trans ?_
      refine (if_pos ?_).trans ?_
      · show (((3 : Int) == 3 && (((spR r + -1) % 65536 + -1) % 65536 == IntKind.wrap .u16 (spR r - 2) && (pcR r % 256 == IntKind.wrap .u8 (pcR r) && true))) == true) = true
        rw [spm2, show IntKind.wrap .u8 (pcR r) = pcR r % 256 from rfl]; simp
      refine (if_pos (show (0 : Int) ≤ 4 ∧ (4 : Int) < ((5 : Nat) : Int) by decide)).trans ?_
      refine (if_pos ?_).trans ?_
      · rfl
      refine (if_pos (show (((setPC (k4 r (loV l)).r (if loV l < 5 then 64 + 8 * loV l else 0)).2.2.2.2.2.2.2.2.2 == 0) == true) = true by
        rw [e2]; rfl)).trans ?_
      refine (if_pos (show ((((spR r + -1) % 65536 + -1) % 65536 == IntKind.wrap .u16 (spR r - 2)) == true) = true by rw [spm2]; simp)).trans ?_
      refine (if_pos rfl).trans ?_
      refine (if_pos rfl).trans ?_
      refine (if_neg (show ¬ (decide (tookV l < 0) == false) = true by rw [e]; decide)).trans ?_
      rfl
theorem cpuCalls_walk : LawOK Go.Proofs.Try.prog 3 law22_CpuCalls.as := .of law22_CpuCalls.ok fun x h => by
  obtain ⟨r, f, l, u⟩ := x
  exact calls_core (rok_of h.1) (wf_u8.1 h.2.1) (wf_u8.1 h.2.2.1)
end Go.Proofs.Ytddeejpffdccpaa.E

