/- Functions of the program as plain Lean, and what they come to. Conditions: none. -/
import Derived.Test.YtfpepeembbpncaaEwD
import Derived.Test.YtfpepeembbpncaaWide
import Derived.Test.YtfpepeembbpncaaPureTen
namespace Go.Proofs.Ytfpepeembbpncaa.E
open Go Go.Ew
set_option linter.unusedVariables false
set_option linter.unusedSimpArgs false
theorem on_r {o : O5} {line : Int} {tall : Bool} (h0 : 0 ≤ o.1) (h1 : o.1 ≤ 255) (h : onB o line tall = true) : objects_on.F (o, line, tall, ()) = some (line + 16 - o.1, true, ()) := by
  unfold onB at h
  simp only [decide_eq_true_eq] at h
  obtain ⟨a, b, c, d⟩ := h
  unfold objects_on.F objects_on.C objects_on.G
  dsimp only
  simp (disch := omega) only [w64]
  have a' : ¬ line < 0 := by omega
  have b' : ¬ line ≥ 144 := by omega
  have c' : line + 16 - o.1 ≥ 0 := by omega
  cases tall
  · have d' : line + 16 - o.1 < 8 := by simp at d; omega
    simp [a', b', c', d', c]
  · have d' : line + 16 - o.1 < 16 := by simp at d; omega
    simp [a', b', c', d', c]
def flipY (a : Int) : Bool := bits .and .u8 a 64 != 0
def flipX (a : Int) : Bool := bits .and .u8 a 32 != 0
def hgt (tall : Bool) : Int := if tall = true then 16 else 8
def rowE (o : O5) (line : Int) (tall : Bool) : Int := if flipY o.2.2.2.1 = true then hgt tall - 1 - (line + 16 - o.1) else line + 16 - o.1
def rowT (t : Int) (tall : Bool) (r : Int) : Int := if tall = true then bits .or .u8 (bits .andNot .u8 t 1) (IntKind.wrap .u8 (Int.fdiv r 8)) else t
theorem Row_on {o : O5} {line : Int} {tall : Bool} (h0 : 0 ≤ o.1) (h1 : o.1 ≤ 255) (h : onB o line tall = true) : objects_Row.F (o, line, tall, ()) = some (rowT o.2.2.1 tall (rowE o line tall), bits .and .i64 (rowE o line tall) 7, true, ()) := by
  have e1 : (o.1, o.2.1, o.2.2.1, o.2.2.2.1, o.2.2.2.2) = o := rfl
  have hr := on_r h0 h1 h
  unfold onB at h
  simp only [decide_eq_true_eq] at h
  obtain ⟨a, b, c, d⟩ := h
  unfold objects_Row.F objects_Row.C objects_Row.G
  simp only [e1, hr, Option.bind_some, Bool.not_true, Bool.false_eq_true, if_false]
  have hd : line + 16 < o.1 + hgt tall := d
  unfold rowE rowT flipY
  cases tall
  · have hh : hgt false = 8 := rfl
    rw [hh] at hd ⊢
    rw [w64 (n := 7 - (line + 16 - o.1)) (by omega)]
    cases (bits .and .u8 o.2.2.2.1 64 != 0) <;> simp
  · have hh : hgt true = 16 := rfl
    rw [hh] at hd ⊢
    rw [w64 (n := 15 - (line + 16 - o.1)) (by omega)]
    cases (bits .and .u8 o.2.2.2.1 64 != 0) <;> simp
theorem Row_off {o : O5} {line : Int} {tall : Bool} (h0 : 0 ≤ o.1) (h1 : o.1 ≤ 255) (h : onB o line tall = false) : objects_Row.F (o, line, tall, ()) = some (0, 0, false, ()) := by
  have e1 : (o.1, o.2.1, o.2.2.1, o.2.2.2.1, o.2.2.2.2) = o := rfl
  obtain ⟨r, hr⟩ := on_spec (o := o) (line := line) (tall := tall) h0 h1
  rw [h] at hr
  unfold objects_Row.F objects_Row.C objects_Row.G
  simp only [e1, hr, Option.bind_some, Bool.not_false, if_true]
theorem flip64 : ∀ a ∈ List.range 256, flipY (bits .xor .u8 (a : Int) 64) = !flipY (a : Int) := by decide +kernel
theorem flip_xor {a : Int} (h0 : 0 ≤ a) (h1 : a ≤ 255) : flipY (bits .xor .u8 a 64) = !flipY a := by
  have := flip64 a.toNat (by simp; omega)
  rwa [show ((a.toNat : Nat) : Int) = a by omega] at this
theorem and7 : ∀ a ∈ List.range 16, 0 ≤ bits .and .i64 (a : Int) 7 ∧ bits .and .i64 (a : Int) 7 ≤ 7 := by decide +kernel
theorem and7_le {a : Int} (h0 : 0 ≤ a) (h1 : a < 16) : 0 ≤ bits .and .i64 a 7 ∧ bits .and .i64 a 7 ≤ 7 := by
  have := and7 a.toNat (by simp; omega)
  rwa [show ((a.toNat : Nat) : Int) = a by omega] at this
theorem lines_loop0 {y x t at_ no : Int} (hy0 : 16 ≤ y) (hy1 : y ≤ 144) (ha0 : 0 ≤ at_) (ha1 : at_ ≤ 255) {tall : Bool} :
    law16_ObjectsLines.L0.F ((tall, (), true, hgt tall, (0 : Int), (-3 : Int), ()), ((y, x, t, at_, no, ()), ()), ()) = some (Sum.inr (((), true, hgt tall, hgt tall, ()), ((y, x, t, at_, no, ()), ()), ())) := by
  have hh : hgt tall = 8 ∨ hgt tall = 16 := by cases tall <;> simp [hgt]
  have := iterU_inv (step := fun x => law16_ObjectsLines.L0.step objects_Row.F x.1.1 x.1.2.2.1 x.1.2.2.2.1 x.1.2.2.2.2.1 x.1.2.2.2.2.2.1 x.2.1.1.1 x.2.1.1.2.1 x.2.1.1.2.2.1 x.2.1.1.2.2.2.1 x.2.1.1.2.2.2.2.1)
    (fun a => ∃ k n : Int, -3 ≤ k ∧ k ≤ 150 ∧ (k ≤ y - 16 → n = 0) ∧ (y - 16 ≤ k → k ≤ y - 16 + hgt tall → n = k - (y - 16)) ∧ (y - 16 + hgt tall ≤ k → n = hgt tall) ∧ a = ((tall, (), true, hgt tall, n, k, ()), ((y, x, t, at_, no, ()), ()), ()))
    (fun b => b = Sum.inr (((), true, hgt tall, hgt tall, ()), ((y, x, t, at_, no, ()), ()), ())) (fun a => (150 - a.1.2.2.2.2.2.1).toNat) ?_ ((tall, (), true, hgt tall, (0 : Int), (-3 : Int), ()), ((y, x, t, at_, no, ()), ()), ()) ⟨-3, 0, by omega, by omega, by omega, by omega, by omega, rfl⟩
  · obtain ⟨b, e, rfl⟩ := this
    exact e
  · rintro a ⟨k, n, hk0, hk1, g1, g2, g3, rfl⟩
    unfold law16_ObjectsLines.L0.step
    by_cases h : k < 150
    · left
      simp only [h, decide_true, if_true]
      have hYo : (0 : Int) ≤ (y, x, t, at_, no).1 ∧ (y, x, t, at_, no).1 ≤ 255 := by simp only; omega
      by_cases ho : onB (y, x, t, at_, no) k tall = true
      · have hR := Row_on hYo.1 hYo.2 ho
        have ho' := ho
        unfold onB at ho'
        simp only [decide_eq_true_eq] at ho'
        obtain ⟨a, b, c, d⟩ := ho'
        have hd : k + 16 < y + hgt tall := d
        have hY2 : (0 : Int) ≤ (y, x, t, bits .xor .u8 at_ 64, no).1 ∧ (y, x, t, bits .xor .u8 at_ 64, no).1 ≤ 255 := by simp only; omega
        have ho2 : onB (y, x, t, bits .xor .u8 at_ 64, no) (2 * y - 32 + hgt tall - 1 - k) tall = true := by
          unfold onB
          simp only [decide_eq_true_eq]
          show _ ∧ _ ∧ _ ∧ _ < y + hgt tall
          omega
        have hR2 := Row_on hY2.1 hY2.2 ho2
        have hrow : rowE (y, x, t, bits .xor .u8 at_ 64, no) (2 * y - 32 + hgt tall - 1 - k) tall = rowE (y, x, t, at_, no) k tall := by
          unfold rowE
          simp only [flip_xor ha0 ha1]
          cases flipY at_ <;> simp <;> omega
        rw [hrow] at hR2
        have hre : 0 ≤ rowE (y, x, t, at_, no) k tall ∧ rowE (y, x, t, at_, no) k tall < 16 := by
          unfold rowE; split <;> simp only <;> omega
        have h7 := and7_le hre.1 hre.2
        rw [w64 (n := y) (by omega), w64 (n := 2 * y) (by omega), w64 (n := 2 * y - 32) (by omega), w64 (n := 2 * y - 32 + hgt tall) (by omega), w64 (n := 2 * y - 32 + hgt tall - 1) (by omega), w64 (n := 2 * y - 32 + hgt tall - 1 - k) (by omega), w64 (n := y - 16) (by omega), w64 (n := y - 16 + hgt tall) (by omega), w64 (n := n + 1) (by omega), w64 (n := k + 1) (by omega)]
        have c1 : ¬ bits .and .i64 (rowE (y, x, t, at_, no) k tall) 7 < 0 := by omega
        have c2 : ¬ bits .and .i64 (rowE (y, x, t, at_, no) k tall) 7 > 7 := by omega
        have c3 : ¬ k < y - 16 := by omega
        have c4 : ¬ k ≥ y - 16 + hgt tall := by omega
        simp only [hR, hR2, Option.bind_some, Bool.not_true, Bool.false_eq_true, if_false, c1, c2, c3, c4, decide_false, beq_self_eq_true, if_true, bne_self_eq_false]
        refine ⟨_, rfl, ⟨k + 1, n + 1, by omega, by omega, by omega, by omega, by omega, rfl⟩, by simp only; omega⟩
      · have ho' : onB (y, x, t, at_, no) k tall = false := by simpa using ho
        have hR := Row_off hYo.1 hYo.2 ho'
        unfold onB at ho
        simp only [decide_eq_true_eq] at ho
        have ho2 : ¬ (0 ≤ k ∧ k < 144 ∧ y ≤ k + 16 ∧ k + 16 < y + hgt tall) := ho
        rw [w64 (n := k + 1) (by omega)]
        simp only [hR, Option.bind_some, Bool.not_false, if_true]
        refine ⟨_, rfl, ⟨k + 1, n, by omega, by omega, by omega, by omega, by omega, rfl⟩, by simp only; omega⟩
    · right
      have : n = hgt tall := g3 (by omega)
      subst this
      simp only [h, decide_false, Bool.false_eq_true, if_false]
      exact ⟨_, rfl, rfl⟩
def colE (o : O5) (x : Int) : Int := if flipX o.2.2.2.1 = true then 7 - (x + 8 - o.2.1) else x + 8 - o.2.1
theorem Col_spec {o : O5} {x : Int} (h0 : 8 ≤ o.2.1) (h1 : o.2.1 ≤ 160) : objects_Column.F (o, x, ()) = if o.2.1 - 8 ≤ x ∧ x < o.2.1 then some (colE o x, true, ()) else some (0, false, ()) := by
  unfold objects_Column.F objects_Column.C objects_Column.G
  dsimp only
  by_cases a : x < 0
  · have : ¬ (o.2.1 - 8 ≤ x ∧ x < o.2.1) := by omega
    simp [a, this]
  · by_cases b : x ≥ 160
    · have : ¬ (o.2.1 - 8 ≤ x ∧ x < o.2.1) := by omega
      rw [if_neg this]
      simp [a, b]
    · rw [w64 (n := o.2.1) (by omega), w64 (n := x + 8) (by omega), w64 (n := x + 8 - o.2.1) (by omega), w64 (n := 7 - (x + 8 - o.2.1)) (by omega)]
      unfold colE flipX
      by_cases c : x + 8 - o.2.1 < 0
      · have : ¬ (o.2.1 - 8 ≤ x ∧ x < o.2.1) := by omega
        rw [if_neg this]
        simp [a, b, c]
      · by_cases d : x + 8 - o.2.1 > 7
        · have : ¬ (o.2.1 - 8 ≤ x ∧ x < o.2.1) := by omega
          rw [if_neg this]
          simp [a, b, c, d]
        · have : o.2.1 - 8 ≤ x ∧ x < o.2.1 := by omega
          rw [if_pos this]
          simp only [a, b, c, d, decide_false, beq_self_eq_true, if_true, Bool.false_eq_true, if_false]
          split <;> rfl
/-- the columns seen, m of them -/
def seenOf (f : Bool) (m : Nat) : Int := if f = true then 256 - 2 ^ (8 - m) else 2 ^ m - 1
theorem seen_step : ∀ f ∈ [true, false], ∀ m ∈ List.range 8, bits .or .i64 (seenOf f m) (IntKind.wrap .i64 (1 * 2 ^ min (Int.toNat (bits .and .i64 (if f = true then 7 - (m : Int) else (m : Int)) 7)) 64)) = seenOf f (m + 1) := by decide +kernel
theorem lines_loop1 {y x t at_ no up : Int} {tall : Bool} {a b : Int} (hx0 : 8 ≤ x) (hx1 : x ≤ 160) :
    law16_ObjectsLines.L1.F (((), true, a, b, (0 : Int), (-3 : Int), ()), ((y, x, t, at_, no, ()), ()), ()) = some (Sum.inr ((true, a, b, (255 : Int), ()), (), ())) := by
  have := iterU_inv (step := fun x => law16_ObjectsLines.L1.step objects_Column.F x.1.2.1 x.1.2.2.1 x.1.2.2.2.1 x.1.2.2.2.2.1 x.1.2.2.2.2.2.1 x.2.1.1.1 x.2.1.1.2.1 x.2.1.1.2.2.1 x.2.1.1.2.2.2.1 x.2.1.1.2.2.2.2.1)
    (fun s => ∃ (k : Int) (m : Nat), -3 ≤ k ∧ k ≤ 170 ∧ m ≤ 8 ∧ (k ≤ x - 8 → m = 0) ∧ (x - 8 ≤ k → k ≤ x → (m : Int) = k - (x - 8)) ∧ (x ≤ k → m = 8) ∧ s = (((), true, a, b, seenOf (flipX at_) m, k, ()), ((y, x, t, at_, no, ()), ()), ()))
    (fun r => r = Sum.inr ((true, a, b, (255 : Int), ()), (), ())) (fun a => (170 - a.1.2.2.2.2.2.1).toNat) ?_ (((), true, a, b, (0 : Int), (-3 : Int), ()), ((y, x, t, at_, no, ()), ()), ()) ⟨-3, 0, by omega, by omega, by omega, by omega, by omega, by omega, by cases flipX at_ <;> rfl⟩
  · obtain ⟨b, e, rfl⟩ := this
    exact e
  · rintro s ⟨k, m, hk0, hk1, hm8, g1, g2, g3, rfl⟩
    unfold law16_ObjectsLines.L1.step
    by_cases h : k < 170
    · left
      have hC := Col_spec (o := (y, x, t, at_, no)) (x := k) hx0 hx1
      rw [w64 (n := x) (by omega), w64 (n := x - 8) (by omega), w64 (n := k + 1) (by omega)]
      simp only [h, decide_true, if_true]
      by_cases hin : x - 8 ≤ k ∧ k < x
      · rw [if_pos hin] at hC
        have hm : (m : Int) = k - (x - 8) := g2 hin.1 (by omega)
        have hcol : colE (y, x, t, at_, no) k = if flipX at_ = true then 7 - (m : Int) else (m : Int) := by
          unfold colE; simp only; split <;> omega
        have hst := seen_step (flipX at_) (by cases flipX at_ <;> simp) m (by simp; omega)
        have hcr : 0 ≤ colE (y, x, t, at_, no) k ∧ colE (y, x, t, at_, no) k < 16 := by rw [hcol]; split <;> omega
        have h7 := and7_le hcr.1 hcr.2
        have c1 : ¬ bits .and .i64 (colE (y, x, t, at_, no) k) 7 < 0 := by omega
        have c2 : k ≥ x - 8 := hin.1
        rw [← hcol] at hst
        simp only [hC, Option.bind_some, if_true, c1, c2, hin.2, decide_true, decide_false, Bool.not_false, beq_self_eq_true, Bool.not_true, Bool.false_eq_true, if_false, hst, show (false == true) = false from rfl]
        exact ⟨_, rfl, ⟨k + 1, m + 1, by omega, by omega, by omega, by omega, by omega, by omega, rfl⟩, by simp only; omega⟩
      · rw [if_neg hin] at hC
        simp only [hC, Option.bind_some, Bool.false_eq_true, if_false, Bool.not_false]
        by_cases c2 : k ≥ x - 8
        · have c3 : ¬ k < x := by omega
          simp only [c2, c3, decide_true, decide_false, beq_self_eq_true, if_true, Bool.not_false, Bool.false_eq_true, if_false, show (true == false) = false from rfl]
          exact ⟨_, rfl, ⟨k + 1, m, by omega, by omega, by omega, by omega, by omega, by omega, rfl⟩, by simp only; omega⟩
        · simp only [c2, decide_false, Bool.false_eq_true, if_false, show (true == false) = false from rfl, show (false == true) = false from rfl]
          exact ⟨_, rfl, ⟨k + 1, m, by omega, by omega, by omega, by omega, by omega, by omega, rfl⟩, by simp only; omega⟩
    · right
      have : m = 8 := g3 (by omega)
      subst this
      simp only [h, decide_false, Bool.false_eq_true, if_false]
      refine ⟨_, rfl, ?_⟩
      cases flipX at_ <;> rfl
theorem objectsLines_true {o : O5} (h0 : 0 ≤ o.1 ∧ o.1 ≤ 255) (h1 : 0 ≤ o.2.1 ∧ o.2.1 ≤ 255) (h3 : 0 ≤ o.2.2.2.1 ∧ o.2.2.2.1 ≤ 255) {tall : Bool} : law16_ObjectsLines.G (fun _ => some (true, ())) law16_ObjectsLines.L0.F law16_ObjectsLines.L1.F o tall = some (true, ()) := by
  unfold law16_ObjectsLines.G
  have a0 : 0 ≤ Int.tmod o.1 129 ∧ Int.tmod o.1 129 ≤ 128 := by rw [Int.tmod_eq_emod_of_nonneg h0.1]; omega
  have a1 : 0 ≤ Int.tmod o.2.1 153 ∧ Int.tmod o.2.1 153 ≤ 152 := by rw [Int.tmod_eq_emod_of_nonneg h1.1]; omega
  generalize Int.tmod o.1 129 = p at *
  generalize Int.tmod o.2.1 153 = q at *
  rw [w8 (n := 16 + p) (by omega), w8 (n := 8 + q) (by omega)]
  have e0 := lines_loop0 (y := 16 + p) (x := 8 + q) (t := o.2.2.1) (at_ := o.2.2.2.1) (no := o.2.2.2.2) (by omega) (by omega) h3.1 h3.2 (tall := tall)
  have e1 := fun a b => lines_loop1 (y := 16 + p) (x := 8 + q) (t := o.2.2.1) (at_ := o.2.2.2.1) (no := o.2.2.2.2) (up := 0) (tall := tall) (a := a) (b := b) (by omega) (by omega)
  cases tall
  · have hh : hgt false = 8 := rfl
    rw [hh] at e0
    simp only [Option.bind_some, Bool.false_eq_true, if_false, e0, Sum.elim_inr, e1]
    rfl
  · have hh : hgt true = 16 := rfl
    rw [hh] at e0
    simp only [Option.bind_some, if_true, e0, Sum.elim_inr, e1]
    rfl
theorem objectsLines_walk : LawOK Go.Proofs.Try.prog 7 law16_ObjectsLines.as :=
  .of (law16_ObjectsLines.gen _ shown_ok _ law16_ObjectsLines.L0.ok _ law16_ObjectsLines.L1.ok) fun x h => objectsLines_true (wf_u8.1 h.1.1) (wf_u8.1 h.1.2.1) (wf_u8.1 h.1.2.2.2.1)
end Go.Proofs.Ytfpepeembbpncaa.E
