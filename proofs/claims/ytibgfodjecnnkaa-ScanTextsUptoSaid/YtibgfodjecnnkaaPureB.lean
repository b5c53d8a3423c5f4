/- Functions of the program as plain Lean, and what they come to. Conditions: none. -/
import Derived.Test.YtibgfodjecnnkaaEwD
import Derived.Test.YtibgfodjecnnkaaPureA
open Go Go.Ew
namespace Go.Proofs.Ytibgfodjecnnkaa.E
set_option linter.unusedVariables false
set_option linter.unusedSimpArgs false
set_option maxRecDepth 100000

def byte (v : Int) : Prop := 0 ≤ v ∧ v ≤ 255
theorem bit_spec {v : Int} (n : Nat) (hn : n < 8) (h : byte v) : word_Bit.F (v, (n : Int), ()) = some (bitB v n, ()) := by
  unfold word_Bit.F word_Bit.C word_Bit.G
  have g1 : (n : Int) ≥ 0 := by omega
  have g2 : (n : Int) < 8 := by omega
  have g3 : ¬ (n : Int) < 0 := by omega
  simp only [g1, g2, g3, decide_true, decide_false, beq_self_eq_true, if_true, Bool.not_false, Int.toNat_natCast]
  rw [Nat.min_eq_left (by omega), fdivN (Int.le_of_lt (Int.pow_pos (by omega))), bit_u8 h.1 (by have := h.2; omega)]
  rfl
theorem power_spec (n : Nat) (hn : n < 8) : ref01_power.F ((n : Int), ()) = some (2 ^ n, ()) := by
  have := iterU_inv (step := fun x => ref01_power.L0.step x.1.1 x.1.2.1 x.1.2.2.1) (fun a => ∃ i : Nat, i ≤ n ∧ a = (((n : Int), 2 ^ i, (i : Int), ()), (), ()))
    (fun b => b = ((2 ^ n, ()), (), ())) (fun a => (n - a.1.2.2.1).toNat) ?_ (((n : Int), 1, (0 : Int), ()), (), ()) ⟨0, by omega, rfl⟩
  · obtain ⟨b, e, rfl⟩ := this
    unfold ref01_power.F ref01_power.C ref01_power.G
    have e' : ref01_power.L0.F (((n : Int), 1, (0 : Int), ()), (), ()) = some ((2 ^ n, ()), (), ()) := e
    simp [e']
  · rintro a ⟨i, hi, rfl⟩
    unfold ref01_power.L0.step
    by_cases h : i < n
    · left
      have h' : (i : Int) < (n : Int) := by omega
      have hp : (2 : Int) ^ i ≤ 2 ^ 7 := by
        have : (2 : Nat) ^ i ≤ 2 ^ 7 := Nat.pow_le_pow_right (by omega) (by omega)
        exact_mod_cast this
      have hp0 : (0 : Int) < 2 ^ i := Int.pow_pos (by omega)
      rw [w64 (n := (i : Int) + 1) (by omega), w64 (n := 2 ^ i * 2) (by omega)]
      simp only [h', decide_true, if_true]
      exact ⟨_, rfl, ⟨i + 1, by omega, by rw [Int.pow_succ]; rfl⟩, by simp only; omega⟩
    · right
      obtain rfl : i = n := by omega
      simp
theorem rbit_spec {v : Int} (n : Nat) (hn : n < 8) (h : byte v) : ref01_Bit.F (v, (n : Int), ()) = some (bitB v n, ()) := by
  unfold ref01_Bit.F ref01_Bit.C ref01_Bit.G
  have g1 : ¬ (n : Int) < 0 := by omega
  have g2 : ¬ (n : Int) > 7 := by omega
  have hp0 : (0 : Int) < 2 ^ n := Int.pow_pos (by omega)
  have g3 : ¬ ((2 : Int) ^ n = 0) := by omega
  have h0 := h.1
  have h1 := h.2
  have q0 : 0 ≤ v / 2 ^ n := Int.ediv_nonneg h0 (by omega)
  have q1 : v / 2 ^ n ≤ v := Int.ediv_le_self _ h0
  simp only [g1, g2, decide_false, beq_self_eq_true, if_true, Bool.false_eq_true, if_false, power_spec n hn, Option.bind_some, g3, Bool.not_false]
  rw [w64 (n := v) (by omega), tdivN h0, w64 (by omega), tmodN q0]
  rfl
theorem signed_spec {v : Int} (h : byte v) : ref01_Signed.F (v, ()) = some (if v < 128 then v else v - 256, ()) := by
  have h0 := h.1
  have h1 := h.2
  unfold ref01_Signed.F ref01_Signed.C ref01_Signed.G
  rw [w64 (n := v) (by omega), w64 (by omega)]
  by_cases q : v < 128 <;> simp [q]
/-- a byte of a memory -/
def atS (m : List Int) (i : Int) : Int := if i < 0 ∨ (m.length : Int) ≤ i then 255 else m.getD i.toNat 0
theorem atS_byte {m : List Int} (h : bytes m) (i : Int) : byte (atS m i) := by
  unfold atS
  split
  · exact ⟨by omega, by omega⟩
  · exact bytes_getD h _
theorem at_spec {m : List Int} (i : Int) : tiles_At.F (m, i, ()) = some (atS m i, ()) := by
  unfold tiles_At.F tiles_At.C tiles_At.G atS
  by_cases h : i < 0
  · simp [h]
  · by_cases h2 : (m.length : Int) ≤ i
    · simp [h, h2]
    · have h3 : 0 ≤ i ∧ i < (m.length : Int) := by omega
      simp [h, h2, h3]
theorem rat_spec {m : List Int} (i : Int) : ref17_At.F (m, i, ()) = some (atS m i, ()) := at_spec i
def plS (t : Int) (s : Bool) (r : Int) : Int := (if s = true then 4096 + 16 * (if t < 128 then t else t - 256) else 16 * t) + 2 * (r % 8)
theorem i8w (n : Int) (h : byte n) : IntKind.wrap .i8 n = if n < 128 then n else n - 256 := by
  have h0 := h.1
  have h1 := h.2
  simp [IntKind.wrap, IntKind.bits, IntKind.signed]
  split <;> split <;> omega
theorem plS_le {t : Int} (ht : byte t) (s : Bool) (r : Int) : 0 ≤ plS t s r ∧ plS t s r ≤ 10000 := by
  have h0 := ht.1
  have h1 := ht.2
  unfold plS
  cases s
  · simp; omega
  · simp; split <;> omega
theorem place_spec {t : Int} (ht : byte t) (s : Bool) {r : Int} (h0 : 0 ≤ r) (h1 : r < 1000) : tiles_Place.F (t, s, r, ()) = some (plS t s r, ()) := by
  have t0 := ht.1
  have t1 := ht.2
  unfold tiles_Place.F tiles_Place.C tiles_Place.G plS
  have e : bits .and .i64 r 7 = r % 8 := low64 3 (n := 7) rfl (by omega) h0 (by omega)
  rw [e, i8w t ht]
  cases s
  · simp only [Bool.false_eq_true, if_false]
    rw [w64 (n := t) (by omega), w64 (n := t * 16) (by omega), w64 (n := 2 * (r % 8)) (by omega), w64 (by omega)]
    rw [show t * 16 = 16 * t by omega]
  · simp only [if_true]
    generalize hx : (if t < 128 then t else t - 256) = x
    have hx0 : -128 ≤ x ∧ x ≤ 127 := by subst hx; split <;> omega
    rw [w64 (n := x) (by omega), w64 (n := x * 16) (by omega), w64 (n := 2 * (r % 8)) (by omega), w64 (n := 4096 + x * 16) (by omega), w64 (by omega)]
    rw [show x * 16 = 16 * x by omega]
theorem rplace_spec {t : Int} (ht : byte t) (s : Bool) {r : Int} (h0 : 0 ≤ r) (h1 : r < 1000) : ref17_Place.F (t, s, r, ()) = some (plS t s r, ()) := by
  have t0 := ht.1
  have t1 := ht.2
  unfold ref17_Place.F ref17_Place.C ref17_Place.G plS
  rw [tmodN h0, w64 (n := t) (by omega)]
  have g : ¬ r % 8 < 0 := by omega
  simp only [g, decide_false, Bool.false_eq_true, if_false, signed_spec ht, Option.bind_some]
  cases s
  · simp only [Bool.false_eq_true, if_false]
    rw [w64 (n := 16 * t) (by omega), w64 (n := 2 * (r % 8)) (by omega), w64 (by omega)]
  · simp only [if_true]
    generalize hx : (if t < 128 then t else t - 256) = x
    have hx0 : -128 ≤ x ∧ x ≤ 127 := by subst hx; split <;> omega
    rw [w64 (n := 16 * x) (by omega), w64 (n := 2 * (r % 8)) (by omega), w64 (n := 4096 + 16 * x) (by omega), w64 (by omega)]
/-- a pixel of a row -/
def pxS (lo hi n : Int) : Int := if 0 ≤ n ∧ n ≤ 7 then 2 * (hi / 2 ^ (7 - n).toNat % 2) + lo / 2 ^ (7 - n).toNat % 2 else 0
theorem pxS_le (lo hi n : Int) : 0 ≤ pxS lo hi n ∧ pxS lo hi n ≤ 3 := by
  unfold pxS
  split <;> omega
theorem pixel_spec {lo hi : Int} (hl : byte lo) (hh : byte hi) {n : Int} (h0 : 0 ≤ n) (h1 : n ≤ 7) : tiles_Pixel.F (lo, hi, n, ()) = some (pxS lo hi n, ()) := by
  unfold tiles_Pixel.F tiles_Pixel.C tiles_Pixel.G pxS
  have g1 : ¬ n < 0 := by omega
  have g2 : ¬ n > 7 := by omega
  rw [w64 (n := 7 - n) (by omega)]
  have g3 : ¬ 7 - n < 0 := by omega
  simp only [g1, g2, g3, decide_false, beq_self_eq_true, if_true, Bool.false_eq_true, if_false, Bool.not_false]
  obtain ⟨k, hk⟩ : ∃ k : Nat, (7 - n).toNat = k := ⟨_, rfl⟩
  have hp : (0 : Int) ≤ 2 ^ k := Int.le_of_lt (Int.pow_pos (by omega))
  rw [hk, Nat.min_eq_left (by omega), fdivN hp, fdivN hp, bit_u8 hh.1 (by have := hh.2; omega), bit_u8 hl.1 (by have := hl.2; omega)]
  rw [if_pos ⟨h0, h1⟩]
  have ha : hi / 2 ^ k % 2 = 0 ∨ hi / 2 ^ k % 2 = 1 := by omega
  have hb : lo / 2 ^ k % 2 = 0 ∨ lo / 2 ^ k % 2 = 1 := by omega
  generalize hi / 2 ^ k % 2 = a at *
  generalize lo / 2 ^ k % 2 = b at *
  rcases ha with rfl | rfl <;> rcases hb with rfl | rfl <;> rfl
theorem rbit01_spec {v : Int} (n : Nat) (hn : n < 8) (h : byte v) : ref17_bit.F (v, (n : Int), ()) = some (v / 2 ^ n % 2, ()) := by
  unfold ref17_bit.F ref17_bit.C ref17_bit.G
  rw [rbit_spec n hn h]
  simp only [Option.bind_some, bitB]
  have : v / 2 ^ n % 2 = 0 ∨ v / 2 ^ n % 2 = 1 := by omega
  rcases this with e | e <;> simp [e]
theorem rpixel_spec {lo hi : Int} (hl : byte lo) (hh : byte hi) {n : Int} (h0 : 0 ≤ n) (h1 : n ≤ 7) : ref17_Pixel.F (lo, hi, n, ()) = some (pxS lo hi n, ()) := by
  unfold ref17_Pixel.F ref17_Pixel.C ref17_Pixel.G pxS
  have g1 : ¬ n < 0 := by omega
  have g2 : ¬ n > 7 := by omega
  rw [w64 (n := 7 - n) (by omega)]
  simp only [g1, g2, decide_false, beq_self_eq_true, if_true, Bool.false_eq_true, if_false]
  rw [if_pos ⟨h0, h1⟩]
  obtain ⟨k, hk, hk8⟩ : ∃ k : Nat, 7 - n = (k : Int) ∧ k < 8 := ⟨(7 - n).toNat, by omega, by omega⟩
  rw [hk, rbit01_spec k hk8 hh, rbit01_spec k hk8 hl]
  simp only [Option.bind_some, Int.toNat_natCast]
  rw [w8 (n := 2 * (hi / 2 ^ k % 2)) (by omega), w8 (by omega)]
/-- a color by a palette -/
def shS (p c : Int) : Int := p / 4 ^ c.toNat % 4
theorem shS_le (p c : Int) : 0 ≤ shS p c ∧ shS p c ≤ 3 := by unfold shS; omega
theorem shade_fin : ∀ p : Fin 256, ∀ c : Fin 4, tiles_Shade.G (p.val : Int) (c.val : Int) = some (shS (p.val : Int) (c.val : Int), ()) := by decide +kernel
theorem shade_spec {p c : Int} (hp : byte p) (h0 : 0 ≤ c) (h1 : c ≤ 3) : tiles_Shade.F (p, c, ()) = some (shS p c, ()) := by
  have a := hp.1
  have b := hp.2
  have := shade_fin ⟨p.toNat, by omega⟩ ⟨c.toNat, by omega⟩
  simp only [Int.toNat_of_nonneg a, Int.toNat_of_nonneg h0] at this
  exact this
theorem rshade_spec {p c : Int} (hp : byte p) (h0 : 0 ≤ c) (h1 : c ≤ 3) : ref17_Shade.F (p, c, ()) = some (shS p c, ()) := by
  have a := hp.1
  have b := hp.2
  obtain ⟨n, rfl⟩ : ∃ n : Nat, c = (n : Int) := ⟨c.toNat, by omega⟩
  have := iterU_inv (step := fun x => ref17_Shade.L0.step x.1.1 x.1.2.1 x.1.2.2.1) (fun a => ∃ i : Nat, i ≤ n ∧ a = (((n : Int), p / 4 ^ i, (i : Int), ()), (), ()))
    (fun b => b = ((p / 4 ^ n, ()), (), ())) (fun a => (n - a.1.2.2.1).toNat) ?_ (((n : Int), p, (0 : Int), ()), (), ()) ⟨0, by omega, by simp⟩
  · obtain ⟨b, e, rfl⟩ := this
    unfold ref17_Shade.F ref17_Shade.C ref17_Shade.G
    rw [w64 (n := p) (by omega)]
    have e' : ref17_Shade.L0.F (((n : Int), p, (0 : Int), ()), (), ()) = some ((p / 4 ^ n, ()), (), ()) := e
    simp only [e', Option.bind_some]
    have q : 0 ≤ p / 4 ^ n := Int.ediv_nonneg a (Int.le_of_lt (Int.pow_pos (by omega)))
    rw [tmodN q, w8 (by omega)]
    rfl
  · rintro a ⟨i, hi, rfl⟩
    unfold ref17_Shade.L0.step
    dsimp only
    rw [tmodN (by omega), Int.emod_eq_of_lt (by omega) (by omega)]
    by_cases h : i < n
    · left
      have h' : (i : Int) < (n : Int) := by omega
      have q : 0 ≤ p / 4 ^ i := Int.ediv_nonneg a (Int.le_of_lt (Int.pow_pos (by omega)))
      have q2 : p / 4 ^ i ≤ p := Int.ediv_le_self _ a
      rw [w8 (n := (i : Int) + 1) (by omega), tdivN q, w64 (by omega)]
      simp only [h', decide_true, if_true]
      refine ⟨_, rfl, ⟨i + 1, by omega, ?_⟩, by simp only; omega⟩
      rw [Int.ediv_ediv_of_nonneg (Int.le_of_lt (Int.pow_pos (by omega))), ← Int.pow_succ]
      rfl
    · right
      obtain rfl : i = n := by omega
      simp
/-- a column of an object -/
def colS (o : O5) (x : Int) : Int × Bool := if x < 0 ∨ 159 < x ∨ x + 8 - o.2.1 < 0 ∨ 7 < x + 8 - o.2.1 then (0, false) else if bitB o.2.2.2.1 5 = true then (7 - (x + 8 - o.2.1), true) else (x + 8 - o.2.1, true)
def obytes (o : O5) : Prop := byte o.1 ∧ byte o.2.1 ∧ byte o.2.2.1 ∧ byte o.2.2.2.1 ∧ byte o.2.2.2.2
theorem colS_le (o : O5) (x : Int) : 0 ≤ (colS o x).1 ∧ (colS o x).1 ≤ 7 := by
  unfold colS
  split
  · simp
  · split <;> (simp; omega)
theorem flag_fin : ∀ v : Fin 256, (bits .and .u8 (v.val : Int) 32 != 0) = bitB (v.val : Int) 5 ∧ (bits .and .u8 (v.val : Int) 64 != 0) = bitB (v.val : Int) 6 ∧ bits .andNot .u8 (v.val : Int) 1 = (v.val : Int) / 2 * 2 := by decide +kernel
theorem flag_spec {v : Int} (h : byte v) : (bits .and .u8 v 32 != 0) = bitB v 5 ∧ (bits .and .u8 v 64 != 0) = bitB v 6 ∧ bits .andNot .u8 v 1 = v / 2 * 2 := by
  have a := h.1
  have b := h.2
  have := flag_fin ⟨v.toNat, by omega⟩
  simp only [Int.toNat_of_nonneg a] at this
  exact this
theorem col_spec {o : O5} (ho : obytes o) {x : Int} (h0 : 0 ≤ x) (h1 : x < 160) : objects_Column.F (o, x, ()) = some ((colS o x).1, (colS o x).2, ()) := by
  have a := ho.2.1.1
  have b := ho.2.1.2
  unfold objects_Column.F objects_Column.C objects_Column.G colS
  rw [(flag_spec ho.2.2.2.1).1]
  simp (disch := omega) only [w64]
  have g1 : ¬ x < 0 := by omega
  have g2 : ¬ x ≥ 160 := by omega
  have g2' : ¬ 159 < x := by omega
  by_cases q1 : x + 8 - o.2.1 < 0
  · simp [g1, g2, g2', q1]
  · by_cases q2 : 7 < x + 8 - o.2.1
    · simp [g1, g2, g2', q1, q2]
    · by_cases q3 : bitB o.2.2.2.1 5 = true <;> simp [g1, g2, g2', q1, q2, q3]
theorem rcol_spec {o : O5} (ho : obytes o) {x : Int} (h0 : 0 ≤ x) (h1 : x < 160) : ref16_Column.F (o, x, ()) = some ((colS o x).1, (colS o x).2, ()) := by
  have a := ho.2.1.1
  have b := ho.2.1.2
  unfold ref16_Column.F ref16_Column.C ref16_Column.G colS
  have e5 : ref01_Bit.F (o.2.2.2.1, 5, ()) = some (bitB o.2.2.2.1 5, ()) := rbit_spec 5 (by omega) ho.2.2.2.1
  simp (disch := omega) only [w64]
  have g1 : ¬ x < 0 := by omega
  have g2 : ¬ x > 159 := by omega
  have g2' : ¬ 159 < x := by omega
  by_cases q1 : x + 8 - o.2.1 < 0
  · simp [g1, g2, g2', q1]
  · by_cases q2 : 7 < x + 8 - o.2.1
    · simp [g1, g2, g2', q1, q2]
    · by_cases q3 : bitB o.2.2.2.1 5 = true <;> simp [g1, g2, g2', q1, q2, q3, e5]
end Go.Proofs.Ytibgfodjecnnkaa.E
