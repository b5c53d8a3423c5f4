/- What of any object is seen on any line, and at any place: the two readings are the same, as plain functions. Conditions: none. -/
import Derived.Test.YtfpepeembbpncaaPx4
namespace Go.Proofs.Ytfpepeembbpncaa.P
open Go.RowKit Go.Proofs.YtfpepeembbpncaaW.PrintWords Go.Proofs.YtfpepeembbpncaaW.PrintLast Go.Proofs.YtfpepeembbpncaaW.PrintMore
set_option linter.unusedVariables false
set_option linter.unusedSimpArgs false

def in64 (n : Int) : Prop := -9223372036854775808 ≤ n ∧ n ≤ 9223372036854775807
def in8 (n : Int) : Prop := 0 ≤ n ∧ n ≤ 255
theorem bits6 : ∀ m : Fin 256, whirligigref01_Bit.f 19 ((m.val : Nat) : Int) 6 = some (decide (Go.bits .and .u8 ((m.val : Nat) : Int) 64 ≠ 0)) := by decide +kernel
theorem bits5 : ∀ m : Fin 256, whirligigref01_Bit.f 17 ((m.val : Nat) : Int) 5 = some (decide (Go.bits .and .u8 ((m.val : Nat) : Int) 32 ≠ 0)) := by decide +kernel
theorem put0 : ∀ m : Fin 256, whirligigref01_Put.f 18 ((m.val : Nat) : Int) 0 false = some (Go.bits .andNot .u8 ((m.val : Nat) : Int) 1) := by decide +kernel
theorem or0 : ∀ m : Fin 256, Go.bits .or .u8 (Go.bits .andNot .u8 ((m.val : Nat) : Int) 1) 0 = Go.bits .andNot .u8 ((m.val : Nat) : Int) 1 := by decide +kernel
theorem or1 : ∀ m : Fin 256, Go.bits .or .u8 (Go.bits .andNot .u8 ((m.val : Nat) : Int) 1) 1 = (Go.bits .andNot .u8 ((m.val : Nat) : Int) 1 + 1) % 256 := by decide +kernel
theorem low7 : ∀ r : Fin 16, Go.bits .and .i64 ((r.val : Nat) : Int) 7 = (r.val : Int) % 8 := by decide +kernel
theorem fin_of {n : Int} (h : in8 n) : ∃ m : Fin 256, n = ((m.val : Nat) : Int) := ⟨⟨n.toNat, by have := h.2; have := h.1; omega⟩, by have := h.1; simp only []; omega⟩
theorem low7' {r : Int} (h0 : 0 ≤ r) (h1 : r < 16) : Go.bits .and .i64 r 7 = r % 8 := by
  have := low7 ⟨r.toNat, by omega⟩
  rwa [show (((⟨r.toNat, by omega⟩ : Fin 16).val : Nat) : Int) = r by simp only []; omega] at this

/-- the row and the tile, told once -/
def tileOf (t r : Int) (tall : Bool) : Int := if tall = true then (if r < 8 then Go.bits .andNot .u8 t 1 else (Go.bits .andNot .u8 t 1 + 1) % 256) else t
def highOf (tall : Bool) : Int := if tall = true then 16 else 8
def rowR (y t f line : Int) (tall : Bool) : Int × Int × Bool :=
  if line < 0 ∨ 143 < line then (0, 0, false)
  else if 0 ≤ line + 16 - y ∧ line + 16 - y < highOf tall then
    (let r := if Go.bits .and .u8 f 64 = 0 then line + 16 - y else highOf tall - 1 - (line + 16 - y)
     (tileOf t r tall, r % 8, true))
  else (0, 0, false)

theorem w64 {n : Int} (h : in64 n) : wrap64 n = n := by unfold in64 at h; unfold wrap64; omega
theorem tileProg {t r : Int} (ht : in8 t) (h0 : 0 ≤ r) (h1 : r < 16) : Go.bits .or .u8 (Go.bits .andNot .u8 t 1) ((r / 8) % 256) = if r < 8 then Go.bits .andNot .u8 t 1 else (Go.bits .andNot .u8 t 1 + 1) % 256 := by
  obtain ⟨m, rfl⟩ := fin_of ht
  by_cases h : r < 8
  · rw [show (r / 8) % 256 = 0 by omega, or0, if_pos h]
  · rw [show (r / 8) % 256 = 1 by omega, or1, if_neg h]
theorem row_prog (y x t f n line : Int) (tall : Bool) (hy : in8 y) (ht : in8 t) (hl : in64 line) : objects_Row.f y x t f n line tall = some (rowR y t f line tall) := by
  unfold objects_Row.f objects_on.f rowR
  have hy' : wrap64 y = y := w64 (by unfold in8 at hy; unfold in64; omega)
  rw [hy']
  by_cases c1 : line < 0
  · simp [c1]
  · by_cases c2 : line ≥ 144
    · have c3 : 143 < line := by omega
      simp [c1, c2, c3]
    · have c3 : ¬ (line < 0 ∨ 143 < line) := by omega
      unfold in8 at hy
      have e1 : wrap64 (line + 16) = line + 16 := w64 (by unfold in64; omega)
      have e2 : wrap64 (line + 16 - y) = line + 16 - y := w64 (by unfold in64; omega)
      rw [if_neg c1, if_neg c2, if_neg c3, e1, e2]
      generalize hr : line + 16 - y = r
      by_cases c4 : r ≥ 0
      · rw [if_pos c4]
        have hh : objects_high.f tall = some (highOf tall) := by unfold objects_high.f highOf; cases tall <;> rfl
        rw [hh]
        simp only [Option.bind_some]
        by_cases c5 : r < highOf tall
        · have c6 : 0 ≤ r ∧ r < highOf tall := ⟨c4, c5⟩
          rw [if_pos c6, if_pos (by simpa using c5)]
          have h16 : highOf tall ≤ 16 := by unfold highOf; split <;> omega
          by_cases c7 : Go.bits .and .u8 f 64 = 0
          · rw [if_pos c7]
            simp only [c7, if_true]
            cases tall with
            | true => simp only [if_true, tileOf]; rw [tileProg ht c4 (by omega), low7' c4 (by omega)]
            | false => simp only [Bool.false_eq_true, if_false, tileOf]; rw [low7' c4 (by omega)]
          · rw [if_neg c7]
            simp only [c7, if_false]
            have e3 : wrap64 (highOf tall - 1) = highOf tall - 1 := w64 (by unfold in64; unfold highOf; split <;> omega)
            have e4 : wrap64 (highOf tall - 1 - r) = highOf tall - 1 - r := w64 (by unfold in64; unfold highOf; split <;> omega)
            rw [e3, e4]
            cases tall with
            | true => simp only [if_true, tileOf]; rw [tileProg ht (by omega) (by omega), low7' (by omega) (by omega)]
            | false => simp only [Bool.false_eq_true, if_false, tileOf]; rw [low7' (by omega) (by omega)]
        · rw [if_neg (by simpa using c5), if_neg (by omega)]
      · rw [if_neg c4, if_neg (by omega)]
        simp
theorem j0_ref (t r y x f n : Int) (tall : Bool) (ht : in8 t) (h0 : 0 ≤ r) (h1 : r < highOf tall) : whirligigref16_Row.j0 19 tall r y x t f n = some (tileOf t r tall, r % 8, true) := by
  unfold whirligigref16_Row.j0 tileOf
  obtain ⟨m, rfl⟩ := fin_of ht
  cases tall with
  | true =>
    have h16 : r < 16 := h1
    simp only [if_true]
    rw [put0]
    simp only [Option.bind_some]
    by_cases c : r ≥ 8
    · rw [if_pos c, if_neg (by omega), w64 (by unfold in64; omega), show r - 8 = r % 8 by omega]
    · rw [if_neg c, if_pos (by omega), show r % 8 = r by omega]
  | false =>
    have h16 : r < 8 := h1
    simp only [Bool.false_eq_true, if_false]
    rw [show r % 8 = r by omega]
theorem row_ref (y x t f n line : Int) (tall : Bool) (hy : in8 y) (ht : in8 t) (hf : in8 f) (hl : in64 line) : whirligigref16_Row.f 19 y x t f n line tall = some (rowR y t f line tall) := by
  unfold whirligigref16_Row.f whirligigref16_On.f rowR
  have hy' : wrap64 y = y := w64 (by unfold in8 at hy; unfold in64; omega)
  rw [hy']
  by_cases c1 : line < 0
  · simp [c1]
  · by_cases c2 : line > 143
    · simp [c1, c2]
    · have c3 : ¬ (line < 0 ∨ 143 < line) := by omega
      have hy2 := hy
      unfold in8 at hy2
      have e1 : wrap64 (line + 16) = line + 16 := w64 (by unfold in64; omega)
      have e2 : wrap64 (line + 16 - y) = line + 16 - y := w64 (by unfold in64; omega)
      have hh : whirligigref16_rows.f tall = some (highOf tall) := by unfold whirligigref16_rows.f highOf; cases tall <;> rfl
      have e5 : wrap64 (y + highOf tall) = y + highOf tall := w64 (by unfold in64; unfold highOf; split <;> omega)
      have hp : 0 < highOf tall := by unfold highOf; split <;> omega
      rw [if_neg c1, if_neg c2, if_neg c3, e1, e2, hh]
      simp only [Option.bind_some]
      rw [e5]
      generalize hr : line + 16 - y = r
      have hr2 : line + 16 = r + y := by omega
      rw [hr2]
      by_cases c4 : r + y ≥ y
      · rw [if_pos c4]
        simp only [Option.bind_some]
        by_cases c5 : r < highOf tall
        · rw [if_pos (by simp; omega), if_pos ⟨by omega, c5⟩]
          obtain ⟨m, rfl⟩ := fin_of hf
          rw [bits6]
          simp only [Option.bind_some, decide_eq_true_eq, ne_eq]
          by_cases c7 : Go.bits .and .u8 ((m.val : Nat) : Int) 64 = 0
          · rw [if_neg (by simp [c7]), if_pos c7]
            exact j0_ref t r y x _ n tall ht (by omega) c5
          · rw [if_pos c7, if_neg c7]
            have e3 : wrap64 (highOf tall - 1) = highOf tall - 1 := w64 (by unfold in64; unfold highOf; split <;> omega)
            have e4 : wrap64 (highOf tall - 1 - r) = highOf tall - 1 - r := w64 (by unfold in64; unfold highOf; split <;> omega)
            rw [e3, e4]
            exact j0_ref t _ y x _ n tall ht (by omega) (by omega)
        · rw [if_neg (by simp; omega), if_neg (by omega)]
      · rw [if_neg c4, if_neg (by omega)]
        simp
/-- the column, told once -/
def colR (x f at' : Int) : Int × Bool :=
  if at' < 0 ∨ 159 < at' then (0, false) else if at' + 8 - x < 0 ∨ 7 < at' + 8 - x then (0, false) else if Go.bits .and .u8 f 32 = 0 then (at' + 8 - x, true) else (7 - (at' + 8 - x), true)
theorem col_prog (y x t f n a : Int) (hx : in8 x) (ha : in64 a) : objects_Column.f 19 y x t f n a = some (colR x f a) := by
  unfold in8 at hx
  have hx' : wrap64 x = x := w64 (by unfold in64; omega)
  unfold objects_Column.f colR
  by_cases c1 : a < 0
  · simp [c1, objects_Column.j0]
  · rw [if_neg c1]
    by_cases c2 : a ≥ 160
    · have : 159 < a := by omega
      simp [c2, objects_Column.j0, this]
    · have e1 : wrap64 (a + 8) = a + 8 := w64 (by unfold in64; omega)
      have e2 : wrap64 (a + 8 - x) = a + 8 - x := w64 (by unfold in64; omega)
      rw [if_neg (by omega : ¬ (a < 0 ∨ 159 < a))]
      simp only [objects_Column.j0, hx', e1, e2]
      rw [if_neg (by simpa using c2)]
      generalize a + 8 - x = r
      by_cases c3 : r < 0
      · rw [if_pos c3, if_pos (.inl c3)]; simp [objects_Column.j1]
      · rw [if_neg c3]
        by_cases c4 : r > 7
        · rw [if_pos (.inr c4)]; simp [objects_Column.j1, c4]
        · rw [if_neg (by omega : ¬ (r < 0 ∨ 7 < r))]
          simp only [objects_Column.j1]
          rw [if_neg (by simpa using c4)]
          have e3 : wrap64 (7 - r) = 7 - r := w64 (by unfold in64; omega)
          rw [e3]
          split <;> rfl
theorem col_ref (y x t f n a : Int) (hx : in8 x) (hf : in8 f) (ha : in64 a) : whirligigref16_Column.f 19 y x t f n a = some (colR x f a) := by
  unfold in8 at hx
  have hx' : wrap64 x = x := w64 (by unfold in64; omega)
  unfold whirligigref16_Column.f colR
  by_cases c1 : a < 0
  · simp [c1, whirligigref16_Column.j0]
  · rw [if_neg c1]
    by_cases c2 : a > 159
    · have : 159 < a := by omega
      simp [c2, whirligigref16_Column.j0, this]
    · have e1 : wrap64 (a + 8) = a + 8 := w64 (by unfold in64; omega)
      have e2 : wrap64 (a + 8 - x) = a + 8 - x := w64 (by unfold in64; omega)
      rw [if_neg (by omega : ¬ (a < 0 ∨ 159 < a))]
      simp only [whirligigref16_Column.j0, hx', e1, e2]
      rw [if_neg (by simpa using c2)]
      generalize a + 8 - x = r
      by_cases c3 : r < 0
      · rw [if_pos c3, if_pos (.inl c3)]; simp [whirligigref16_Column.j1]
      · rw [if_neg c3]
        by_cases c4 : r > 7
        · rw [if_pos (.inr c4)]; simp [whirligigref16_Column.j1, c4]
        · rw [if_neg (by omega : ¬ (r < 0 ∨ 7 < r))]
          simp only [whirligigref16_Column.j1]
          rw [if_neg (by simpa using c4)]
          have e3 : wrap64 (7 - r) = 7 - r := w64 (by unfold in64; omega)
          rw [e3]
          obtain ⟨m, rfl⟩ := fin_of hf
          rw [bits5]
          simp only [Option.bind_some, decide_eq_true_eq, ne_eq]
          by_cases c7 : Go.bits .and .u8 ((m.val : Nat) : Int) 32 = 0
          · rw [if_neg (by simp [c7]), if_pos c7]
          · rw [if_pos c7, if_neg c7]
theorem objectsRows_pure (y x t f n line a : Int) (hy : in8 y) (hx : in8 x) (ht : in8 t) (hf : in8 f) (hl : in64 line) (ha : in64 a) : whirligiglaw16_ObjectsRows.f 22 y x t f n line a = some true := by
  unfold whirligiglaw16_ObjectsRows.f whirligiglaw16_shown.f
  have r20 : ∀ tall, whirligigref16_Row.f 20 y x t f n line tall = some (rowR y t f line tall) := fun tall => whirligigref16_Row.mono _ _ _ _ _ _ _ _ _ (row_ref y x t f n line tall hy ht hf hl)
  have r21 : ∀ tall, whirligigref16_Row.f 21 y x t f n line tall = some (rowR y t f line tall) := fun tall => whirligigref16_Row.mono _ _ _ _ _ _ _ _ _ (r20 tall)
  have e0 : wrap64 (0 + 1) = 1 := by unfold wrap64; omega
  have e1 : wrap64 (1 + 1) = 2 := by unfold wrap64; omega
  simp only [Option.bind_some]
  rw [whirligiglaw16_ObjectsRows.l0]
  simp only [Int.reduceLT, if_true, row_prog y x t f n line _ hy ht hl, r21, Option.bind_some, bne_self_eq_false, Bool.false_eq_true, if_false, e0]
  rw [whirligiglaw16_ObjectsRows.l0]
  simp only [Int.reduceLT, if_true, row_prog y x t f n line _ hy ht hl, r20, Option.bind_some, bne_self_eq_false, Bool.false_eq_true, if_false, e1]
  rw [whirligiglaw16_ObjectsRows.l0]
  simp only [Int.reduceLT, if_false, col_prog y x t f n a hx ha, col_ref y x t f n a hx hf ha, Option.bind_some, if_true, beq_self_eq_true]
#print axioms objectsRows_pure
end Go.Proofs.Ytfpepeembbpncaa.P
