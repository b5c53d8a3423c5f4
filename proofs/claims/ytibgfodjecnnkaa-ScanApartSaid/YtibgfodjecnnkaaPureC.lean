/- Functions of the program as plain Lean, and what they come to. Conditions: none. -/
import Derived.Test.YtibgfodjecnnkaaEwD
import Derived.Test.YtibgfodjecnnkaaPureB
open Go Go.Ew
namespace Go.Proofs.Ytibgfodjecnnkaa.E
set_option linter.unusedVariables false
set_option linter.unusedSimpArgs false
set_option maxRecDepth 100000

def hiS (tall : Bool) : Int := if tall = true then 15 else 7
def rS (o : O5) (line : Int) (tall : Bool) : Int := if bitB o.2.2.2.1 6 = true then hiS tall - (line + 16 - o.1) else line + 16 - o.1
def rowS (o : O5) (line : Int) (tall : Bool) : Int × Int × Bool := if onB o line tall = true then (if tall = true then o.2.2.1 / 2 * 2 + rS o line tall / 8 else o.2.2.1, rS o line tall % 8, true) else (0, 0, false)
theorem onB_iff {o : O5} {line : Int} {tall : Bool} : onB o line tall = true ↔ 0 ≤ line ∧ line < 144 ∧ 0 ≤ line + 16 - o.1 ∧ line + 16 - o.1 ≤ hiS tall := by
  unfold onB hiS
  cases tall <;> simp <;> omega
theorem on_true {o : O5} {line : Int} {tall : Bool} (h0 : 0 ≤ o.1) (h1 : o.1 ≤ 255) (h : onB o line tall = true) : objects_on.F (o, line, tall, ()) = some (line + 16 - o.1, true, ()) := by
  obtain ⟨a, b, c, d⟩ := onB_iff.1 h
  unfold objects_on.F objects_on.C objects_on.G
  simp (disch := omega) only [w64]
  have g1 : ¬ line < 0 := by omega
  have g2 : ¬ line ≥ 144 := by omega
  have g3 : line + 16 - o.1 ≥ 0 := by omega
  have g3' : o.1 ≤ line + 16 := by omega
  unfold hiS at d
  cases tall
  · have g4 : line + 16 - o.1 < 8 := by simp at d; omega
    simp [g1, g2, g3', g4]
  · have g4 : line + 16 - o.1 < 16 := by simp at d; omega
    simp [g1, g2, g3', g4]
theorem on_false {o : O5} {line : Int} {tall : Bool} (h0 : 0 ≤ o.1) (h1 : o.1 ≤ 255) (h : onB o line tall = false) : ∃ r, objects_on.F (o, line, tall, ()) = some (r, false, ()) := by
  obtain ⟨r, hr⟩ := on_spec (o := o) (line := line) (tall := tall) h0 h1
  rw [h] at hr
  exact ⟨r, hr⟩
theorem rS_le {o : O5} {line : Int} {tall : Bool} (h : onB o line tall = true) : 0 ≤ rS o line tall ∧ rS o line tall ≤ hiS tall := by
  obtain ⟨a, b, c, d⟩ := onB_iff.1 h
  unfold rS
  split <;> omega
theorem hiS_le (tall : Bool) : 7 ≤ hiS tall ∧ hiS tall ≤ 15 := by cases tall <;> simp [hiS]
theorem tile_or : ∀ t : Fin 256, ∀ b : Fin 2, bits .or .u8 ((t.val : Int) / 2 * 2) (b.val : Int) = (t.val : Int) / 2 * 2 + (b.val : Int) := by decide +kernel
theorem tile_or' {t b : Int} (ht : byte t) (h0 : 0 ≤ b) (h1 : b ≤ 1) : bits .or .u8 (t / 2 * 2) b = t / 2 * 2 + b := by
  have a := ht.1
  have c := ht.2
  have := tile_or ⟨t.toNat, by omega⟩ ⟨b.toNat, by omega⟩
  simp only [Int.toNat_of_nonneg a, Int.toNat_of_nonneg h0] at this
  exact this
theorem row_part {o : O5} (ho : obytes o) {r : Int} (h0 : 0 ≤ r) (h1 : r ≤ 15) : bits .or .u8 (bits .andNot .u8 o.2.2.1 1) (IntKind.wrap .u8 (Int.fdiv r 8)) = o.2.2.1 / 2 * 2 + r / 8 ∧ bits .and .i64 r 7 = r % 8 := by
  refine ⟨?_, low64 3 (n := 7) rfl (by omega) h0 (by omega)⟩
  rw [(flag_spec ho.2.2.1).2.2, fdivN (by omega), w8 (by omega), tile_or' ho.2.2.1 (by omega) (by omega)]
theorem row_spec {o : O5} (ho : obytes o) {line : Int} {tall : Bool} : objects_Row.F (o, line, tall, ()) = some ((rowS o line tall).1, (rowS o line tall).2.1, (rowS o line tall).2.2, ()) := by
  unfold objects_Row.F objects_Row.C objects_Row.G rowS
  by_cases h : onB o line tall = true
  · have e : objects_on.F (o, line, tall, ()) = some (line + 16 - o.1, true, ()) := on_true ho.1.1 ho.1.2 h
    obtain ⟨a, b, c, d⟩ := onB_iff.1 h
    have hr := rS_le h
    have hh := hiS_le tall
    have p2 := ho.1.2
    have p1 := ho.1.1
    simp only [e, Option.bind_some, h, if_true, Bool.not_true, Bool.false_eq_true, if_false, (flag_spec ho.2.2.2.1).2.1]
    by_cases q : bitB o.2.2.2.1 6 = true
    · have er : rS o line tall = hiS tall - (line + 16 - o.1) := by unfold rS; rw [if_pos q]
      cases tall
      · simp only [q, if_true, Bool.false_eq_true, if_false]
        have e7 : hiS false = 7 := rfl
        rw [e7] at er
        rw [← er, w64 (by omega), (row_part ho hr.1 (by omega)).2]
      · simp only [q, if_true]
        have e7 : hiS true = 15 := rfl
        rw [e7] at er
        rw [← er, w64 (by omega), (row_part ho hr.1 (by omega)).2, (row_part ho hr.1 (by omega)).1]
    · have er : rS o line tall = line + 16 - o.1 := by unfold rS; rw [if_neg q]
      simp only [q, if_false, Bool.false_eq_true]
      rw [← er, (row_part ho hr.1 (by omega)).2, (row_part ho hr.1 (by omega)).1]
      cases tall <;> simp
  · have h' : onB o line tall = false := by simpa using h
    obtain ⟨r, e⟩ := on_false (line := line) (tall := tall) ho.1.1 ho.1.2 h'
    simp [e, h']
theorem put0_fin : ∀ t : Fin 256, (IntKind.wrap .u8 (IntKind.wrap .i64 (IntKind.wrap .i64 (t.val : Int) - 1)) = (t.val : Int) - 1 ∨ t.val = 0) := by decide +kernel
theorem put0_spec {t : Int} (ht : byte t) : ref01_Put.F (t, 0, false, ()) = some (t / 2 * 2, ()) := by
  have a := ht.1
  have b := ht.2
  unfold ref01_Put.F ref01_Put.C ref01_Put.G
  have e : ref01_Bit.F (t, 0, ()) = some (bitB t 0, ()) := rbit_spec 0 (by omega) ht
  have e2 : ref01_power.F (0, ()) = some (1, ()) := power_spec 0 (by omega)
  simp only [e, e2, Option.bind_some, Bool.false_eq_true, if_false]
  have e3 : bitB t 0 = decide (t % 2 = 1) := by simp [bitB]
  rw [e3, w64 (n := t) (by omega)]
  by_cases q : t % 2 = 1
  · rw [w64 (n := t - 1) (by omega), w8 (by omega)]
    simp [q]; omega
  · rw [w8 (n := t) (by omega)]
    simp [q]; omega
theorem rrow_spec {o : O5} (ho : obytes o) {line : Int} {tall : Bool} : ref16_Row.F (o, line, tall, ()) = some ((rowS o line tall).1, (rowS o line tall).2.1, (rowS o line tall).2.2, ()) := by
  unfold ref16_Row.F ref16_Row.C ref16_Row.G rowS
  have eOn : ref16_On.F (o, line, tall, ()) = some (onB o line tall, ()) := On_spec ho.1.1 ho.1.2
  by_cases h : onB o line tall = true
  · obtain ⟨a, b, c, d⟩ := onB_iff.1 h
    have hr := rS_le h
    have hh := hiS_le tall
    have p2 := ho.1.2
    have p1 := ho.1.1
    have t0 := ho.2.2.1.1
    have t1 := ho.2.2.1.2
    have e6 : ref01_Bit.F (o.2.2.2.1, 6, ()) = some (bitB o.2.2.2.1 6, ()) := rbit_spec 6 (by omega) ho.2.2.2.1
    simp only [eOn, Option.bind_some, h, if_true, Bool.not_true, Bool.false_eq_true, if_false, e6, put0_spec ho.2.2.1]
    rw [w64 (n := line + 16) (by omega), w64 (n := o.1) (by omega), w64 (n := line + 16 - o.1) (by omega)]
    by_cases q : bitB o.2.2.2.1 6 = true
    · have er : rS o line tall = hiS tall - (line + 16 - o.1) := by unfold rS; rw [if_pos q]
      cases tall
      · simp only [q, if_true, Bool.false_eq_true, if_false, Bool.not_false]
        have e7 : hiS false = 7 := rfl
        rw [e7] at er hr
        rw [← er, w64 (by omega), Int.emod_eq_of_lt (by omega) (by omega)]
      · simp only [q, if_true, Bool.not_true, Bool.false_eq_true, if_false]
        have e7 : hiS true = 15 := rfl
        rw [e7] at er hr
        rw [← er, w64 (n := rS o line true) (by omega), w64 (by omega), w8 (by omega)]
        by_cases g : rS o line true ≥ 8
        · simp [g]; omega
        · simp [g]; omega
    · have er : rS o line tall = line + 16 - o.1 := by unfold rS; rw [if_neg q]
      simp only [q, if_false, Bool.false_eq_true]
      rw [← er, w64 (by omega), w8 (by omega)]
      cases tall
      · have e7 : hiS false = 7 := rfl
        rw [e7] at hr
        simp; omega
      · have e7 : hiS true = 15 := rfl
        rw [e7] at hr
        by_cases g : rS o line true ≥ 8
        · simp [g]; omega
        · simp [g]; omega
  · have h' : onB o line tall = false := by simpa using h
    simp [eOn, h']
theorem rowS_le {o : O5} (ho : obytes o) (line : Int) (tall : Bool) : byte (rowS o line tall).1 ∧ 0 ≤ (rowS o line tall).2.1 ∧ (rowS o line tall).2.1 < 8 := by
  have t0 := ho.2.2.1.1
  have t1 := ho.2.2.1.2
  unfold rowS byte
  split
  · rename_i h
    have hr := rS_le h
    have hh := hiS_le tall
    split
    · exact ⟨⟨by simp only; omega, by simp only; omega⟩, by simp only; omega, by simp only; omega⟩
    · exact ⟨⟨by simp only; omega, by simp only; omega⟩, by simp only; omega, by simp only; omega⟩
  · simp
/-! order -/
theorem ahead_spec (a b : O5) : ref16_ahead.F (a, b, ()) = some (lt5 a b, ()) := by
  unfold ref16_ahead.F ref16_ahead.C ref16_ahead.G lt5
  by_cases h : a.2.1 = b.2.1
  · simp [h]
  · have : (a.2.1 != b.2.1) = true := by simp [h]
    simp [h, this]
theorem seek_loop {l : List O5} {i : Nat} (hi : i < l.length) (hl : l.length ≤ 100) {out : List O5} (ho : out.length ≤ 100) : ∀ (k : Nat), k ≤ out.length →
    ∃ j, j ≤ k ∧ ref16_Order.L1.F ((l, (i : Int), (k : Int), ()), (), out, ()) = some ((l, (i : Int), (j : Int), ()), (), out, ()) ∧ insR (l.getD i Z5) (out.take k) = out.take j ++ [l.getD i Z5] ++ (out.take k).drop j := by
  intro k
  induction k with
  | zero =>
    intro hk
    refine ⟨0, by omega, ?_, by simp [insR_nil]⟩
    unfold ref16_Order.L1.F
    rw [iterU_eq]
    unfold ref16_Order.L1.step
    simp
  | succ k ih =>
    intro hk
    obtain ⟨j, hj, e, hins⟩ := ih (by omega)
    have g0 : ((k + 1 : Nat) : Int) > 0 := by omega
    have g1 : (0 : Int) ≤ (i : Int) ∧ (i : Int) < (l.length : Int) := by omega
    have g2 : (0 : Int) ≤ (k : Int) ∧ (k : Int) < (out.length : Int) := by omega
    have est : ref16_Order.L1.step ref16_ahead.F l (i : Int) ((k + 1 : Nat) : Int) out = if lt5 (l.getD i Z5) (out.getD k Z5) = true then some (Sum.inl ((l, (i : Int), (k : Int), ()), (), out, ())) else some (Sum.inr ((l, (i : Int), ((k + 1 : Nat) : Int), ()), (), out, ())) := by
      unfold ref16_Order.L1.step
      rw [show ((k + 1 : Nat) : Int) - 1 = (k : Int) by omega, w64 (n := (k : Int)) (by omega)]
      simp only [g0, decide_true, beq_self_eq_true, if_true, if_pos g1, if_pos g2, Int.toNat_natCast, Nat.zero_add, ahead_spec, Option.bind_some, List.take_length]
    have hk' : k < out.length := by omega
    have ek : out.getD k Z5 = out[k] := getD_in hk'
    have et : out.take (k + 1) = out.take k ++ [out.getD k Z5] := by rw [ek, List.take_add_one, List.getElem?_eq_getElem hk']; rfl
    unfold ref16_Order.L1.F
    rw [iterU_eq]
    simp only []
    rw [est]
    by_cases hlt : lt5 (l.getD i Z5) (out.getD k Z5) = true
    · rw [if_pos hlt]
      refine ⟨j, by omega, e, ?_⟩
      rw [et, insR_snoc, if_pos hlt, hins, List.drop_append_of_le_length (by simp; omega)]
      simp
    · rw [if_neg hlt]
      refine ⟨k + 1, by omega, rfl, ?_⟩
      rw [et, insR_snoc, if_neg hlt]
      rw [List.drop_of_length_le (by simp only [List.length_append, List.length_take, List.length_singleton]; omega)]
      simp
theorem rorder_spec {l : List O5} (hl : l.length ≤ 100) : ref16_Order.F (l, ()) = some (isort l, ()) := by
  have := iterU_inv (step := fun x => ref16_Order.L0.step ref16_Order.L1.F x.1.1 x.1.2.1 x.2.2.1) (fun a => ∃ i : Nat, i ≤ l.length ∧ a = ((l, (i : Int), ()), (), isort (l.take i), ()))
    (fun b => b = ((), (), isort l, ())) (fun a => (l.length - a.1.2.1).toNat) ?_ ((l, (0 : Int), ()), (), [], ()) ⟨0, by omega, rfl⟩
  · obtain ⟨b, e, rfl⟩ := this
    unfold ref16_Order.F ref16_Order.C ref16_Order.G
    have e' : ref16_Order.L0.F ((l, (0 : Int), ()), (), [], ()) = some ((), (), isort l, ()) := e
    simp [e']
  · rintro a ⟨i, hi, rfl⟩
    have hlen : (isort (l.take i)).length = i := by rw [isort_length, List.length_take]; omega
    unfold ref16_Order.L0.step
    dsimp only
    rw [List.take_length]
    by_cases h : i < l.length
    · left
      have h' : (i : Int) < (l.length : Int) := by omega
      have g1 : (0 : Int) ≤ (i : Int) ∧ (i : Int) < (l.length : Int) := by omega
      obtain ⟨j, hj, e, hins⟩ := seek_loop (l := l) h hl (out := isort (l.take i)) (by omega) i (by omega)
      rw [if_pos (decide_eq_true h'), hlen, e]
      simp only [Option.bind_some]
      have g2 : (0 : Int) ≤ 0 ∧ (0 : Int) ≤ (j : Int) ∧ (j : Int) ≤ ((isort (l.take i)).length : Int) := by omega
      have g3 : (0 : Int) ≤ (j : Int) ∧ (j : Int) ≤ ((isort (l.take i)).length : Int) ∧ ((isort (l.take i)).length : Int) ≤ ((isort (l.take i)).length : Int) := by omega
      have g4 : 0 + (j - 0) + 1 ≤ 268435456 := by omega
      have g5 : 0 + (j - 0) + 1 + ((isort (l.take i)).length - j) ≤ 268435456 := by omega
      have g6 : 0 + (j - 0) ≤ 268435456 := by omega
      rw [if_pos g2]
      simp only [if_pos g3, if_pos g1, Int.toNat_natCast, if_pos g4, if_pos g5, if_pos g6]
      rw [hlen, w64 (n := (i : Int) + 1) (by omega)]
      have efin : isort (l.take (i + 1)) = (isort (l.take i)).take j ++ [l.getD i Z5] ++ (isort (l.take i)).drop j := by
        have : l.take (i + 1) = l.take i ++ [l.getD i Z5] := by rw [getD_in h, List.take_add_one, List.getElem?_eq_getElem h]; rfl
        rw [this, isort_snoc]
        have e3 : (isort (l.take i)).take i = isort (l.take i) := List.take_of_length_le (by omega)
        rw [e3] at hins
        exact hins
      generalize isort (l.take i) = out at *
      have k1 : (out.take j).length = j := by rw [List.length_take]; omega
      have k2 : (out.drop j).length = i - j := by rw [List.length_drop]; omega
      have k3 : ((i + 1 : Nat) : Int) = (i : Int) + 1 := by omega
      have k4 : (0 + (j - 0) + 1 + (i - j)) = i + 1 := by omega
      rw [k4]
      by_cases z : 0 + (j - 0) ≤ 0
      · obtain rfl : j = 0 := by omega
        rw [if_pos z]
        refine ⟨_, rfl, ⟨i + 1, by omega, ?_⟩, by simp only; omega⟩
        rw [efin, k3]
        simp [List.take_of_length_le (Nat.le_of_eq hlen)]
      · rw [if_neg z]
        refine ⟨_, rfl, ⟨i + 1, by omega, ?_⟩, by simp only; omega⟩
        rw [efin, k3]
        simp only [List.take_zero, List.drop_zero, List.nil_append, List.take_take, Nat.min_self, List.take_succ_cons, Nat.zero_add, Nat.sub_zero]
        rw [List.take_of_length_le (l := out.take j ++ [l.getD i Z5]) (by simp only [List.length_append, List.length_singleton]; omega), List.take_of_length_le (l := out.drop j) (by omega), List.take_of_length_le (by simp only [List.length_append, List.length_singleton]; omega)]
    · right
      obtain rfl : i = l.length := by omega
      refine ⟨_, by simp; rfl, ?_⟩
      simp [hlen]
end Go.Proofs.Ytibgfodjecnnkaa.E
