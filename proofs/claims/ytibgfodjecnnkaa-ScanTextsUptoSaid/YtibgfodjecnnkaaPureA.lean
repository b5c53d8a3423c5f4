/- Functions of the program as plain Lean, and what they come to. Conditions: none. -/
import Derived.Test.YtibgfodjecnnkaaEwD
import Derived.Test.YtibgfodjecnnkaaWalkW
namespace Go.Proofs.Ytibgfodjecnnkaa.E
open Go Go.Ew
set_option linter.unusedVariables false
set_option linter.unusedSimpArgs false
def onB (o : O5) (line : Int) (tall : Bool) : Bool := decide (0 ≤ line ∧ line < 144 ∧ o.1 ≤ line + 16 ∧ line + 16 < o.1 + if tall = true then 16 else 8)
def i64 (n : Int) : Prop := -9223372036854775808 ≤ n ∧ n ≤ 9223372036854775807
theorem on_spec {o : O5} {line : Int} {tall : Bool} (h0 : 0 ≤ o.1) (h1 : o.1 ≤ 255) : ∃ r, objects_on.F (o, line, tall, ()) = some (r, onB o line tall, ()) := by
  unfold objects_on.F objects_on.C objects_on.G onB
  by_cases a : line < 0
  · refine ⟨0, ?_⟩
    have : ¬ (0 ≤ line) := by omega
    simp [a, this]
  · by_cases b : line ≥ 144
    · refine ⟨0, ?_⟩
      have : ¬ (line < 144) := by omega
      simp [a, b, this]
    · have b' : line < 144 := by omega
      have a' : 0 ≤ line := by omega
      simp (disch := omega) only [w64]
      by_cases c : line + 16 - o.1 ≥ 0
      · cases tall
        · refine ⟨line + 16 - o.1, ?_⟩
          have e : decide (line + 16 - o.1 < 8) = decide (line + 16 < o.1 + 8) := decide_eq_decide.2 (by omega)
          have c' : o.1 ≤ line + 16 := by omega
          simp [a, b, c, a', b', c', e]
        · refine ⟨line + 16 - o.1, ?_⟩
          have e : decide (line + 16 - o.1 < 16) = decide (line + 16 < o.1 + 16) := decide_eq_decide.2 (by omega)
          have c' : o.1 ≤ line + 16 := by omega
          simp [a, b, c, a', b', c', e]
      · refine ⟨line + 16 - o.1, ?_⟩
        have c' : ¬ o.1 ≤ line + 16 := by omega
        simp [a, b, c, a', b', c']
theorem On_spec {o : O5} {line : Int} {tall : Bool} (h0 : 0 ≤ o.1) (h1 : o.1 ≤ 255) : ref16_On.F (o, line, tall, ()) = some (onB o line tall, ()) := by
  unfold ref16_On.F ref16_On.C ref16_On.G onB
  by_cases a : line < 0
  · have : ¬ (0 ≤ line) := by omega
    simp [a, this]
  · by_cases b : line > 143
    · have : ¬ (line < 144) := by omega
      simp [a, b, this]
    · have b' : line < 144 := by omega
      have a' : 0 ≤ line := by omega
      simp (disch := omega) only [w64]
      by_cases c : line + 16 ≥ o.1
      · have c' : o.1 ≤ line + 16 := by omega
        cases tall <;> simp [a, b, c, a', b', c']
      · have c' : ¬ o.1 ≤ line + 16 := by omega
        simp [a, b, c, a', b', c']
theorem At_spec {m : List Int} {i : Nat} : ref16_At.F (m, (i : Int), ()) = some (m.getD i 0, ()) := by
  unfold ref16_At.F ref16_At.C ref16_At.G
  by_cases h : (i : Int) < (m.length : Int)
  · simp [h]
  · have : m.getD i 0 = 0 := by exact getD_out (by omega)
    simp only [h, decide_false, Bool.false_eq_true, if_false, this]
def objAt (m : List Int) (i : Nat) : O5 := (m.getD (4 * i) 0, m.getD (4 * i + 1) 0, m.getD (4 * i + 2) 0, m.getD (4 * i + 3) 0, (i : Int))
theorem Obj_spec {m : List Int} {i : Nat} (h : i < 40) : ref16_Obj.F (m, (i : Int), ()) = some (objAt m i, ()) := by
  unfold ref16_Obj.F ref16_Obj.C ref16_Obj.G objAt
  dsimp only
  simp (disch := omega) only [w64, w8]
  rw [show (4 * (i : Int)) = ((4 * i : Nat) : Int) by omega, show ((4 * i : Nat) : Int) + 1 = ((4 * i + 1 : Nat) : Int) by omega, show ((4 * i : Nat) : Int) + 2 = ((4 * i + 2 : Nat) : Int) by omega, show ((4 * i : Nat) : Int) + 3 = ((4 * i + 3 : Nat) : Int) by omega]
  simp only [At_spec, Option.bind_some]
/-- those of the first k that stand on a line -/
def onL (m : List Int) (line : Int) (tall : Bool) (k : Nat) : List O5 := ((List.range k).map (objAt m)).filter fun o => onB o line tall
theorem onL_succ (m : List Int) (line : Int) (tall : Bool) (k : Nat) : onL m line tall (k + 1) = onL m line tall k ++ if onB (objAt m k) line tall = true then [objAt m k] else [] := by
  simp only [onL, List.range_succ, List.map_append, List.filter_append, List.map_cons, List.map_nil, List.filter_cons, List.filter_nil]
theorem onL_le (m : List Int) (line : Int) (tall : Bool) (k : Nat) : (onL m line tall k).length ≤ k := by
  have := List.length_filter_le (fun o => onB o line tall) ((List.range k).map (objAt m))
  simpa [onL] using this
def bytes (m : List Int) : Prop := ∀ n ∈ m, 0 ≤ n ∧ n ≤ 255
theorem bytes_getD {m : List Int} (h : bytes m) (i : Nat) : 0 ≤ m.getD i 0 ∧ m.getD i 0 ≤ 255 := by
  rw [List.getD_eq_getElem?_getD]
  cases e : m[i]? with
  | none => simp
  | some n => exact h n (List.mem_of_getElem? e)
theorem getD_dflt {m : List Int} {i : Nat} (h : ¬ i < m.length) : m.getD i 0 = 0 := by exact getD_out (by omega)
theorem objects_Scan_step {m : List Int} (hm : bytes m) {line : Int} {tall : Bool} {n i : Nat} (hi : i < 40) (hn : n ≤ i) (room : List O5) :
    objects_Scan.L0.step objects_on.F line tall (n : Int) (i : Int) m room = some (Sum.inl (if onB (objAt m i) line tall = true then ((line, tall, (), (), ((n + 1 : Nat) : Int), ((i + 1 : Nat) : Int), ()), ((m, ()), (room.set n (objAt m i), ()), ()), ()) else ((line, tall, (), (), (n : Int), ((i + 1 : Nat) : Int), ()), ((m, ()), (room, ()), ()), ()))) := by
  unfold objects_Scan.L0.step
  rw [w64 (n := 4 * (i : Int)) (by omega), w64 (n := 4 * (i : Int) + 1) (by omega), w64 (n := 4 * (i : Int) + 2) (by omega), w64 (n := 4 * (i : Int) + 3) (by omega), w64 (n := (i : Int) + 1) (by omega), w64 (n := (n : Int) + 1) (by omega), w8 (n := (i : Int)) (by omega)]
  rw [show (4 * (i : Int)) = ((4 * i : Nat) : Int) by omega, show ((4 * i : Nat) : Int) + 1 = ((4 * i + 1 : Nat) : Int) by omega, show ((4 * i : Nat) : Int) + 2 = ((4 * i + 2 : Nat) : Int) by omega, show ((4 * i : Nat) : Int) + 3 = ((4 * i + 3 : Nat) : Int) by omega,
    show (i : Int) + 1 = ((i + 1 : Nat) : Int) by omega, show (n : Int) + 1 = ((n + 1 : Nat) : Int) by omega]
  have hY := bytes_getD hm (4 * i)
  obtain ⟨r, hr⟩ := on_spec (o := objAt m i) (line := line) (tall := tall) hY.1 hY.2
  unfold objAt at hr
  have hi' : (i : Int) < 40 := by omega
  have hn' : (n : Int) < 40 := by omega
  have pos : ∀ k : Nat, (0 : Int) ≤ (k : Int) := fun k => Int.natCast_nonneg k
  simp only [Int.toNat_natCast, Int.ofNat_lt]
  by_cases h3 : 4 * i + 3 < m.length
  · have h2 : 4 * i + 2 < m.length := by omega
    have h1 : 4 * i + 1 < m.length := by omega
    have h0 : 4 * i < m.length := by omega
    simp only [hi', hn', h0, h1, h2, h3, pos, decide_true, if_true, true_and, hr, Option.bind_some, objAt, and_true]
    split <;> (rename_i q; simp only [q, if_true, if_false, Bool.false_eq_true])
  · have e3 := getD_dflt h3
    rw [e3] at hr
    by_cases h2 : 4 * i + 2 < m.length
    · have h1 : 4 * i + 1 < m.length := by omega
      have h0 : 4 * i < m.length := by omega
      simp only [hi', hn', h0, h1, h2, h3, pos, decide_true, decide_false, Bool.false_eq_true, if_false, if_true, true_and, hr, Option.bind_some, objAt, and_true, e3]
      split <;> (rename_i q; simp only [q, if_true, if_false, Bool.false_eq_true])
    · have e2 := getD_dflt h2
      rw [e2] at hr
      by_cases h1 : 4 * i + 1 < m.length
      · have h0 : 4 * i < m.length := by omega
        simp only [hi', hn', h0, h1, h2, h3, pos, decide_true, decide_false, Bool.false_eq_true, if_false, if_true, true_and, hr, Option.bind_some, objAt, and_true, e3, e2]
        split <;> (rename_i q; simp only [q, if_true, if_false, Bool.false_eq_true])
      · have e1 := getD_dflt h1
        rw [e1] at hr
        by_cases h0 : 4 * i < m.length
        · simp only [hi', hn', h0, h1, h2, h3, pos, decide_true, decide_false, Bool.false_eq_true, if_false, if_true, true_and, hr, Option.bind_some, objAt, and_true, e3, e2, e1]
          split <;> (rename_i q; simp only [q, if_true, if_false, Bool.false_eq_true])
        · have e0 := getD_dflt h0
          rw [e0] at hr
          simp only [hi', hn', h0, h1, h2, h3, pos, decide_true, decide_false, Bool.false_eq_true, if_false, if_true, true_and, hr, Option.bind_some, objAt, and_true, e3, e2, e1, e0]
          split <;> (rename_i q; simp only [q, if_true, if_false, Bool.false_eq_true])
theorem objects_Scan_loop {m : List Int} (hm : bytes m) {line : Int} {tall : Bool} : ∃ room : List O5, room.length = 40 ∧ room.take (onL m line tall 40).length = onL m line tall 40 ∧
    ∃ b, objects_Scan.L0.F ((line, tall, (), (), (0 : Int), (0 : Int), ()), ((m, ()), (List.replicate 40 (0, 0, 0, 0, 0), ()), ()), ()) = some b ∧ b = (((), (((onL m line tall 40).length : Nat) : Int), ()), ((room, ()), ()), ()) := by
  have := iterU_inv (step := fun x => objects_Scan.L0.step objects_on.F x.1.1 x.1.2.1 x.1.2.2.2.2.1 x.1.2.2.2.2.2.1 x.2.1.1.1 x.2.1.2.1.1)
    (fun a => ∃ (i : Nat) (room : List O5), i ≤ 40 ∧ room.length = 40 ∧ room.take (onL m line tall i).length = onL m line tall i ∧ a = ((line, tall, (), (), (((onL m line tall i).length : Nat) : Int), (i : Int), ()), ((m, ()), (room, ()), ()), ()))
    (fun b => ∃ room : List O5, room.length = 40 ∧ room.take (onL m line tall 40).length = onL m line tall 40 ∧ b = (((), (((onL m line tall 40).length : Nat) : Int), ()), ((room, ()), ()), ()))
    (fun a => (40 - a.1.2.2.2.2.2.1).toNat) ?_ ((line, tall, (), (), (0 : Int), (0 : Int), ()), ((m, ()), (List.replicate 40 (0, 0, 0, 0, 0), ()), ()), ()) ⟨0, List.replicate 40 (0, 0, 0, 0, 0), by omega, List.length_replicate .., by simp [onL], by simp [onL]⟩
  · obtain ⟨b, e, room, h1, h2, h3⟩ := this
    exact ⟨room, h1, h2, b, e, h3⟩
  · rintro a ⟨i, room, hi, hl, ht, rfl⟩
    have hle := onL_le m line tall i
    by_cases h : i < 40
    · left
      refine ⟨_, objects_Scan_step hm h hle room, ⟨i + 1, if onB (objAt m i) line tall = true then room.set (onL m line tall i).length (objAt m i) else room, by omega, ?_, ?_, ?_⟩, ?_⟩
      · split <;> simp [hl]
      · rw [onL_succ]
        split
        · rename_i ho
          have h5 : (onL m line tall i).length < 40 := by omega
          rw [List.length_append, List.length_singleton, List.take_add_one, List.take_set_of_le (Nat.le_refl _), ht]
          simp [hl, h5]
        · simpa using ht
      · rw [onL_succ]
        split
        · simp
        · simp
      · split <;> (simp only; omega)
    · right
      obtain rfl : i = 40 := by omega
      refine ⟨_, ?_, room, hl, ht, rfl⟩
      unfold objects_Scan.L0.step
      simp
theorem objects_Scan_spec {m : List Int} (hm : bytes m) {line : Int} {tall : Bool} : objects_Scan.F (m, line, tall, ()) = some ((onL m line tall 40).take 10, ()) := by
  obtain ⟨room, h1, h2, b, e, rfl⟩ := objects_Scan_loop hm (line := line) (tall := tall)
  have hle := onL_le m line tall 40
  unfold objects_Scan.F objects_Scan.C objects_Scan.G
  simp only [e, Option.bind_some]
  generalize onL m line tall 40 = l at *
  by_cases h : (10 : Int) < (l.length : Int)
  · simp only [h, if_true]
    simp
    rw [← h2, List.take_take]
    congr 1; omega
  · simp only [h, if_false]
    have h' : l.length ≤ 10 := by omega
    have h4 : (l.length : Int) ≤ 40 := by omega
    simp [h4]
    rw [h2, List.take_of_length_le h']
theorem onL_split (m : List Int) (line : Int) (tall : Bool) (i : Nat) : ∀ k, ∃ t, onL m line tall (i + k) = onL m line tall i ++ t
  | 0 => ⟨[], by simp⟩
  | k + 1 => by
    obtain ⟨t, ht⟩ := onL_split m line tall i k
    rw [← Nat.add_assoc, onL_succ, ht, List.append_assoc]
    exact ⟨_, rfl⟩
theorem ref16_Scan_spec {m : List Int} (hm : bytes m) {line : Int} {tall : Bool} : ref16_Scan.F (m, line, tall, ()) = some ((onL m line tall 40).take 10, ()) := by
  have := iterU_inv (step := fun x => ref16_Scan.L0.step ref16_On.F ref16_Obj.F x.1.1 x.1.2.1 x.1.2.2.1 x.1.2.2.2.1 x.2.2.1)
    (fun a => ∃ i : Nat, i ≤ 40 ∧ (onL m line tall i).length ≤ 10 ∧ a = ((m, line, tall, (i : Int), ()), (), onL m line tall i, ()))
    (fun b => b = ((), (), (onL m line tall 40).take 10, ())) (fun a => (40 - a.1.2.2.2.1).toNat) ?_ ((m, line, tall, (0 : Int), ()), (), [], ()) ⟨0, by omega, by simp [onL], by simp [onL]⟩
  · obtain ⟨b, e, rfl⟩ := this
    unfold ref16_Scan.F ref16_Scan.C ref16_Scan.G
    have e' : ref16_Scan.L0.F ((m, line, tall, (0 : Int), ()), (), [], ()) = some ((), (), (onL m line tall 40).take 10, ()) := e
    simp only [e', Option.bind_some]
    simp
    rw [List.take_take]
    rcases Nat.le_total 10 (onL m line tall 40).length with q | q
    · rw [Nat.min_eq_left q]; simp
    · rw [Nat.min_eq_right q, List.take_of_length_le (by omega), List.take_of_length_le (by omega)]
  · rintro a ⟨i, hi, h10, rfl⟩
    have hle := onL_le m line tall i
    have hY := bytes_getD hm (4 * i)
    unfold ref16_Scan.L0.step
    by_cases h : i < 40
    · have h' : (i : Int) < 40 := by omega
      by_cases hl : (onL m line tall i).length < 10
      · left
        have hl' : ((onL m line tall i).length : Int) < 10 := by omega
        have hOn := On_spec (o := objAt m i) (line := line) (tall := tall) hY.1 hY.2
        have hb : (onL m line tall i).length + 1 ≤ 268435456 := by omega
        simp (disch := omega) only [w64]
        have e1 : ((objAt m i).1, (objAt m i).2.1, (objAt m i).2.2.1, (objAt m i).2.2.2.1, (objAt m i).2.2.2.2) = objAt m i := rfl
        simp only [h', hl', decide_true, beq_self_eq_true, if_true, Obj_spec h, Option.bind_some, e1, hOn, hb]
        by_cases ho : onB (objAt m i) line tall = true
        · simp only [ho, if_true]
          refine ⟨_, rfl, ⟨i + 1, by omega, ?_, ?_⟩, by simp only; omega⟩
          · rw [onL_succ, if_pos ho]; simp; omega
          · rw [onL_succ, if_pos ho]; simp
            rw [List.take_of_length_le (by simp)]
        · simp only [ho, if_false]
          refine ⟨_, rfl, ⟨i + 1, by omega, ?_, ?_⟩, by simp only; omega⟩
          · rw [onL_succ, if_neg ho]; simp; omega
          · rw [onL_succ, if_neg ho]; simp
      · right
        have hl' : ¬ ((onL m line tall i).length : Int) < 10 := by omega
        simp only [h', hl', decide_true, decide_false, Bool.false_eq_true, beq_self_eq_true, if_true, if_false]
        refine ⟨_, rfl, ?_⟩
        obtain ⟨t, ht⟩ := onL_split m line tall i (40 - i)
        rw [show i + (40 - i) = 40 by omega] at ht
        rw [ht, List.take_append_of_le_length (by omega), List.take_of_length_le (by omega), List.take_of_length_le (by omega)]
    · right
      obtain rfl : i = 40 := by omega
      refine ⟨_, by simp; rfl, ?_⟩
      rw [List.take_of_length_le h10]
end Go.Proofs.Ytibgfodjecnnkaa.E
