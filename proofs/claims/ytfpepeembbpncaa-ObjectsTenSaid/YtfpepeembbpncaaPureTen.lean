/- Functions of the program as plain Lean, and what they come to. Conditions: none. -/
import Derived.Test.YtfpepeembbpncaaEwD
import Derived.Test.YtfpepeembbpncaaWide
import Derived.Test.YtfpepeembbpncaaPureScan
namespace Go.Proofs.Ytfpepeembbpncaa.E
open Go Go.Ew
set_option linter.unusedVariables false
set_option linter.unusedSimpArgs false
theorem Row_is {o : O5} {line : Int} {tall : Bool} (h0 : 0 ≤ o.1) (h1 : o.1 ≤ 255) : ∃ t r, objects_Row.F (o, line, tall, ()) = some (t, r, onB o line tall, ()) := by
  obtain ⟨r, hr⟩ := on_spec (o := o) (line := line) (tall := tall) h0 h1
  have e1 : (o.1, o.2.1, o.2.2.1, o.2.2.2.1, o.2.2.2.2) = o := rfl
  unfold objects_Row.F objects_Row.C objects_Row.G
  simp only [e1, hr, Option.bind_some]
  cases onB o line tall
  · exact ⟨0, 0, rfl⟩
  · simp only [Bool.not_true, Bool.false_eq_true, if_false]
    split <;> cases tall <;> exact ⟨_, _, rfl⟩
theorem onL_mem {m : List Int} {line : Int} {tall : Bool} {k : Nat} {o : O5} (h : o ∈ onL m line tall k) : onB o line tall = true ∧ ∃ i, i < k ∧ o = objAt m i := by
  simp only [onL, List.mem_filter, List.mem_map, List.mem_range] at h
  obtain ⟨⟨i, hi, rfl⟩, h2⟩ := h
  exact ⟨h2, i, hi, rfl⟩
theorem onL_pairwise (m : List Int) (line : Int) (tall : Bool) (k : Nat) : (onL m line tall k).Pairwise fun a b => a.2.2.2.2 < b.2.2.2.2 := by
  unfold onL
  apply List.Pairwise.filter
  rw [List.pairwise_map]
  have := List.pairwise_lt_range (n := k)
  exact this.imp fun {a b} h => by simp only [objAt]; omega
theorem ten_loop0 {m : List Int} (hm : bytes m) {line : Int} {tall : Bool} (up : Bool) : law16_ObjectsTen.L0.F ((m, line, tall, up, (onL m line tall 40).take 10, (0 : Int), ()), (), ()) = some (Sum.inr ((m, line, tall, up, (onL m line tall 40).take 10, ()), (), ())) := by
  generalize hL : (onL m line tall 40).take 10 = l
  have hmem : ∀ o ∈ l, onB o line tall = true ∧ ∃ i, i < 40 ∧ o = objAt m i := fun o ho => onL_mem (List.mem_of_mem_take (hL ▸ ho))
  have hlen : l.length ≤ 10 := by rw [← hL, List.length_take]; omega
  have hpw : l.Pairwise fun a b => a.2.2.2.2 < b.2.2.2.2 := by rw [← hL]; exact (onL_pairwise m line tall 40).sublist (List.take_sublist _ _)
  have := iterU_inv (step := fun x => law16_ObjectsTen.L0.step objects_Row.F x.1.1 x.1.2.1 x.1.2.2.1 x.1.2.2.2.1 x.1.2.2.2.2.1 x.1.2.2.2.2.2.1)
    (fun a => ∃ i : Nat, i ≤ l.length ∧ a = ((m, line, tall, up, l, (i : Int), ()), (), ())) (fun b => b = Sum.inr ((m, line, tall, up, l, ()), (), ())) (fun a => (l.length - a.1.2.2.2.2.2.1).toNat) ?_ ((m, line, tall, up, l, (0 : Int), ()), (), ()) ⟨0, by omega, rfl⟩
  · obtain ⟨b, e, rfl⟩ := this
    exact e
  · rintro a ⟨i, hi, rfl⟩
    unfold law16_ObjectsTen.L0.step
    by_cases h : i < l.length
    · left
      have h' : (i : Int) < (l.length : Int) := by omega
      obtain ⟨hon, k, hk, ek⟩ := hmem l[i] (List.getElem_mem h)
      have e1 : ∀ o : O5, (o.1, o.2.1, o.2.2.1, o.2.2.2.1, o.2.2.2.2) = o := fun o => rfl
      have hY := bytes_getD hm (4 * k)
      obtain ⟨t, r, hR⟩ := Row_is (o := l[i]) (line := line) (tall := tall) (by rw [ek]; exact hY.1) (by rw [ek]; exact hY.2)
      have hat : l[i].2.2.2.2 ≤ 39 := by rw [ek]; simp only [objAt]; omega
      have hat' : ¬ l[i].2.2.2.2 > 39 := by omega
      rw [w64 (n := (i : Int) + 1) (by omega)]
      simp only [h', decide_true, if_true, Int.natCast_nonneg, true_and, Int.toNat_natCast, getD_in h, e1, hR, Option.bind_some, hon, hat', decide_false, Bool.false_eq_true, if_false, Bool.not_true, beq_self_eq_true]
      by_cases hz : i = 0
      · subst hz
        simp
        exact ⟨⟨1, by omega, rfl⟩, by omega⟩
      · rw [w64 (n := (i : Int) - 1) (by omega)]
        have hz' : (i : Int) > 0 := by omega
        have g1 : (0 : Int) ≤ (i : Int) - 1 := by omega
        have g2 : (i : Int) - 1 < (l.length : Int) := by omega
        have g3 : ((i : Int) - 1).toNat = i - 1 := by omega
        have hlt := List.pairwise_iff_getElem.1 hpw (i - 1) i (by omega) h (by omega)
        have hlt' : ¬ l[i].2.2.2.2 ≤ l[i - 1].2.2.2.2 := by omega
        have hi1 : i - 1 < l.length := by omega
        simp only [hz', g1, g2, g3, decide_true, beq_self_eq_true, if_true, true_and, getD_in hi1, hlt', decide_false, true_and]
        exact ⟨_, rfl, ⟨i + 1, by omega, by simp⟩, by simp only; omega⟩
    · right
      have h' : ¬ (i : Int) < (l.length : Int) := by omega
      simp only [h', decide_false, Bool.false_eq_true, if_false]
      exact ⟨_, rfl, rfl⟩
theorem ten_loop1 {m : List Int} (hm : bytes m) {line : Int} {tall : Bool} : ∃ b, law16_ObjectsTen.L1.F ((m, line, tall, true, (onL m line tall 40).take 10, (0 : Int), (0 : Int), ()), (), ()) = some b ∧ (b = Sum.inl ((true, ()), (), ()) ∨ b = Sum.inr ((true, (onL m line tall 40).take 10, (((onL m line tall 40).take 10).length : Int), ()), (), ())) := by
  generalize hL : (onL m line tall 40).take 10 = l
  have hlen : l.length = min 10 (onL m line tall 40).length := by rw [← hL, List.length_take]
  refine iterU_inv (step := fun x => law16_ObjectsTen.L1.step objects_Row.F x.1.1 x.1.2.1 x.1.2.2.1 x.1.2.2.2.1 x.1.2.2.2.2.1 x.1.2.2.2.2.2.1 x.1.2.2.2.2.2.2.1)
    (fun a => ∃ i : Nat, i ≤ 40 ∧ a = ((m, line, tall, true, l, ((min 10 (onL m line tall i).length : Nat) : Int), (i : Int), ()), (), ())) (fun b => b = Sum.inl ((true, ()), (), ()) ∨ b = Sum.inr ((true, l, (l.length : Int), ()), (), ())) (fun a => (40 - a.1.2.2.2.2.2.2.1).toNat) ?_ ((m, line, tall, true, l, (0 : Int), (0 : Int), ()), (), ()) ⟨0, by omega, by simp [onL]⟩
  rintro a ⟨i, hi, rfl⟩
  have hle := onL_le m line tall i
  unfold law16_ObjectsTen.L1.step
  by_cases h : i < 40
  · have h' : (i : Int) < 40 := by omega
    have hY := bytes_getD hm (4 * i)
    obtain ⟨t, r, hR⟩ := Row_is (o := objAt m i) (line := line) (tall := tall) hY.1 hY.2
    obtain ⟨tl, htl⟩ := onL_split m line tall (i + 1) (40 - (i + 1))
    rw [show i + 1 + (40 - (i + 1)) = 40 by omega] at htl
    have hsucc := onL_succ m line tall i
    generalize hA : onL m line tall i = A at *
    generalize hB : onL m line tall (i + 1) = B at *
    -- what comes behind an object that stands on the line
    have hnext : onB (objAt m i) line tall = true → A.length < l.length → l.getD A.length (0, 0, 0, 0, 0) = objAt m i ∧ min 10 A.length = A.length ∧ min 10 B.length = A.length + 1 := by
      intro ho hlt
      rw [if_pos ho] at hsucc
      have h10 : A.length < 10 := by omega
      refine ⟨?_, by omega, by rw [hsucc]; simp; omega⟩
      rw [List.getD_eq_getElem?_getD, ← hL, List.getElem?_take_of_lt h10, htl, hsucc, List.append_assoc, List.getElem?_append_right (Nat.le_refl _), Nat.sub_self]
      rfl
    have hfull : onB (objAt m i) line tall = true → ¬ A.length < l.length → ¬ l.length < 10 ∧ min 10 B.length = min 10 A.length := by
      intro ho hlt
      rw [if_pos ho] at hsucc
      have h1 : A.length + 1 ≤ (onL m line tall 40).length := by rw [htl, hsucc]; simp
      have h2 : B.length = A.length + 1 := by rw [hsucc]; simp
      omega
    have hoff : ¬ onB (objAt m i) line tall = true → min 10 B.length = min 10 A.length := by
      intro ho
      rw [if_neg ho, List.append_nil] at hsucc
      rw [hsucc]
    have hrest : ∀ (x : Option _), x = some (Sum.inl ((m, line, tall, true, l, ((min 10 B.length : Nat) : Int), ((i + 1 : Nat) : Int), ()), (), ())) →
        (∃ a', x = some (.inl a') ∧ (∃ i : Nat, i ≤ 40 ∧ a' = ((m, line, tall, true, l, ((min 10 (onL m line tall i).length : Nat) : Int), (i : Int), ()), (), ())) ∧ (40 - a'.1.2.2.2.2.2.2.1).toNat < (40 - (i : Int)).toNat) ∨ ∃ b, x = some (Sum.inr b) ∧ (b = Sum.inl ((true, ()), (), ()) ∨ b = Sum.inr ((true, l, (l.length : Int), ()), (), ())) := by
      intro x hx
      exact .inl ⟨_, hx, ⟨i + 1, by omega, by rw [hB]⟩, by simp only; omega⟩
    rw [w64 (n := 4 * (i : Int)) (by omega), w64 (n := 4 * (i : Int) + 1) (by omega), w64 (n := 4 * (i : Int) + 2) (by omega), w64 (n := 4 * (i : Int) + 3) (by omega), w64 (n := (i : Int) + 1) (by omega), w64 (n := ((min 10 A.length : Nat) : Int) + 1) (by omega), w8 (n := (i : Int)) (by omega)]
    rw [show (4 * (i : Int)) = ((4 * i : Nat) : Int) by omega, show ((4 * i : Nat) : Int) + 1 = ((4 * i + 1 : Nat) : Int) by omega, show ((4 * i : Nat) : Int) + 2 = ((4 * i + 2 : Nat) : Int) by omega, show ((4 * i : Nat) : Int) + 3 = ((4 * i + 3 : Nat) : Int) by omega, show (i : Int) + 1 = ((i + 1 : Nat) : Int) by omega, show ((min 10 A.length : Nat) : Int) + 1 = ((min 10 A.length + 1 : Nat) : Int) by omega]
    simp only [Int.toNat_natCast, Int.ofNat_lt, Int.natCast_nonneg, true_and, h', decide_true, if_true]
    by_cases h3 : 4 * i + 3 < m.length
    · have h2 : 4 * i + 2 < m.length := by omega
      have h1 : 4 * i + 1 < m.length := by omega
      have h0 : 4 * i < m.length := by omega
      unfold objAt at hR hnext hfull hoff
      simp only [h0, h1, h2, h3, decide_true, if_true, hR, Option.bind_some]
      by_cases ho : onB (m.getD (4 * i) 0, m.getD (4 * i + 1) 0, m.getD (4 * i + 2) 0, m.getD (4 * i + 3) 0, (i : Int)) line tall = true
      · by_cases hq : A.length < l.length
        · obtain ⟨q1, q2, q3⟩ := hnext ho hq
          rw [q2]
          simp only [ho, hq, q1, decide_true, beq_self_eq_true, if_true, Bool.and_self, Bool.not_true, Bool.false_eq_true, if_false]
          exact hrest _ (by rw [q3])
        · obtain ⟨q1, q2⟩ := hfull ho hq
          have hq' : ¬ min 10 A.length < l.length := by omega
          have q1' : ¬ (l.length : Int) < 10 := by omega
          simp only [ho, hq', q1', decide_false, beq_self_eq_true, if_true, Bool.false_eq_true, if_false]
          exact hrest _ (by rw [q2])
      · have ho' : onB (m.getD (4 * i) 0, m.getD (4 * i + 1) 0, m.getD (4 * i + 2) 0, m.getD (4 * i + 3) 0, (i : Int)) line tall = false := by simpa using ho
        simp only [ho', Bool.false_eq_true, if_false, show (false == true) = false from rfl]
        exact hrest _ (by rw [hoff ho])
    · by_cases h0 : 4 * i < m.length
      · simp only [h3, h0, decide_true, decide_false, if_true, Bool.false_eq_true, if_false]
        exact .inr ⟨_, rfl, .inl rfl⟩
      · have e3 := getD_dflt h3
        have e2 := getD_dflt (m := m) (i := 4 * i + 2) (by omega)
        have e1 := getD_dflt (m := m) (i := 4 * i + 1) (by omega)
        have e0 := getD_dflt h0
        unfold objAt at hR hnext hfull hoff
        rw [e0, e1, e2, e3] at hR hnext hfull hoff
        simp only [h3, h0, decide_false, Bool.false_eq_true, if_false, hR, Option.bind_some]
        by_cases ho : onB ((0 : Int), (0 : Int), (0 : Int), (0 : Int), (i : Int)) line tall = true
        · by_cases hq : A.length < l.length
          · obtain ⟨q1, q2, q3⟩ := hnext ho hq
            rw [q2]
            simp only [ho, hq, q1, decide_true, beq_self_eq_true, if_true, Bool.and_self, Bool.not_true, Bool.false_eq_true, if_false]
            exact hrest _ (by rw [q3])
          · obtain ⟨q1, q2⟩ := hfull ho hq
            have hq' : ¬ min 10 A.length < l.length := by omega
            have q1' : ¬ (l.length : Int) < 10 := by omega
            simp only [ho, hq', q1', decide_false, beq_self_eq_true, if_true, Bool.false_eq_true, if_false]
            exact hrest _ (by rw [q2])
        · have ho' : onB ((0 : Int), (0 : Int), (0 : Int), (0 : Int), (i : Int)) line tall = false := by simpa using ho
          simp only [ho', Bool.false_eq_true, if_false, show (false == true) = false from rfl]
          exact hrest _ (by rw [hoff ho])
  · right
    obtain rfl : i = 40 := by omega
    refine ⟨_, by simp; rfl, .inr ?_⟩
    rw [hlen]
theorem objectsTen_true {m : List Int} (hm : bytes m) {line : Int} {tall : Bool} : law16_ObjectsTen.G objects_Scan.F (fun _ => some (true, ())) law16_ObjectsTen.L0.F law16_ObjectsTen.L1.F m line tall = some (true, ()) := by
  unfold law16_ObjectsTen.G
  have h10 : ¬ (((onL m line tall 40).take 10).length : Int) > 10 := by rw [List.length_take]; omega
  simp only [objects_Scan_spec hm, Option.bind_some, h10, decide_false, Bool.false_eq_true, if_false, ten_loop0 hm, Sum.elim_inr]
  obtain ⟨b, e, h | h⟩ := ten_loop1 hm (line := line) (tall := tall)
  · subst h; simp only [e, Option.bind_some, Sum.elim_inl]
  · subst h; simp [e, Option.bind_some, Sum.elim_inr]
theorem objectsTen_walk : LawOK Go.Proofs.Try.prog 6 law16_ObjectsTen.as :=
  .of (law16_ObjectsTen.gen _ objects_Scan.ok _ shown_ok _ law16_ObjectsTen.L0.ok _ law16_ObjectsTen.L1.ok) fun x h => objectsTen_true (bytes_wf h.1.2)
end Go.Proofs.Ytfpepeembbpncaa.E
