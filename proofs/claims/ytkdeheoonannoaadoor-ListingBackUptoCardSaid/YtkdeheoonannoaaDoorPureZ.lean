/- Functions of the program as plain Lean, and what they come to. Conditions: none. -/
import Derived.Test.YtkdeheoonannoaaDoorEwD
import Derived.Test.YtkdeheoonannoaaDoorPureBl
open Go Go.Ew
namespace Go.Proofs.YtkdeheoonannoaaDoor.E
open Go.IntKind (wrap)
set_option linter.unusedVariables false
set_option linter.unusedSimpArgs false
set_option maxRecDepth 100000
/-! texts apart; and back -/
theorem apart_true {a b : List Int} (ha : okBy a) (hb : okBy b) : law06_ListingApart.F (a, b, ()) = some (true, ()) := by
  obtain ⟨a1, a2⟩ := one_le ha
  obtain ⟨b1, b2⟩ := one_le hb
  unfold law06_ListingApart.F law06_ListingApart.C law06_ListingApart.G
  refine (bind_eq shown_true).trans ((bind_eq (one_spec ha)).trans ((bind_eq (one_spec hb)).trans ?_))
  dsimp only
  refine (if_pos (by rw [decide_eq_false (by omega)]; rfl)).trans ?_
  refine (if_pos (by rw [decide_eq_false (by omega)]; rfl)).trans ?_
  refine (if_pos (by rw [decide_eq_false (by omega)]; rfl)).trans ?_
  refine (if_neg (by rw [decide_eq_true_eq]; omega)).trans ?_
  refine (if_pos rfl).trans ?_
  refine (if_pos ⟨by omega, by omega, by omega⟩).trans ?_
  refine (if_pos ⟨by omega, by omega, by omega⟩).trans ?_
  rw [Int.toNat_natCast, Int.toNat_natCast, Nat.sub_zero, Nat.sub_zero, List.drop_zero, List.drop_zero]
  refine (if_pos (by rw [sEq_one ha hb, beq_self_eq_true]; rfl)).trans ?_
  have : decide (((oneS a).2 : Int) > 0) = decide ((a.length : Int) > 0) := decide_eq_decide.2 (by omega)
  rw [this, beq_self_eq_true]
theorem apart_walk : LawOK Tryd.prog 6 law06_ListingApart.as := .of law06_ListingApart.ok fun x h => by
  obtain ⟨a, b, u⟩ := x
  exact apart_true (fun v hv => wf_u8.1 (h.1.2 v hv)) (fun v hv => wf_u8.1 (h.2.1.2 v hv))
abbrev BkS := ((List Int) × Bool × (List ByteArray) × (List Int) × Int × Int × Int × Unit) × Unit × Unit
noncomputable def bkstep (x : BkS) := law06_ListingBack.L0.step listing_Assemble.F x.1.1 x.1.2.1 x.1.2.2.1 x.1.2.2.2.1 x.1.2.2.2.2.1 x.1.2.2.2.2.2.1 x.1.2.2.2.2.2.2.1
theorem back_loop {b : List Int} (h : okBy b) (hb : b.length ≤ 1048576) {l : List ByteArray} (hl : l.length ≤ 1048576) : ∀ (m i n : Nat), l.drop i = linesN m (b.drop n) → b.length - n ≤ m → n ≤ b.length →
    iterU bkstep ((b, true, l, b, 0, (n : Int), (i : Int), ()), (), ()) = some (.inr ((b, true, b, 0, (b.length : Int), ()), (), ()))
  | m, i, n, e, hm, hn => by
    rw [iterU_eq]
    by_cases q : n = b.length
    · subst q
      have hi := lines_end e
      have e2 : bkstep ((b, true, l, b, 0, (b.length : Int), (i : Int), ()), (), ()) = some (.inr (.inr ((b, true, b, 0, (b.length : Int), ()), (), ()))) := by
        unfold bkstep law06_ListingBack.L0.step
        dsimp only
        exact if_neg (by rw [decide_eq_true_eq]; omega)
      rw [e2]
    · have hd := okBy_drop h n
      have d0 : (b.drop n).length ≠ 0 := by rw [List.length_drop]; omega
      obtain ⟨k1, k2⟩ := one_len hd d0
      have k3 := one_le3 hd d0
      rw [List.length_drop] at k2
      obtain ⟨hi, g, nx⟩ := lines_at h e hm (by omega)
      obtain ⟨m, rfl⟩ : ∃ k, m = k + 1 := ⟨m - 1, by omega⟩
      have len : ((b.drop n).take (oneS (b.drop n)).2).length = (oneS (b.drop n)).2 := by rw [List.length_take, List.length_drop]; omega
      have e2 : bkstep ((b, true, l, b, 0, (n : Int), (i : Int), ()), (), ()) = some (.inl ((b, true, l, b, 0, ((n + (oneS (b.drop n)).2 : Nat) : Int), ((i + 1 : Nat) : Int), ()), (), ())) := by
        unfold bkstep law06_ListingBack.L0.step
        dsimp only
        refine (if_pos (by rw [decide_eq_true_eq]; omega)).trans ?_
        refine (if_pos ⟨by omega, by omega⟩).trans ?_
        rw [Int.toNat_natCast, g]
        refine (bind_eq ((asm_F (by have := one_size hd; omega)).trans (by rw [asm_one hd d0]))).trans ?_
        dsimp only
        rw [len, w64 (n := (n : Int) + ((oneS (b.drop n)).2 : Int)) (by omega) (by omega), w64 (by omega) (by omega)]
        refine (if_pos (by decide)).trans ?_
        refine (if_pos (by rw [decide_eq_false (by omega)]; rfl)).trans ?_
        refine (if_pos (by rw [decide_eq_false (by omega)]; rfl)).trans ?_
        refine (if_pos (by rw [decide_eq_false (by omega)]; rfl)).trans ?_
        refine (if_pos ⟨by omega, by omega, by omega⟩).trans ?_
        rw [Int.toNat_natCast, show Int.toNat ((n : Int) + ((oneS (b.drop n)).2 : Int)) - n = (oneS (b.drop n)).2 by omega]
        refine (if_neg (by rw [sEq_iff.2 rfl]; decide)).trans ?_
        rfl
      rw [e2]
      exact back_loop h hb hl m (i + 1) (n + (oneS (b.drop n)).2) nx (by omega) (by omega)
theorem back_true {b : List Int} (h : okBy b) (hb : b.length ≤ 1048576) : law06_ListingBack.F (b, ()) = some (true, ()) := by
  have hl : (linesN b.length b).length ≤ 1048576 := Nat.le_trans (linesN_len b.length b) hb
  have hs : ∀ s ∈ linesN b.length b, s.size ≤ 140737488355328 := fun s hs => by have := lines_size b.length h s hs; omega
  have ha := lall_spec hs hl
  rw [allR_lines h] at ha
  unfold law06_ListingBack.F law06_ListingBack.C law06_ListingBack.G
  refine (bind_eq shown_true).trans ((bind_eq (lines_spec h (by omega))).trans ((bind_eq ha).trans ?_))
  have hk := back_loop h hb hl b.length 0 0 rfl (by omega) (by omega)
  refine (bind_eq (show law06_ListingBack.L0.F ((b, true, linesN b.length b, b, 0, 0, 0, ()), (), ()) = _ from hk)).trans ?_
  show (if (true == true) = true then if (sEq (bytesOf b) (bytesOf b) == true) = true then if (((0 : Int) == 0) == true) = true then some ((b.length : Int) == (b.length : Int), ()) else some (false, ()) else some (false, ()) else some (false, ())) = some (true, ())
  have e1 : ((b.length : Int) == (b.length : Int)) = true := beq_self_eq_true _
  rw [sEq_iff.2 rfl, e1]
  rfl
theorem back_walk : LawIf Tryd.prog 9 law06_ListingBack.as (fun x => x.1.length ≤ 1048576) := .of law06_ListingBack.ok fun x h hB => by
  obtain ⟨b, u⟩ := x
  exact back_true (fun v hv => wf_u8.1 (h.1.2 v hv)) hB
end Go.Proofs.YtkdeheoonannoaaDoor.E
