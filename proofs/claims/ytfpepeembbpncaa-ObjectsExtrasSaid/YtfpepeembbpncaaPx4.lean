/- The machine side of functions of the program: each as a plain Lean function, with a proof that the call comes to its answers; written by a program of this session (wip/tools/hp.py). Conditions: none. -/
import Derived.Test.YtfpepeembbpncaaPx0
import Derived.Test.YtfpepeembbpncaaPx2
import Derived.Test.YtfpepeembbpncaaPx3
namespace Go.Proofs.Ytfpepeembbpncaa.P
open Go.RowKit Go.Proofs.YtfpepeembbpncaaW.PrintWords Go.Proofs.YtfpepeembbpncaaW.PrintLast Go.Proofs.YtfpepeembbpncaaW.PrintMore
attribute [local go_sem] max2_int min2_int max_two min_two max_three min_three max_four min_four   -- for this text's walks alone
set_option linter.unusedVariables false
set_option linter.unusedSimpArgs false

/-! ### whirligigref16_Column: function 17 -/
mutual
def whirligigref16_Column.j0 : Nat → Int → Bool → Int → Int → Int → Int → Int → Option (Int × Bool)
  | 0, _, _, _, _, _, _, _ => none
  | k + 1, x1, x12, x142000, x142001, x142002, x142003, x142004 => if x12 = true then (some (0, false)) else (if (wrap64 ((wrap64 (x1 + 8)) - (wrap64 (x142001)))) < 0 then (whirligigref16_Column.j1 k (wrap64 ((wrap64 (x1 + 8)) - (wrap64 (x142001)))) true x142000 x142001 x142002 x142003 x142004) else (whirligigref16_Column.j1 k (wrap64 ((wrap64 (x1 + 8)) - (wrap64 (x142001)))) (decide ((wrap64 ((wrap64 (x1 + 8)) - (wrap64 (x142001)))) > 7)) x142000 x142001 x142002 x142003 x142004))
def whirligigref16_Column.j1 : Nat → Int → Bool → Int → Int → Int → Int → Int → Option (Int × Bool)
  | 0, _, _, _, _, _, _, _ => none
  | k + 1, x6, x24, x142000, x142001, x142002, x142003, x142004 => if x24 = true then (some (0, false)) else ((whirligigref01_Bit.f k x142003 5).bind fun t142 => (if t142 = true then (some (wrap64 (7 - x6), true)) else (some (x6, true))))
end
def whirligigref16_Column.f (k : Nat) (a0_0 : Int) (a0_1 : Int) (a0_2 : Int) (a0_3 : Int) (a0_4 : Int) (a1 : Int) : Option (Int × Bool) := if a1 < 0 then (whirligigref16_Column.j0 k a1 true a0_0 a0_1 a0_2 a0_3 a0_4) else (whirligigref16_Column.j0 k a1 (decide (a1 > 159)) a0_0 a0_1 a0_2 a0_3 a0_4)
theorem whirligigref16_Column.mono_l : ∀ k, (∀ y0 y1 y2 y3 y4 y5 y6, LeO (whirligigref16_Column.j0 k y0 y1 y2 y3 y4 y5 y6) (whirligigref16_Column.j0 (k + 1) y0 y1 y2 y3 y4 y5 y6)) ∧ (∀ y0 y1 y2 y3 y4 y5 y6, LeO (whirligigref16_Column.j1 k y0 y1 y2 y3 y4 y5 y6) (whirligigref16_Column.j1 (k + 1) y0 y1 y2 y3 y4 y5 y6))
  | 0 => ⟨fun _ _ _ _ _ _ _ r h => by simp [whirligigref16_Column.j0] at h, fun _ _ _ _ _ _ _ r h => by simp [whirligigref16_Column.j1] at h⟩
  | k + 1 => by
    obtain ⟨ih0, ih1⟩ := whirligigref16_Column.mono_l k
    refine ⟨?_, ?_⟩
    · intro y0 y1 y2 y3 y4 y5 y6
      unfold whirligigref16_Column.j0
      repeat' first
      | (with_reducible exact ih0 _ _ _ _ _ _ _)
      | (with_reducible exact ih1 _ _ _ _ _ _ _)
      | (with_reducible exact whirligigref01_Bit.mono _ _ _)
      | (with_reducible exact LeO.refl _)
      | (with_reducible exact LeO.none _)
      | (with_reducible refine LeO.ite ?_ ?_)
      | (with_reducible refine LeO.bind ?_ (fun _ => ?_))
      | exact ih0 _ _ _ _ _ _ _
      | exact ih1 _ _ _ _ _ _ _
      | exact whirligigref01_Bit.mono _ _ _
      | exact LeO.none _
      | refine LeO.ite ?_ ?_
      | refine LeO.bind ?_ (fun _ => ?_)
    · intro y0 y1 y2 y3 y4 y5 y6
      unfold whirligigref16_Column.j1
      repeat' first
      | (with_reducible exact ih0 _ _ _ _ _ _ _)
      | (with_reducible exact ih1 _ _ _ _ _ _ _)
      | (with_reducible exact whirligigref01_Bit.mono _ _ _)
      | (with_reducible exact LeO.refl _)
      | (with_reducible exact LeO.none _)
      | (with_reducible refine LeO.ite ?_ ?_)
      | (with_reducible refine LeO.bind ?_ (fun _ => ?_))
      | exact ih0 _ _ _ _ _ _ _
      | exact ih1 _ _ _ _ _ _ _
      | exact whirligigref01_Bit.mono _ _ _
      | exact LeO.none _
      | refine LeO.ite ?_ ?_
      | refine LeO.bind ?_ (fun _ => ?_)
theorem whirligigref16_Column.mono : ∀ a0 a1 a2 a3 a4 a5 k, LeO (whirligigref16_Column.f k a0 a1 a2 a3 a4 a5) (whirligigref16_Column.f (k + 1) a0 a1 a2 a3 a4 a5) := by
  intro a0 a1 a2 a3 a4 a5 k
  obtain ⟨ih0, ih1⟩ := whirligigref16_Column.mono_l k
  unfold whirligigref16_Column.f
  repeat' first
      | (with_reducible exact ih0 _ _ _ _ _ _ _)
      | (with_reducible exact ih1 _ _ _ _ _ _ _)
      | (with_reducible exact whirligigref01_Bit.mono _ _ _)
      | (with_reducible exact LeO.refl _)
      | (with_reducible exact LeO.none _)
      | (with_reducible refine LeO.ite ?_ ?_)
      | (with_reducible refine LeO.bind ?_ (fun _ => ?_))
      | exact ih0 _ _ _ _ _ _ _
      | exact ih1 _ _ _ _ _ _ _
      | exact whirligigref01_Bit.mono _ _ _
      | exact LeO.none _
      | refine LeO.ite ?_ ?_
      | refine LeO.bind ?_ (fun _ => ?_)
set_option maxHeartbeats 8000000 in
set_option maxRecDepth 100000 in
theorem whirligigref16_Column.calls (k : Nat) (a0_0 : Int) (a0_1 : Int) (a0_2 : Int) (a0_3 : Int) (a0_4 : Int) (a1 : Int) (r1 : Int) (r2 : Bool) (w : World) (h : whirligigref16_Column.f k a0_0 a0_1 a0_2 a0_3 a0_4 a1 = some (r1, r2)) :
    Calls Try.prog 17 #[.agg #[.int .u8 a0_0, .int .u8 a0_1, .int .u8 a0_2, .int .u8 a0_3, .int .u8 a0_4], .int .i64 a1] w fun e w' => e = .returned (.tuple #[.int .i64 r1, .bool r2]) ∧ Below w.heap.size w w' := by
  have hu29 := Try.underlying29
  have HB := Aside0.mk (Below.refl w.heap.size w)
  have H : (if a1 < 0 then (whirligigref16_Column.j0 k a1 true a0_0 a0_1 a0_2 a0_3 a0_4) else (whirligigref16_Column.j0 k a1 (decide (a1 > 159)) a0_0 a0_1 a0_2 a0_3 a0_4)) = some (r1, r2) := h
  clear h
  have HC3 := Aside0.mk H
  clear H
  go_enter Try.func17, Try.ntmps17
  go_upto_region 1 with (first | ((with_reducible refine gate_dst (N := 2) rfl ?_); refine box_event ?hg (N := 2) ?hd (cs := #[.int .u8 a0_0, .int .u8 a0_1, .int .u8 a0_2, .int .u8 a0_3, .int .u8 a0_4]) (t := 29) ?hr ?_; (case hd => rfl); (case hg => rfl); (case hr => first | (go_simp; done) | (go_simp; rfl)); intro gb141 hg w4 hbox hb; have n0_ := Aside0.mk (below_step (by repeat (first | (with_reducible first | exact HB.out | apply below_alloc | apply pw_below_drewN | apply below_drew1) | exact HB.out)) hb); have n1_ := Aside0.mk (hbox); have n2_ := Aside0.mk ((by rw [hg]; exact (below_size (by repeat (first | (with_reducible first | exact HB.out | apply below_alloc | apply pw_below_drewN | apply below_drew1) | exact HB.out))) : w.heap.size ≤ gb141)); have n3_ := Aside0.mk ((by rw [hg]; exact (below_size (by repeat (first | (with_reducible first | exact HB.out | apply below_alloc | apply pw_below_drewN | apply below_drew1) | exact HB.out))) : w.heap.size ≤ gb141)); clear HB; have HB := n0_; have BK141 := n1_; have GW141 := n2_; have GE141 := n3_; clear n0_ n1_ n2_ n3_; clear hb hbox hg))
  (try simp only [Act.put, List.setIfInBounds_toArray, List.set_cons_zero, List.set_cons_succ])
  go_cut [12] (fun v12 wc => ∃ (kq : Nat) (x12_2 : Bool), v12 = .bool x12_2 ∧ Aside0 (whirligigref16_Column.j0 kq a1 x12_2 a0_0 a0_1 a0_2 a0_3 a0_4 = some (r1, r2)) ∧ Aside0 (kq ≤ k) ∧ Aside0 (wc.heap[gb141]? = some (.cells #[.int .u8 a0_0, .int .u8 a0_1, .int .u8 a0_2, .int .u8 a0_3, .int .u8 a0_4] 29 (0, 0))) ∧ Aside0 (Below w.heap.size w wc))
  case first =>
    have H := HC3.out
    clear HC3
    by_cases c5 : a1 < 0
    · rw [if_pos c5] at H
      have c5b0 : decide (a1 < 0) = true := decide_eq_true c5
      clear c5
      (first | rw [c5b0] | (simp only [i64_w, i32_w]; rw [c5b0]) | skip)
      have H' := Aside0.mk H
      clear H
      go_wp2
      go_meet
      case rel => exact ⟨_, (true), (by first | rfl | (simp; done) | (simp [*]; done)), H', ⟨by first | omega | exact Nat.le_refl _⟩, ⟨by (with_reducible repeat (first | refine blk_drewN ?_ _ | refine blk_drew ?_ | refine blk_alloc ?_ _)); exact BK141.out⟩, ⟨by repeat (first | (with_reducible first | exact HB.out | apply below_alloc | apply pw_below_drewN | apply below_drew1 | refine below_set ?_ GE141.out) | exact HB.out)⟩⟩
    · rw [if_neg c5] at H
      have c5b0 : decide (a1 < 0) = false := decide_eq_false c5
      clear c5
      (first | rw [c5b0] | (simp only [i64_w, i32_w]; rw [c5b0]) | skip)
      have H' := Aside0.mk H
      clear H
      go_wp2
      go_meet
      case rel => exact ⟨_, (decide (a1 > 159)), (by first | rfl | (simp; done) | (simp [*]; done)), H', ⟨by first | omega | exact Nat.le_refl _⟩, ⟨by (with_reducible repeat (first | refine blk_drewN ?_ _ | refine blk_drew ?_ | refine blk_alloc ?_ _)); exact BK141.out⟩, ⟨by repeat (first | (with_reducible first | exact HB.out | apply below_alloc | apply pw_below_drewN | apply below_drew1 | refine below_set ?_ GE141.out) | exact HB.out)⟩⟩
  case rest =>
    clear HC3
    try clear c1
    try clear p2
    try clear c5
    try clear c5b0
    obtain ⟨kq, x12_2, rfl, HA, HJ2, BK141, HB⟩ := hcut
    cases kq with
    | zero => exact absurd HA.out (by simp [whirligigref16_Column.j0])
    | succ kj2 =>
      have H := HA.out
      clear HA
      simp only [whirligigref16_Column.j0] at H
      by_cases c6 : x12_2 = true
      · subst c6
        have H1 : (some (0, false)) = some (r1, r2) := by rw [if_pos rfl] at H; exact H
        clear H
        have H := H1
        clear H1
        simp only [Option.some.injEq, Prod.mk.injEq] at H
        obtain ⟨rfl, rfl⟩ := H
        go_wp2
        go_ret2
        exact ⟨by first | rfl | (simp [errW_none, errW_some] <;> rfl) | (simp [*, errW_none, errW_some] <;> rfl), by repeat (first | (with_reducible first | exact HB.out | apply below_alloc | apply pw_below_drewN | apply below_drew1 | refine below_set ?_ GE141.out) | exact HB.out)⟩
      · replace c6 := Bool.eq_false_iff.mpr c6
        subst c6
        have H1 : (if (wrap64 ((wrap64 (a1 + 8)) - (wrap64 (a0_1)))) < 0 then (whirligigref16_Column.j1 kj2 (wrap64 ((wrap64 (a1 + 8)) - (wrap64 (a0_1)))) true a0_0 a0_1 a0_2 a0_3 a0_4) else (whirligigref16_Column.j1 kj2 (wrap64 ((wrap64 (a1 + 8)) - (wrap64 (a0_1)))) (decide ((wrap64 ((wrap64 (a1 + 8)) - (wrap64 (a0_1)))) > 7)) a0_0 a0_1 a0_2 a0_3 a0_4)) = some (r1, r2) := by rw [if_neg (show ¬ (false = true) by decide)] at H; exact H
        clear H
        have H := H1
        clear H1
        have HC7 := Aside0.mk H
        clear H
        have hcz8_0 : wc.cell? ⟨gb141, 0, none⟩ = some (.int .u8 a0_0) := (blk_cell BK141.out 0).trans rfl
        have hcz8_1 : wc.cell? ⟨gb141, 1, none⟩ = some (.int .u8 a0_1) := (blk_cell BK141.out 1).trans rfl
        have hcz8_2 : wc.cell? ⟨gb141, 2, none⟩ = some (.int .u8 a0_2) := (blk_cell BK141.out 2).trans rfl
        have hcz8_3 : wc.cell? ⟨gb141, 3, none⟩ = some (.int .u8 a0_3) := (blk_cell BK141.out 3).trans rfl
        have hcz8_4 : wc.cell? ⟨gb141, 4, none⟩ = some (.int .u8 a0_4) := (blk_cell BK141.out 4).trans rfl
        have hfz8_0 := blk_frozen BK141.out 0
        have hfz8_1 := blk_frozen BK141.out 1
        have hfz8_2 := blk_frozen BK141.out 2
        have hfz8_3 := blk_frozen BK141.out 3
        have hfz8_4 := blk_frozen BK141.out 4
        go_upto_region 4 with (fail)
        go_cut [24] (fun v24 wc => ∃ (kq : Nat) (x24_6 : Bool), v24 = .bool x24_6 ∧ Aside0 (whirligigref16_Column.j1 kq (wrap64 ((wrap64 (a1 + 8)) - (wrap64 (a0_1)))) x24_6 a0_0 a0_1 a0_2 a0_3 a0_4 = some (r1, r2)) ∧ Aside0 (kq ≤ kj2) ∧ Aside0 (wc.heap[gb141]? = some (.cells #[.int .u8 a0_0, .int .u8 a0_1, .int .u8 a0_2, .int .u8 a0_3, .int .u8 a0_4] 29 (0, 0))) ∧ Aside0 (Below w.heap.size w wc))
        case first =>
          have H := HC7.out
          clear HC7
          by_cases c9 : (wrap64 ((wrap64 (a1 + 8)) - (wrap64 (a0_1)))) < 0
          · rw [if_pos c9] at H
            have c9b0 : decide ((wrap64 ((wrap64 (a1 + 8)) - (wrap64 (a0_1)))) < 0) = true := decide_eq_true c9
            clear c9
            (first | rw [c9b0] | (simp only [i64_w, i32_w]; rw [c9b0]) | skip)
            have H' := Aside0.mk H
            clear H
            go_wp2
            go_meet
            case rel => exact ⟨_, (true), (by first | rfl | (simp; done) | (simp [*]; done)), H', ⟨by have := HJ2.out; first | omega | exact Nat.le_refl _⟩, ⟨by (with_reducible repeat (first | refine blk_drewN ?_ _ | refine blk_drew ?_ | refine blk_alloc ?_ _)); exact BK141.out⟩, ⟨by repeat (first | (with_reducible first | exact HB.out | apply below_alloc | apply pw_below_drewN | apply below_drew1 | refine below_set ?_ GE141.out) | exact HB.out)⟩⟩
          · rw [if_neg c9] at H
            have c9b0 : decide ((wrap64 ((wrap64 (a1 + 8)) - (wrap64 (a0_1)))) < 0) = false := decide_eq_false c9
            clear c9
            (first | rw [c9b0] | (simp only [i64_w, i32_w]; rw [c9b0]) | skip)
            have H' := Aside0.mk H
            clear H
            go_wp2
            go_meet
            case rel => exact ⟨_, (decide ((wrap64 ((wrap64 (a1 + 8)) - (wrap64 (a0_1)))) > 7)), (by first | rfl | (simp; done) | (simp [*]; done)), H', ⟨by have := HJ2.out; first | omega | exact Nat.le_refl _⟩, ⟨by (with_reducible repeat (first | refine blk_drewN ?_ _ | refine blk_drew ?_ | refine blk_alloc ?_ _)); exact BK141.out⟩, ⟨by repeat (first | (with_reducible first | exact HB.out | apply below_alloc | apply pw_below_drewN | apply below_drew1 | refine below_set ?_ GE141.out) | exact HB.out)⟩⟩
        case rest =>
          clear HC7
          try clear c1
          try clear p2
          try clear c5
          try clear c5b0
          try clear c6
          try clear p6
          try clear c9
          try clear c9b0
          try clear hcz8_0
          try clear hcz8_1
          try clear hcz8_2
          try clear hcz8_3
          try clear hcz8_4
          try clear hfz8_0
          try clear hfz8_1
          try clear hfz8_2
          try clear hfz8_3
          try clear hfz8_4
          try clear p2
          obtain ⟨kq, x24_6, rfl, HA, HJ6, BK141, HB⟩ := hcut
          cases kq with
          | zero => exact absurd HA.out (by simp [whirligigref16_Column.j1])
          | succ kj6 =>
            have H := HA.out
            clear HA
            simp only [whirligigref16_Column.j1] at H
            by_cases c10 : x24_6 = true
            · subst c10
              have H1 : (some (0, false)) = some (r1, r2) := by rw [if_pos rfl] at H; exact H
              clear H
              have H := H1
              clear H1
              simp only [Option.some.injEq, Prod.mk.injEq] at H
              obtain ⟨rfl, rfl⟩ := H
              go_wp2
              go_ret2
              exact ⟨by first | rfl | (simp [errW_none, errW_some] <;> rfl) | (simp [*, errW_none, errW_some] <;> rfl), by repeat (first | (with_reducible first | exact HB.out | apply below_alloc | apply pw_below_drewN | apply below_drew1 | refine below_set ?_ GE141.out) | exact HB.out)⟩
            · replace c10 := Bool.eq_false_iff.mpr c10
              subst c10
              have H1 : ((whirligigref01_Bit.f kj6 a0_3 5).bind fun t142 => (if t142 = true then (some (wrap64 (7 - (wrap64 ((wrap64 (a1 + 8)) - (wrap64 (a0_1))))), true)) else (some ((wrap64 ((wrap64 (a1 + 8)) - (wrap64 (a0_1)))), true)))) = some (r1, r2) := by rw [if_neg (show ¬ (false = true) by decide)] at H; exact H
              clear H
              have H := H1
              clear H1
              replace H := Option.bind_eq_some_iff.mp H
              obtain ⟨t142, A110, H⟩ := H
              replace H : (if t142 = true then (some (wrap64 (7 - (wrap64 ((wrap64 (a1 + 8)) - (wrap64 (a0_1))))), true)) else (some ((wrap64 ((wrap64 (a1 + 8)) - (wrap64 (a0_1)))), true))) = some (r1, r2) := H
              have A11 := Aside0.mk A110
              clear A110
              by_cases c12 : t142 = true
              · subst c12
                have H1 : (some (wrap64 (7 - (wrap64 ((wrap64 (a1 + 8)) - (wrap64 (a0_1))))), true)) = some (r1, r2) := by rw [if_pos rfl] at H; exact H
                clear H
                have H := H1
                clear H1
                simp only [Option.some.injEq, Prod.mk.injEq] at H
                obtain ⟨rfl, rfl⟩ := H
                have hcz13_0 : wc.cell? ⟨gb141, 0, none⟩ = some (.int .u8 a0_0) := (blk_cell BK141.out 0).trans rfl
                have hcz13_1 : wc.cell? ⟨gb141, 1, none⟩ = some (.int .u8 a0_1) := (blk_cell BK141.out 1).trans rfl
                have hcz13_2 : wc.cell? ⟨gb141, 2, none⟩ = some (.int .u8 a0_2) := (blk_cell BK141.out 2).trans rfl
                have hcz13_3 : wc.cell? ⟨gb141, 3, none⟩ = some (.int .u8 a0_3) := (blk_cell BK141.out 3).trans rfl
                have hcz13_4 : wc.cell? ⟨gb141, 4, none⟩ = some (.int .u8 a0_4) := (blk_cell BK141.out 4).trans rfl
                have hfz13_0 := blk_frozen BK141.out 0
                have hfz13_1 := blk_frozen BK141.out 1
                have hfz13_2 := blk_frozen BK141.out 2
                have hfz13_3 := blk_frozen BK141.out 3
                have hfz13_4 := blk_frozen BK141.out 4
                go_wp2_with (first | ((with_reducible refine gate_callee (f := 27) rfl ?_); refine goesL_ (some 27) rfl rfl Try.func27 (by kernel_rfl) rfl #[.int .u8 a0_3, .int .i64 5] rfl (by (try simp only [List.map_toArray, List.map_cons, List.map_nil]); first | done | rfl | (simp only [List.length_drop, List.length_take]; rfl)) ?_; (with_reducible refine (whirligigref01_Bit.calls kj6 a0_3 5 true _ A11.out).mono ?_); rintro e w' ⟨rfl, ⟨nd, rfl⟩⟩; refine ⟨_, rfl, ?_⟩))
                go_ret2
                exact ⟨by first | rfl | (simp [errW_none, errW_some] <;> rfl) | (simp [*, errW_none, errW_some] <;> rfl), by repeat (first | (with_reducible first | exact HB.out | apply below_alloc | apply pw_below_drewN | apply below_drew1 | refine below_set ?_ GE141.out) | exact HB.out)⟩
              · replace c12 := Bool.eq_false_iff.mpr c12
                subst c12
                have H1 : (some ((wrap64 ((wrap64 (a1 + 8)) - (wrap64 (a0_1)))), true)) = some (r1, r2) := by rw [if_neg (show ¬ (false = true) by decide)] at H; exact H
                clear H
                have H := H1
                clear H1
                simp only [Option.some.injEq, Prod.mk.injEq] at H
                obtain ⟨rfl, rfl⟩ := H
                have hcz14_0 : wc.cell? ⟨gb141, 0, none⟩ = some (.int .u8 a0_0) := (blk_cell BK141.out 0).trans rfl
                have hcz14_1 : wc.cell? ⟨gb141, 1, none⟩ = some (.int .u8 a0_1) := (blk_cell BK141.out 1).trans rfl
                have hcz14_2 : wc.cell? ⟨gb141, 2, none⟩ = some (.int .u8 a0_2) := (blk_cell BK141.out 2).trans rfl
                have hcz14_3 : wc.cell? ⟨gb141, 3, none⟩ = some (.int .u8 a0_3) := (blk_cell BK141.out 3).trans rfl
                have hcz14_4 : wc.cell? ⟨gb141, 4, none⟩ = some (.int .u8 a0_4) := (blk_cell BK141.out 4).trans rfl
                have hfz14_0 := blk_frozen BK141.out 0
                have hfz14_1 := blk_frozen BK141.out 1
                have hfz14_2 := blk_frozen BK141.out 2
                have hfz14_3 := blk_frozen BK141.out 3
                have hfz14_4 := blk_frozen BK141.out 4
                go_wp2_with (first | ((with_reducible refine gate_callee (f := 27) rfl ?_); refine goesL_ (some 27) rfl rfl Try.func27 (by kernel_rfl) rfl #[.int .u8 a0_3, .int .i64 5] rfl (by (try simp only [List.map_toArray, List.map_cons, List.map_nil]); first | done | rfl | (simp only [List.length_drop, List.length_take]; rfl)) ?_; (with_reducible refine (whirligigref01_Bit.calls kj6 a0_3 5 false _ A11.out).mono ?_); rintro e w' ⟨rfl, ⟨nd, rfl⟩⟩; refine ⟨_, rfl, ?_⟩))
                go_ret2
                exact ⟨by first | rfl | (simp [errW_none, errW_some] <;> rfl) | (simp [*, errW_none, errW_some] <;> rfl), by repeat (first | (with_reducible first | exact HB.out | apply below_alloc | apply pw_below_drewN | apply below_drew1 | refine below_set ?_ GE141.out) | exact HB.out)⟩

/-! ### whirligiglaw16_ObjectsRows: function 4 -/
def whirligiglaw16_ObjectsRows.l0 : Nat → Int → Int → Bool → Int → Int → Int → Int → Int → Int → Option (Bool)
  | 0, _, _, _, _, _, _, _, _, _ => none
  | k + 1, x1, x2, x7, x8, x144000, x144001, x144002, x144003, x144004 => if x8 < 2 then ((objects_Row.f x144000 x144001 x144002 x144003 x144004 x1 (x8 == 1)).bind fun bt149 => ((whirligigref16_Row.f k x144000 x144001 x144002 x144003 x144004 x1 (x8 == 1)).bind fun bt152 => (if bt149.1 = bt152.1 then (if bt149.2.1 = bt152.2.1 then (if (bt149.2.2 != bt152.2.2) = true then (some false) else (whirligiglaw16_ObjectsRows.l0 k x1 x2 x7 (wrap64 (x8 + 1)) x144000 x144001 x144002 x144003 x144004)) else (some false)) else (some false)))) else ((objects_Column.f k x144000 x144001 x144002 x144003 x144004 x2).bind fun bt145 => ((whirligigref16_Column.f k x144000 x144001 x144002 x144003 x144004 x2).bind fun bt147 => (if x7 = true then (if bt145.1 = bt147.1 then (some (bt145.2 == bt147.2)) else (some false)) else (some false))))
def whirligiglaw16_ObjectsRows.f (k : Nat) (a0_0 : Int) (a0_1 : Int) (a0_2 : Int) (a0_3 : Int) (a0_4 : Int) (a1 : Int) (a2 : Int) : Option (Bool) := (whirligiglaw16_shown.f).bind fun t144 => (whirligiglaw16_ObjectsRows.l0 k a1 a2 t144 0 a0_0 a0_1 a0_2 a0_3 a0_4)
theorem whirligiglaw16_ObjectsRows.mono_l : ∀ k, (∀ y0 y1 y2 y3 y4 y5 y6 y7 y8, LeO (whirligiglaw16_ObjectsRows.l0 k y0 y1 y2 y3 y4 y5 y6 y7 y8) (whirligiglaw16_ObjectsRows.l0 (k + 1) y0 y1 y2 y3 y4 y5 y6 y7 y8))
  | 0 => fun _ _ _ _ _ _ _ _ _ r h => by simp [whirligiglaw16_ObjectsRows.l0] at h
  | k + 1 => by
    have ih0 := whirligiglaw16_ObjectsRows.mono_l k
    · intro y0 y1 y2 y3 y4 y5 y6 y7 y8
      unfold whirligiglaw16_ObjectsRows.l0
      repeat' first
      | (with_reducible exact ih0 _ _ _ _ _ _ _ _ _)
      | (with_reducible exact objects_Column.mono _ _ _ _ _ _ _)
      | (with_reducible exact whirligigref16_Column.mono _ _ _ _ _ _ _)
      | (with_reducible exact whirligigref16_Row.mono _ _ _ _ _ _ _ _)
      | (with_reducible exact LeO.refl _)
      | (with_reducible exact LeO.none _)
      | (with_reducible refine LeO.ite ?_ ?_)
      | (with_reducible refine LeO.bind ?_ (fun _ => ?_))
      | exact ih0 _ _ _ _ _ _ _ _ _
      | exact objects_Column.mono _ _ _ _ _ _ _
      | exact whirligigref16_Column.mono _ _ _ _ _ _ _
      | exact whirligigref16_Row.mono _ _ _ _ _ _ _ _
      | exact LeO.none _
      | refine LeO.ite ?_ ?_
      | refine LeO.bind ?_ (fun _ => ?_)
theorem whirligiglaw16_ObjectsRows.mono : ∀ a0 a1 a2 a3 a4 a5 a6 k, LeO (whirligiglaw16_ObjectsRows.f k a0 a1 a2 a3 a4 a5 a6) (whirligiglaw16_ObjectsRows.f (k + 1) a0 a1 a2 a3 a4 a5 a6) := by
  intro a0 a1 a2 a3 a4 a5 a6 k
  have ih0 := whirligiglaw16_ObjectsRows.mono_l k
  unfold whirligiglaw16_ObjectsRows.f
  repeat' first
      | (with_reducible exact ih0 _ _ _ _ _ _ _ _ _)
      | (with_reducible exact objects_Column.mono _ _ _ _ _ _ _)
      | (with_reducible exact whirligigref16_Column.mono _ _ _ _ _ _ _)
      | (with_reducible exact whirligigref16_Row.mono _ _ _ _ _ _ _ _)
      | (with_reducible exact LeO.refl _)
      | (with_reducible exact LeO.none _)
      | (with_reducible refine LeO.ite ?_ ?_)
      | (with_reducible refine LeO.bind ?_ (fun _ => ?_))
      | exact ih0 _ _ _ _ _ _ _ _ _
      | exact objects_Column.mono _ _ _ _ _ _ _
      | exact whirligigref16_Column.mono _ _ _ _ _ _ _
      | exact whirligigref16_Row.mono _ _ _ _ _ _ _ _
      | exact LeO.none _
      | refine LeO.ite ?_ ?_
      | refine LeO.bind ?_ (fun _ => ?_)
set_option maxHeartbeats 8000000 in
set_option maxRecDepth 100000 in
theorem whirligiglaw16_ObjectsRows.calls (k : Nat) (a0_0 : Int) (a0_1 : Int) (a0_2 : Int) (a0_3 : Int) (a0_4 : Int) (a1 : Int) (a2 : Int) (r : Bool) (w : World) (h : whirligiglaw16_ObjectsRows.f k a0_0 a0_1 a0_2 a0_3 a0_4 a1 a2 = some r) :
    Calls Try.prog 4 #[.agg #[.int .u8 a0_0, .int .u8 a0_1, .int .u8 a0_2, .int .u8 a0_3, .int .u8 a0_4], .int .i64 a1, .int .i64 a2] w fun e w' => e = .returned (.bool r) ∧ Below w.heap.size w w' := by
  have hu29 := Try.underlying29
  have HB := Aside0.mk (Below.refl w.heap.size w)
  have H : ((whirligiglaw16_shown.f).bind fun t144 => (whirligiglaw16_ObjectsRows.l0 k a1 a2 t144 0 a0_0 a0_1 a0_2 a0_3 a0_4)) = some r := h
  clear h
  replace H := Option.bind_eq_some_iff.mp H
  obtain ⟨t144, A40, H⟩ := H
  replace H : (whirligiglaw16_ObjectsRows.l0 k a1 a2 t144 0 a0_0 a0_1 a0_2 a0_3 a0_4) = some r := H
  have A4 := Aside0.mk A40
  clear A40
  have H' := Aside0.mk H
  clear H
  go_enter Try.func4, Try.ntmps4
  go_wp2_with (first | ((with_reducible refine gate_dst (N := 3) rfl ?_); refine box_event ?hg (N := 3) ?hd (cs := #[.int .u8 a0_0, .int .u8 a0_1, .int .u8 a0_2, .int .u8 a0_3, .int .u8 a0_4]) (t := 29) ?hr ?_; (case hd => rfl); (case hg => rfl); (case hr => first | (go_simp; done) | (go_simp; rfl)); intro gb143 hg w5 hbox hb; have n0_ := Aside0.mk (below_step (by repeat (first | (with_reducible first | exact HB.out | apply below_alloc | apply pw_below_drewN | apply below_drew1) | exact HB.out)) hb); have n1_ := Aside0.mk (hbox); have n2_ := Aside0.mk ((by rw [hg]; exact (below_size (by repeat (first | (with_reducible first | exact HB.out | apply below_alloc | apply pw_below_drewN | apply below_drew1) | exact HB.out))) : w.heap.size ≤ gb143)); have n3_ := Aside0.mk ((by rw [hg]; exact (below_size (by repeat (first | (with_reducible first | exact HB.out | apply below_alloc | apply pw_below_drewN | apply below_drew1) | exact HB.out))) : w.heap.size ≤ gb143)); clear HB; have HB := n0_; have BK143 := n1_; have GW143 := n2_; have GE143 := n3_; clear n0_ n1_ n2_ n3_; clear hb hbox hg) | ((with_reducible refine gate_callee (f := 10) rfl ?_); refine goesL_ (some 19) rfl rfl Try.func10 (by kernel_rfl) rfl #[] rfl (by (try simp only [List.map_toArray, List.map_cons, List.map_nil]); first | done | rfl | (simp only [List.length_drop, List.length_take]; rfl)) ?_; (with_reducible refine (whirligiglaw16_shown.calls  t144 _ A4.out).mono ?_); rintro e w6 ⟨rfl, hb⟩; refine ⟨_, rfl, ?_⟩; have n0_ := Aside0.mk (blk_below (g := gb143) (o := .cells #[.int .u8 a0_0, .int .u8 a0_1, .int .u8 a0_2, .int .u8 a0_3, .int .u8 a0_4] 29 (0, 0)) (by (with_reducible repeat (first | refine blk_drewN ?_ _ | refine blk_drew ?_ | refine blk_alloc ?_ _)); exact BK143.out) hb); have n1_ := Aside0.mk (below_step (by repeat (first | (with_reducible first | exact HB.out | apply below_alloc | apply pw_below_drewN | apply below_drew1 | refine below_set ?_ GE143.out) | exact HB.out)) hb); clear BK143; clear HB; have BK143 := n0_; have HB := n1_; clear n0_ n1_; (try clear hb); (try clear hb2); (try clear hk); (try clear hi)))
  go_loopg [8] k (fun kq v8 w' => ∃ (x8_1 : Int), v8 = .int .i64 x8_1 ∧ Aside0 (whirligiglaw16_ObjectsRows.l0 kq a1 a2 t144 x8_1 a0_0 a0_1 a0_2 a0_3 a0_4 = some r) ∧ Aside0 (kq ≤ k) ∧ Aside0 (w'.heap[gb143]? = some (.cells #[.int .u8 a0_0, .int .u8 a0_1, .int .u8 a0_2, .int .u8 a0_3, .int .u8 a0_4] 29 (0, 0))) ∧ Aside0 (Below w.heap.size w w'))
  case atStart => exact ⟨(0), (by first | rfl | (simp; done) | (simp [*]; done)), H', ⟨Nat.le_refl _⟩, ⟨by (with_reducible repeat (first | refine blk_drewN ?_ _ | refine blk_drew ?_ | refine blk_alloc ?_ _)); exact BK143.out⟩, ⟨by repeat (first | (with_reducible first | exact HB.out | apply below_alloc | apply pw_below_drewN | apply below_drew1 | refine below_set ?_ GE143.out) | exact HB.out)⟩⟩
  case round =>
    clear H'
    try clear c1
    try clear p2
    try clear c4
    obtain ⟨x8_1, rfl, HA, HK1, BK143, HB⟩ := hrel
    cases gk with
    | zero => exact absurd HA.out (by simp [whirligiglaw16_ObjectsRows.l0])
    | succ k1 =>
      have H := HA.out
      clear HA
      simp only [whirligiglaw16_ObjectsRows.l0] at H
      by_cases c7 : x8_1 < 2
      · rw [if_pos c7] at H
        have c7b0 : decide (x8_1 < 2) = true := decide_eq_true c7
        clear c7
        replace H := Option.bind_eq_some_iff.mp H
        obtain ⟨⟨t149, t150, t151⟩, A80, H⟩ := H
        replace H : ((whirligigref16_Row.f k1 a0_0 a0_1 a0_2 a0_3 a0_4 a1 (x8_1 == 1)).bind fun bt152 => (if t149 = bt152.1 then (if t150 = bt152.2.1 then (if (t151 != bt152.2.2) = true then (some false) else (whirligiglaw16_ObjectsRows.l0 k1 a1 a2 t144 (wrap64 (x8_1 + 1)) a0_0 a0_1 a0_2 a0_3 a0_4)) else (some false)) else (some false))) = some r := H
        have A8 := Aside0.mk A80
        clear A80
        replace H := Option.bind_eq_some_iff.mp H
        obtain ⟨⟨t152, t153, t154⟩, A90, H⟩ := H
        replace H : (if t149 = t152 then (if t150 = t153 then (if (t151 != t154) = true then (some false) else (whirligiglaw16_ObjectsRows.l0 k1 a1 a2 t144 (wrap64 (x8_1 + 1)) a0_0 a0_1 a0_2 a0_3 a0_4)) else (some false)) else (some false)) = some r := H
        have A9 := Aside0.mk A90
        clear A90
        by_cases c10 : t149 = t152
        · rw [if_pos c10] at H
          have c10b0 : (t149 == t152) = true := beq_iff_eq.mpr c10
          have c10b1 : (t149 != t152) = false := bne_eq_false_iff_eq.mpr c10
          clear c10
          by_cases c11 : t150 = t153
          · rw [if_pos c11] at H
            have c11b0 : (t150 == t153) = true := beq_iff_eq.mpr c11
            have c11b1 : (t150 != t153) = false := bne_eq_false_iff_eq.mpr c11
            clear c11
            by_cases c12 : (t151 != t154) = true
            · rw [if_pos c12] at H
              have c12b0 : (t151 != t154) = true := c12
              (try (have c12b1 : decide (t151 = t154) = false := by simpa using c12))
              (try (have c12b2 : (t151 == t154) = false := by simpa using c12))
              (try (have c12b3 : ¬ (t151 = t154) := by simpa using c12))
              clear c12
              obtain rfl := Option.some.inj H
              have hcz13_0 : wr.cell? ⟨gb143, 0, none⟩ = some (.int .u8 a0_0) := (blk_cell BK143.out 0).trans rfl
              have hcz13_1 : wr.cell? ⟨gb143, 1, none⟩ = some (.int .u8 a0_1) := (blk_cell BK143.out 1).trans rfl
              have hcz13_2 : wr.cell? ⟨gb143, 2, none⟩ = some (.int .u8 a0_2) := (blk_cell BK143.out 2).trans rfl
              have hcz13_3 : wr.cell? ⟨gb143, 3, none⟩ = some (.int .u8 a0_3) := (blk_cell BK143.out 3).trans rfl
              have hcz13_4 : wr.cell? ⟨gb143, 4, none⟩ = some (.int .u8 a0_4) := (blk_cell BK143.out 4).trans rfl
              have hfz13_0 := blk_frozen BK143.out 0
              have hfz13_1 := blk_frozen BK143.out 1
              have hfz13_2 := blk_frozen BK143.out 2
              have hfz13_3 := blk_frozen BK143.out 3
              have hfz13_4 := blk_frozen BK143.out 4
              go_wp2_with (first | ((with_reducible refine gate_callee (f := 14) rfl ?_); refine goesL_ (some 29) rfl rfl Try.func14 (by kernel_rfl) rfl #[.agg #[.int .u8 a0_0, .int .u8 a0_1, .int .u8 a0_2, .int .u8 a0_3, .int .u8 a0_4], .int .i64 a1, .bool (x8_1 == 1)] rfl (by (try simp only [List.map_toArray, List.map_cons, List.map_nil]); first | done | rfl | (simp only [List.length_drop, List.length_take]; rfl)) ?_; (with_reducible refine (objects_Row.calls a0_0 a0_1 a0_2 a0_3 a0_4 a1 (x8_1 == 1) t149 t150 t151 _ A8.out).mono ?_); rintro e w14 ⟨rfl, hb⟩; refine ⟨_, rfl, ?_⟩; have n0_ := Aside0.mk (blk_below (g := gb143) (o := .cells #[.int .u8 a0_0, .int .u8 a0_1, .int .u8 a0_2, .int .u8 a0_3, .int .u8 a0_4] 29 (0, 0)) (by (with_reducible repeat (first | refine blk_drewN ?_ _ | refine blk_drew ?_ | refine blk_alloc ?_ _)); exact BK143.out) hb); have n1_ := Aside0.mk (below_step (by repeat (first | (with_reducible first | exact HB.out | apply below_alloc | apply pw_below_drewN | apply below_drew1 | refine below_set ?_ GE143.out) | exact HB.out)) hb); clear BK143; clear HB; have BK143 := n0_; have HB := n1_; clear n0_ n1_; (try clear hb); (try clear hb2); (try clear hk); (try clear hi); have hcz15_0 : w14.cell? ⟨gb143, 0, none⟩ = some (.int .u8 a0_0) := (blk_cell BK143.out 0).trans rfl; have hcz15_1 : w14.cell? ⟨gb143, 1, none⟩ = some (.int .u8 a0_1) := (blk_cell BK143.out 1).trans rfl; have hcz15_2 : w14.cell? ⟨gb143, 2, none⟩ = some (.int .u8 a0_2) := (blk_cell BK143.out 2).trans rfl; have hcz15_3 : w14.cell? ⟨gb143, 3, none⟩ = some (.int .u8 a0_3) := (blk_cell BK143.out 3).trans rfl; have hcz15_4 : w14.cell? ⟨gb143, 4, none⟩ = some (.int .u8 a0_4) := (blk_cell BK143.out 4).trans rfl; have hfz15_0 := blk_frozen BK143.out 0; have hfz15_1 := blk_frozen BK143.out 1; have hfz15_2 := blk_frozen BK143.out 2; have hfz15_3 := blk_frozen BK143.out 3; have hfz15_4 := blk_frozen BK143.out 4) | ((with_reducible refine gate_callee (f := 15) rfl ?_); refine goesL_ (some 38) rfl rfl Try.func15 (by kernel_rfl) rfl #[.agg #[.int .u8 a0_0, .int .u8 a0_1, .int .u8 a0_2, .int .u8 a0_3, .int .u8 a0_4], .int .i64 a1, .bool (x8_1 == 1)] rfl (by (try simp only [List.map_toArray, List.map_cons, List.map_nil]); first | done | rfl | (simp only [List.length_drop, List.length_take]; rfl)) ?_; (with_reducible refine (whirligigref16_Row.calls k1 a0_0 a0_1 a0_2 a0_3 a0_4 a1 (x8_1 == 1) t152 t153 t154 _ A9.out).mono ?_); rintro e w16 ⟨rfl, hb⟩; refine ⟨_, rfl, ?_⟩; have n0_ := Aside0.mk (blk_below (g := gb143) (o := .cells #[.int .u8 a0_0, .int .u8 a0_1, .int .u8 a0_2, .int .u8 a0_3, .int .u8 a0_4] 29 (0, 0)) (by (with_reducible repeat (first | refine blk_drewN ?_ _ | refine blk_drew ?_ | refine blk_alloc ?_ _)); exact BK143.out) hb); have n1_ := Aside0.mk (below_step (by repeat (first | (with_reducible first | exact HB.out | apply below_alloc | apply pw_below_drewN | apply below_drew1 | refine below_set ?_ GE143.out) | exact HB.out)) hb); clear BK143; clear HB; have BK143 := n0_; have HB := n1_; clear n0_ n1_; (try clear hb); (try clear hb2); (try clear hk); (try clear hi)))
              go_ret
              exact ⟨by first | rfl | (simp [errW_none, errW_some] <;> rfl) | (simp [*, errW_none, errW_some] <;> rfl), by repeat (first | (with_reducible first | exact HB.out | apply below_alloc | apply pw_below_drewN | apply below_drew1 | refine below_set ?_ GE143.out) | exact HB.out)⟩
            · rw [if_neg c12] at H
              have c12b0 : (t151 != t154) = false := by simpa using c12
              (try (have c12b1 : decide (t151 = t154) = true := by simpa using c12))
              (try (have c12b2 : (t151 == t154) = true := by simpa using c12))
              clear c12
              have H' := Aside0.mk H
              clear H
              have hcz17_0 : wr.cell? ⟨gb143, 0, none⟩ = some (.int .u8 a0_0) := (blk_cell BK143.out 0).trans rfl
              have hcz17_1 : wr.cell? ⟨gb143, 1, none⟩ = some (.int .u8 a0_1) := (blk_cell BK143.out 1).trans rfl
              have hcz17_2 : wr.cell? ⟨gb143, 2, none⟩ = some (.int .u8 a0_2) := (blk_cell BK143.out 2).trans rfl
              have hcz17_3 : wr.cell? ⟨gb143, 3, none⟩ = some (.int .u8 a0_3) := (blk_cell BK143.out 3).trans rfl
              have hcz17_4 : wr.cell? ⟨gb143, 4, none⟩ = some (.int .u8 a0_4) := (blk_cell BK143.out 4).trans rfl
              have hfz17_0 := blk_frozen BK143.out 0
              have hfz17_1 := blk_frozen BK143.out 1
              have hfz17_2 := blk_frozen BK143.out 2
              have hfz17_3 := blk_frozen BK143.out 3
              have hfz17_4 := blk_frozen BK143.out 4
              go_wp2_with (first | ((with_reducible refine gate_callee (f := 14) rfl ?_); refine goesL_ (some 29) rfl rfl Try.func14 (by kernel_rfl) rfl #[.agg #[.int .u8 a0_0, .int .u8 a0_1, .int .u8 a0_2, .int .u8 a0_3, .int .u8 a0_4], .int .i64 a1, .bool (x8_1 == 1)] rfl (by (try simp only [List.map_toArray, List.map_cons, List.map_nil]); first | done | rfl | (simp only [List.length_drop, List.length_take]; rfl)) ?_; (with_reducible refine (objects_Row.calls a0_0 a0_1 a0_2 a0_3 a0_4 a1 (x8_1 == 1) t149 t150 t151 _ A8.out).mono ?_); rintro e w18 ⟨rfl, hb⟩; refine ⟨_, rfl, ?_⟩; have n0_ := Aside0.mk (blk_below (g := gb143) (o := .cells #[.int .u8 a0_0, .int .u8 a0_1, .int .u8 a0_2, .int .u8 a0_3, .int .u8 a0_4] 29 (0, 0)) (by (with_reducible repeat (first | refine blk_drewN ?_ _ | refine blk_drew ?_ | refine blk_alloc ?_ _)); exact BK143.out) hb); have n1_ := Aside0.mk (below_step (by repeat (first | (with_reducible first | exact HB.out | apply below_alloc | apply pw_below_drewN | apply below_drew1 | refine below_set ?_ GE143.out) | exact HB.out)) hb); clear BK143; clear HB; have BK143 := n0_; have HB := n1_; clear n0_ n1_; (try clear hb); (try clear hb2); (try clear hk); (try clear hi); have hcz19_0 : w18.cell? ⟨gb143, 0, none⟩ = some (.int .u8 a0_0) := (blk_cell BK143.out 0).trans rfl; have hcz19_1 : w18.cell? ⟨gb143, 1, none⟩ = some (.int .u8 a0_1) := (blk_cell BK143.out 1).trans rfl; have hcz19_2 : w18.cell? ⟨gb143, 2, none⟩ = some (.int .u8 a0_2) := (blk_cell BK143.out 2).trans rfl; have hcz19_3 : w18.cell? ⟨gb143, 3, none⟩ = some (.int .u8 a0_3) := (blk_cell BK143.out 3).trans rfl; have hcz19_4 : w18.cell? ⟨gb143, 4, none⟩ = some (.int .u8 a0_4) := (blk_cell BK143.out 4).trans rfl; have hfz19_0 := blk_frozen BK143.out 0; have hfz19_1 := blk_frozen BK143.out 1; have hfz19_2 := blk_frozen BK143.out 2; have hfz19_3 := blk_frozen BK143.out 3; have hfz19_4 := blk_frozen BK143.out 4) | ((with_reducible refine gate_callee (f := 15) rfl ?_); refine goesL_ (some 38) rfl rfl Try.func15 (by kernel_rfl) rfl #[.agg #[.int .u8 a0_0, .int .u8 a0_1, .int .u8 a0_2, .int .u8 a0_3, .int .u8 a0_4], .int .i64 a1, .bool (x8_1 == 1)] rfl (by (try simp only [List.map_toArray, List.map_cons, List.map_nil]); first | done | rfl | (simp only [List.length_drop, List.length_take]; rfl)) ?_; (with_reducible refine (whirligigref16_Row.calls k1 a0_0 a0_1 a0_2 a0_3 a0_4 a1 (x8_1 == 1) t152 t153 t154 _ A9.out).mono ?_); rintro e w20 ⟨rfl, hb⟩; refine ⟨_, rfl, ?_⟩; have n0_ := Aside0.mk (blk_below (g := gb143) (o := .cells #[.int .u8 a0_0, .int .u8 a0_1, .int .u8 a0_2, .int .u8 a0_3, .int .u8 a0_4] 29 (0, 0)) (by (with_reducible repeat (first | refine blk_drewN ?_ _ | refine blk_drew ?_ | refine blk_alloc ?_ _)); exact BK143.out) hb); have n1_ := Aside0.mk (below_step (by repeat (first | (with_reducible first | exact HB.out | apply below_alloc | apply pw_below_drewN | apply below_drew1 | refine below_set ?_ GE143.out) | exact HB.out)) hb); clear BK143; clear HB; have BK143 := n0_; have HB := n1_; clear n0_ n1_; (try clear hb); (try clear hb2); (try clear hk); (try clear hi)))
              go_roundg k1
              case measure => have := HK1.out; omega
              case rel => exact ⟨(wrap64 (x8_1 + 1)), (by first | rfl | (simp; done) | (simp [*]; done)), H', ⟨by have := HK1.out; omega⟩, ⟨by (with_reducible repeat (first | refine blk_drewN ?_ _ | refine blk_drew ?_ | refine blk_alloc ?_ _)); exact BK143.out⟩, ⟨by repeat (first | (with_reducible first | exact HB.out | apply below_alloc | apply pw_below_drewN | apply below_drew1 | refine below_set ?_ GE143.out) | exact HB.out)⟩⟩
          · rw [if_neg c11] at H
            have c11b0 : (t150 == t153) = false := beq_eq_false_iff_ne.mpr c11
            have c11b1 : (t150 != t153) = true := bne_iff_ne.mpr c11
            obtain rfl := Option.some.inj H
            have hcz21_0 : wr.cell? ⟨gb143, 0, none⟩ = some (.int .u8 a0_0) := (blk_cell BK143.out 0).trans rfl
            have hcz21_1 : wr.cell? ⟨gb143, 1, none⟩ = some (.int .u8 a0_1) := (blk_cell BK143.out 1).trans rfl
            have hcz21_2 : wr.cell? ⟨gb143, 2, none⟩ = some (.int .u8 a0_2) := (blk_cell BK143.out 2).trans rfl
            have hcz21_3 : wr.cell? ⟨gb143, 3, none⟩ = some (.int .u8 a0_3) := (blk_cell BK143.out 3).trans rfl
            have hcz21_4 : wr.cell? ⟨gb143, 4, none⟩ = some (.int .u8 a0_4) := (blk_cell BK143.out 4).trans rfl
            have hfz21_0 := blk_frozen BK143.out 0
            have hfz21_1 := blk_frozen BK143.out 1
            have hfz21_2 := blk_frozen BK143.out 2
            have hfz21_3 := blk_frozen BK143.out 3
            have hfz21_4 := blk_frozen BK143.out 4
            go_wp2_with (first | ((with_reducible refine gate_callee (f := 14) rfl ?_); refine goesL_ (some 29) rfl rfl Try.func14 (by kernel_rfl) rfl #[.agg #[.int .u8 a0_0, .int .u8 a0_1, .int .u8 a0_2, .int .u8 a0_3, .int .u8 a0_4], .int .i64 a1, .bool (x8_1 == 1)] rfl (by (try simp only [List.map_toArray, List.map_cons, List.map_nil]); first | done | rfl | (simp only [List.length_drop, List.length_take]; rfl)) ?_; (with_reducible refine (objects_Row.calls a0_0 a0_1 a0_2 a0_3 a0_4 a1 (x8_1 == 1) t149 t150 t151 _ A8.out).mono ?_); rintro e w22 ⟨rfl, hb⟩; refine ⟨_, rfl, ?_⟩; have n0_ := Aside0.mk (blk_below (g := gb143) (o := .cells #[.int .u8 a0_0, .int .u8 a0_1, .int .u8 a0_2, .int .u8 a0_3, .int .u8 a0_4] 29 (0, 0)) (by (with_reducible repeat (first | refine blk_drewN ?_ _ | refine blk_drew ?_ | refine blk_alloc ?_ _)); exact BK143.out) hb); have n1_ := Aside0.mk (below_step (by repeat (first | (with_reducible first | exact HB.out | apply below_alloc | apply pw_below_drewN | apply below_drew1 | refine below_set ?_ GE143.out) | exact HB.out)) hb); clear BK143; clear HB; have BK143 := n0_; have HB := n1_; clear n0_ n1_; (try clear hb); (try clear hb2); (try clear hk); (try clear hi); have hcz23_0 : w22.cell? ⟨gb143, 0, none⟩ = some (.int .u8 a0_0) := (blk_cell BK143.out 0).trans rfl; have hcz23_1 : w22.cell? ⟨gb143, 1, none⟩ = some (.int .u8 a0_1) := (blk_cell BK143.out 1).trans rfl; have hcz23_2 : w22.cell? ⟨gb143, 2, none⟩ = some (.int .u8 a0_2) := (blk_cell BK143.out 2).trans rfl; have hcz23_3 : w22.cell? ⟨gb143, 3, none⟩ = some (.int .u8 a0_3) := (blk_cell BK143.out 3).trans rfl; have hcz23_4 : w22.cell? ⟨gb143, 4, none⟩ = some (.int .u8 a0_4) := (blk_cell BK143.out 4).trans rfl; have hfz23_0 := blk_frozen BK143.out 0; have hfz23_1 := blk_frozen BK143.out 1; have hfz23_2 := blk_frozen BK143.out 2; have hfz23_3 := blk_frozen BK143.out 3; have hfz23_4 := blk_frozen BK143.out 4) | ((with_reducible refine gate_callee (f := 15) rfl ?_); refine goesL_ (some 38) rfl rfl Try.func15 (by kernel_rfl) rfl #[.agg #[.int .u8 a0_0, .int .u8 a0_1, .int .u8 a0_2, .int .u8 a0_3, .int .u8 a0_4], .int .i64 a1, .bool (x8_1 == 1)] rfl (by (try simp only [List.map_toArray, List.map_cons, List.map_nil]); first | done | rfl | (simp only [List.length_drop, List.length_take]; rfl)) ?_; (with_reducible refine (whirligigref16_Row.calls k1 a0_0 a0_1 a0_2 a0_3 a0_4 a1 (x8_1 == 1) t152 t153 t154 _ A9.out).mono ?_); rintro e w24 ⟨rfl, hb⟩; refine ⟨_, rfl, ?_⟩; have n0_ := Aside0.mk (blk_below (g := gb143) (o := .cells #[.int .u8 a0_0, .int .u8 a0_1, .int .u8 a0_2, .int .u8 a0_3, .int .u8 a0_4] 29 (0, 0)) (by (with_reducible repeat (first | refine blk_drewN ?_ _ | refine blk_drew ?_ | refine blk_alloc ?_ _)); exact BK143.out) hb); have n1_ := Aside0.mk (below_step (by repeat (first | (with_reducible first | exact HB.out | apply below_alloc | apply pw_below_drewN | apply below_drew1 | refine below_set ?_ GE143.out) | exact HB.out)) hb); clear BK143; clear HB; have BK143 := n0_; have HB := n1_; clear n0_ n1_; (try clear hb); (try clear hb2); (try clear hk); (try clear hi)))
            go_ret
            exact ⟨by first | rfl | (simp [errW_none, errW_some] <;> rfl) | (simp [*, errW_none, errW_some] <;> rfl), by repeat (first | (with_reducible first | exact HB.out | apply below_alloc | apply pw_below_drewN | apply below_drew1 | refine below_set ?_ GE143.out) | exact HB.out)⟩
        · rw [if_neg c10] at H
          have c10b0 : (t149 == t152) = false := beq_eq_false_iff_ne.mpr c10
          have c10b1 : (t149 != t152) = true := bne_iff_ne.mpr c10
          obtain rfl := Option.some.inj H
          have hcz25_0 : wr.cell? ⟨gb143, 0, none⟩ = some (.int .u8 a0_0) := (blk_cell BK143.out 0).trans rfl
          have hcz25_1 : wr.cell? ⟨gb143, 1, none⟩ = some (.int .u8 a0_1) := (blk_cell BK143.out 1).trans rfl
          have hcz25_2 : wr.cell? ⟨gb143, 2, none⟩ = some (.int .u8 a0_2) := (blk_cell BK143.out 2).trans rfl
          have hcz25_3 : wr.cell? ⟨gb143, 3, none⟩ = some (.int .u8 a0_3) := (blk_cell BK143.out 3).trans rfl
          have hcz25_4 : wr.cell? ⟨gb143, 4, none⟩ = some (.int .u8 a0_4) := (blk_cell BK143.out 4).trans rfl
          have hfz25_0 := blk_frozen BK143.out 0
          have hfz25_1 := blk_frozen BK143.out 1
          have hfz25_2 := blk_frozen BK143.out 2
          have hfz25_3 := blk_frozen BK143.out 3
          have hfz25_4 := blk_frozen BK143.out 4
          go_wp2_with (first | ((with_reducible refine gate_callee (f := 14) rfl ?_); refine goesL_ (some 29) rfl rfl Try.func14 (by kernel_rfl) rfl #[.agg #[.int .u8 a0_0, .int .u8 a0_1, .int .u8 a0_2, .int .u8 a0_3, .int .u8 a0_4], .int .i64 a1, .bool (x8_1 == 1)] rfl (by (try simp only [List.map_toArray, List.map_cons, List.map_nil]); first | done | rfl | (simp only [List.length_drop, List.length_take]; rfl)) ?_; (with_reducible refine (objects_Row.calls a0_0 a0_1 a0_2 a0_3 a0_4 a1 (x8_1 == 1) t149 t150 t151 _ A8.out).mono ?_); rintro e w26 ⟨rfl, hb⟩; refine ⟨_, rfl, ?_⟩; have n0_ := Aside0.mk (blk_below (g := gb143) (o := .cells #[.int .u8 a0_0, .int .u8 a0_1, .int .u8 a0_2, .int .u8 a0_3, .int .u8 a0_4] 29 (0, 0)) (by (with_reducible repeat (first | refine blk_drewN ?_ _ | refine blk_drew ?_ | refine blk_alloc ?_ _)); exact BK143.out) hb); have n1_ := Aside0.mk (below_step (by repeat (first | (with_reducible first | exact HB.out | apply below_alloc | apply pw_below_drewN | apply below_drew1 | refine below_set ?_ GE143.out) | exact HB.out)) hb); clear BK143; clear HB; have BK143 := n0_; have HB := n1_; clear n0_ n1_; (try clear hb); (try clear hb2); (try clear hk); (try clear hi); have hcz27_0 : w26.cell? ⟨gb143, 0, none⟩ = some (.int .u8 a0_0) := (blk_cell BK143.out 0).trans rfl; have hcz27_1 : w26.cell? ⟨gb143, 1, none⟩ = some (.int .u8 a0_1) := (blk_cell BK143.out 1).trans rfl; have hcz27_2 : w26.cell? ⟨gb143, 2, none⟩ = some (.int .u8 a0_2) := (blk_cell BK143.out 2).trans rfl; have hcz27_3 : w26.cell? ⟨gb143, 3, none⟩ = some (.int .u8 a0_3) := (blk_cell BK143.out 3).trans rfl; have hcz27_4 : w26.cell? ⟨gb143, 4, none⟩ = some (.int .u8 a0_4) := (blk_cell BK143.out 4).trans rfl; have hfz27_0 := blk_frozen BK143.out 0; have hfz27_1 := blk_frozen BK143.out 1; have hfz27_2 := blk_frozen BK143.out 2; have hfz27_3 := blk_frozen BK143.out 3; have hfz27_4 := blk_frozen BK143.out 4) | ((with_reducible refine gate_callee (f := 15) rfl ?_); refine goesL_ (some 38) rfl rfl Try.func15 (by kernel_rfl) rfl #[.agg #[.int .u8 a0_0, .int .u8 a0_1, .int .u8 a0_2, .int .u8 a0_3, .int .u8 a0_4], .int .i64 a1, .bool (x8_1 == 1)] rfl (by (try simp only [List.map_toArray, List.map_cons, List.map_nil]); first | done | rfl | (simp only [List.length_drop, List.length_take]; rfl)) ?_; (with_reducible refine (whirligigref16_Row.calls k1 a0_0 a0_1 a0_2 a0_3 a0_4 a1 (x8_1 == 1) t152 t153 t154 _ A9.out).mono ?_); rintro e w28 ⟨rfl, hb⟩; refine ⟨_, rfl, ?_⟩; have n0_ := Aside0.mk (blk_below (g := gb143) (o := .cells #[.int .u8 a0_0, .int .u8 a0_1, .int .u8 a0_2, .int .u8 a0_3, .int .u8 a0_4] 29 (0, 0)) (by (with_reducible repeat (first | refine blk_drewN ?_ _ | refine blk_drew ?_ | refine blk_alloc ?_ _)); exact BK143.out) hb); have n1_ := Aside0.mk (below_step (by repeat (first | (with_reducible first | exact HB.out | apply below_alloc | apply pw_below_drewN | apply below_drew1 | refine below_set ?_ GE143.out) | exact HB.out)) hb); clear BK143; clear HB; have BK143 := n0_; have HB := n1_; clear n0_ n1_; (try clear hb); (try clear hb2); (try clear hk); (try clear hi)))
          go_ret
          exact ⟨by first | rfl | (simp [errW_none, errW_some] <;> rfl) | (simp [*, errW_none, errW_some] <;> rfl), by repeat (first | (with_reducible first | exact HB.out | apply below_alloc | apply pw_below_drewN | apply below_drew1 | refine below_set ?_ GE143.out) | exact HB.out)⟩
      · rw [if_neg c7] at H
        have c7b0 : decide (x8_1 < 2) = false := decide_eq_false c7
        clear c7
        replace H := Option.bind_eq_some_iff.mp H
        obtain ⟨⟨t145, t146⟩, A290, H⟩ := H
        replace H : ((whirligigref16_Column.f k1 a0_0 a0_1 a0_2 a0_3 a0_4 a2).bind fun bt147 => (if t144 = true then (if t145 = bt147.1 then (some (t146 == bt147.2)) else (some false)) else (some false))) = some r := H
        have A29 := Aside0.mk A290
        clear A290
        replace H := Option.bind_eq_some_iff.mp H
        obtain ⟨⟨t147, t148⟩, A300, H⟩ := H
        replace H : (if t144 = true then (if t145 = t147 then (some (t146 == t148)) else (some false)) else (some false)) = some r := H
        have A30 := Aside0.mk A300
        clear A300
        by_cases c31 : t144 = true
        · subst c31
          have H1 : (if t145 = t147 then (some (t146 == t148)) else (some false)) = some r := by rw [if_pos rfl] at H; exact H
          clear H
          have H := H1
          clear H1
          by_cases c32 : t145 = t147
          · rw [if_pos c32] at H
            have c32b0 : (t145 == t147) = true := beq_iff_eq.mpr c32
            have c32b1 : (t145 != t147) = false := bne_eq_false_iff_eq.mpr c32
            clear c32
            obtain rfl := Option.some.inj H
            have hcz33_0 : wr.cell? ⟨gb143, 0, none⟩ = some (.int .u8 a0_0) := (blk_cell BK143.out 0).trans rfl
            have hcz33_1 : wr.cell? ⟨gb143, 1, none⟩ = some (.int .u8 a0_1) := (blk_cell BK143.out 1).trans rfl
            have hcz33_2 : wr.cell? ⟨gb143, 2, none⟩ = some (.int .u8 a0_2) := (blk_cell BK143.out 2).trans rfl
            have hcz33_3 : wr.cell? ⟨gb143, 3, none⟩ = some (.int .u8 a0_3) := (blk_cell BK143.out 3).trans rfl
            have hcz33_4 : wr.cell? ⟨gb143, 4, none⟩ = some (.int .u8 a0_4) := (blk_cell BK143.out 4).trans rfl
            have hfz33_0 := blk_frozen BK143.out 0
            have hfz33_1 := blk_frozen BK143.out 1
            have hfz33_2 := blk_frozen BK143.out 2
            have hfz33_3 := blk_frozen BK143.out 3
            have hfz33_4 := blk_frozen BK143.out 4
            go_wp2_with (first | ((with_reducible refine gate_callee (f := 16) rfl ?_); refine goesL_ (some 58) rfl rfl Try.func16 (by kernel_rfl) rfl #[.agg #[.int .u8 a0_0, .int .u8 a0_1, .int .u8 a0_2, .int .u8 a0_3, .int .u8 a0_4], .int .i64 a2] rfl (by (try simp only [List.map_toArray, List.map_cons, List.map_nil]); first | done | rfl | (simp only [List.length_drop, List.length_take]; rfl)) ?_; (with_reducible refine (objects_Column.calls k1 a0_0 a0_1 a0_2 a0_3 a0_4 a2 t145 t146 _ A29.out).mono ?_); rintro e w34 ⟨rfl, hb⟩; refine ⟨_, rfl, ?_⟩; have n0_ := Aside0.mk (blk_below (g := gb143) (o := .cells #[.int .u8 a0_0, .int .u8 a0_1, .int .u8 a0_2, .int .u8 a0_3, .int .u8 a0_4] 29 (0, 0)) (by (with_reducible repeat (first | refine blk_drewN ?_ _ | refine blk_drew ?_ | refine blk_alloc ?_ _)); exact BK143.out) hb); have n1_ := Aside0.mk (below_step (by repeat (first | (with_reducible first | exact HB.out | apply below_alloc | apply pw_below_drewN | apply below_drew1 | refine below_set ?_ GE143.out) | exact HB.out)) hb); clear BK143; clear HB; have BK143 := n0_; have HB := n1_; clear n0_ n1_; (try clear hb); (try clear hb2); (try clear hk); (try clear hi); have hcz35_0 : w34.cell? ⟨gb143, 0, none⟩ = some (.int .u8 a0_0) := (blk_cell BK143.out 0).trans rfl; have hcz35_1 : w34.cell? ⟨gb143, 1, none⟩ = some (.int .u8 a0_1) := (blk_cell BK143.out 1).trans rfl; have hcz35_2 : w34.cell? ⟨gb143, 2, none⟩ = some (.int .u8 a0_2) := (blk_cell BK143.out 2).trans rfl; have hcz35_3 : w34.cell? ⟨gb143, 3, none⟩ = some (.int .u8 a0_3) := (blk_cell BK143.out 3).trans rfl; have hcz35_4 : w34.cell? ⟨gb143, 4, none⟩ = some (.int .u8 a0_4) := (blk_cell BK143.out 4).trans rfl; have hfz35_0 := blk_frozen BK143.out 0; have hfz35_1 := blk_frozen BK143.out 1; have hfz35_2 := blk_frozen BK143.out 2; have hfz35_3 := blk_frozen BK143.out 3; have hfz35_4 := blk_frozen BK143.out 4) | ((with_reducible refine gate_callee (f := 17) rfl ?_); refine goesL_ (some 64) rfl rfl Try.func17 (by kernel_rfl) rfl #[.agg #[.int .u8 a0_0, .int .u8 a0_1, .int .u8 a0_2, .int .u8 a0_3, .int .u8 a0_4], .int .i64 a2] rfl (by (try simp only [List.map_toArray, List.map_cons, List.map_nil]); first | done | rfl | (simp only [List.length_drop, List.length_take]; rfl)) ?_; (with_reducible refine (whirligigref16_Column.calls k1 a0_0 a0_1 a0_2 a0_3 a0_4 a2 t147 t148 _ A30.out).mono ?_); rintro e w36 ⟨rfl, hb⟩; refine ⟨_, rfl, ?_⟩; have n0_ := Aside0.mk (blk_below (g := gb143) (o := .cells #[.int .u8 a0_0, .int .u8 a0_1, .int .u8 a0_2, .int .u8 a0_3, .int .u8 a0_4] 29 (0, 0)) (by (with_reducible repeat (first | refine blk_drewN ?_ _ | refine blk_drew ?_ | refine blk_alloc ?_ _)); exact BK143.out) hb); have n1_ := Aside0.mk (below_step (by repeat (first | (with_reducible first | exact HB.out | apply below_alloc | apply pw_below_drewN | apply below_drew1 | refine below_set ?_ GE143.out) | exact HB.out)) hb); clear BK143; clear HB; have BK143 := n0_; have HB := n1_; clear n0_ n1_; (try clear hb); (try clear hb2); (try clear hk); (try clear hi)))
            go_ret
            exact ⟨by first | rfl | (simp [errW_none, errW_some] <;> rfl) | (simp [*, errW_none, errW_some] <;> rfl), by repeat (first | (with_reducible first | exact HB.out | apply below_alloc | apply pw_below_drewN | apply below_drew1 | refine below_set ?_ GE143.out) | exact HB.out)⟩
          · rw [if_neg c32] at H
            have c32b0 : (t145 == t147) = false := beq_eq_false_iff_ne.mpr c32
            have c32b1 : (t145 != t147) = true := bne_iff_ne.mpr c32
            obtain rfl := Option.some.inj H
            have hcz37_0 : wr.cell? ⟨gb143, 0, none⟩ = some (.int .u8 a0_0) := (blk_cell BK143.out 0).trans rfl
            have hcz37_1 : wr.cell? ⟨gb143, 1, none⟩ = some (.int .u8 a0_1) := (blk_cell BK143.out 1).trans rfl
            have hcz37_2 : wr.cell? ⟨gb143, 2, none⟩ = some (.int .u8 a0_2) := (blk_cell BK143.out 2).trans rfl
            have hcz37_3 : wr.cell? ⟨gb143, 3, none⟩ = some (.int .u8 a0_3) := (blk_cell BK143.out 3).trans rfl
            have hcz37_4 : wr.cell? ⟨gb143, 4, none⟩ = some (.int .u8 a0_4) := (blk_cell BK143.out 4).trans rfl
            have hfz37_0 := blk_frozen BK143.out 0
            have hfz37_1 := blk_frozen BK143.out 1
            have hfz37_2 := blk_frozen BK143.out 2
            have hfz37_3 := blk_frozen BK143.out 3
            have hfz37_4 := blk_frozen BK143.out 4
            go_wp2_with (first | ((with_reducible refine gate_callee (f := 16) rfl ?_); refine goesL_ (some 58) rfl rfl Try.func16 (by kernel_rfl) rfl #[.agg #[.int .u8 a0_0, .int .u8 a0_1, .int .u8 a0_2, .int .u8 a0_3, .int .u8 a0_4], .int .i64 a2] rfl (by (try simp only [List.map_toArray, List.map_cons, List.map_nil]); first | done | rfl | (simp only [List.length_drop, List.length_take]; rfl)) ?_; (with_reducible refine (objects_Column.calls k1 a0_0 a0_1 a0_2 a0_3 a0_4 a2 t145 t146 _ A29.out).mono ?_); rintro e w38 ⟨rfl, hb⟩; refine ⟨_, rfl, ?_⟩; have n0_ := Aside0.mk (blk_below (g := gb143) (o := .cells #[.int .u8 a0_0, .int .u8 a0_1, .int .u8 a0_2, .int .u8 a0_3, .int .u8 a0_4] 29 (0, 0)) (by (with_reducible repeat (first | refine blk_drewN ?_ _ | refine blk_drew ?_ | refine blk_alloc ?_ _)); exact BK143.out) hb); have n1_ := Aside0.mk (below_step (by repeat (first | (with_reducible first | exact HB.out | apply below_alloc | apply pw_below_drewN | apply below_drew1 | refine below_set ?_ GE143.out) | exact HB.out)) hb); clear BK143; clear HB; have BK143 := n0_; have HB := n1_; clear n0_ n1_; (try clear hb); (try clear hb2); (try clear hk); (try clear hi); have hcz39_0 : w38.cell? ⟨gb143, 0, none⟩ = some (.int .u8 a0_0) := (blk_cell BK143.out 0).trans rfl; have hcz39_1 : w38.cell? ⟨gb143, 1, none⟩ = some (.int .u8 a0_1) := (blk_cell BK143.out 1).trans rfl; have hcz39_2 : w38.cell? ⟨gb143, 2, none⟩ = some (.int .u8 a0_2) := (blk_cell BK143.out 2).trans rfl; have hcz39_3 : w38.cell? ⟨gb143, 3, none⟩ = some (.int .u8 a0_3) := (blk_cell BK143.out 3).trans rfl; have hcz39_4 : w38.cell? ⟨gb143, 4, none⟩ = some (.int .u8 a0_4) := (blk_cell BK143.out 4).trans rfl; have hfz39_0 := blk_frozen BK143.out 0; have hfz39_1 := blk_frozen BK143.out 1; have hfz39_2 := blk_frozen BK143.out 2; have hfz39_3 := blk_frozen BK143.out 3; have hfz39_4 := blk_frozen BK143.out 4) | ((with_reducible refine gate_callee (f := 17) rfl ?_); refine goesL_ (some 64) rfl rfl Try.func17 (by kernel_rfl) rfl #[.agg #[.int .u8 a0_0, .int .u8 a0_1, .int .u8 a0_2, .int .u8 a0_3, .int .u8 a0_4], .int .i64 a2] rfl (by (try simp only [List.map_toArray, List.map_cons, List.map_nil]); first | done | rfl | (simp only [List.length_drop, List.length_take]; rfl)) ?_; (with_reducible refine (whirligigref16_Column.calls k1 a0_0 a0_1 a0_2 a0_3 a0_4 a2 t147 t148 _ A30.out).mono ?_); rintro e w40 ⟨rfl, hb⟩; refine ⟨_, rfl, ?_⟩; have n0_ := Aside0.mk (blk_below (g := gb143) (o := .cells #[.int .u8 a0_0, .int .u8 a0_1, .int .u8 a0_2, .int .u8 a0_3, .int .u8 a0_4] 29 (0, 0)) (by (with_reducible repeat (first | refine blk_drewN ?_ _ | refine blk_drew ?_ | refine blk_alloc ?_ _)); exact BK143.out) hb); have n1_ := Aside0.mk (below_step (by repeat (first | (with_reducible first | exact HB.out | apply below_alloc | apply pw_below_drewN | apply below_drew1 | refine below_set ?_ GE143.out) | exact HB.out)) hb); clear BK143; clear HB; have BK143 := n0_; have HB := n1_; clear n0_ n1_; (try clear hb); (try clear hb2); (try clear hk); (try clear hi)))
            go_ret
            exact ⟨by first | rfl | (simp [errW_none, errW_some] <;> rfl) | (simp [*, errW_none, errW_some] <;> rfl), by repeat (first | (with_reducible first | exact HB.out | apply below_alloc | apply pw_below_drewN | apply below_drew1 | refine below_set ?_ GE143.out) | exact HB.out)⟩
        · replace c31 := Bool.eq_false_iff.mpr c31
          subst c31
          have H1 : (some false) = some r := by rw [if_neg (show ¬ (false = true) by decide)] at H; exact H
          clear H
          have H := H1
          clear H1
          obtain rfl := Option.some.inj H
          have hcz41_0 : wr.cell? ⟨gb143, 0, none⟩ = some (.int .u8 a0_0) := (blk_cell BK143.out 0).trans rfl
          have hcz41_1 : wr.cell? ⟨gb143, 1, none⟩ = some (.int .u8 a0_1) := (blk_cell BK143.out 1).trans rfl
          have hcz41_2 : wr.cell? ⟨gb143, 2, none⟩ = some (.int .u8 a0_2) := (blk_cell BK143.out 2).trans rfl
          have hcz41_3 : wr.cell? ⟨gb143, 3, none⟩ = some (.int .u8 a0_3) := (blk_cell BK143.out 3).trans rfl
          have hcz41_4 : wr.cell? ⟨gb143, 4, none⟩ = some (.int .u8 a0_4) := (blk_cell BK143.out 4).trans rfl
          have hfz41_0 := blk_frozen BK143.out 0
          have hfz41_1 := blk_frozen BK143.out 1
          have hfz41_2 := blk_frozen BK143.out 2
          have hfz41_3 := blk_frozen BK143.out 3
          have hfz41_4 := blk_frozen BK143.out 4
          go_wp2_with (first | ((with_reducible refine gate_callee (f := 16) rfl ?_); refine goesL_ (some 58) rfl rfl Try.func16 (by kernel_rfl) rfl #[.agg #[.int .u8 a0_0, .int .u8 a0_1, .int .u8 a0_2, .int .u8 a0_3, .int .u8 a0_4], .int .i64 a2] rfl (by (try simp only [List.map_toArray, List.map_cons, List.map_nil]); first | done | rfl | (simp only [List.length_drop, List.length_take]; rfl)) ?_; (with_reducible refine (objects_Column.calls k1 a0_0 a0_1 a0_2 a0_3 a0_4 a2 t145 t146 _ A29.out).mono ?_); rintro e w42 ⟨rfl, hb⟩; refine ⟨_, rfl, ?_⟩; have n0_ := Aside0.mk (blk_below (g := gb143) (o := .cells #[.int .u8 a0_0, .int .u8 a0_1, .int .u8 a0_2, .int .u8 a0_3, .int .u8 a0_4] 29 (0, 0)) (by (with_reducible repeat (first | refine blk_drewN ?_ _ | refine blk_drew ?_ | refine blk_alloc ?_ _)); exact BK143.out) hb); have n1_ := Aside0.mk (below_step (by repeat (first | (with_reducible first | exact HB.out | apply below_alloc | apply pw_below_drewN | apply below_drew1 | refine below_set ?_ GE143.out) | exact HB.out)) hb); clear BK143; clear HB; have BK143 := n0_; have HB := n1_; clear n0_ n1_; (try clear hb); (try clear hb2); (try clear hk); (try clear hi); have hcz43_0 : w42.cell? ⟨gb143, 0, none⟩ = some (.int .u8 a0_0) := (blk_cell BK143.out 0).trans rfl; have hcz43_1 : w42.cell? ⟨gb143, 1, none⟩ = some (.int .u8 a0_1) := (blk_cell BK143.out 1).trans rfl; have hcz43_2 : w42.cell? ⟨gb143, 2, none⟩ = some (.int .u8 a0_2) := (blk_cell BK143.out 2).trans rfl; have hcz43_3 : w42.cell? ⟨gb143, 3, none⟩ = some (.int .u8 a0_3) := (blk_cell BK143.out 3).trans rfl; have hcz43_4 : w42.cell? ⟨gb143, 4, none⟩ = some (.int .u8 a0_4) := (blk_cell BK143.out 4).trans rfl; have hfz43_0 := blk_frozen BK143.out 0; have hfz43_1 := blk_frozen BK143.out 1; have hfz43_2 := blk_frozen BK143.out 2; have hfz43_3 := blk_frozen BK143.out 3; have hfz43_4 := blk_frozen BK143.out 4) | ((with_reducible refine gate_callee (f := 17) rfl ?_); refine goesL_ (some 64) rfl rfl Try.func17 (by kernel_rfl) rfl #[.agg #[.int .u8 a0_0, .int .u8 a0_1, .int .u8 a0_2, .int .u8 a0_3, .int .u8 a0_4], .int .i64 a2] rfl (by (try simp only [List.map_toArray, List.map_cons, List.map_nil]); first | done | rfl | (simp only [List.length_drop, List.length_take]; rfl)) ?_; (with_reducible refine (whirligigref16_Column.calls k1 a0_0 a0_1 a0_2 a0_3 a0_4 a2 t147 t148 _ A30.out).mono ?_); rintro e w44 ⟨rfl, hb⟩; refine ⟨_, rfl, ?_⟩; have n0_ := Aside0.mk (blk_below (g := gb143) (o := .cells #[.int .u8 a0_0, .int .u8 a0_1, .int .u8 a0_2, .int .u8 a0_3, .int .u8 a0_4] 29 (0, 0)) (by (with_reducible repeat (first | refine blk_drewN ?_ _ | refine blk_drew ?_ | refine blk_alloc ?_ _)); exact BK143.out) hb); have n1_ := Aside0.mk (below_step (by repeat (first | (with_reducible first | exact HB.out | apply below_alloc | apply pw_below_drewN | apply below_drew1 | refine below_set ?_ GE143.out) | exact HB.out)) hb); clear BK143; clear HB; have BK143 := n0_; have HB := n1_; clear n0_ n1_; (try clear hb); (try clear hb2); (try clear hk); (try clear hi)))
          go_ret
          exact ⟨by first | rfl | (simp [errW_none, errW_some] <;> rfl) | (simp [*, errW_none, errW_some] <;> rfl), by repeat (first | (with_reducible first | exact HB.out | apply below_alloc | apply pw_below_drewN | apply below_drew1 | refine below_set ?_ GE143.out) | exact HB.out)⟩

/-! ### whirligigref16_Extra: function 19 -/
def whirligigref16_Extra.l0 : Nat → List (S29) → Int → Int → Int → Option (Int)
  | 0, _, _, _, _ => none
  | k + 1, x0, x1, x5, x6 => if x6 < (x0.length : Int) then (if 0 ≤ x6 then (if ((rd_T29 x0 x6).f1) < 168 then (if (Int.tmod (wrap64 ((wrap64 ((rd_T29 x0 x6).f1)) + (wrap64 (x1)))) 8) > 5 then (whirligigref16_Extra.l0 k x0 x1 (wrap64 ((wrap64 (x5 + 11)) - 5)) (wrap64 (x6 + 1))) else (whirligigref16_Extra.l0 k x0 x1 (wrap64 ((wrap64 (x5 + 11)) - (Int.tmod (wrap64 ((wrap64 ((rd_T29 x0 x6).f1)) + (wrap64 (x1)))) 8))) (wrap64 (x6 + 1)))) else (whirligigref16_Extra.l0 k x0 x1 x5 (wrap64 (x6 + 1)))) else (none)) else (some x5)
def whirligigref16_Extra.f (k : Nat) (l0 : List (S29)) (a1 : Int) : Option (Int) := whirligigref16_Extra.l0 k l0 a1 (Int.tmod (wrap64 (a1)) 8) 0
theorem whirligigref16_Extra.mono_l : ∀ k, (∀ y0 y1 y2 y3, LeO (whirligigref16_Extra.l0 k y0 y1 y2 y3) (whirligigref16_Extra.l0 (k + 1) y0 y1 y2 y3))
  | 0 => fun _ _ _ _ r h => by simp [whirligigref16_Extra.l0] at h
  | k + 1 => by
    have ih0 := whirligigref16_Extra.mono_l k
    · intro y0 y1 y2 y3
      unfold whirligigref16_Extra.l0
      repeat' first
      | (with_reducible exact ih0 _ _ _ _)
      | (with_reducible exact LeO.refl _)
      | (with_reducible exact LeO.none _)
      | (with_reducible refine LeO.ite ?_ ?_)
      | (with_reducible refine LeO.bind ?_ (fun _ => ?_))
      | exact ih0 _ _ _ _
      | exact LeO.none _
      | refine LeO.ite ?_ ?_
      | refine LeO.bind ?_ (fun _ => ?_)
theorem whirligigref16_Extra.mono : ∀ a0 a1 k, LeO (whirligigref16_Extra.f k a0 a1) (whirligigref16_Extra.f (k + 1) a0 a1) := by
  intro a0 a1 k
  have ih0 := whirligigref16_Extra.mono_l k
  unfold whirligigref16_Extra.f
  repeat' first
      | (with_reducible exact ih0 _ _ _ _)
      | (with_reducible exact LeO.refl _)
      | (with_reducible exact LeO.none _)
      | (with_reducible refine LeO.ite ?_ ?_)
      | (with_reducible refine LeO.bind ?_ (fun _ => ?_))
      | exact ih0 _ _ _ _
      | exact LeO.none _
      | refine LeO.ite ?_ ?_
      | refine LeO.bind ?_ (fun _ => ?_)
set_option maxHeartbeats 8000000 in
set_option maxRecDepth 100000 in
theorem whirligigref16_Extra.calls (k : Nat) (A0 : Option Addr) (c0 : Nat) (l0 : List (S29)) (a1 : Int) (r : Int) (w : World) (hr0 : Kd.C k29 w A0 l0.length l0) (hc0 : l0.length ≤ c0) (h : whirligigref16_Extra.f k l0 a1 = some r) :
    Calls Try.prog 19 #[.slice A0 l0.length c0, .int .u8 a1] w fun e w' => e = .returned (.int .i64 r) ∧ Drawn0 w w' := by
  have HR0 := Aside0.mk hr0
  have HC0 := Aside0.mk hc0
  clear hr0 hc0
  have H : (whirligigref16_Extra.l0 k l0 a1 (Int.tmod (wrap64 (a1)) 8) 0) = some r := h
  clear h
  have H' := Aside0.mk H
  clear H
  go_enter Try.func19, Try.ntmps19
  go_wp2
  go_loopg [5, 6] k (fun kq v5 v6 w' => ∃ (x5_1 : Int) (x6_1 : Int), v5 = .int .i64 x5_1 ∧ v6 = .int .i64 x6_1 ∧ Aside0 (whirligigref16_Extra.l0 kq l0 a1 x5_1 x6_1 = some r) ∧ Aside0 (kq ≤ k) ∧ Drawn0 w w')
  case atStart => exact ⟨(Int.tmod (wrap64 (a1)) 8), (0), (by first | rfl | (simp; done) | (simp [*]; done)), (by first | rfl | (simp; done) | (simp [*]; done)), H', ⟨Nat.le_refl _⟩, by repeat (first | exact Drawn0.refl _ | apply Drawn0.step)⟩
  case round =>
    clear H'
    try clear c1
    try clear p2
    obtain ⟨x5_1, x6_1, rfl, rfl, HA, HK1, ⟨m1, rfl⟩⟩ := hrel
    cases gk with
    | zero => exact absurd HA.out (by simp [whirligigref16_Extra.l0])
    | succ k1 =>
      have H := HA.out
      clear HA
      simp only [whirligigref16_Extra.l0] at H
      by_cases c3 : x6_1 < (l0.length : Int)
      · rw [if_pos c3] at H
        have c3b0 : decide (x6_1 < (l0.length : Int)) = true := decide_eq_true c3
        clear c3
        by_cases c4 : 0 ≤ x6_1
        · rw [if_pos c4] at H
          have c4b0 : decide (0 ≤ x6_1) = true := decide_eq_true c4
          clear c4
          by_cases c5 : ((rd_T29 l0 x6_1).f1) < 168
          · rw [if_pos c5] at H
            have c5b0 : decide (((rd_T29 l0 x6_1).f1) < 168) = true := decide_eq_true c5
            clear c5
            by_cases c6 : (Int.tmod (wrap64 ((wrap64 ((rd_T29 l0 x6_1).f1)) + (wrap64 (a1)))) 8) > 5
            · rw [if_pos c6] at H
              have c6b0 : decide (5 < (Int.tmod (wrap64 ((wrap64 ((rd_T29 l0 x6_1).f1)) + (wrap64 (a1)))) 8)) = true := decide_eq_true c6
              clear c6
              have H' := Aside0.mk H
              clear H
              have p155 : 0 ≤ (x6_1 : Int) := of_decide_eq_true (by first | (with_reducible assumption) | assumption)
              have q155 : x6_1 < (l0.length : Int) := of_decide_eq_true (by first | (with_reducible assumption) | assumption)
              obtain ⟨ad155, e155, hx155_0, hx155_1, hx155_2, hx155_3, hx155_4⟩ := at_T29 HR0.out x6_1 p155 q155
              cases e155
              replace p155 := eq_true p155
              replace q155 := eq_true q155
              have p156 : 0 ≤ (x6_1 : Int) := of_decide_eq_true (by first | (with_reducible assumption) | assumption)
              have q156 : x6_1 < (l0.length : Int) := of_decide_eq_true (by first | (with_reducible assumption) | assumption)
              obtain ⟨ad156, e156, hx156_0, hx156_1, hx156_2, hx156_3, hx156_4⟩ := at_T29 HR0.out x6_1 p156 q156
              obtain rfl : ad155 = ad156 := (by injection e156)
              replace p156 := eq_true p156
              replace q156 := eq_true q156
              go_wp2
              go_roundg k1
              case measure => have := HK1.out; omega
              case rel => exact ⟨(wrap64 ((wrap64 (x5_1 + 11)) - 5)), (wrap64 (x6_1 + 1)), (by first | rfl | (simp; done) | (simp [*]; done)), (by first | rfl | (simp; done) | (simp [*]; done)), H', ⟨by have := HK1.out; omega⟩, by repeat (first | exact Drawn0.refl _ | apply Drawn0.step)⟩
            · rw [if_neg c6] at H
              have c6b0 : decide (5 < (Int.tmod (wrap64 ((wrap64 ((rd_T29 l0 x6_1).f1)) + (wrap64 (a1)))) 8)) = false := decide_eq_false c6
              clear c6
              have H' := Aside0.mk H
              clear H
              have p155 : 0 ≤ (x6_1 : Int) := of_decide_eq_true (by first | (with_reducible assumption) | assumption)
              have q155 : x6_1 < (l0.length : Int) := of_decide_eq_true (by first | (with_reducible assumption) | assumption)
              obtain ⟨ad155, e155, hx155_0, hx155_1, hx155_2, hx155_3, hx155_4⟩ := at_T29 HR0.out x6_1 p155 q155
              cases e155
              replace p155 := eq_true p155
              replace q155 := eq_true q155
              have p156 : 0 ≤ (x6_1 : Int) := of_decide_eq_true (by first | (with_reducible assumption) | assumption)
              have q156 : x6_1 < (l0.length : Int) := of_decide_eq_true (by first | (with_reducible assumption) | assumption)
              obtain ⟨ad156, e156, hx156_0, hx156_1, hx156_2, hx156_3, hx156_4⟩ := at_T29 HR0.out x6_1 p156 q156
              obtain rfl : ad155 = ad156 := (by injection e156)
              replace p156 := eq_true p156
              replace q156 := eq_true q156
              go_wp2
              go_roundg k1
              case measure => have := HK1.out; omega
              case rel => exact ⟨(wrap64 ((wrap64 (x5_1 + 11)) - (Int.tmod (wrap64 ((wrap64 ((rd_T29 l0 x6_1).f1)) + (wrap64 (a1)))) 8))), (wrap64 (x6_1 + 1)), (by first | rfl | (simp; done) | (simp [*]; done)), (by first | rfl | (simp; done) | (simp [*]; done)), H', ⟨by have := HK1.out; omega⟩, by repeat (first | exact Drawn0.refl _ | apply Drawn0.step)⟩
          · rw [if_neg c5] at H
            have c5b0 : decide (((rd_T29 l0 x6_1).f1) < 168) = false := decide_eq_false c5
            clear c5
            have H' := Aside0.mk H
            clear H
            have p155 : 0 ≤ (x6_1 : Int) := of_decide_eq_true (by first | (with_reducible assumption) | assumption)
            have q155 : x6_1 < (l0.length : Int) := of_decide_eq_true (by first | (with_reducible assumption) | assumption)
            obtain ⟨ad155, e155, hx155_0, hx155_1, hx155_2, hx155_3, hx155_4⟩ := at_T29 HR0.out x6_1 p155 q155
            cases e155
            replace p155 := eq_true p155
            replace q155 := eq_true q155
            go_wp2
            go_roundg k1
            case measure => have := HK1.out; omega
            case rel => exact ⟨(x5_1), (wrap64 (x6_1 + 1)), (by first | rfl | (simp; done) | (simp [*]; done)), (by first | rfl | (simp; done) | (simp [*]; done)), H', ⟨by have := HK1.out; omega⟩, by repeat (first | exact Drawn0.refl _ | apply Drawn0.step)⟩
        · rw [if_neg c4] at H
          exact absurd H (by simp)
      · rw [if_neg c3] at H
        have c3b0 : decide (x6_1 < (l0.length : Int)) = false := decide_eq_false c3
        clear c3
        obtain rfl := Option.some.inj H
        go_wp2
        go_ret
        exact ⟨by first | rfl | (simp; done) | (simp [*]; done), by repeat (first | exact Drawn0.refl _ | apply Drawn0.step)⟩

/-! ### whirligiglaw16_ObjectsExtras: function 5 -/
def whirligiglaw16_ObjectsExtras.f (k : Nat) (l0 : List (S29)) (a1 : Int) : Option (Bool) := (whirligiglaw16_shown.f).bind fun t157 => (if t157 = true then ((objects_Extra.f k l0 a1).bind fun t158 => ((whirligigref16_Extra.f k l0 a1).bind fun t159 => (some (t158 == t159)))) else (some false))
theorem whirligiglaw16_ObjectsExtras.mono : ∀ a0 a1 k, LeO (whirligiglaw16_ObjectsExtras.f k a0 a1) (whirligiglaw16_ObjectsExtras.f (k + 1) a0 a1) := by
  intro a0 a1 k
  unfold whirligiglaw16_ObjectsExtras.f
  repeat' first
      | (with_reducible exact objects_Extra.mono _ _ _)
      | (with_reducible exact whirligigref16_Extra.mono _ _ _)
      | (with_reducible exact LeO.refl _)
      | (with_reducible exact LeO.none _)
      | (with_reducible refine LeO.ite ?_ ?_)
      | (with_reducible refine LeO.bind ?_ (fun _ => ?_))
      | exact objects_Extra.mono _ _ _
      | exact whirligigref16_Extra.mono _ _ _
      | exact LeO.none _
      | refine LeO.ite ?_ ?_
      | refine LeO.bind ?_ (fun _ => ?_)
set_option maxHeartbeats 8000000 in
set_option maxRecDepth 100000 in
theorem whirligiglaw16_ObjectsExtras.calls (k : Nat) (A0 : Option Addr) (c0 : Nat) (l0 : List (S29)) (a1 : Int) (r : Bool) (w : World) (hr0 : Kd.C k29 w A0 l0.length l0) (hc0 : l0.length ≤ c0) (h : whirligiglaw16_ObjectsExtras.f k l0 a1 = some r) :
    Calls Try.prog 5 #[.slice A0 l0.length c0, .int .u8 a1] w fun e w' => e = .returned (.bool r) ∧ Below w.heap.size w w' := by
  have HR0 := Aside0.mk hr0
  have HC0 := Aside0.mk hc0
  clear hr0 hc0
  have HB := Aside0.mk (Below.refl w.heap.size w)
  have H : ((whirligiglaw16_shown.f).bind fun t157 => (if t157 = true then ((objects_Extra.f k l0 a1).bind fun t158 => ((whirligigref16_Extra.f k l0 a1).bind fun t159 => (some (t158 == t159)))) else (some false))) = some r := h
  clear h
  replace H := Option.bind_eq_some_iff.mp H
  obtain ⟨t157, A30, H⟩ := H
  replace H : (if t157 = true then ((objects_Extra.f k l0 a1).bind fun t158 => ((whirligigref16_Extra.f k l0 a1).bind fun t159 => (some (t158 == t159)))) else (some false)) = some r := H
  have A3 := Aside0.mk A30
  clear A30
  by_cases c4 : t157 = true
  · subst c4
    have H1 : ((objects_Extra.f k l0 a1).bind fun t158 => ((whirligigref16_Extra.f k l0 a1).bind fun t159 => (some (t158 == t159)))) = some r := by rw [if_pos rfl] at H; exact H
    clear H
    have H := H1
    clear H1
    replace H := Option.bind_eq_some_iff.mp H
    obtain ⟨t158, A50, H⟩ := H
    replace H : ((whirligigref16_Extra.f k l0 a1).bind fun t159 => (some (t158 == t159))) = some r := H
    have A5 := Aside0.mk A50
    clear A50
    replace H := Option.bind_eq_some_iff.mp H
    obtain ⟨t159, A60, H⟩ := H
    replace H : (some (t158 == t159)) = some r := H
    have A6 := Aside0.mk A60
    clear A60
    obtain rfl := Option.some.inj H
    go_enter Try.func5, Try.ntmps5
    go_wp2_with (first | ((with_reducible refine gate_callee (f := 10) rfl ?_); refine goesL_ (some 6) rfl rfl Try.func10 (by kernel_rfl) rfl #[] rfl (by (try simp only [List.map_toArray, List.map_cons, List.map_nil]); first | done | rfl | (simp only [List.length_drop, List.length_take]; rfl)) ?_; (with_reducible refine (whirligiglaw16_shown.calls  true _ A3.out).mono ?_); rintro e w7 ⟨rfl, hb⟩; refine ⟨_, rfl, ?_⟩; have n0_ := Aside0.mk (below_step (by repeat (first | (with_reducible first | exact HB.out | apply below_alloc | apply pw_below_drewN | apply below_drew1) | exact HB.out)) hb); clear HB; have HB := n0_; clear n0_; (try clear hb); (try clear hb2); (try clear hk); (try clear hi)) | (go_at_call 18; (with_reducible refine (objects_Extra.calls k _ _ l0 a1 t158 _ ?side1 ?side2 A5.out).mono ?_); (case side1 => repeat (first | exact (Kd.C_below HR0.out HB.out) | (with_reducible refine Kd.C_alloc ?_ _) | (with_reducible refine Kd.C_drewN ?_ _) | (with_reducible refine Kd.C_drew ?_))); (case side2 => exact HC0.out); rintro e w8 ⟨rfl, hb⟩; have n0_ := Aside0.mk (below_step (by repeat (first | (with_reducible first | exact HB.out | apply below_alloc | apply pw_below_drewN | apply below_drew1) | exact HB.out)) hb); clear HB; have HB := n0_; clear n0_; (try clear hb); (try clear hb2); (try clear hk); (try clear hi)) | (go_at_call 19; (with_reducible refine (whirligigref16_Extra.calls k _ _ l0 a1 t159 _ ?side1 ?side2 A6.out).mono ?_); (case side1 => repeat (first | exact (Kd.C_below HR0.out HB.out) | (with_reducible refine Kd.C_alloc ?_ _) | (with_reducible refine Kd.C_drewN ?_ _) | (with_reducible refine Kd.C_drew ?_))); (case side2 => exact HC0.out); rintro e w' ⟨rfl, ⟨nd, rfl⟩⟩))
    go_ret
    exact ⟨by first | rfl | (simp [errW_none, errW_some] <;> rfl) | (simp [*, errW_none, errW_some] <;> rfl), by repeat (first | (with_reducible first | exact HB.out | apply below_alloc | apply pw_below_drewN | apply below_drew1) | exact HB.out)⟩
  · replace c4 := Bool.eq_false_iff.mpr c4
    subst c4
    have H1 : (some false) = some r := by rw [if_neg (show ¬ (false = true) by decide)] at H; exact H
    clear H
    have H := H1
    clear H1
    obtain rfl := Option.some.inj H
    go_enter Try.func5, Try.ntmps5
    go_wp2_with (first | ((with_reducible refine gate_callee (f := 10) rfl ?_); refine goesL_ (some 6) rfl rfl Try.func10 (by kernel_rfl) rfl #[] rfl (by (try simp only [List.map_toArray, List.map_cons, List.map_nil]); first | done | rfl | (simp only [List.length_drop, List.length_take]; rfl)) ?_; (with_reducible refine (whirligiglaw16_shown.calls  false _ A3.out).mono ?_); rintro e w9 ⟨rfl, hb⟩; refine ⟨_, rfl, ?_⟩; have n0_ := Aside0.mk (below_step (by repeat (first | (with_reducible first | exact HB.out | apply below_alloc | apply pw_below_drewN | apply below_drew1) | exact HB.out)) hb); clear HB; have HB := n0_; clear n0_; (try clear hb); (try clear hb2); (try clear hk); (try clear hi)))
    go_ret
    exact ⟨by first | rfl | (simp [errW_none, errW_some] <;> rfl) | (simp [*, errW_none, errW_some] <;> rfl), by repeat (first | (with_reducible first | exact HB.out | apply below_alloc | apply pw_below_drewN | apply below_drew1) | exact HB.out)⟩

-- NOT PRINTED: function 6 (whirligiglaw16_ObjectsTen)

end Go.Proofs.Ytfpepeembbpncaa.P
