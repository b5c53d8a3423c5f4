/- The machine side of functions of the program: each as a plain Lean function, with a proof that the call comes to its answers; written by a program of this session (wip/tools/hp.py). Conditions: none. -/
import Derived.Test.YtfpepeembbpncaaPx0
import Derived.Test.YtfpepeembbpncaaPx2
namespace Go.Proofs.Ytfpepeembbpncaa.P
open Go.RowKit Go.Proofs.YtfpepeembbpncaaW.PrintWords Go.Proofs.YtfpepeembbpncaaW.PrintLast Go.Proofs.YtfpepeembbpncaaW.PrintMore
attribute [local go_sem] max2_int min2_int max_two min_two max_three min_three max_four min_four   -- for this text's walks alone
set_option linter.unusedVariables false
set_option linter.unusedSimpArgs false

/-! ### whirligigref16_Scan: function 13 -/
mutual
def whirligigref16_Scan.l0 : Nat → List Int → Int → Bool → List (S29) → Int → Option ((List (S29)))
  | 0, _, _, _, _, _ => none
  | k + 1, x0, x1, x2, x7, x8 => if x8 < 40 then (whirligigref16_Scan.j1 k x0 x1 x2 x7 x8 (decide ((x7.length : Int) < 10))) else (whirligigref16_Scan.j1 k x0 x1 x2 x7 x8 false)
def whirligigref16_Scan.j1 : Nat → List Int → Int → Bool → List (S29) → Int → Bool → Option ((List (S29)))
  | 0, _, _, _, _, _, _ => none
  | k + 1, x0, x1, x2, x7, x8, x16 => if x16 = true then ((whirligigref16_Obj.f x0 x8).bind fun bt120 => ((whirligigref16_On.f bt120.1 bt120.2.1 bt120.2.2.1 bt120.2.2.2.1 bt120.2.2.2.2 x1 x2).bind fun t126 => (if t126 = true then (if x7.length < 28147497671065 then (whirligigref16_Scan.l0 k x0 x1 x2 (x7 ++ [(⟨bt120.1, bt120.2.1, bt120.2.2.1, bt120.2.2.2.1, bt120.2.2.2.2⟩ : S29)]) (wrap64 (x8 + 1))) else (none)) else (whirligigref16_Scan.l0 k x0 x1 x2 x7 (wrap64 (x8 + 1)))))) else (some x7)
end
def whirligigref16_Scan.f (k : Nat) (l0 : List Int) (a1 : Int) (a2 : Bool) : Option ((List (S29))) := whirligigref16_Scan.l0 k l0 a1 a2 ([] : List (S29)) 0
theorem whirligigref16_Scan.mono_l : ∀ k, (∀ y0 y1 y2 y3 y4, LeO (whirligigref16_Scan.l0 k y0 y1 y2 y3 y4) (whirligigref16_Scan.l0 (k + 1) y0 y1 y2 y3 y4)) ∧ (∀ y0 y1 y2 y3 y4 y5, LeO (whirligigref16_Scan.j1 k y0 y1 y2 y3 y4 y5) (whirligigref16_Scan.j1 (k + 1) y0 y1 y2 y3 y4 y5))
  | 0 => ⟨fun _ _ _ _ _ r h => by simp [whirligigref16_Scan.l0] at h, fun _ _ _ _ _ _ r h => by simp [whirligigref16_Scan.j1] at h⟩
  | k + 1 => by
    obtain ⟨ih0, ih1⟩ := whirligigref16_Scan.mono_l k
    refine ⟨?_, ?_⟩
    · intro y0 y1 y2 y3 y4
      unfold whirligigref16_Scan.l0
      repeat' first
      | (with_reducible exact ih0 _ _ _ _ _)
      | (with_reducible exact ih1 _ _ _ _ _ _)
      | (with_reducible exact LeO.refl _)
      | (with_reducible exact LeO.none _)
      | (with_reducible refine LeO.ite ?_ ?_)
      | (with_reducible refine LeO.bind ?_ (fun _ => ?_))
      | exact ih0 _ _ _ _ _
      | exact ih1 _ _ _ _ _ _
      | exact LeO.none _
      | refine LeO.ite ?_ ?_
      | refine LeO.bind ?_ (fun _ => ?_)
    · intro y0 y1 y2 y3 y4 y5
      unfold whirligigref16_Scan.j1
      repeat' first
      | (with_reducible exact ih0 _ _ _ _ _)
      | (with_reducible exact ih1 _ _ _ _ _ _)
      | (with_reducible exact LeO.refl _)
      | (with_reducible exact LeO.none _)
      | (with_reducible refine LeO.ite ?_ ?_)
      | (with_reducible refine LeO.bind ?_ (fun _ => ?_))
      | exact ih0 _ _ _ _ _
      | exact ih1 _ _ _ _ _ _
      | exact LeO.none _
      | refine LeO.ite ?_ ?_
      | refine LeO.bind ?_ (fun _ => ?_)
theorem whirligigref16_Scan.mono : ∀ a0 a1 a2 k, LeO (whirligigref16_Scan.f k a0 a1 a2) (whirligigref16_Scan.f (k + 1) a0 a1 a2) := by
  intro a0 a1 a2 k
  obtain ⟨ih0, ih1⟩ := whirligigref16_Scan.mono_l k
  unfold whirligigref16_Scan.f
  repeat' first
      | (with_reducible exact ih0 _ _ _ _ _)
      | (with_reducible exact ih1 _ _ _ _ _ _)
      | (with_reducible exact LeO.refl _)
      | (with_reducible exact LeO.none _)
      | (with_reducible refine LeO.ite ?_ ?_)
      | (with_reducible refine LeO.bind ?_ (fun _ => ?_))
      | exact ih0 _ _ _ _ _
      | exact ih1 _ _ _ _ _ _
      | exact LeO.none _
      | refine LeO.ite ?_ ?_
      | refine LeO.bind ?_ (fun _ => ?_)
set_option maxHeartbeats 8000000 in
set_option maxRecDepth 100000 in
theorem whirligigref16_Scan.calls (k : Nat) (A0 : Option Addr) (c0 : Nat) (l0 : List Int) (a1 : Int) (a2 : Bool) (r : List (S29)) (w : World) (hr0 : Kd.C (Kd.int .u8) w A0 l0.length l0) (hc0 : l0.length ≤ c0) (h : whirligigref16_Scan.f k l0 a1 a2 = some r) :
    Calls Try.prog 13 #[.slice A0 l0.length c0, .int .i64 a1, .bool a2] w fun e w' => ∃ v0_ : Value, e = .returned (v0_) ∧ Kd.R k29 29 w' w.heap.size (fun _ => True) v0_ r ∧ Below w.heap.size w w' := by
  have hu29 := Try.underlying29
  have HR0 := Aside0.mk hr0
  have HC0 := Aside0.mk hc0
  clear hr0 hc0
  have HB := Aside0.mk (Below.refl w.heap.size w)
  have H : (whirligigref16_Scan.l0 k l0 a1 a2 ([] : List (S29)) 0) = some r := h
  clear h
  have H' := Aside0.mk H
  clear H
  go_enter Try.func13, Try.ntmps13
  go_wp2
  go_loopg [7, 8] k (fun kq v7 v8 w' => ∃ (x7_1 : List (S29)) (x8_1 : Int), v8 = .int .i64 x8_1 ∧ Aside0 (whirligigref16_Scan.l0 kq l0 a1 a2 x7_1 x8_1 = some r) ∧ Aside0 (kq ≤ k) ∧ Aside0 (Kd.R k29 29 w' w.heap.size (fun _ => True) v7 x7_1) ∧ Aside0 (Below w.heap.size w w'))
  case atStart => exact ⟨(([] : List (S29))), (0), (by first | rfl | (simp; done) | (simp [*]; done)), H', ⟨Nat.le_refl _⟩, ⟨by first | exact Kd.R_nil _ _ _ _ _ | exact Kd.N_nil _ _ _ _ _ | exact Kd.V_nil _ _ _ _ _ | exact Kd.Q_nil _ _ _ _ _ | exact Kd.S_nil _ _ _ _ _⟩, ⟨by repeat (first | (with_reducible first | exact HB.out | apply below_alloc | apply pw_below_drewN | apply below_drew1) | exact HB.out)⟩⟩
  case round =>
    clear H'
    try clear c1
    try clear p2
    obtain ⟨x7_1, x8_1, rfl, HA, HK1, HO_7, HB⟩ := hrel
    cases gk with
    | zero => exact absurd HA.out (by simp [whirligigref16_Scan.l0])
    | succ k1 =>
      have H := HA.out
      clear HA
      simp only [whirligigref16_Scan.l0] at H
      have HC4 := Aside0.mk H
      clear H
      go_upto_region 3 with (fail)
      go_cut [16] (fun v16 wc => ∃ (kq : Nat) (x16_3 : Bool), v16 = .bool x16_3 ∧ Aside0 (whirligigref16_Scan.j1 kq l0 a1 a2 x7_1 x8_1 x16_3 = some r) ∧ Aside0 (kq ≤ k1) ∧ Aside0 (Kd.R k29 29 wc w.heap.size (fun _ => True) u7 x7_1) ∧ Aside0 (Below w.heap.size w wc))
      case first =>
        have H := HC4.out
        clear HC4
        by_cases c5 : x8_1 < 40
        · rw [if_pos c5] at H
          have c5b0 : decide (x8_1 < 40) = true := decide_eq_true c5
          clear c5
          (first | rw [c5b0] | (simp only [i64_w, i32_w]; rw [c5b0]) | skip)
          have H' := Aside0.mk H
          clear H
          obtain ⟨Ao6, co6, eo6⟩ := Kd.R_slice HO_7.out
          subst eo6
          go_wp2
          go_meet
          case rel => exact ⟨_, (decide ((x7_1.length : Int) < 10)), (by first | rfl | (simp; done) | (simp [*]; done)), H', ⟨by have := HK1.out; first | omega | exact Nat.le_refl _⟩, ⟨by (with_reducible repeat (first | apply Kd.R_alloc | apply Kd.R_drewN | apply Kd.R_drew)); exact HO_7.out⟩, ⟨by repeat (first | (with_reducible first | exact HB.out | apply below_alloc | apply pw_below_drewN | apply below_drew1) | exact HB.out)⟩⟩
        · rw [if_neg c5] at H
          have c5b0 : decide (x8_1 < 40) = false := decide_eq_false c5
          clear c5
          (first | rw [c5b0] | (simp only [i64_w, i32_w]; rw [c5b0]) | skip)
          have H' := Aside0.mk H
          clear H
          go_wp2
          go_meet
          case rel => exact ⟨_, (false), (by first | rfl | (simp; done) | (simp [*]; done)), H', ⟨by have := HK1.out; first | omega | exact Nat.le_refl _⟩, ⟨by (with_reducible repeat (first | apply Kd.R_alloc | apply Kd.R_drewN | apply Kd.R_drew)); exact HO_7.out⟩, ⟨by repeat (first | (with_reducible first | exact HB.out | apply below_alloc | apply pw_below_drewN | apply below_drew1) | exact HB.out)⟩⟩
      case rest =>
        clear HC4
        try clear c1
        try clear p2
        try clear c5
        try clear c5b0
        try clear p2
        obtain ⟨kq, x16_3, rfl, HA, HJ3, HO_7, HB⟩ := hcut
        cases kq with
        | zero => exact absurd HA.out (by simp [whirligigref16_Scan.j1])
        | succ kj3 =>
          have H := HA.out
          clear HA
          simp only [whirligigref16_Scan.j1] at H
          by_cases c7 : x16_3 = true
          · subst c7
            have H1 : ((whirligigref16_Obj.f l0 x8_1).bind fun bt120 => ((whirligigref16_On.f bt120.1 bt120.2.1 bt120.2.2.1 bt120.2.2.2.1 bt120.2.2.2.2 a1 a2).bind fun t126 => (if t126 = true then (if x7_1.length < 28147497671065 then (whirligigref16_Scan.l0 kj3 l0 a1 a2 (x7_1 ++ [(⟨bt120.1, bt120.2.1, bt120.2.2.1, bt120.2.2.2.1, bt120.2.2.2.2⟩ : S29)]) (wrap64 (x8_1 + 1))) else (none)) else (whirligigref16_Scan.l0 kj3 l0 a1 a2 x7_1 (wrap64 (x8_1 + 1)))))) = some r := by rw [if_pos rfl] at H; exact H
            clear H
            have H := H1
            clear H1
            replace H := Option.bind_eq_some_iff.mp H
            obtain ⟨⟨t120, t121, t122, t123, t124⟩, A80, H⟩ := H
            replace H : ((whirligigref16_On.f t120 t121 t122 t123 t124 a1 a2).bind fun t126 => (if t126 = true then (if x7_1.length < 28147497671065 then (whirligigref16_Scan.l0 kj3 l0 a1 a2 (x7_1 ++ [(⟨t120, t121, t122, t123, t124⟩ : S29)]) (wrap64 (x8_1 + 1))) else (none)) else (whirligigref16_Scan.l0 kj3 l0 a1 a2 x7_1 (wrap64 (x8_1 + 1))))) = some r := H
            have A8 := Aside0.mk A80
            clear A80
            replace H := Option.bind_eq_some_iff.mp H
            obtain ⟨t126, A90, H⟩ := H
            replace H : (if t126 = true then (if x7_1.length < 28147497671065 then (whirligigref16_Scan.l0 kj3 l0 a1 a2 (x7_1 ++ [(⟨t120, t121, t122, t123, t124⟩ : S29)]) (wrap64 (x8_1 + 1))) else (none)) else (whirligigref16_Scan.l0 kj3 l0 a1 a2 x7_1 (wrap64 (x8_1 + 1)))) = some r := H
            have A9 := Aside0.mk A90
            clear A90
            by_cases c10 : t126 = true
            · subst c10
              have H1 : (if x7_1.length < 28147497671065 then (whirligigref16_Scan.l0 kj3 l0 a1 a2 (x7_1 ++ [(⟨t120, t121, t122, t123, t124⟩ : S29)]) (wrap64 (x8_1 + 1))) else (none)) = some r := by rw [if_pos rfl] at H; exact H
              clear H
              have H := H1
              clear H1
              by_cases c11 : x7_1.length < 28147497671065
              · rw [if_pos c11] at H
                have LMc11 := Aside0.mk c11
                clear c11
                obtain ⟨y127, hy127⟩ : ∃ y_ : List (S29), y_ = (x7_1 ++ [(⟨t120, t121, t122, t123, t124⟩ : S29)]) := ⟨_, rfl⟩
                replace H : (whirligigref16_Scan.l0 kj3 l0 a1 a2 y127 (wrap64 (x8_1 + 1))) = some r := by first | (rw [hy127]; with_reducible exact H) | (have H2_ := (Option.bind_some _ _).symm.trans H; rw [hy127]; with_reducible exact H2_) | (have H2_ := (Option.bind_some _ _).symm.trans H; with_reducible exact H2_) | with_reducible exact H | (rw [hy127]; exact H) | exact H
                have Ny127 := Aside0.mk hy127
                clear hy127
                have H' := Aside0.mk H
                clear H
                go_wp2_with (first | ((with_reducible refine gate_callee (f := 24) rfl ?_); refine goesL_ (some 21) rfl rfl Try.func24 (by kernel_rfl) rfl #[.slice A0 l0.length c0, .int .i64 x8_1] rfl (by (try simp only [List.map_toArray, List.map_cons, List.map_nil]); first | done | rfl | (simp only [List.length_drop, List.length_take]; rfl)) ?_; (with_reducible refine (whirligigref16_Obj.calls _ _ l0 x8_1 t120 t121 t122 t123 t124 _ ?side1 ?side2 A8.out).mono ?_); (case side1 => repeat (first | exact (Kd.C_below HR0.out HB.out) | (with_reducible refine Kd.C_alloc ?_ _) | (with_reducible refine Kd.C_drewN ?_ _) | (with_reducible refine Kd.C_drew ?_))); (case side2 => exact HC0.out); rintro e w12 ⟨rfl, hb⟩; refine ⟨_, rfl, ?_⟩; have n0_ := Aside0.mk (Kd.R_below (by (with_reducible repeat (first | apply Kd.R_alloc | apply Kd.R_drewN | apply Kd.R_drew)); exact HO_7.out) hb); have n1_ := Aside0.mk (below_step (by repeat (first | (with_reducible first | exact HB.out | apply below_alloc | apply pw_below_drewN | apply below_drew1) | exact HB.out)) hb); clear HO_7; clear HB; have HO_7 := n0_; have HB := n1_; clear n0_ n1_; (try clear hb); (try clear hb2); (try clear hk); (try clear hi)) | ((with_reducible refine gate_dst (N := 9) rfl ?_); (try (refine gate_guard (by rfl) ?_; dsimp only)); refine box_event ?hg (N := 9) ?hd (cs := #[.int .u8 0, .int .u8 0, .int .u8 0, .int .u8 0, .int .u8 0]) (t := 29) ?hr ?_; (case hd => rfl); (case hg => rfl); (case hr => first | (go_simp; done) | (go_simp; rfl)); intro gb125 hg w13 hbox hb; have n0_ := Aside0.mk (Kd.R_below (Kd.R_elderB (by (with_reducible repeat (first | apply Kd.R_alloc | apply Kd.R_drewN | apply Kd.R_drew)); exact HO_7.out) gb125 (Nat.le_of_eq hg.symm)) hb); have n1_ := Aside0.mk (below_step (by repeat (first | (with_reducible first | exact HB.out | apply below_alloc | apply pw_below_drewN | apply below_drew1) | exact HB.out)) hb); have n2_ := Aside0.mk (hbox); have n3_ := Aside0.mk ((by rw [hg]; exact (below_size (by repeat (first | (with_reducible first | exact HB.out | apply below_alloc | apply pw_below_drewN | apply below_drew1) | exact HB.out))) : w.heap.size ≤ gb125)); have n4_ := Aside0.mk ((by rw [hg]; exact (below_size (by repeat (first | (with_reducible first | exact HB.out | apply below_alloc | apply pw_below_drewN | apply below_drew1) | exact HB.out))) : w.heap.size ≤ gb125)); clear HO_7; clear HB; have HO_7 := n0_; have HB := n1_; have BK125 := n2_; have GW125 := n3_; have GE125 := n4_; clear n0_ n1_ n2_ n3_ n4_; clear hb hbox hg; have hcz14_0 : w13.cell? ⟨gb125, 0, none⟩ = some (.int .u8 0) := (blk_cell BK125.out 0).trans rfl; have hcz14_1 : w13.cell? ⟨gb125, 1, none⟩ = some (.int .u8 0) := (blk_cell BK125.out 1).trans rfl; have hcz14_2 : w13.cell? ⟨gb125, 2, none⟩ = some (.int .u8 0) := (blk_cell BK125.out 2).trans rfl; have hcz14_3 : w13.cell? ⟨gb125, 3, none⟩ = some (.int .u8 0) := (blk_cell BK125.out 3).trans rfl; have hcz14_4 : w13.cell? ⟨gb125, 4, none⟩ = some (.int .u8 0) := (blk_cell BK125.out 4).trans rfl; have hfz14_0 := blk_frozen BK125.out 0; have hfz14_1 := blk_frozen BK125.out 1; have hfz14_2 := blk_frozen BK125.out 2; have hfz14_3 := blk_frozen BK125.out 3; have hfz14_4 := blk_frozen BK125.out 4) | ((with_reducible refine gate_callee (f := 25) rfl ?_); refine goesL_ (some 25) rfl rfl Try.func25 (by kernel_rfl) rfl #[.agg #[.int .u8 t120, .int .u8 t121, .int .u8 t122, .int .u8 t123, .int .u8 t124], .int .i64 a1, .bool a2] rfl (by (try simp only [List.map_toArray, List.map_cons, List.map_nil]); first | done | rfl | (simp only [List.length_drop, List.length_take]; rfl)) ?_; (with_reducible refine (whirligigref16_On.calls t120 t121 t122 t123 t124 a1 a2 true _ A9.out).mono ?_); rintro e w15 ⟨rfl, hb⟩; refine ⟨_, rfl, ?_⟩; have n0_ := Aside0.mk (Kd.R_below (by (with_reducible repeat (first | apply Kd.R_alloc | apply Kd.R_drewN | apply Kd.R_drew)); exact (Kd.R_mono (Kd.R_far (p := ⟨gb125, 4, none⟩) (Kd.R_far (p := ⟨gb125, 3, none⟩) (Kd.R_far (p := ⟨gb125, 2, none⟩) (Kd.R_far (p := ⟨gb125, 1, none⟩) (Kd.R_far (p := ⟨gb125, 0, none⟩) (Kd.R_mono HO_7.out (fun k_ hk => (⟨hk, hk.2⟩ : _ ∧ k_ ≠ gb125))) (fun _ hk => hk.2) (.int .u8 t120)) (fun _ hk => hk.2) (.int .u8 t121)) (fun _ hk => hk.2) (.int .u8 t122)) (fun _ hk => hk.2) (.int .u8 t123)) (fun _ hk => hk.2) (.int .u8 t124)) (fun _ h_ => h_.1))) hb); have n1_ := Aside0.mk (blk_below (g := gb125) (o := .cells #[.int .u8 t120, .int .u8 t121, .int .u8 t122, .int .u8 t123, .int .u8 t124] 29 (0, 0)) (by (with_reducible repeat (first | refine blk_drewN ?_ _ | refine blk_drew ?_ | refine blk_alloc ?_ _)); refine blk_put (cs := #[.int .u8 t120, .int .u8 t121, .int .u8 t122, .int .u8 t123, .int .u8 0]) ?_ 4 _ rfl; (with_reducible repeat (first | refine blk_drewN ?_ _ | refine blk_drew ?_ | refine blk_alloc ?_ _)); refine blk_put (cs := #[.int .u8 t120, .int .u8 t121, .int .u8 t122, .int .u8 0, .int .u8 0]) ?_ 3 _ rfl; (with_reducible repeat (first | refine blk_drewN ?_ _ | refine blk_drew ?_ | refine blk_alloc ?_ _)); refine blk_put (cs := #[.int .u8 t120, .int .u8 t121, .int .u8 0, .int .u8 0, .int .u8 0]) ?_ 2 _ rfl; (with_reducible repeat (first | refine blk_drewN ?_ _ | refine blk_drew ?_ | refine blk_alloc ?_ _)); refine blk_put (cs := #[.int .u8 t120, .int .u8 0, .int .u8 0, .int .u8 0, .int .u8 0]) ?_ 1 _ rfl; (with_reducible repeat (first | refine blk_drewN ?_ _ | refine blk_drew ?_ | refine blk_alloc ?_ _)); refine blk_put (cs := #[.int .u8 0, .int .u8 0, .int .u8 0, .int .u8 0, .int .u8 0]) ?_ 0 _ rfl; (with_reducible repeat (first | refine blk_drewN ?_ _ | refine blk_drew ?_ | refine blk_alloc ?_ _)); exact BK125.out) hb); have n2_ := Aside0.mk (below_step (by repeat (first | (with_reducible first | exact HB.out | apply below_alloc | apply pw_below_drewN | apply below_drew1 | refine below_set ?_ GE125.out) | exact HB.out)) hb); clear HO_7; clear BK125; clear HB; have HO_7 := n0_; have BK125 := n1_; have HB := n2_; clear n0_ n1_ n2_; (try clear hb); (try clear hb2); (try clear hk); (try clear hi); have hcz16_0 : w15.cell? ⟨gb125, 0, none⟩ = some (.int .u8 t120) := (blk_cell BK125.out 0).trans rfl; have hcz16_1 : w15.cell? ⟨gb125, 1, none⟩ = some (.int .u8 t121) := (blk_cell BK125.out 1).trans rfl; have hcz16_2 : w15.cell? ⟨gb125, 2, none⟩ = some (.int .u8 t122) := (blk_cell BK125.out 2).trans rfl; have hcz16_3 : w15.cell? ⟨gb125, 3, none⟩ = some (.int .u8 t123) := (blk_cell BK125.out 3).trans rfl; have hcz16_4 : w15.cell? ⟨gb125, 4, none⟩ = some (.int .u8 t124) := (blk_cell BK125.out 4).trans rfl; have hfz16_0 := blk_frozen BK125.out 0; have hfz16_1 := blk_frozen BK125.out 1; have hfz16_2 := blk_frozen BK125.out 2; have hfz16_3 := blk_frozen BK125.out 3; have hfz16_4 := blk_frozen BK125.out 4) | ((with_reducible refine gate_builtin (b := .append) (xs := #[.tmp 26, .tmp 28]) rfl ?_); (try (refine gate_guard (by rfl) ?_; dsimp only)); at_builtin; refine Kd.R_append k29 (w0 := w) w.heap.size rfl (.tmp 26) (.tmp 28) 25 29 (.agg #[(.int .u8 0), (.int .u8 0), (.int .u8 0), (.int .u8 0), (.int .u8 0)]) 5 rfl Try.underlying25 info29 rfl (by decide) (by omega) u7 x7_1 (⟨t120, t121, t122, t123, t124⟩ : S29) [.int .u8 t120, .int .u8 t121, .int .u8 t122, .int .u8 t123, .int .u8 t124] (fun k_ => k_ ≠ gb125) (fun _ => False) rfl rfl ?aP (fun _ hk => hk.elim) ?aF ?aO ?aB ?aS ?aL ?_; (case aP => exact k29_mkM _ _ _ (⟨t120, t121, t122, t123, t124⟩ : S29)); (case aB => exact (by repeat (first | (with_reducible first | exact HB.out | apply below_alloc | apply pw_below_drewN | apply below_drew1 | refine below_set ?_ GE125.out) | exact HB.out))); (case aF => exact (fun k_ hk => Kd.freshB (g := gb125) (o := .cells #[.int .u8 t120, .int .u8 t121, .int .u8 t122, .int .u8 t123, .int .u8 t124] 29 (0, 0)) (by (with_reducible repeat (first | refine blk_drewN ?_ _ | refine blk_drew ?_ | refine blk_alloc ?_ _)); exact BK125.out) k_ hk)); (case aO => exact (by (with_reducible repeat (first | apply Kd.R_alloc | apply Kd.R_drewN | apply Kd.R_drew)); exact Kd.R_mono HO_7.out (fun _ hk => hk.2))); (case aS => exact (below_size (by repeat (first | (with_reducible first | exact HB.out | apply below_alloc | apply pw_below_drewN | apply below_drew1 | refine below_set ?_ GE125.out) | exact HB.out)))); (case aL => have := LMc11.out; omega); intro v128 w17 ho hb hg hat; rw [← Ny127.out] at ho; have n0_ := Aside0.mk (blk_grown (g := gb125) (o := .cells #[.int .u8 t120, .int .u8 t121, .int .u8 t122, .int .u8 t123, .int .u8 t124] 29 (0, 0)) (by (with_reducible repeat (first | refine blk_drewN ?_ _ | refine blk_drew ?_ | refine blk_alloc ?_ _)); exact BK125.out) hg (Kd.R_away HO_7.out (fun _ hk => hk.2))); have n1_ := Aside0.mk (hb); have n2_ := Aside0.mk (ho); clear BK125; clear HB; clear HO_7; have BK125 := n0_; have HB := n1_; have HO129 := n2_; clear n0_ n1_ n2_; clear ho hb hg hat))
                go_roundg kj3
                case measure => have := HK1.out; have := HJ3.out; omega
                case rel => exact ⟨(y127), (wrap64 (x8_1 + 1)), (by first | rfl | (simp; done) | (simp [*]; done)), H', ⟨by have := HK1.out; have := HJ3.out; omega⟩, ⟨by (with_reducible repeat (first | apply Kd.R_alloc | apply Kd.R_drewN | apply Kd.R_drew)); exact Kd.R_mono HO129.out (fun _ hk => trivial)⟩, ⟨by repeat (first | (with_reducible first | exact HB.out | apply below_alloc | apply pw_below_drewN | apply below_drew1 | refine below_set ?_ GE125.out) | exact HB.out)⟩⟩
              · rw [if_neg c11] at H
                exact absurd H (by simp)
            · replace c10 := Bool.eq_false_iff.mpr c10
              subst c10
              have H1 : (whirligigref16_Scan.l0 kj3 l0 a1 a2 x7_1 (wrap64 (x8_1 + 1))) = some r := by rw [if_neg (show ¬ (false = true) by decide)] at H; exact H
              clear H
              have H := H1
              clear H1
              have H' := Aside0.mk H
              clear H
              go_wp2_with (first | ((with_reducible refine gate_callee (f := 24) rfl ?_); refine goesL_ (some 21) rfl rfl Try.func24 (by kernel_rfl) rfl #[.slice A0 l0.length c0, .int .i64 x8_1] rfl (by (try simp only [List.map_toArray, List.map_cons, List.map_nil]); first | done | rfl | (simp only [List.length_drop, List.length_take]; rfl)) ?_; (with_reducible refine (whirligigref16_Obj.calls _ _ l0 x8_1 t120 t121 t122 t123 t124 _ ?side1 ?side2 A8.out).mono ?_); (case side1 => repeat (first | exact (Kd.C_below HR0.out HB.out) | (with_reducible refine Kd.C_alloc ?_ _) | (with_reducible refine Kd.C_drewN ?_ _) | (with_reducible refine Kd.C_drew ?_))); (case side2 => exact HC0.out); rintro e w18 ⟨rfl, hb⟩; refine ⟨_, rfl, ?_⟩; have n0_ := Aside0.mk (Kd.R_below (by (with_reducible repeat (first | apply Kd.R_alloc | apply Kd.R_drewN | apply Kd.R_drew)); exact HO_7.out) hb); have n1_ := Aside0.mk (below_step (by repeat (first | (with_reducible first | exact HB.out | apply below_alloc | apply pw_below_drewN | apply below_drew1) | exact HB.out)) hb); clear HO_7; clear HB; have HO_7 := n0_; have HB := n1_; clear n0_ n1_; (try clear hb); (try clear hb2); (try clear hk); (try clear hi)) | ((with_reducible refine gate_dst (N := 9) rfl ?_); (try (refine gate_guard (by rfl) ?_; dsimp only)); refine box_event ?hg (N := 9) ?hd (cs := #[.int .u8 0, .int .u8 0, .int .u8 0, .int .u8 0, .int .u8 0]) (t := 29) ?hr ?_; (case hd => rfl); (case hg => rfl); (case hr => first | (go_simp; done) | (go_simp; rfl)); intro gb125 hg w19 hbox hb; have n0_ := Aside0.mk (Kd.R_below (Kd.R_elderB (by (with_reducible repeat (first | apply Kd.R_alloc | apply Kd.R_drewN | apply Kd.R_drew)); exact HO_7.out) gb125 (Nat.le_of_eq hg.symm)) hb); have n1_ := Aside0.mk (below_step (by repeat (first | (with_reducible first | exact HB.out | apply below_alloc | apply pw_below_drewN | apply below_drew1) | exact HB.out)) hb); have n2_ := Aside0.mk (hbox); have n3_ := Aside0.mk ((by rw [hg]; exact (below_size (by repeat (first | (with_reducible first | exact HB.out | apply below_alloc | apply pw_below_drewN | apply below_drew1) | exact HB.out))) : w.heap.size ≤ gb125)); have n4_ := Aside0.mk ((by rw [hg]; exact (below_size (by repeat (first | (with_reducible first | exact HB.out | apply below_alloc | apply pw_below_drewN | apply below_drew1) | exact HB.out))) : w.heap.size ≤ gb125)); clear HO_7; clear HB; have HO_7 := n0_; have HB := n1_; have BK125 := n2_; have GW125 := n3_; have GE125 := n4_; clear n0_ n1_ n2_ n3_ n4_; clear hb hbox hg; have hcz20_0 : w19.cell? ⟨gb125, 0, none⟩ = some (.int .u8 0) := (blk_cell BK125.out 0).trans rfl; have hcz20_1 : w19.cell? ⟨gb125, 1, none⟩ = some (.int .u8 0) := (blk_cell BK125.out 1).trans rfl; have hcz20_2 : w19.cell? ⟨gb125, 2, none⟩ = some (.int .u8 0) := (blk_cell BK125.out 2).trans rfl; have hcz20_3 : w19.cell? ⟨gb125, 3, none⟩ = some (.int .u8 0) := (blk_cell BK125.out 3).trans rfl; have hcz20_4 : w19.cell? ⟨gb125, 4, none⟩ = some (.int .u8 0) := (blk_cell BK125.out 4).trans rfl; have hfz20_0 := blk_frozen BK125.out 0; have hfz20_1 := blk_frozen BK125.out 1; have hfz20_2 := blk_frozen BK125.out 2; have hfz20_3 := blk_frozen BK125.out 3; have hfz20_4 := blk_frozen BK125.out 4) | ((with_reducible refine gate_callee (f := 25) rfl ?_); refine goesL_ (some 25) rfl rfl Try.func25 (by kernel_rfl) rfl #[.agg #[.int .u8 t120, .int .u8 t121, .int .u8 t122, .int .u8 t123, .int .u8 t124], .int .i64 a1, .bool a2] rfl (by (try simp only [List.map_toArray, List.map_cons, List.map_nil]); first | done | rfl | (simp only [List.length_drop, List.length_take]; rfl)) ?_; (with_reducible refine (whirligigref16_On.calls t120 t121 t122 t123 t124 a1 a2 false _ A9.out).mono ?_); rintro e w21 ⟨rfl, hb⟩; refine ⟨_, rfl, ?_⟩; have n0_ := Aside0.mk (Kd.R_below (by (with_reducible repeat (first | apply Kd.R_alloc | apply Kd.R_drewN | apply Kd.R_drew)); exact (Kd.R_mono (Kd.R_far (p := ⟨gb125, 4, none⟩) (Kd.R_far (p := ⟨gb125, 3, none⟩) (Kd.R_far (p := ⟨gb125, 2, none⟩) (Kd.R_far (p := ⟨gb125, 1, none⟩) (Kd.R_far (p := ⟨gb125, 0, none⟩) (Kd.R_mono HO_7.out (fun k_ hk => (⟨hk, hk.2⟩ : _ ∧ k_ ≠ gb125))) (fun _ hk => hk.2) (.int .u8 t120)) (fun _ hk => hk.2) (.int .u8 t121)) (fun _ hk => hk.2) (.int .u8 t122)) (fun _ hk => hk.2) (.int .u8 t123)) (fun _ hk => hk.2) (.int .u8 t124)) (fun _ h_ => h_.1))) hb); have n1_ := Aside0.mk (blk_below (g := gb125) (o := .cells #[.int .u8 t120, .int .u8 t121, .int .u8 t122, .int .u8 t123, .int .u8 t124] 29 (0, 0)) (by (with_reducible repeat (first | refine blk_drewN ?_ _ | refine blk_drew ?_ | refine blk_alloc ?_ _)); refine blk_put (cs := #[.int .u8 t120, .int .u8 t121, .int .u8 t122, .int .u8 t123, .int .u8 0]) ?_ 4 _ rfl; (with_reducible repeat (first | refine blk_drewN ?_ _ | refine blk_drew ?_ | refine blk_alloc ?_ _)); refine blk_put (cs := #[.int .u8 t120, .int .u8 t121, .int .u8 t122, .int .u8 0, .int .u8 0]) ?_ 3 _ rfl; (with_reducible repeat (first | refine blk_drewN ?_ _ | refine blk_drew ?_ | refine blk_alloc ?_ _)); refine blk_put (cs := #[.int .u8 t120, .int .u8 t121, .int .u8 0, .int .u8 0, .int .u8 0]) ?_ 2 _ rfl; (with_reducible repeat (first | refine blk_drewN ?_ _ | refine blk_drew ?_ | refine blk_alloc ?_ _)); refine blk_put (cs := #[.int .u8 t120, .int .u8 0, .int .u8 0, .int .u8 0, .int .u8 0]) ?_ 1 _ rfl; (with_reducible repeat (first | refine blk_drewN ?_ _ | refine blk_drew ?_ | refine blk_alloc ?_ _)); refine blk_put (cs := #[.int .u8 0, .int .u8 0, .int .u8 0, .int .u8 0, .int .u8 0]) ?_ 0 _ rfl; (with_reducible repeat (first | refine blk_drewN ?_ _ | refine blk_drew ?_ | refine blk_alloc ?_ _)); exact BK125.out) hb); have n2_ := Aside0.mk (below_step (by repeat (first | (with_reducible first | exact HB.out | apply below_alloc | apply pw_below_drewN | apply below_drew1 | refine below_set ?_ GE125.out) | exact HB.out)) hb); clear HO_7; clear BK125; clear HB; have HO_7 := n0_; have BK125 := n1_; have HB := n2_; clear n0_ n1_ n2_; (try clear hb); (try clear hb2); (try clear hk); (try clear hi)))
              go_roundg kj3
              case measure => have := HK1.out; have := HJ3.out; omega
              case rel => exact ⟨(x7_1), (wrap64 (x8_1 + 1)), (by first | rfl | (simp; done) | (simp [*]; done)), H', ⟨by have := HK1.out; have := HJ3.out; omega⟩, ⟨by (with_reducible repeat (first | apply Kd.R_alloc | apply Kd.R_drewN | apply Kd.R_drew)); exact Kd.R_mono HO_7.out (fun _ hk => trivial)⟩, ⟨by repeat (first | (with_reducible first | exact HB.out | apply below_alloc | apply pw_below_drewN | apply below_drew1 | refine below_set ?_ GE125.out) | exact HB.out)⟩⟩
          · replace c7 := Bool.eq_false_iff.mpr c7
            subst c7
            have H1 : (some x7_1) = some r := by rw [if_neg (show ¬ (false = true) by decide)] at H; exact H
            clear H
            have H := H1
            clear H1
            obtain rfl := Option.some.inj H
            go_wp2
            go_ret
            exact ⟨_, by first | rfl | (simp [errW_none, errW_some] <;> rfl) | (simp [*, errW_none, errW_some] <;> rfl), by (with_reducible repeat (first | apply Kd.R_alloc | apply Kd.R_drewN | apply Kd.R_drew)); exact HO_7.out, by repeat (first | (with_reducible first | exact HB.out | apply below_alloc | apply pw_below_drewN | apply below_drew1) | exact HB.out)⟩

-- NOT PRINTED: function 3 (whirligiglaw16_ObjectsScans)

/-! ### whirligigref01_power: function 36 -/
def whirligigref01_power.l0 : Nat → Int → Int → Int → Option (Int)
  | 0, _, _, _ => none
  | k + 1, x0, x3, x4 => if x4 < x0 then (whirligigref01_power.l0 k x0 (wrap64 (x3 * 2)) (wrap64 (x4 + 1))) else (some x3)
def whirligigref01_power.f (k : Nat) (a0 : Int) : Option (Int) := whirligigref01_power.l0 k a0 1 0
theorem whirligigref01_power.mono_l : ∀ k, (∀ y0 y1 y2, LeO (whirligigref01_power.l0 k y0 y1 y2) (whirligigref01_power.l0 (k + 1) y0 y1 y2))
  | 0 => fun _ _ _ r h => by simp [whirligigref01_power.l0] at h
  | k + 1 => by
    have ih0 := whirligigref01_power.mono_l k
    · intro y0 y1 y2
      unfold whirligigref01_power.l0
      repeat' first
      | (with_reducible exact ih0 _ _ _)
      | (with_reducible exact LeO.refl _)
      | (with_reducible exact LeO.none _)
      | (with_reducible refine LeO.ite ?_ ?_)
      | (with_reducible refine LeO.bind ?_ (fun _ => ?_))
      | exact ih0 _ _ _
      | exact LeO.none _
      | refine LeO.ite ?_ ?_
      | refine LeO.bind ?_ (fun _ => ?_)
theorem whirligigref01_power.mono : ∀ a0 k, LeO (whirligigref01_power.f k a0) (whirligigref01_power.f (k + 1) a0) := by
  intro a0 k
  have ih0 := whirligigref01_power.mono_l k
  unfold whirligigref01_power.f
  repeat' first
      | (with_reducible exact ih0 _ _ _)
      | (with_reducible exact LeO.refl _)
      | (with_reducible exact LeO.none _)
      | (with_reducible refine LeO.ite ?_ ?_)
      | (with_reducible refine LeO.bind ?_ (fun _ => ?_))
      | exact ih0 _ _ _
      | exact LeO.none _
      | refine LeO.ite ?_ ?_
      | refine LeO.bind ?_ (fun _ => ?_)
set_option maxHeartbeats 8000000 in
set_option maxRecDepth 100000 in
theorem whirligigref01_power.calls (k : Nat) (a0 : Int) (r : Int) (w : World) (h : whirligigref01_power.f k a0 = some r) :
    Calls Try.prog 36 #[.int .i64 a0] w fun e w' => e = .returned (.int .i64 r) ∧ Drawn0 w w' := by
  have H : (whirligigref01_power.l0 k a0 1 0) = some r := h
  clear h
  have H' := Aside0.mk H
  clear H
  go_enter Try.func36, Try.ntmps36
  go_wp2
  go_loopg [3, 4] k (fun kq v3 v4 w' => ∃ (x3_1 : Int) (x4_1 : Int), v3 = .int .i64 x3_1 ∧ v4 = .int .i64 x4_1 ∧ Aside0 (whirligigref01_power.l0 kq a0 x3_1 x4_1 = some r) ∧ Aside0 (kq ≤ k) ∧ Drawn0 w w')
  case atStart => exact ⟨(1), (0), (by first | rfl | (simp; done) | (simp [*]; done)), (by first | rfl | (simp; done) | (simp [*]; done)), H', ⟨Nat.le_refl _⟩, by repeat (first | exact Drawn0.refl _ | apply Drawn0.step)⟩
  case round =>
    clear H'
    obtain ⟨x3_1, x4_1, rfl, rfl, HA, HK1, ⟨m1, rfl⟩⟩ := hrel
    cases gk with
    | zero => exact absurd HA.out (by simp [whirligigref01_power.l0])
    | succ k1 =>
      have H := HA.out
      clear HA
      simp only [whirligigref01_power.l0] at H
      by_cases c2 : x4_1 < a0
      · rw [if_pos c2] at H
        have c2b0 : decide (x4_1 < a0) = true := decide_eq_true c2
        clear c2
        have H' := Aside0.mk H
        clear H
        go_wp2
        go_roundg k1
        case measure => have := HK1.out; omega
        case rel => exact ⟨(wrap64 (x3_1 * 2)), (wrap64 (x4_1 + 1)), (by first | rfl | (simp; done) | (simp [*]; done)), (by first | rfl | (simp; done) | (simp [*]; done)), H', ⟨by have := HK1.out; omega⟩, by repeat (first | exact Drawn0.refl _ | apply Drawn0.step)⟩
      · rw [if_neg c2] at H
        have c2b0 : decide (x4_1 < a0) = false := decide_eq_false c2
        clear c2
        obtain rfl := Option.some.inj H
        go_wp2
        go_ret
        exact ⟨by first | rfl | (simp; done) | (simp [*]; done), by repeat (first | exact Drawn0.refl _ | apply Drawn0.step)⟩

/-! ### whirligigref01_Bit: function 27 -/
def whirligigref01_Bit.f (k : Nat) (a0 : Int) (a1 : Int) : Option (Bool) := if a1 < 0 then (some false) else (if a1 > 7 then (some false) else ((whirligigref01_power.f k a1).bind fun t131 => (if t131 = 0 then (none) else (some ((Int.tmod (wrap64 (Int.tdiv (wrap64 (a0)) t131)) 2) == 1)))))
theorem whirligigref01_Bit.mono : ∀ a0 a1 k, LeO (whirligigref01_Bit.f k a0 a1) (whirligigref01_Bit.f (k + 1) a0 a1) := by
  intro a0 a1 k
  unfold whirligigref01_Bit.f
  repeat' first
      | (with_reducible exact whirligigref01_power.mono _ _)
      | (with_reducible exact LeO.refl _)
      | (with_reducible exact LeO.none _)
      | (with_reducible refine LeO.ite ?_ ?_)
      | (with_reducible refine LeO.bind ?_ (fun _ => ?_))
      | exact whirligigref01_power.mono _ _
      | exact LeO.none _
      | refine LeO.ite ?_ ?_
      | refine LeO.bind ?_ (fun _ => ?_)
set_option maxHeartbeats 8000000 in
set_option maxRecDepth 100000 in
theorem whirligigref01_Bit.calls (k : Nat) (a0 : Int) (a1 : Int) (r : Bool) (w : World) (h : whirligigref01_Bit.f k a0 a1 = some r) :
    Calls Try.prog 27 #[.int .u8 a0, .int .i64 a1] w fun e w' => e = .returned (.bool r) ∧ Drawn0 w w' := by
  have H : (if a1 < 0 then (some false) else (if a1 > 7 then (some false) else ((whirligigref01_power.f k a1).bind fun t131 => (if t131 = 0 then (none) else (some ((Int.tmod (wrap64 (Int.tdiv (wrap64 (a0)) t131)) 2) == 1)))))) = some r := h
  clear h
  by_cases c3 : a1 < 0
  · rw [if_pos c3] at H
    have c3b0 : decide (a1 < 0) = true := decide_eq_true c3
    clear c3
    obtain rfl := Option.some.inj H
    go_enter Try.func27, Try.ntmps27
    go_wp2
    go_ret
    exact ⟨by first | rfl | (simp; done) | (simp [*]; done), by repeat (first | exact Drawn0.refl _ | apply Drawn0.step)⟩
  · rw [if_neg c3] at H
    have c3b0 : decide (a1 < 0) = false := decide_eq_false c3
    clear c3
    by_cases c4 : a1 > 7
    · rw [if_pos c4] at H
      have c4b0 : decide (7 < a1) = true := decide_eq_true c4
      clear c4
      obtain rfl := Option.some.inj H
      go_enter Try.func27, Try.ntmps27
      go_wp2
      go_ret
      exact ⟨by first | rfl | (simp; done) | (simp [*]; done), by repeat (first | exact Drawn0.refl _ | apply Drawn0.step)⟩
    · rw [if_neg c4] at H
      have c4b0 : decide (7 < a1) = false := decide_eq_false c4
      clear c4
      replace H := Option.bind_eq_some_iff.mp H
      obtain ⟨t131, A50, H⟩ := H
      replace H : (if t131 = 0 then (none) else (some ((Int.tmod (wrap64 (Int.tdiv (wrap64 (a0)) t131)) 2) == 1))) = some r := H
      have A5 := Aside0.mk A50
      clear A50
      by_cases c6 : t131 = 0
      · rw [if_pos c6] at H
        exact absurd H (by simp)
      · rw [if_neg c6] at H
        have c6b0 : (t131 == 0) = false := beq_eq_false_iff_ne.mpr c6
        have c6b1 : (t131 != 0) = true := bne_iff_ne.mpr c6
        obtain rfl := Option.some.inj H
        go_enter Try.func27, Try.ntmps27
        go_wp2_with (first | ((with_reducible refine gate_callee (f := 36) rfl ?_); refine goesL_ (some 14) rfl rfl Try.func36 (by kernel_rfl) rfl #[.int .i64 a1] rfl (by (try simp only [List.map_toArray, List.map_cons, List.map_nil]); first | done | rfl | (simp only [List.length_drop, List.length_take]; rfl)) ?_; (with_reducible refine (whirligigref01_power.calls k a1 t131 _ A5.out).mono ?_); rintro e w' ⟨rfl, ⟨nd, rfl⟩⟩; refine ⟨_, rfl, ?_⟩))
        go_ret
        exact ⟨by first | rfl | (simp; done) | (simp [*]; done), by repeat (first | exact Drawn0.refl _ | apply Drawn0.step)⟩

/-! ### whirligigref01_Put: function 29 -/
def whirligigref01_Put.j0 : Nat → Int → Int → Bool → Bool → Option (Int)
  | 0, _, _, _, _ => none
  | k + 1, x0, x1, x2, x13 => if x13 = true then (some x0) else ((whirligigref01_Bit.f k x0 x1).bind fun t132 => (if t132 = true then ((whirligigref01_power.f k x1).bind fun t133 => (if x2 = true then ((whirligigref01_power.f k x1).bind fun t134 => (some ((wrap64 ((wrap64 ((wrap64 (x0)) - t133)) + t134)) % 256))) else (some ((wrap64 ((wrap64 (x0)) - t133)) % 256)))) else (if x2 = true then ((whirligigref01_power.f k x1).bind fun t135 => (some ((wrap64 ((wrap64 (x0)) + t135)) % 256))) else (some ((wrap64 (x0)) % 256)))))
def whirligigref01_Put.f (k : Nat) (a0 : Int) (a1 : Int) (a2 : Bool) : Option (Int) := if a1 < 0 then (whirligigref01_Put.j0 k a0 a1 a2 true) else (whirligigref01_Put.j0 k a0 a1 a2 (decide (a1 > 7)))
theorem whirligigref01_Put.mono_l : ∀ k, (∀ y0 y1 y2 y3, LeO (whirligigref01_Put.j0 k y0 y1 y2 y3) (whirligigref01_Put.j0 (k + 1) y0 y1 y2 y3))
  | 0 => fun _ _ _ _ r h => by simp [whirligigref01_Put.j0] at h
  | k + 1 => by
    have ih0 := whirligigref01_Put.mono_l k
    · intro y0 y1 y2 y3
      unfold whirligigref01_Put.j0
      repeat' first
      | (with_reducible exact ih0 _ _ _ _)
      | (with_reducible exact whirligigref01_Bit.mono _ _ _)
      | (with_reducible exact whirligigref01_power.mono _ _)
      | (with_reducible exact LeO.refl _)
      | (with_reducible exact LeO.none _)
      | (with_reducible refine LeO.ite ?_ ?_)
      | (with_reducible refine LeO.bind ?_ (fun _ => ?_))
      | exact ih0 _ _ _ _
      | exact whirligigref01_Bit.mono _ _ _
      | exact whirligigref01_power.mono _ _
      | exact LeO.none _
      | refine LeO.ite ?_ ?_
      | refine LeO.bind ?_ (fun _ => ?_)
theorem whirligigref01_Put.mono : ∀ a0 a1 a2 k, LeO (whirligigref01_Put.f k a0 a1 a2) (whirligigref01_Put.f (k + 1) a0 a1 a2) := by
  intro a0 a1 a2 k
  have ih0 := whirligigref01_Put.mono_l k
  unfold whirligigref01_Put.f
  repeat' first
      | (with_reducible exact ih0 _ _ _ _)
      | (with_reducible exact whirligigref01_Bit.mono _ _ _)
      | (with_reducible exact whirligigref01_power.mono _ _)
      | (with_reducible exact LeO.refl _)
      | (with_reducible exact LeO.none _)
      | (with_reducible refine LeO.ite ?_ ?_)
      | (with_reducible refine LeO.bind ?_ (fun _ => ?_))
      | exact ih0 _ _ _ _
      | exact whirligigref01_Bit.mono _ _ _
      | exact whirligigref01_power.mono _ _
      | exact LeO.none _
      | refine LeO.ite ?_ ?_
      | refine LeO.bind ?_ (fun _ => ?_)
set_option maxHeartbeats 8000000 in
set_option maxRecDepth 100000 in
theorem whirligigref01_Put.calls (k : Nat) (a0 : Int) (a1 : Int) (a2 : Bool) (r : Int) (w : World) (h : whirligigref01_Put.f k a0 a1 a2 = some r) :
    Calls Try.prog 29 #[.int .u8 a0, .int .i64 a1, .bool a2] w fun e w' => e = .returned (.int .u8 r) ∧ Drawn0 w w' := by
  have H : (if a1 < 0 then (whirligigref01_Put.j0 k a0 a1 a2 true) else (whirligigref01_Put.j0 k a0 a1 a2 (decide (a1 > 7)))) = some r := h
  clear h
  have HC4 := Aside0.mk H
  clear H
  go_enter Try.func29, Try.ntmps29
  go_upto_region 1 with (fail)
  go_cut [13] (fun v13 wc => ∃ (kq : Nat) (x13_3 : Bool), v13 = .bool x13_3 ∧ Aside0 (whirligigref01_Put.j0 kq a0 a1 a2 x13_3 = some r) ∧ Aside0 (kq ≤ k) ∧ Drawn0 w wc)
  case first =>
    have H := HC4.out
    clear HC4
    by_cases c5 : a1 < 0
    · rw [if_pos c5] at H
      have c5b0 : decide (a1 < 0) = true := decide_eq_true c5
      clear c5
      (first | rw [c5b0] | (simp only [i64_w, i32_w]; rw [c5b0]) | skip)
      have H' := Aside0.mk H
      clear H
      go_wp2
      go_meet
      case rel => exact ⟨_, (true), (by first | rfl | (simp; done) | (simp [*]; done)), H', ⟨by first | omega | exact Nat.le_refl _⟩, by repeat (first | exact Drawn0.refl _ | apply Drawn0.step)⟩
    · rw [if_neg c5] at H
      have c5b0 : decide (a1 < 0) = false := decide_eq_false c5
      clear c5
      (first | rw [c5b0] | (simp only [i64_w, i32_w]; rw [c5b0]) | skip)
      have H' := Aside0.mk H
      clear H
      go_wp2
      go_meet
      case rel => exact ⟨_, (decide (a1 > 7)), (by first | rfl | (simp; done) | (simp [*]; done)), H', ⟨by first | omega | exact Nat.le_refl _⟩, by repeat (first | exact Drawn0.refl _ | apply Drawn0.step)⟩
  case rest =>
    clear HC4
    try clear c2
    try clear p2
    try clear c5
    try clear c5b0
    obtain ⟨kq, x13_3, rfl, HA, HJ3, ⟨mc3, rfl⟩⟩ := hcut
    cases kq with
    | zero => exact absurd HA.out (by simp [whirligigref01_Put.j0])
    | succ kj3 =>
      have H := HA.out
      clear HA
      simp only [whirligigref01_Put.j0] at H
      by_cases c6 : x13_3 = true
      · subst c6
        have H1 : (some a0) = some r := by rw [if_pos rfl] at H; exact H
        clear H
        have H := H1
        clear H1
        obtain rfl := Option.some.inj H
        go_wp2
        go_ret
        exact ⟨by first | rfl | (simp; done) | (simp [*]; done), by repeat (first | exact Drawn0.refl _ | apply Drawn0.step)⟩
      · replace c6 := Bool.eq_false_iff.mpr c6
        subst c6
        have H1 : ((whirligigref01_Bit.f kj3 a0 a1).bind fun t132 => (if t132 = true then ((whirligigref01_power.f kj3 a1).bind fun t133 => (if a2 = true then ((whirligigref01_power.f kj3 a1).bind fun t134 => (some ((wrap64 ((wrap64 ((wrap64 (a0)) - t133)) + t134)) % 256))) else (some ((wrap64 ((wrap64 (a0)) - t133)) % 256)))) else (if a2 = true then ((whirligigref01_power.f kj3 a1).bind fun t135 => (some ((wrap64 ((wrap64 (a0)) + t135)) % 256))) else (some ((wrap64 (a0)) % 256))))) = some r := by rw [if_neg (show ¬ (false = true) by decide)] at H; exact H
        clear H
        have H := H1
        clear H1
        replace H := Option.bind_eq_some_iff.mp H
        obtain ⟨t132, A70, H⟩ := H
        replace H : (if t132 = true then ((whirligigref01_power.f kj3 a1).bind fun t133 => (if a2 = true then ((whirligigref01_power.f kj3 a1).bind fun t134 => (some ((wrap64 ((wrap64 ((wrap64 (a0)) - t133)) + t134)) % 256))) else (some ((wrap64 ((wrap64 (a0)) - t133)) % 256)))) else (if a2 = true then ((whirligigref01_power.f kj3 a1).bind fun t135 => (some ((wrap64 ((wrap64 (a0)) + t135)) % 256))) else (some ((wrap64 (a0)) % 256)))) = some r := H
        have A7 := Aside0.mk A70
        clear A70
        by_cases c8 : t132 = true
        · subst c8
          have H1 : ((whirligigref01_power.f kj3 a1).bind fun t133 => (if a2 = true then ((whirligigref01_power.f kj3 a1).bind fun t134 => (some ((wrap64 ((wrap64 ((wrap64 (a0)) - t133)) + t134)) % 256))) else (some ((wrap64 ((wrap64 (a0)) - t133)) % 256)))) = some r := by rw [if_pos rfl] at H; exact H
          clear H
          have H := H1
          clear H1
          replace H := Option.bind_eq_some_iff.mp H
          obtain ⟨t133, A90, H⟩ := H
          replace H : (if a2 = true then ((whirligigref01_power.f kj3 a1).bind fun t134 => (some ((wrap64 ((wrap64 ((wrap64 (a0)) - t133)) + t134)) % 256))) else (some ((wrap64 ((wrap64 (a0)) - t133)) % 256))) = some r := H
          have A9 := Aside0.mk A90
          clear A90
          by_cases c10 : a2 = true
          · subst c10
            have H1 : ((whirligigref01_power.f kj3 a1).bind fun t134 => (some ((wrap64 ((wrap64 ((wrap64 (a0)) - t133)) + t134)) % 256))) = some r := by rw [if_pos rfl] at H; exact H
            clear H
            have H := H1
            clear H1
            replace H := Option.bind_eq_some_iff.mp H
            obtain ⟨t134, A110, H⟩ := H
            replace H : (some ((wrap64 ((wrap64 ((wrap64 (a0)) - t133)) + t134)) % 256)) = some r := H
            have A11 := Aside0.mk A110
            clear A110
            obtain rfl := Option.some.inj H
            go_wp2_with (first | ((with_reducible refine gate_callee (f := 27) rfl ?_); refine goesL_ (some 19) rfl rfl Try.func27 (by kernel_rfl) rfl #[.int .u8 a0, .int .i64 a1] rfl (by (try simp only [List.map_toArray, List.map_cons, List.map_nil]); first | done | rfl | (simp only [List.length_drop, List.length_take]; rfl)) ?_; (with_reducible refine (whirligigref01_Bit.calls kj3 a0 a1 true _ A7.out).mono ?_); rintro e w' ⟨rfl, ⟨nd, rfl⟩⟩; refine ⟨_, rfl, ?_⟩) | ((with_reducible refine gate_callee (f := 36) rfl ?_); refine goesL_ (some 22) rfl rfl Try.func36 (by kernel_rfl) rfl #[.int .i64 a1] rfl (by (try simp only [List.map_toArray, List.map_cons, List.map_nil]); first | done | rfl | (simp only [List.length_drop, List.length_take]; rfl)) ?_; (with_reducible refine (whirligigref01_power.calls kj3 a1 t133 _ A9.out).mono ?_); rintro e w' ⟨rfl, ⟨nd, rfl⟩⟩; refine ⟨_, rfl, ?_⟩) | ((with_reducible refine gate_callee (f := 36) rfl ?_); refine goesL_ (some 27) rfl rfl Try.func36 (by kernel_rfl) rfl #[.int .i64 a1] rfl (by (try simp only [List.map_toArray, List.map_cons, List.map_nil]); first | done | rfl | (simp only [List.length_drop, List.length_take]; rfl)) ?_; (with_reducible refine (whirligigref01_power.calls kj3 a1 t134 _ A11.out).mono ?_); rintro e w' ⟨rfl, ⟨nd, rfl⟩⟩; refine ⟨_, rfl, ?_⟩))
            go_ret
            exact ⟨by first | rfl | (simp; done) | (simp [*]; done), by repeat (first | exact Drawn0.refl _ | apply Drawn0.step)⟩
          · replace c10 := Bool.eq_false_iff.mpr c10
            subst c10
            have H1 : (some ((wrap64 ((wrap64 (a0)) - t133)) % 256)) = some r := by rw [if_neg (show ¬ (false = true) by decide)] at H; exact H
            clear H
            have H := H1
            clear H1
            obtain rfl := Option.some.inj H
            go_wp2_with (first | ((with_reducible refine gate_callee (f := 27) rfl ?_); refine goesL_ (some 19) rfl rfl Try.func27 (by kernel_rfl) rfl #[.int .u8 a0, .int .i64 a1] rfl (by (try simp only [List.map_toArray, List.map_cons, List.map_nil]); first | done | rfl | (simp only [List.length_drop, List.length_take]; rfl)) ?_; (with_reducible refine (whirligigref01_Bit.calls kj3 a0 a1 true _ A7.out).mono ?_); rintro e w' ⟨rfl, ⟨nd, rfl⟩⟩; refine ⟨_, rfl, ?_⟩) | ((with_reducible refine gate_callee (f := 36) rfl ?_); refine goesL_ (some 22) rfl rfl Try.func36 (by kernel_rfl) rfl #[.int .i64 a1] rfl (by (try simp only [List.map_toArray, List.map_cons, List.map_nil]); first | done | rfl | (simp only [List.length_drop, List.length_take]; rfl)) ?_; (with_reducible refine (whirligigref01_power.calls kj3 a1 t133 _ A9.out).mono ?_); rintro e w' ⟨rfl, ⟨nd, rfl⟩⟩; refine ⟨_, rfl, ?_⟩))
            go_ret
            exact ⟨by first | rfl | (simp; done) | (simp [*]; done), by repeat (first | exact Drawn0.refl _ | apply Drawn0.step)⟩
        · replace c8 := Bool.eq_false_iff.mpr c8
          subst c8
          have H1 : (if a2 = true then ((whirligigref01_power.f kj3 a1).bind fun t135 => (some ((wrap64 ((wrap64 (a0)) + t135)) % 256))) else (some ((wrap64 (a0)) % 256))) = some r := by rw [if_neg (show ¬ (false = true) by decide)] at H; exact H
          clear H
          have H := H1
          clear H1
          by_cases c12 : a2 = true
          · subst c12
            have H1 : ((whirligigref01_power.f kj3 a1).bind fun t135 => (some ((wrap64 ((wrap64 (a0)) + t135)) % 256))) = some r := by rw [if_pos rfl] at H; exact H
            clear H
            have H := H1
            clear H1
            replace H := Option.bind_eq_some_iff.mp H
            obtain ⟨t135, A130, H⟩ := H
            replace H : (some ((wrap64 ((wrap64 (a0)) + t135)) % 256)) = some r := H
            have A13 := Aside0.mk A130
            clear A130
            obtain rfl := Option.some.inj H
            go_wp2_with (first | ((with_reducible refine gate_callee (f := 27) rfl ?_); refine goesL_ (some 19) rfl rfl Try.func27 (by kernel_rfl) rfl #[.int .u8 a0, .int .i64 a1] rfl (by (try simp only [List.map_toArray, List.map_cons, List.map_nil]); first | done | rfl | (simp only [List.length_drop, List.length_take]; rfl)) ?_; (with_reducible refine (whirligigref01_Bit.calls kj3 a0 a1 false _ A7.out).mono ?_); rintro e w' ⟨rfl, ⟨nd, rfl⟩⟩; refine ⟨_, rfl, ?_⟩) | ((with_reducible refine gate_callee (f := 36) rfl ?_); refine goesL_ (some 27) rfl rfl Try.func36 (by kernel_rfl) rfl #[.int .i64 a1] rfl (by (try simp only [List.map_toArray, List.map_cons, List.map_nil]); first | done | rfl | (simp only [List.length_drop, List.length_take]; rfl)) ?_; (with_reducible refine (whirligigref01_power.calls kj3 a1 t135 _ A13.out).mono ?_); rintro e w' ⟨rfl, ⟨nd, rfl⟩⟩; refine ⟨_, rfl, ?_⟩))
            go_ret
            exact ⟨by first | rfl | (simp; done) | (simp [*]; done), by repeat (first | exact Drawn0.refl _ | apply Drawn0.step)⟩
          · replace c12 := Bool.eq_false_iff.mpr c12
            subst c12
            have H1 : (some ((wrap64 (a0)) % 256)) = some r := by rw [if_neg (show ¬ (false = true) by decide)] at H; exact H
            clear H
            have H := H1
            clear H1
            obtain rfl := Option.some.inj H
            go_wp2_with (first | ((with_reducible refine gate_callee (f := 27) rfl ?_); refine goesL_ (some 19) rfl rfl Try.func27 (by kernel_rfl) rfl #[.int .u8 a0, .int .i64 a1] rfl (by (try simp only [List.map_toArray, List.map_cons, List.map_nil]); first | done | rfl | (simp only [List.length_drop, List.length_take]; rfl)) ?_; (with_reducible refine (whirligigref01_Bit.calls kj3 a0 a1 false _ A7.out).mono ?_); rintro e w' ⟨rfl, ⟨nd, rfl⟩⟩; refine ⟨_, rfl, ?_⟩))
            go_ret
            exact ⟨by first | rfl | (simp; done) | (simp [*]; done), by repeat (first | exact Drawn0.refl _ | apply Drawn0.step)⟩

/-! ### whirligigref16_Row: function 15 -/
def whirligigref16_Row.j0 : Nat → Bool → Int → Int → Int → Int → Int → Int → Option (Int × Int × Bool)
  | 0, _, _, _, _, _, _, _ => none
  | k + 1, x2, x9, x137000, x137001, x137002, x137003, x137004 => if x2 = true then ((whirligigref01_Put.f k x137002 0 false).bind fun t140 => (if x9 ≥ 8 then (some ((t140 + 1) % 256, wrap64 (x9 - 8), true)) else (some (t140, x9, true)))) else (some (x137002, x9, true))
def whirligigref16_Row.f (k : Nat) (a0_0 : Int) (a0_1 : Int) (a0_2 : Int) (a0_3 : Int) (a0_4 : Int) (a1 : Int) (a2 : Bool) : Option (Int × Int × Bool) := (whirligigref16_On.f a0_0 a0_1 a0_2 a0_3 a0_4 a1 a2).bind fun t137 => (if t137 = true then ((whirligigref01_Bit.f k a0_3 6).bind fun t138 => (if t138 = true then ((whirligigref16_rows.f a2).bind fun t139 => (whirligigref16_Row.j0 k a2 (wrap64 ((wrap64 (t139 - 1)) - (wrap64 ((wrap64 (a1 + 16)) - (wrap64 (a0_0)))))) a0_0 a0_1 a0_2 a0_3 a0_4)) else (whirligigref16_Row.j0 k a2 (wrap64 ((wrap64 (a1 + 16)) - (wrap64 (a0_0)))) a0_0 a0_1 a0_2 a0_3 a0_4))) else (some (0, 0, false)))
theorem whirligigref16_Row.mono_l : ∀ k, (∀ y0 y1 y2 y3 y4 y5 y6, LeO (whirligigref16_Row.j0 k y0 y1 y2 y3 y4 y5 y6) (whirligigref16_Row.j0 (k + 1) y0 y1 y2 y3 y4 y5 y6))
  | 0 => fun _ _ _ _ _ _ _ r h => by simp [whirligigref16_Row.j0] at h
  | k + 1 => by
    have ih0 := whirligigref16_Row.mono_l k
    · intro y0 y1 y2 y3 y4 y5 y6
      unfold whirligigref16_Row.j0
      repeat' first
      | (with_reducible exact ih0 _ _ _ _ _ _ _)
      | (with_reducible exact whirligigref01_Bit.mono _ _ _)
      | (with_reducible exact whirligigref01_Put.mono _ _ _ _)
      | (with_reducible exact LeO.refl _)
      | (with_reducible exact LeO.none _)
      | (with_reducible refine LeO.ite ?_ ?_)
      | (with_reducible refine LeO.bind ?_ (fun _ => ?_))
      | exact ih0 _ _ _ _ _ _ _
      | exact whirligigref01_Bit.mono _ _ _
      | exact whirligigref01_Put.mono _ _ _ _
      | exact LeO.none _
      | refine LeO.ite ?_ ?_
      | refine LeO.bind ?_ (fun _ => ?_)
theorem whirligigref16_Row.mono : ∀ a0 a1 a2 a3 a4 a5 a6 k, LeO (whirligigref16_Row.f k a0 a1 a2 a3 a4 a5 a6) (whirligigref16_Row.f (k + 1) a0 a1 a2 a3 a4 a5 a6) := by
  intro a0 a1 a2 a3 a4 a5 a6 k
  have ih0 := whirligigref16_Row.mono_l k
  unfold whirligigref16_Row.f
  repeat' first
      | (with_reducible exact ih0 _ _ _ _ _ _ _)
      | (with_reducible exact whirligigref01_Bit.mono _ _ _)
      | (with_reducible exact whirligigref01_Put.mono _ _ _ _)
      | (with_reducible exact LeO.refl _)
      | (with_reducible exact LeO.none _)
      | (with_reducible refine LeO.ite ?_ ?_)
      | (with_reducible refine LeO.bind ?_ (fun _ => ?_))
      | exact ih0 _ _ _ _ _ _ _
      | exact whirligigref01_Bit.mono _ _ _
      | exact whirligigref01_Put.mono _ _ _ _
      | exact LeO.none _
      | refine LeO.ite ?_ ?_
      | refine LeO.bind ?_ (fun _ => ?_)
set_option maxHeartbeats 8000000 in
set_option maxRecDepth 100000 in
theorem whirligigref16_Row.calls (k : Nat) (a0_0 : Int) (a0_1 : Int) (a0_2 : Int) (a0_3 : Int) (a0_4 : Int) (a1 : Int) (a2 : Bool) (r1 : Int) (r2 : Int) (r3 : Bool) (w : World) (h : whirligigref16_Row.f k a0_0 a0_1 a0_2 a0_3 a0_4 a1 a2 = some (r1, r2, r3)) :
    Calls Try.prog 15 #[.agg #[.int .u8 a0_0, .int .u8 a0_1, .int .u8 a0_2, .int .u8 a0_3, .int .u8 a0_4], .int .i64 a1, .bool a2] w fun e w' => e = .returned (.tuple #[.int .u8 r1, .int .i64 r2, .bool r3]) ∧ Below w.heap.size w w' := by
  have hu29 := Try.underlying29
  have HB := Aside0.mk (Below.refl w.heap.size w)
  have H : ((whirligigref16_On.f a0_0 a0_1 a0_2 a0_3 a0_4 a1 a2).bind fun t137 => (if t137 = true then ((whirligigref01_Bit.f k a0_3 6).bind fun t138 => (if t138 = true then ((whirligigref16_rows.f a2).bind fun t139 => (whirligigref16_Row.j0 k a2 (wrap64 ((wrap64 (t139 - 1)) - (wrap64 ((wrap64 (a1 + 16)) - (wrap64 (a0_0)))))) a0_0 a0_1 a0_2 a0_3 a0_4)) else (whirligigref16_Row.j0 k a2 (wrap64 ((wrap64 (a1 + 16)) - (wrap64 (a0_0)))) a0_0 a0_1 a0_2 a0_3 a0_4))) else (some (0, 0, false)))) = some (r1, r2, r3) := h
  clear h
  replace H := Option.bind_eq_some_iff.mp H
  obtain ⟨t137, A40, H⟩ := H
  replace H : (if t137 = true then ((whirligigref01_Bit.f k a0_3 6).bind fun t138 => (if t138 = true then ((whirligigref16_rows.f a2).bind fun t139 => (whirligigref16_Row.j0 k a2 (wrap64 ((wrap64 (t139 - 1)) - (wrap64 ((wrap64 (a1 + 16)) - (wrap64 (a0_0)))))) a0_0 a0_1 a0_2 a0_3 a0_4)) else (whirligigref16_Row.j0 k a2 (wrap64 ((wrap64 (a1 + 16)) - (wrap64 (a0_0)))) a0_0 a0_1 a0_2 a0_3 a0_4))) else (some (0, 0, false))) = some (r1, r2, r3) := H
  have A4 := Aside0.mk A40
  clear A40
  by_cases c5 : t137 = true
  · subst c5
    have H1 : ((whirligigref01_Bit.f k a0_3 6).bind fun t138 => (if t138 = true then ((whirligigref16_rows.f a2).bind fun t139 => (whirligigref16_Row.j0 k a2 (wrap64 ((wrap64 (t139 - 1)) - (wrap64 ((wrap64 (a1 + 16)) - (wrap64 (a0_0)))))) a0_0 a0_1 a0_2 a0_3 a0_4)) else (whirligigref16_Row.j0 k a2 (wrap64 ((wrap64 (a1 + 16)) - (wrap64 (a0_0)))) a0_0 a0_1 a0_2 a0_3 a0_4))) = some (r1, r2, r3) := by rw [if_pos rfl] at H; exact H
    clear H
    have H := H1
    clear H1
    replace H := Option.bind_eq_some_iff.mp H
    obtain ⟨t138, A60, H⟩ := H
    replace H : (if t138 = true then ((whirligigref16_rows.f a2).bind fun t139 => (whirligigref16_Row.j0 k a2 (wrap64 ((wrap64 (t139 - 1)) - (wrap64 ((wrap64 (a1 + 16)) - (wrap64 (a0_0)))))) a0_0 a0_1 a0_2 a0_3 a0_4)) else (whirligigref16_Row.j0 k a2 (wrap64 ((wrap64 (a1 + 16)) - (wrap64 (a0_0)))) a0_0 a0_1 a0_2 a0_3 a0_4)) = some (r1, r2, r3) := H
    have A6 := Aside0.mk A60
    clear A60
    have HC7 := Aside0.mk H
    clear H
    go_enter Try.func15, Try.ntmps15
    go_upto_if 24 with (first | ((with_reducible refine gate_dst (N := 3) rfl ?_); refine box_event ?hg (N := 3) ?hd (cs := #[.int .u8 a0_0, .int .u8 a0_1, .int .u8 a0_2, .int .u8 a0_3, .int .u8 a0_4]) (t := 29) ?hr ?_; (case hd => rfl); (case hg => rfl); (case hr => first | (go_simp; done) | (go_simp; rfl)); intro gb136 hg w8 hbox hb; have n0_ := Aside0.mk (below_step (by repeat (first | (with_reducible first | exact HB.out | apply below_alloc | apply pw_below_drewN | apply below_drew1) | exact HB.out)) hb); have n1_ := Aside0.mk (hbox); have n2_ := Aside0.mk ((by rw [hg]; exact (below_size (by repeat (first | (with_reducible first | exact HB.out | apply below_alloc | apply pw_below_drewN | apply below_drew1) | exact HB.out))) : w.heap.size ≤ gb136)); have n3_ := Aside0.mk ((by rw [hg]; exact (below_size (by repeat (first | (with_reducible first | exact HB.out | apply below_alloc | apply pw_below_drewN | apply below_drew1) | exact HB.out))) : w.heap.size ≤ gb136)); clear HB; have HB := n0_; have BK136 := n1_; have GW136 := n2_; have GE136 := n3_; clear n0_ n1_ n2_ n3_; clear hb hbox hg; have hcz9_0 : w8.cell? ⟨gb136, 0, none⟩ = some (.int .u8 a0_0) := (blk_cell BK136.out 0).trans rfl; have hcz9_1 : w8.cell? ⟨gb136, 1, none⟩ = some (.int .u8 a0_1) := (blk_cell BK136.out 1).trans rfl; have hcz9_2 : w8.cell? ⟨gb136, 2, none⟩ = some (.int .u8 a0_2) := (blk_cell BK136.out 2).trans rfl; have hcz9_3 : w8.cell? ⟨gb136, 3, none⟩ = some (.int .u8 a0_3) := (blk_cell BK136.out 3).trans rfl; have hcz9_4 : w8.cell? ⟨gb136, 4, none⟩ = some (.int .u8 a0_4) := (blk_cell BK136.out 4).trans rfl; have hfz9_0 := blk_frozen BK136.out 0; have hfz9_1 := blk_frozen BK136.out 1; have hfz9_2 := blk_frozen BK136.out 2; have hfz9_3 := blk_frozen BK136.out 3; have hfz9_4 := blk_frozen BK136.out 4) | ((with_reducible refine gate_callee (f := 25) rfl ?_); refine goesL_ (some 14) rfl rfl Try.func25 (by kernel_rfl) rfl #[.agg #[.int .u8 a0_0, .int .u8 a0_1, .int .u8 a0_2, .int .u8 a0_3, .int .u8 a0_4], .int .i64 a1, .bool a2] rfl (by (try simp only [List.map_toArray, List.map_cons, List.map_nil]); first | done | rfl | (simp only [List.length_drop, List.length_take]; rfl)) ?_; (with_reducible refine (whirligigref16_On.calls a0_0 a0_1 a0_2 a0_3 a0_4 a1 a2 true _ A4.out).mono ?_); rintro e w10 ⟨rfl, hb⟩; refine ⟨_, rfl, ?_⟩; have n0_ := Aside0.mk (blk_below (g := gb136) (o := .cells #[.int .u8 a0_0, .int .u8 a0_1, .int .u8 a0_2, .int .u8 a0_3, .int .u8 a0_4] 29 (0, 0)) (by (with_reducible repeat (first | refine blk_drewN ?_ _ | refine blk_drew ?_ | refine blk_alloc ?_ _)); exact BK136.out) hb); have n1_ := Aside0.mk (below_step (by repeat (first | (with_reducible first | exact HB.out | apply below_alloc | apply pw_below_drewN | apply below_drew1 | refine below_set ?_ GE136.out) | exact HB.out)) hb); clear BK136; clear HB; have BK136 := n0_; have HB := n1_; clear n0_ n1_; (try clear hb); (try clear hb2); (try clear hk); (try clear hi); have hcz11_0 : w10.cell? ⟨gb136, 0, none⟩ = some (.int .u8 a0_0) := (blk_cell BK136.out 0).trans rfl; have hcz11_1 : w10.cell? ⟨gb136, 1, none⟩ = some (.int .u8 a0_1) := (blk_cell BK136.out 1).trans rfl; have hcz11_2 : w10.cell? ⟨gb136, 2, none⟩ = some (.int .u8 a0_2) := (blk_cell BK136.out 2).trans rfl; have hcz11_3 : w10.cell? ⟨gb136, 3, none⟩ = some (.int .u8 a0_3) := (blk_cell BK136.out 3).trans rfl; have hcz11_4 : w10.cell? ⟨gb136, 4, none⟩ = some (.int .u8 a0_4) := (blk_cell BK136.out 4).trans rfl; have hfz11_0 := blk_frozen BK136.out 0; have hfz11_1 := blk_frozen BK136.out 1; have hfz11_2 := blk_frozen BK136.out 2; have hfz11_3 := blk_frozen BK136.out 3; have hfz11_4 := blk_frozen BK136.out 4) | ((with_reducible refine gate_callee (f := 27) rfl ?_); refine goesL_ (some 24) rfl rfl Try.func27 (by kernel_rfl) rfl #[.int .u8 a0_3, .int .i64 6] rfl (by (try simp only [List.map_toArray, List.map_cons, List.map_nil]); first | done | rfl | (simp only [List.length_drop, List.length_take]; rfl)) ?_; (with_reducible refine (whirligigref01_Bit.calls k a0_3 6 t138 _ A6.out).mono ?_); rintro e w' ⟨rfl, ⟨nd, rfl⟩⟩; refine ⟨_, rfl, ?_⟩))
    (try simp only [Act.put, List.setIfInBounds_toArray, List.set_cons_zero, List.set_cons_succ])
    go_cut [9] (fun v9 wc => ∃ (kq : Nat) (x9_6 : Int), v9 = .int .i64 x9_6 ∧ Aside0 (whirligigref16_Row.j0 kq a2 x9_6 a0_0 a0_1 a0_2 a0_3 a0_4 = some (r1, r2, r3)) ∧ Aside0 (kq ≤ k) ∧ Aside0 (wc.heap[gb136]? = some (.cells #[.int .u8 a0_0, .int .u8 a0_1, .int .u8 a0_2, .int .u8 a0_3, .int .u8 a0_4] 29 (0, 0))) ∧ Aside0 (Below w.heap.size w wc))
    case first =>
      have H := HC7.out
      clear HC7
      by_cases c12 : t138 = true
      · subst c12
        have H1 : ((whirligigref16_rows.f a2).bind fun t139 => (whirligigref16_Row.j0 k a2 (wrap64 ((wrap64 (t139 - 1)) - (wrap64 ((wrap64 (a1 + 16)) - (wrap64 (a0_0)))))) a0_0 a0_1 a0_2 a0_3 a0_4)) = some (r1, r2, r3) := by rw [if_pos rfl] at H; exact H
        clear H
        have H := H1
        clear H1
        replace H := Option.bind_eq_some_iff.mp H
        obtain ⟨t139, A130, H⟩ := H
        replace H : (whirligigref16_Row.j0 k a2 (wrap64 ((wrap64 (t139 - 1)) - (wrap64 ((wrap64 (a1 + 16)) - (wrap64 (a0_0)))))) a0_0 a0_1 a0_2 a0_3 a0_4) = some (r1, r2, r3) := H
        have A13 := Aside0.mk A130
        clear A130
        have H' := Aside0.mk H
        clear H
        go_wp2_with (first | ((with_reducible refine gate_callee (f := 28) rfl ?_); refine goesL_ (some 26) rfl rfl Try.func28 (by kernel_rfl) rfl #[.bool a2] rfl (by (try simp only [List.map_toArray, List.map_cons, List.map_nil]); first | done | rfl | (simp only [List.length_drop, List.length_take]; rfl)) ?_; (with_reducible refine (whirligigref16_rows.calls a2 t139 _ A13.out).mono ?_); rintro e w' ⟨rfl, ⟨nd, rfl⟩⟩; refine ⟨_, rfl, ?_⟩))
        go_meet
        case rel => exact ⟨_, (wrap64 ((wrap64 (t139 - 1)) - (wrap64 ((wrap64 (a1 + 16)) - (wrap64 (a0_0)))))), (by first | rfl | (simp; done) | (simp [*]; done)), H', ⟨by first | omega | exact Nat.le_refl _⟩, ⟨by (with_reducible repeat (first | refine blk_drewN ?_ _ | refine blk_drew ?_ | refine blk_alloc ?_ _)); exact BK136.out⟩, ⟨by repeat (first | (with_reducible first | exact HB.out | apply below_alloc | apply pw_below_drewN | apply below_drew1 | refine below_set ?_ GE136.out) | exact HB.out)⟩⟩
      · replace c12 := Bool.eq_false_iff.mpr c12
        subst c12
        have H1 : (whirligigref16_Row.j0 k a2 (wrap64 ((wrap64 (a1 + 16)) - (wrap64 (a0_0)))) a0_0 a0_1 a0_2 a0_3 a0_4) = some (r1, r2, r3) := by rw [if_neg (show ¬ (false = true) by decide)] at H; exact H
        clear H
        have H := H1
        clear H1
        have H' := Aside0.mk H
        clear H
        go_wp2
        go_meet
        case rel => exact ⟨_, (wrap64 ((wrap64 (a1 + 16)) - (wrap64 (a0_0)))), (by first | rfl | (simp; done) | (simp [*]; done)), H', ⟨by first | omega | exact Nat.le_refl _⟩, ⟨by (with_reducible repeat (first | refine blk_drewN ?_ _ | refine blk_drew ?_ | refine blk_alloc ?_ _)); exact BK136.out⟩, ⟨by repeat (first | (with_reducible first | exact HB.out | apply below_alloc | apply pw_below_drewN | apply below_drew1 | refine below_set ?_ GE136.out) | exact HB.out)⟩⟩
    case rest =>
      clear HC7
      try clear c1
      try clear c2
      try clear p2
      try clear c5
      try clear p6
      try clear c12
      try clear hcz11_0
      try clear hcz11_1
      try clear hcz11_2
      try clear hcz11_3
      try clear hcz11_4
      try clear hcz9_0
      try clear hcz9_1
      try clear hcz9_2
      try clear hcz9_3
      try clear hcz9_4
      try clear hfz11_0
      try clear hfz11_1
      try clear hfz11_2
      try clear hfz11_3
      try clear hfz11_4
      try clear hfz9_0
      try clear hfz9_1
      try clear hfz9_2
      try clear hfz9_3
      try clear hfz9_4
      obtain ⟨kq, x9_6, rfl, HA, HJ6, BK136, HB⟩ := hcut
      cases kq with
      | zero => exact absurd HA.out (by simp [whirligigref16_Row.j0])
      | succ kj6 =>
        have H := HA.out
        clear HA
        simp only [whirligigref16_Row.j0] at H
        by_cases c14 : a2 = true
        · subst c14
          have H1 : ((whirligigref01_Put.f kj6 a0_2 0 false).bind fun t140 => (if x9_6 ≥ 8 then (some ((t140 + 1) % 256, wrap64 (x9_6 - 8), true)) else (some (t140, x9_6, true)))) = some (r1, r2, r3) := by rw [if_pos rfl] at H; exact H
          clear H
          have H := H1
          clear H1
          replace H := Option.bind_eq_some_iff.mp H
          obtain ⟨t140, A150, H⟩ := H
          replace H : (if x9_6 ≥ 8 then (some ((t140 + 1) % 256, wrap64 (x9_6 - 8), true)) else (some (t140, x9_6, true))) = some (r1, r2, r3) := H
          have A15 := Aside0.mk A150
          clear A150
          by_cases c16 : x9_6 ≥ 8
          · rw [if_pos c16] at H
            have c16b0 : decide (8 ≤ x9_6) = true := decide_eq_true c16
            clear c16
            simp only [Option.some.injEq, Prod.mk.injEq] at H
            obtain ⟨rfl, rfl, rfl⟩ := H
            have hcz17_0 : wc.cell? ⟨gb136, 0, none⟩ = some (.int .u8 a0_0) := (blk_cell BK136.out 0).trans rfl
            have hcz17_1 : wc.cell? ⟨gb136, 1, none⟩ = some (.int .u8 a0_1) := (blk_cell BK136.out 1).trans rfl
            have hcz17_2 : wc.cell? ⟨gb136, 2, none⟩ = some (.int .u8 a0_2) := (blk_cell BK136.out 2).trans rfl
            have hcz17_3 : wc.cell? ⟨gb136, 3, none⟩ = some (.int .u8 a0_3) := (blk_cell BK136.out 3).trans rfl
            have hcz17_4 : wc.cell? ⟨gb136, 4, none⟩ = some (.int .u8 a0_4) := (blk_cell BK136.out 4).trans rfl
            have hfz17_0 := blk_frozen BK136.out 0
            have hfz17_1 := blk_frozen BK136.out 1
            have hfz17_2 := blk_frozen BK136.out 2
            have hfz17_3 := blk_frozen BK136.out 3
            have hfz17_4 := blk_frozen BK136.out 4
            go_wp2_with (first | ((with_reducible refine gate_callee (f := 29) rfl ?_); refine goesL_ (some 37) rfl rfl Try.func29 (by kernel_rfl) rfl #[.int .u8 a0_2, .int .i64 0, .bool false] rfl (by (try simp only [List.map_toArray, List.map_cons, List.map_nil]); first | done | rfl | (simp only [List.length_drop, List.length_take]; rfl)) ?_; (with_reducible refine (whirligigref01_Put.calls kj6 a0_2 0 false t140 _ A15.out).mono ?_); rintro e w' ⟨rfl, ⟨nd, rfl⟩⟩; refine ⟨_, rfl, ?_⟩))
            go_ret3
            exact ⟨by first | rfl | (simp [errW_none, errW_some] <;> rfl) | (simp [*, errW_none, errW_some] <;> rfl), by repeat (first | (with_reducible first | exact HB.out | apply below_alloc | apply pw_below_drewN | apply below_drew1 | refine below_set ?_ GE136.out) | exact HB.out)⟩
          · rw [if_neg c16] at H
            have c16b0 : decide (8 ≤ x9_6) = false := decide_eq_false c16
            clear c16
            simp only [Option.some.injEq, Prod.mk.injEq] at H
            obtain ⟨rfl, rfl, rfl⟩ := H
            have hcz18_0 : wc.cell? ⟨gb136, 0, none⟩ = some (.int .u8 a0_0) := (blk_cell BK136.out 0).trans rfl
            have hcz18_1 : wc.cell? ⟨gb136, 1, none⟩ = some (.int .u8 a0_1) := (blk_cell BK136.out 1).trans rfl
            have hcz18_2 : wc.cell? ⟨gb136, 2, none⟩ = some (.int .u8 a0_2) := (blk_cell BK136.out 2).trans rfl
            have hcz18_3 : wc.cell? ⟨gb136, 3, none⟩ = some (.int .u8 a0_3) := (blk_cell BK136.out 3).trans rfl
            have hcz18_4 : wc.cell? ⟨gb136, 4, none⟩ = some (.int .u8 a0_4) := (blk_cell BK136.out 4).trans rfl
            have hfz18_0 := blk_frozen BK136.out 0
            have hfz18_1 := blk_frozen BK136.out 1
            have hfz18_2 := blk_frozen BK136.out 2
            have hfz18_3 := blk_frozen BK136.out 3
            have hfz18_4 := blk_frozen BK136.out 4
            go_wp2_with (first | ((with_reducible refine gate_callee (f := 29) rfl ?_); refine goesL_ (some 37) rfl rfl Try.func29 (by kernel_rfl) rfl #[.int .u8 a0_2, .int .i64 0, .bool false] rfl (by (try simp only [List.map_toArray, List.map_cons, List.map_nil]); first | done | rfl | (simp only [List.length_drop, List.length_take]; rfl)) ?_; (with_reducible refine (whirligigref01_Put.calls kj6 a0_2 0 false t140 _ A15.out).mono ?_); rintro e w' ⟨rfl, ⟨nd, rfl⟩⟩; refine ⟨_, rfl, ?_⟩))
            go_ret3
            exact ⟨by first | rfl | (simp [errW_none, errW_some] <;> rfl) | (simp [*, errW_none, errW_some] <;> rfl), by repeat (first | (with_reducible first | exact HB.out | apply below_alloc | apply pw_below_drewN | apply below_drew1 | refine below_set ?_ GE136.out) | exact HB.out)⟩
        · replace c14 := Bool.eq_false_iff.mpr c14
          subst c14
          have H1 : (some (a0_2, x9_6, true)) = some (r1, r2, r3) := by rw [if_neg (show ¬ (false = true) by decide)] at H; exact H
          clear H
          have H := H1
          clear H1
          simp only [Option.some.injEq, Prod.mk.injEq] at H
          obtain ⟨rfl, rfl, rfl⟩ := H
          have hcz19_0 : wc.cell? ⟨gb136, 0, none⟩ = some (.int .u8 a0_0) := (blk_cell BK136.out 0).trans rfl
          have hcz19_1 : wc.cell? ⟨gb136, 1, none⟩ = some (.int .u8 a0_1) := (blk_cell BK136.out 1).trans rfl
          have hcz19_2 : wc.cell? ⟨gb136, 2, none⟩ = some (.int .u8 a0_2) := (blk_cell BK136.out 2).trans rfl
          have hcz19_3 : wc.cell? ⟨gb136, 3, none⟩ = some (.int .u8 a0_3) := (blk_cell BK136.out 3).trans rfl
          have hcz19_4 : wc.cell? ⟨gb136, 4, none⟩ = some (.int .u8 a0_4) := (blk_cell BK136.out 4).trans rfl
          have hfz19_0 := blk_frozen BK136.out 0
          have hfz19_1 := blk_frozen BK136.out 1
          have hfz19_2 := blk_frozen BK136.out 2
          have hfz19_3 := blk_frozen BK136.out 3
          have hfz19_4 := blk_frozen BK136.out 4
          go_wp2
          go_ret3
          exact ⟨by first | rfl | (simp [errW_none, errW_some] <;> rfl) | (simp [*, errW_none, errW_some] <;> rfl), by repeat (first | (with_reducible first | exact HB.out | apply below_alloc | apply pw_below_drewN | apply below_drew1 | refine below_set ?_ GE136.out) | exact HB.out)⟩
  · replace c5 := Bool.eq_false_iff.mpr c5
    subst c5
    have H1 : (some (0, 0, false)) = some (r1, r2, r3) := by rw [if_neg (show ¬ (false = true) by decide)] at H; exact H
    clear H
    have H := H1
    clear H1
    simp only [Option.some.injEq, Prod.mk.injEq] at H
    obtain ⟨rfl, rfl, rfl⟩ := H
    go_enter Try.func15, Try.ntmps15
    go_wp2_with (first | ((with_reducible refine gate_dst (N := 3) rfl ?_); refine box_event ?hg (N := 3) ?hd (cs := #[.int .u8 a0_0, .int .u8 a0_1, .int .u8 a0_2, .int .u8 a0_3, .int .u8 a0_4]) (t := 29) ?hr ?_; (case hd => rfl); (case hg => rfl); (case hr => first | (go_simp; done) | (go_simp; rfl)); intro gb136 hg w20 hbox hb; have n0_ := Aside0.mk (below_step (by repeat (first | (with_reducible first | exact HB.out | apply below_alloc | apply pw_below_drewN | apply below_drew1) | exact HB.out)) hb); have n1_ := Aside0.mk (hbox); have n2_ := Aside0.mk ((by rw [hg]; exact (below_size (by repeat (first | (with_reducible first | exact HB.out | apply below_alloc | apply pw_below_drewN | apply below_drew1) | exact HB.out))) : w.heap.size ≤ gb136)); have n3_ := Aside0.mk ((by rw [hg]; exact (below_size (by repeat (first | (with_reducible first | exact HB.out | apply below_alloc | apply pw_below_drewN | apply below_drew1) | exact HB.out))) : w.heap.size ≤ gb136)); clear HB; have HB := n0_; have BK136 := n1_; have GW136 := n2_; have GE136 := n3_; clear n0_ n1_ n2_ n3_; clear hb hbox hg; have hcz21_0 : w20.cell? ⟨gb136, 0, none⟩ = some (.int .u8 a0_0) := (blk_cell BK136.out 0).trans rfl; have hcz21_1 : w20.cell? ⟨gb136, 1, none⟩ = some (.int .u8 a0_1) := (blk_cell BK136.out 1).trans rfl; have hcz21_2 : w20.cell? ⟨gb136, 2, none⟩ = some (.int .u8 a0_2) := (blk_cell BK136.out 2).trans rfl; have hcz21_3 : w20.cell? ⟨gb136, 3, none⟩ = some (.int .u8 a0_3) := (blk_cell BK136.out 3).trans rfl; have hcz21_4 : w20.cell? ⟨gb136, 4, none⟩ = some (.int .u8 a0_4) := (blk_cell BK136.out 4).trans rfl; have hfz21_0 := blk_frozen BK136.out 0; have hfz21_1 := blk_frozen BK136.out 1; have hfz21_2 := blk_frozen BK136.out 2; have hfz21_3 := blk_frozen BK136.out 3; have hfz21_4 := blk_frozen BK136.out 4) | ((with_reducible refine gate_callee (f := 25) rfl ?_); refine goesL_ (some 14) rfl rfl Try.func25 (by kernel_rfl) rfl #[.agg #[.int .u8 a0_0, .int .u8 a0_1, .int .u8 a0_2, .int .u8 a0_3, .int .u8 a0_4], .int .i64 a1, .bool a2] rfl (by (try simp only [List.map_toArray, List.map_cons, List.map_nil]); first | done | rfl | (simp only [List.length_drop, List.length_take]; rfl)) ?_; (with_reducible refine (whirligigref16_On.calls a0_0 a0_1 a0_2 a0_3 a0_4 a1 a2 false _ A4.out).mono ?_); rintro e w22 ⟨rfl, hb⟩; refine ⟨_, rfl, ?_⟩; have n0_ := Aside0.mk (blk_below (g := gb136) (o := .cells #[.int .u8 a0_0, .int .u8 a0_1, .int .u8 a0_2, .int .u8 a0_3, .int .u8 a0_4] 29 (0, 0)) (by (with_reducible repeat (first | refine blk_drewN ?_ _ | refine blk_drew ?_ | refine blk_alloc ?_ _)); exact BK136.out) hb); have n1_ := Aside0.mk (below_step (by repeat (first | (with_reducible first | exact HB.out | apply below_alloc | apply pw_below_drewN | apply below_drew1 | refine below_set ?_ GE136.out) | exact HB.out)) hb); clear BK136; clear HB; have BK136 := n0_; have HB := n1_; clear n0_ n1_; (try clear hb); (try clear hb2); (try clear hk); (try clear hi)))
    go_ret3
    exact ⟨by first | rfl | (simp [errW_none, errW_some] <;> rfl) | (simp [*, errW_none, errW_some] <;> rfl), by repeat (first | (with_reducible first | exact HB.out | apply below_alloc | apply pw_below_drewN | apply below_drew1 | refine below_set ?_ GE136.out) | exact HB.out)⟩

end Go.Proofs.Ytfpepeembbpncaa.P
