/- Functions of the program as plain Lean, and what they come to. Conditions: none. -/
import Derived.Test.YtibgfodjecnnkaaEwD
import Derived.Test.YtibgfodjecnnkaaPureF
open Go Go.Ew
namespace Go.Proofs.Ytibgfodjecnnkaa.E
set_option linter.unusedVariables false
set_option linter.unusedSimpArgs false
set_option maxRecDepth 100000

abbrev ZV : VID := ((0 : Int), (0 : Int), (0 : Int), (0 : Int), (0 : Int), (0 : Int), (0 : Int), (0 : Int), ([] : List Int), ([] : List Int))
def frS (l : List VID) : Nat → List Int × Int
  | 0 => ([], 0)
  | i + 1 => if i < l.length then ((frS l i).1 ++ lineS (l.getD i ZV) i (frS l i).2, winN (l.getD i ZV) i (frS l i).2) else ((frS l i).1 ++ List.replicate 160 0, (frS l i).2)
theorem frS_length (l : List VID) : ∀ i, (frS l i).1.length = 160 * i
  | 0 => rfl
  | i + 1 => by
    unfold frS
    split
    · simp only [List.length_append, lineS_length, frS_length l i]; omega
    · simp only [List.length_append, List.length_replicate, frS_length l i]; omega
theorem winN_byte {v : VID} {y win : Int} (h : byte win) : byte (winN v y win) := by
  have a := h.1
  have b := h.2
  unfold winN byte
  split <;> omega
theorem frS_win (l : List VID) : ∀ i, byte (frS l i).2
  | 0 => ⟨by simp [frS], by simp [frS]⟩
  | i + 1 => by
    unfold frS
    split
    · exact winN_byte (frS_win l i)
    · exact frS_win l i
theorem frame_step {l : List VID} (hl : ∀ v ∈ l, vok v) {i : Nat} (hi : i < 144) (F : VID × Int × Int × Unit → Option (List Int × Int × Unit)) (hF : ∀ v y win, vok v → byte y → byte win → F (v, y, win, ()) = some (lineS v y win, winN v y win, ())) {R : Type} (K : Int → List Int → Option R) :
    (if decide ((i : Int) < (l.length : Int)) = true then if (0 : Int) ≤ (i : Int) ∧ (i : Int) < (l.length : Int) then Option.bind (F (l.getD (i : Int).toNat ZV, IntKind.wrap .u8 (i : Int), (frS l i).2, ())) fun y0 => if (frS l i).1.length + y0.1.length ≤ 268435456 then K y0.2.1 (List.take ((frS l i).1.length + y0.1.length) (List.take (frS l i).1.length (frS l i).1 ++ y0.1)) else none else none
      else if (frS l i).1.length + 160 ≤ 268435456 then K (frS l i).2 (List.take ((frS l i).1.length + 160) (List.take (frS l i).1.length (frS l i).1 ++ List.take 160 (List.drop 0 (List.replicate 160 0)))) else none) =
    K (frS l (i + 1)).2 (frS l (i + 1)).1 := by
  have hlen := frS_length l i
  have hw := frS_win l i
  by_cases h : i < l.length
  · have g : (i : Int) < (l.length : Int) := by omega
    have g2 : (0 : Int) ≤ (i : Int) ∧ (i : Int) < (l.length : Int) := by omega
    have hv : vok (l.getD i ZV) := by rw [getD_in h]; exact hl _ (List.getElem_mem h)
    rw [if_pos (decide_eq_true g), if_pos g2, w8 (n := (i : Int)) (by omega)]
    simp only [Int.toNat_natCast]
    rw [hF _ _ _ hv ⟨by omega, by omega⟩ hw]
    simp only [Option.bind_some, lineS_length]
    rw [if_pos (by omega), List.take_length]
    have e : frS l (i + 1) = ((frS l i).1 ++ lineS (l.getD i ZV) i (frS l i).2, winN (l.getD i ZV) i (frS l i).2) := by
      conv => lhs; unfold frS
      rw [if_pos h]
    rw [e, List.take_of_length_le (by rw [List.length_append, lineS_length]; exact Nat.le_refl _)]
  · have g : ¬ (i : Int) < (l.length : Int) := by omega
    rw [if_neg (by simpa using g), if_pos (by omega), List.take_length, List.drop_zero, List.take_of_length_le (l := List.replicate 160 (0 : Int)) (by simp)]
    have e : frS l (i + 1) = ((frS l i).1 ++ List.replicate 160 0, (frS l i).2) := by
      conv => lhs; unfold frS
      rw [if_neg h]
    rw [e, List.take_of_length_le (by rw [List.length_append, List.length_replicate]; exact Nat.le_refl _)]
theorem frame_spec {l : List VID} (hl : ∀ v ∈ l, vok v) : scan_Frame.F (l, ()) = some ((frS l 144).1, ()) := by
  unfold scan_Frame.F scan_Frame.C scan_Frame.G
  dsimp only
  have h : scan_Frame.L0.F ((l, (0 : Int), (0 : Int), ()), (), List.take 0 (List.replicate 23040 0), ()) = some ((), (), (frS l 144).1, ()) := by
    unfold scan_Frame.L0.F
    refine (congrArg (iterU _) ?_).trans (iterU_range (fun i : Nat => ((l, (frS l i).2, (i : Int), ()), (), (frS l i).1, ())) _ 144 ?_ ?_ 0 (by omega))
    · rfl
    · intro i hi
      unfold scan_Frame.L0.step
      dsimp only
      have g : (i : Int) < 144 := by omega
      rw [if_pos (decide_eq_true g), w64 (n := (i : Int) + 1) (by omega)]
      exact frame_step hl hi scan_Line.F (fun v y win a b c => line_spec a b c) (fun w o => some (Sum.inl ((l, w, ((i + 1 : Nat) : Int), ()), (), o, ())))
    · unfold scan_Frame.L0.step
      dsimp only
      rw [if_neg (by simp), List.take_length]
  rw [h]
  simp
theorem rframe_spec {l : List VID} (hl : ∀ v ∈ l, vok v) : ref18_Frame.F (l, ()) = some ((frS l 144).1, ()) := by
  unfold ref18_Frame.F ref18_Frame.C ref18_Frame.G
  dsimp only
  have h : ref18_Frame.L0.F ((l, (0 : Int), (0 : Int), ()), (), [], ()) = some ((), (), (frS l 144).1, ()) := by
    unfold ref18_Frame.L0.F
    refine (congrArg (iterU _) ?_).trans (iterU_range (fun i : Nat => ((l, (frS l i).2, (i : Int), ()), (), (frS l i).1, ())) _ 144 ?_ ?_ 0 (by omega))
    · rfl
    · intro i hi
      unfold ref18_Frame.L0.step
      dsimp only
      have g : (i : Int) < 144 := by omega
      rw [if_pos (decide_eq_true g), w64 (n := (i : Int) + 1) (by omega)]
      exact frame_step hl hi ref18_Line.F (fun v y win a b c => rline_spec a b c) (fun w o => some (Sum.inl ((l, w, ((i + 1 : Nat) : Int), ()), (), o, ())))
    · unfold ref18_Frame.L0.step
      dsimp only
      rw [if_neg (by simp), List.take_length]
  rw [h]
  simp
theorem scanFrames_walk : LawOK Go.Proofs.Try.prog 9 law18_ScanFrames.as := .of law18_ScanFrames.ok fun x h => by
  obtain ⟨l, u⟩ := x
  have hl : ∀ v ∈ l, vok v := fun v hv => vok_of (h.1.2 v hv)
  unfold law18_ScanFrames.F law18_ScanFrames.C law18_ScanFrames.G
  simp only [shown_spec, Option.bind_some, frame_spec hl, rframe_spec hl]
  simp [sEq_self]
/-! shades -/
theorem dotS_le {v : VID} {y win : Int} {l : List O5} {x : Nat} : 0 ≤ dotS v y l win x ∧ dotS v y l win x ≤ 3 := by
  have hu : ∀ u, 0 ≤ underS v u ∧ underS v u ≤ 3 := by
    intro u
    unfold underS
    split
    · exact shS_le _ _
    · omega
  unfold dotS
  dsimp only
  split
  · exact hu _
  · split
    · exact hu _
    · exact shS_le _ _
theorem low2_fin : ∀ c : Fin 256, (bits .and .u8 (c.val : Int) 3 == 0) = (!bitB (c.val : Int) 0 && !bitB (c.val : Int) 1) := by decide +kernel
theorem low2 {c : Int} (h : byte c) : (bits .and .u8 c 3 == 0) = (!bitB c 0 && !bitB c 1) := by
  have a := h.1
  have b := h.2
  have := low2_fin ⟨c.toNat, by omega⟩
  simp only [Int.toNat_of_nonneg a] at this
  exact this
theorem dot_dark {v : VID} (h0 : bitB v.1 0 = false) (h1 : bitB v.1 1 = false) (y win : Int) (x : Nat) : dotS v y (objsS v y) win x = 0 := by
  have hO : objsS v y = [] := by unfold objsS; rw [if_neg (by simp [h1])]
  unfold dotS seen underS
  rw [hO]
  simp [h0]
theorem shades_loop {v : VID} (hv : vok v) {y win : Int} {up : Bool} : law18_ScanShades.L0.F (((), up, lineS v y win, (0 : Int), ()), (vb v, ()), ()) = some (Sum.inr ((up, ()), (), ())) := by
  unfold law18_ScanShades.L0.F
  refine (congrArg (iterU _) ?_).trans (iterU_range (fun i : Nat => (((), up, lineS v y win, (i : Int), ()), (vb v, ()), ())) _ 160 ?_ ?_ 0 (by omega))
  · rfl
  · intro i hi
    unfold law18_ScanShades.L0.step
    dsimp only
    have g : (i : Int) < 160 := by omega
    have g2 : (0 : Int) ≤ (i : Int) ∧ (i : Int) < ((lineS v y win).length : Int) := by rw [lineS_length]; omega
    have hd := dotS_le (v := v) (y := y) (win := win) (l := objsS v y) (x := i)
    rw [if_pos (decide_eq_true g), if_pos g2, if_pos g2, w64 (n := (i : Int) + 1) (by omega)]
    simp only [Int.toNat_natCast, line_get hi, low2 hv.ctl]
    have g3 : ¬ dotS v y (objsS v y) win i > 3 := by omega
    by_cases q : (!bitB v.1 0 && !bitB v.1 1) = true
    · simp only [Bool.and_eq_true, Bool.not_eq_true'] at q
      rw [dot_dark q.1 q.2]
      simp [q.1, q.2]
    · simp [g3, q]
  · unfold law18_ScanShades.L0.step
    dsimp only
    rfl
theorem scanShades_walk : LawOK Go.Proofs.Try.prog 6 law18_ScanShades.as := .of law18_ScanShades.ok fun x h => by
  obtain ⟨v, y, win, u⟩ := x
  have hv : vok v := vok_of h.1
  have hy : byte y := wf_u8.1 h.2.1
  have hw : byte win := wf_u8.1 h.2.2.1
  unfold law18_ScanShades.F law18_ScanShades.C law18_ScanShades.G
  simp only [shown_spec, Option.bind_some, line_spec hv hy hw, window_spec hv, lineS_length, m8]
  have hs := shades_loop hv (y := y) (win := win) (up := true)
  dsimp only [vb] at hs
  rw [hs]
  unfold winN
  by_cases q : winS v y = true
  · simp [q]
  · have q' : winS v y = false := by simpa using q
    simp [q']
/-! scrolls -/
theorem ctl_fin : ∀ c : Fin 256, bitB (bits .or .u8 (bits .andNot .u8 (c.val : Int) 34) 1) 0 = true ∧ bitB (bits .or .u8 (bits .andNot .u8 (c.val : Int) 34) 1) 1 = false ∧ bitB (bits .or .u8 (bits .andNot .u8 (c.val : Int) 34) 1) 5 = false ∧ 0 ≤ bits .or .u8 (bits .andNot .u8 (c.val : Int) 34) 1 ∧ bits .or .u8 (bits .andNot .u8 (c.val : Int) 34) 1 ≤ 255 := by decide +kernel
theorem ctl_spec {c : Int} (h : byte c) : ∃ d, bits .or .u8 (bits .andNot .u8 c 34) 1 = d ∧ bitB d 0 = true ∧ bitB d 1 = false ∧ bitB d 5 = false ∧ byte d := by
  have a := h.1
  have b := h.2
  have := ctl_fin ⟨c.toNat, by omega⟩
  simp only [Int.toNat_of_nonneg a] at this
  exact ⟨_, rfl, this.1, this.2.1, this.2.2.1, this.2.2.2⟩
theorem scrolls_loop {a b c d : List Int} {by_ : Int} (hb : byte by_) {up : Bool} (ha : a.length = 160) (hb2 : b.length = 160) (h : ∀ x : Nat, (x : Int) + by_ < 160 → b.getD x 0 = a.getD (x + by_.toNat) 0) :
    law18_ScanScrolls.L0.F ((by_, up, a, b, c, d, (0 : Int), ()), (), ()) = some (Sum.inr ((up, c, d, ()), (), ())) := by
  have b0 := hb.1
  have b1 := hb.2
  unfold law18_ScanScrolls.L0.F
  refine (congrArg (iterU _) ?_).trans (iterU_range (fun i : Nat => ((by_, up, a, b, c, d, (i : Int), ()), (), ())) _ (160 - by_.toNat) ?_ ?_ 0 (by omega))
  · rfl
  · intro i hi
    unfold law18_ScanScrolls.L0.step
    dsimp only
    have g : (i : Int) + by_ < 160 := by omega
    have g2 : (0 : Int) ≤ (i : Int) ∧ (i : Int) < (b.length : Int) := by omega
    have g3 : (0 : Int) ≤ (i : Int) + by_ ∧ (i : Int) + by_ < (a.length : Int) := by omega
    rw [w64 (n := by_) (by omega), w64 (n := (i : Int) + by_) (by omega), if_pos (decide_eq_true g), if_pos g2, if_pos g3, w64 (n := (i : Int) + 1) (by omega)]
    simp only [Int.toNat_natCast]
    have e : (b.getD i 0 != a.getD ((i : Int) + by_).toNat 0) = false := by
      rw [h i g, show ((i : Int) + by_).toNat = i + by_.toNat by omega]; simp
    rw [if_neg (by rw [e]; simp)]
    rfl
  · unfold law18_ScanScrolls.L0.step
    dsimp only
    rw [w64 (n := by_) (by omega), w64 (n := ((160 - by_.toNat : Nat) : Int) + by_) (by omega), if_neg (by simp; omega)]
theorem scanScrolls_walk : LawOK Go.Proofs.Try.prog 7 law18_ScanScrolls.as := .of law18_ScanScrolls.ok fun x h => by
  obtain ⟨v, y, by_, down, u⟩ := x
  have hv : vok v := vok_of h.1
  have hy : byte y := wf_u8.1 h.2.1
  have hb : byte by_ := wf_u8.1 h.2.2.1
  have hd : byte down := wf_u8.1 h.2.2.2.1
  have y0 := hy.1
  have y1 := hy.2
  have b0 := hb.1
  have b1 := hb.2
  have d0 := hd.1
  have d1 := hd.2
  have x0 := hv.scx.1
  have x1 := hv.scx.2
  have s0 := hv.scy.1
  have s1 := hv.scy.2
  unfold law18_ScanScrolls.F law18_ScanScrolls.C law18_ScanScrolls.G
  dsimp only
  obtain ⟨c, ec, c0, c1, c5, cb⟩ := ctl_spec hv.ctl
  rw [ec, m8, m8, m8]
  have vA : vok (c, v.2) := ⟨cb, hv.scy, hv.scx, hv.wy, hv.wx, hv.bgp, hv.ob0, hv.ob1, hv.vr, hv.oa⟩
  have vB : vok (c, v.2.1, (v.2.2.1 + by_) % 256, v.2.2.2) := ⟨cb, hv.scy, ⟨by simp only; omega, by simp only; omega⟩, hv.wy, hv.wx, hv.bgp, hv.ob0, hv.ob1, hv.vr, hv.oa⟩
  have vC : vok (c, (v.2.1 + down) % 256, v.2.2) := ⟨cb, ⟨by simp only; omega, by simp only; omega⟩, hv.scx, hv.wy, hv.wx, hv.bgp, hv.ob0, hv.ob1, hv.vr, hv.oa⟩
  have z : byte 0 := ⟨by omega, by omega⟩
  simp only [shown_spec, Option.bind_some, line_spec vA hy z, line_spec vB hy z, line_spec vC hy z, line_spec vA (y := (y + down) % 256) ⟨by omega, by omega⟩ z, lineS_length]
  rw [scrolls_loop hb (lineS_length _ _ _) (lineS_length _ _ _) fun x hx => by
    rw [line_get (by omega), line_get (by omega), dot_ground c0 c1 c5, dot_ground c0 c1 c5]
    dsimp only
    have e : ((x : Int) + (v.2.2.1 + by_) % 256) % 256 = (((x + by_.toNat : Nat) : Int) + v.2.2.1) % 256 := by omega
    rw [e]
    rfl]
  have eq2 : lineS (c, (v.2.1 + down) % 256, v.2.2) y 0 = lineS (c, v.2) ((y + down) % 256) 0 := by
    unfold lineS
    apply List.map_congr_left
    intro x hx
    rw [dot_ground c0 c1 c5, dot_ground c0 c1 c5]
    dsimp only
    have k : ∀ a b : Int, (a + b % 256) % 256 = (a + b) % 256 := by intro a b; omega
    have e : (y + (v.2.1 + down) % 256) % 256 = ((y + down) % 256 + v.2.1) % 256 := by
      rw [k, Int.add_comm ((y + down) % 256), k]; congr 1; omega
    rw [e]
    rfl
  rw [eq2]
  simp [sEq_self]
theorem scanTexts_true {l : List Int} (hb : bytes l) (hl : l.length ≤ 268435456) : law18_ScanTexts.F (l, ()) = some (true, ()) := by
  unfold law18_ScanTexts.F law18_ScanTexts.C law18_ScanTexts.G
  simp only [shown_spec, Option.bind_some, text_spec hb hl, rtext_spec hb hl]
  simp [sEq_self]
theorem scanTexts_walk : LawIf Go.Proofs.Try.prog 5 law18_ScanTexts.as (fun x => x.1.length ≤ 1048576) := .of law18_ScanTexts.ok fun x h hB => by
  obtain ⟨l, u⟩ := x
  exact scanTexts_true (fun n hn => wf_u8.1 (h.1.2 n hn)) (by have : List.length l ≤ 1048576 := hB; omega)
end Go.Proofs.Ytibgfodjecnnkaa.E
