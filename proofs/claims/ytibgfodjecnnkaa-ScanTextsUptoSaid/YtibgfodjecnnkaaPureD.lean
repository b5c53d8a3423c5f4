/- Functions of the program as plain Lean, and what they come to. Conditions: none. -/
import Derived.Test.YtibgfodjecnnkaaEwD
import Derived.Test.YtibgfodjecnnkaaPureC
open Go Go.Ew
namespace Go.Proofs.Ytibgfodjecnnkaa.E
set_option linter.unusedVariables false
set_option linter.unusedSimpArgs false
set_option maxRecDepth 100000

abbrev VID := Int × Int × Int × Int × Int × Int × Int × Int × List Int × List Int
abbrev vram (v : VID) : List Int := v.2.2.2.2.2.2.2.2.1
abbrev oam (v : VID) : List Int := v.2.2.2.2.2.2.2.2.2
structure vok (v : VID) : Prop where
  ctl : byte v.1
  scy : byte v.2.1
  scx : byte v.2.2.1
  wy : byte v.2.2.2.1
  wx : byte v.2.2.2.2.1
  bgp : byte v.2.2.2.2.2.1
  ob0 : byte v.2.2.2.2.2.2.1
  ob1 : byte v.2.2.2.2.2.2.2.1
  vr : bytes (vram v)
  oa : bytes (oam v)
abbrev vb (v : VID) : Int × Int × Int × Int × Int × Int × Int × Int × List Int × List Int × Unit := (v.1, v.2.1, v.2.2.1, v.2.2.2.1, v.2.2.2.2.1, v.2.2.2.2.2.1, v.2.2.2.2.2.2.1, v.2.2.2.2.2.2.2.1, v.2.2.2.2.2.2.2.2.1, v.2.2.2.2.2.2.2.2.2, ())
def winS (v : VID) (y : Int) : Bool := bitB v.1 0 && bitB v.1 5 && decide (v.2.2.2.1 ≤ y) && decide (v.2.2.2.2.1 ≤ 166)
theorem window_spec {v : VID} (hv : vok v) (y : Int) : scan_Window.F (v, y, ()) = some (winS v y, ()) := by
  unfold scan_Window.F scan_Window.C scan_Window.G winS
  have e0 : word_Bit.F (v.1, 0, ()) = some (bitB v.1 0, ()) := bit_spec 0 (by omega) hv.ctl
  have e5 : word_Bit.F (v.1, 5, ()) = some (bitB v.1 5, ()) := bit_spec 5 (by omega) hv.ctl
  simp only [e0, e5, Option.bind_some]
  cases bitB v.1 0
  · simp
  · cases bitB v.1 5
    · simp
    · by_cases h : v.2.2.2.1 ≤ y <;> simp [h]
theorem rwindow_spec {v : VID} (hv : vok v) (y : Int) : ref18_Window.F (v, y, ()) = some (winS v y, ()) := by
  unfold ref18_Window.F ref18_Window.C ref18_Window.G winS
  have e0 : ref01_Bit.F (v.1, 0, ()) = some (bitB v.1 0, ()) := rbit_spec 0 (by omega) hv.ctl
  have e5 : ref01_Bit.F (v.1, 5, ()) = some (bitB v.1 5, ()) := rbit_spec 5 (by omega) hv.ctl
  simp only [e0, e5, Option.bind_some]
  cases bitB v.1 0
  · simp
  · cases bitB v.1 5
    · simp
    · by_cases h : v.2.2.2.1 ≤ y <;> simp [h]
/-! cells -/
def mapS (high : Bool) (a b : Int) : Int := (if high = true then 7168 else 6144) + 32 * (b / 8) + a / 8
def cellS (v : VID) (high : Bool) (a b : Int) : Int :=
  let p := plS (atS (vram v) (mapS high a b)) (!bitB v.1 4) b
  pxS (atS (vram v) p) (atS (vram v) (p + 1)) (a % 8)
theorem cellS_le (v : VID) (high : Bool) (a b : Int) : 0 ≤ cellS v high a b ∧ cellS v high a b ≤ 3 := pxS_le _ _ _
theorem map_or (k : Nat) (hk : k < 8) {a b : Int} (ha : byte a) (hb : byte b) :
    bits .or .i64 (bits .or .i64 (1024 * k : Nat) (IntKind.wrap .i64 (IntKind.wrap .i64 (Int.fdiv b 8) * 32))) (IntKind.wrap .i64 (Int.fdiv a 8)) = (1024 * k : Nat) + 32 * (b / 8) + a / 8 := by
  have a0 := ha.1
  have a1 := ha.2
  have b0 := hb.1
  have b1 := hb.2
  rw [fdivN (by omega), fdivN (by omega), w64 (n := b / 8) (by omega), w64 (n := b / 8 * 32) (by omega), w64 (n := a / 8) (by omega)]
  obtain ⟨q, hq, hq2⟩ : ∃ q : Nat, b / 8 = (q : Int) ∧ q < 32 := ⟨(b / 8).toNat, by omega, by omega⟩
  obtain ⟨p, hp, hp2⟩ : ∃ q : Nat, a / 8 = (q : Int) ∧ q < 32 := ⟨(a / 8).toNat, by omega, by omega⟩
  rw [hq, hp]
  have e1 := join64 10 (a := k) (b := q * 32) (by omega) (by omega)
  have e2 := join64 5 (a := 32 * k + q) (b := p) (by omega) (by omega)
  rw [show (2 ^ 10 * k : Nat) = 1024 * k by rfl] at e1
  rw [show ((q : Int) * 32) = ((q * 32 : Nat) : Int) by omega, e1]
  rw [show (2 ^ 5 * (32 * k + q) : Nat) = 1024 * k + q * 32 by omega] at e2
  rw [e2]
  omega
theorem cell_spec {v : VID} (hv : vok v) (high : Bool) {a b : Int} (ha : byte a) (hb : byte b) : scan_cell.F (v, high, a, b, ()) = some (cellS v high a b, ()) := by
  have a0 := ha.1
  have a1 := ha.2
  have b0 := hb.1
  have b1 := hb.2
  unfold scan_cell.F scan_cell.C scan_cell.G cellS mapS
  have e4 : word_Bit.F (v.1, 4, ()) = some (bitB v.1 4, ()) := bit_spec 4 (by omega) hv.ctl
  have h7 := map_or 7 (by omega) ha hb
  have h6 := map_or 6 (by omega) ha hb
  have l7 : bits .and .u8 a 7 = a % 8 := low8 3 (n := 7) rfl (by omega) a0 (by omega)
  dsimp only
  simp only [e4, Option.bind_some, at_spec, l7]
  rw [w64 (n := b) (by omega), w64 (n := a % 8) (by omega)]
  have key : ∀ t, byte t → (Option.bind (tiles_Place.F (t, !bitB v.1 4, b, ())) fun y2 => Option.bind (tiles_At.F (vram v, y2)) fun y3 => Option.bind (tiles_At.F (vram v, IntKind.wrap .i64 (y2.1 + 1), ())) fun y4 => Option.bind (tiles_Pixel.F (y3.1, y4.1, a % 8, ())) fun y5 => some y5) =
      some (pxS (atS (vram v) (plS t (!bitB v.1 4) b)) (atS (vram v) (plS t (!bitB v.1 4) b + 1)) (a % 8), ()) := by
    intro t ht
    have hp := plS_le ht (!bitB v.1 4) b
    rw [place_spec ht _ b0 (by omega)]
    simp only [Option.bind_some, at_spec]
    rw [w64 (by omega), pixel_spec (atS_byte hv.vr _) (atS_byte hv.vr _) (by omega) (by omega)]
    rfl
  cases high
  · have := key _ (atS_byte hv.vr (6144 + 32 * (b / 8) + a / 8))
    simp only [at_spec, Option.bind_some] at this
    simp only [Bool.false_eq_true, if_false]
    rw [show (6144 : Int) = ((1024 * 6 : Nat) : Int) by rfl, h6]
    exact this
  · have := key _ (atS_byte hv.vr (7168 + 32 * (b / 8) + a / 8))
    simp only [at_spec, Option.bind_some] at this
    simp only [if_true]
    rw [show (7168 : Int) = ((1024 * 7 : Nat) : Int) by rfl, h7]
    exact this
theorem rmap_spec (high : Bool) {a b : Int} (ha : byte a) (hb : byte b) : ref17_Cell.F (high, a, b, ()) = some (mapS high a b, ()) := by
  have a0 := ha.1
  have a1 := ha.2
  have b0 := hb.1
  have b1 := hb.2
  unfold ref17_Cell.F ref17_Cell.C ref17_Cell.G mapS
  rw [w64 (n := a) (by omega), w64 (n := b) (by omega), tdivN a0, tdivN b0, w64 (n := a / 8) (by omega), w64 (n := b / 8) (by omega), w64 (n := 32 * (b / 8)) (by omega)]
  cases high
  · rw [w64 (n := 6144 + 32 * (b / 8)) (by omega), w64 (n := 6144 + 32 * (b / 8) + a / 8) (by omega)]
    simp
  · rw [w64 (n := 7168 + 32 * (b / 8)) (by omega), w64 (n := 7168 + 32 * (b / 8) + a / 8) (by omega)]
    simp
theorem rcell_spec {v : VID} (hv : vok v) (high : Bool) {a b : Int} (ha : byte a) (hb : byte b) : ref18_cell.F (v, high, a, b, ()) = some (cellS v high a b, ()) := by
  have a0 := ha.1
  have a1 := ha.2
  have b0 := hb.1
  have b1 := hb.2
  unfold ref18_cell.F ref18_cell.C ref18_cell.G cellS
  have e4 : ref01_Bit.F (v.1, 4, ()) = some (bitB v.1 4, ()) := rbit_spec 4 (by omega) hv.ctl
  dsimp only
  rw [w8 (n := a) (by omega), w8 (n := b) (by omega), rmap_spec high ha hb]
  simp only [Option.bind_some, rat_spec, e4]
  rw [rplace_spec (atS_byte hv.vr _) _ b0 (by omega)]
  have hp := plS_le (atS_byte hv.vr (mapS high a b)) (!bitB v.1 4) b
  simp only [Option.bind_some, rat_spec]
  rw [w64 (by omega), tmodN a0, rpixel_spec (atS_byte hv.vr _) (atS_byte hv.vr _) (by omega) (by omega)]
  rfl
/-! ground -/
def groundS (v : VID) (y win : Int) (x : Nat) : Int :=
  if bitB v.1 0 = false then 0
  else if winS v y = true ∧ v.2.2.2.2.1 ≤ x + 7 then cellS v (bitB v.1 6) (x + 7 - v.2.2.2.2.1) win
  else cellS v (bitB v.1 3) ((x + v.2.2.1) % 256) ((y + v.2.1) % 256)
theorem groundS_le (v : VID) (y win : Int) (x : Nat) : 0 ≤ groundS v y win x ∧ groundS v y win x ≤ 3 := by
  unfold groundS
  split
  · omega
  · split <;> exact cellS_le _ _ _ _
theorem rground_spec {v : VID} (hv : vok v) {y win : Int} (hy : byte y) (hw : byte win) {x : Nat} (hx : x < 160) : ref18_Ground.F (v, (x : Int), y, win, ()) = some (groundS v y win x, ()) := by
  have x0 := hv.scx.1
  have x1 := hv.scx.2
  have y0 := hv.scy.1
  have y1 := hv.scy.2
  have w0 := hv.wx.1
  have w1 := hv.wx.2
  have c0 := hy.1
  have c1 := hy.2
  have d0 := hw.1
  have d1 := hw.2
  unfold ref18_Ground.F ref18_Ground.C ref18_Ground.G groundS
  have e0 : ref01_Bit.F (v.1, 0, ()) = some (bitB v.1 0, ()) := rbit_spec 0 (by omega) hv.ctl
  have e6 : ref01_Bit.F (v.1, 6, ()) = some (bitB v.1 6, ()) := rbit_spec 6 (by omega) hv.ctl
  have e3 : ref01_Bit.F (v.1, 3, ()) = some (bitB v.1 3, ()) := rbit_spec 3 (by omega) hv.ctl
  dsimp only
  simp only [e0, e6, e3, Option.bind_some, rwindow_spec hv]
  rw [w64 (n := v.2.2.1) (by omega), w64 (n := v.2.2.2.2.1) (by omega), w64 (n := y) (by omega), w64 (n := win) (by omega), w64 (n := v.2.1) (by omega), w64 (n := (x : Int) + 7) (by omega), w64 (n := (x : Int) + v.2.2.1) (by omega), w64 (n := y + v.2.1) (by omega), w64 (n := (x : Int) + 7 - v.2.2.2.2.1) (by omega), tmodN (by omega), tmodN (by omega)]
  rw [rcell_spec hv (bitB v.1 3) ⟨by omega, by omega⟩ ⟨by omega, by omega⟩]
  cases bitB v.1 0
  · simp
  · cases winS v y
    · simp
    · by_cases h : v.2.2.2.2.1 ≤ (x : Int) + 7
      · rw [rcell_spec hv (bitB v.1 6) ⟨by omega, by omega⟩ hw]
        have h' : (x : Int) + 7 ≥ v.2.2.2.2.1 := h
        simp [h]
      · simp [h]
/-- places filled from one on -/
def fillS (c : List Int) (f : Nat → Int) (from_ : Nat) (x : Nat) : List Int := (List.range 160).map fun i => if from_ ≤ i ∧ i < x then f i else c.getD i 0
theorem fill_length (c : List Int) (f : Nat → Int) (a x : Nat) : (fillS c f a x).length = 160 := by simp [fillS]
theorem fill_set (c : List Int) (f : Nat → Int) {a x : Nat} (hx : a ≤ x) : (fillS c f a x).set x (f x) = fillS c f a (x + 1) := by
  apply List.ext_getElem
  · simp [fillS]
  · intro i h1 h2
    simp only [fillS, List.getElem_set, List.getElem_map, List.getElem_range]
    by_cases e : x = i
    · subst e; simp [hx]
    · have : (a ≤ i ∧ i < x + 1) ↔ (a ≤ i ∧ i < x) := by omega
      simp [e, this]
theorem fill_start {c : List Int} (f : Nat → Int) (a : Nat) (hc : c.length = 160) : fillS c f a a = c := by
  apply List.ext_getElem
  · simp [fillS, hc]
  · intro i h1 h2
    simp only [fillS, List.getElem_map, List.getElem_range]
    have : ¬ (a ≤ i ∧ i < a) := by omega
    rw [if_neg this, getD_in h2]
theorem lay1 {v w : VID} (hv : vok v) {y win : Int} (hy : byte y) : ∀ {c : List Int}, c.length = 160 →
    scan_ground.L31_0.F (((), (), (0 : Int), ()), (vb v, (y, ()), (win, ()), (c, ()), vb w, ()), ()) =
      some ((), (vb v, (y, ()), (win, ()), (fillS c (fun x => cellS v (bitB v.1 3) ((x + v.2.2.1) % 256) ((y + v.2.1) % 256)) 0 160, ()), vb w, ()), ()) := by
  intro c hc
  have x0 := hv.scx.1
  have x1 := hv.scx.2
  have y0 := hv.scy.1
  have y1 := hv.scy.2
  have c0 := hy.1
  have c1 := hy.2
  have e3 : word_Bit.F (v.1, 3, ()) = some (bitB v.1 3, ()) := bit_spec 3 (by omega) hv.ctl
  unfold scan_ground.L31_0.F
  refine (congrArg (iterU _) ?_).trans (iterU_range (fun i : Nat => (((), (), (i : Int), ()), (vb v, (y, ()), (win, ()), (fillS c (fun x => cellS v (bitB v.1 3) ((x + v.2.2.1) % 256) ((y + v.2.1) % 256)) 0 i, ()), vb w, ()), ())) _ 160 ?_ ?_ 0 (by omega))
  · rw [fill_start _ _ hc]
    rfl
  · intro i hi
    unfold scan_ground.L31_0.step
    dsimp only
    have g : (i : Int) < 160 := by omega
    have g2 : (0 : Int) ≤ (i : Int) ∧ (i : Int) < 160 := by omega
    rw [if_pos (decide_eq_true g), e3, w8 (n := (i : Int)) (by omega), m8, m8, w64 (n := (i : Int) + 1) (by omega)]
    simp only [Option.bind_some]
    rw [cell_spec hv (bitB v.1 3) ⟨by omega, by omega⟩ ⟨by omega, by omega⟩]
    simp only [Option.bind_some, Int.toNat_natCast, if_pos g2]
    rw [fill_set c (fun x => cellS v (bitB v.1 3) ((x + v.2.2.1) % 256) ((y + v.2.1) % 256)) (Nat.zero_le i)]
    rfl
  · unfold scan_ground.L31_0.step
    dsimp only
    rfl
theorem lay2 {v w : VID} (hv : vok v) {y win : Int} (hw : byte win) {a : Nat} (ha : a ≤ 160) (hx : v.2.2.2.2.1 ≤ (a : Int) + 7) : ∀ {c : List Int}, c.length = 160 →
    scan_ground.L31_0_1.F (((), (), (a : Int), ()), (vb v, (y, ()), (win, ()), (c, ()), vb w, ()), ()) =
      some ((), (vb v, (y, ()), (win, ()), (fillS c (fun x => cellS v (bitB v.1 6) (x + 7 - v.2.2.2.2.1) win) a 160, ()), vb w, ()), ()) := by
  intro c hc
  have w0 := hv.wx.1
  have w1 := hv.wx.2
  have e6 : word_Bit.F (v.1, 6, ()) = some (bitB v.1 6, ()) := bit_spec 6 (by omega) hv.ctl
  unfold scan_ground.L31_0_1.F
  refine (congrArg (iterU _) ?_).trans (iterU_range (fun i : Nat => (((), (), ((a + i : Nat) : Int), ()), (vb v, (y, ()), (win, ()), (fillS c (fun x => cellS v (bitB v.1 6) (x + 7 - v.2.2.2.2.1) win) a (a + i), ()), vb w, ()), ())) _ (160 - a) ?_ ?_ 0 (by omega))
  · rw [Nat.add_zero, fill_start _ _ hc]
  · intro i hi
    unfold scan_ground.L31_0_1.step
    dsimp only
    have g : ((a + i : Nat) : Int) < 160 := by omega
    have g2 : (0 : Int) ≤ ((a + i : Nat) : Int) ∧ ((a + i : Nat) : Int) < 160 := by omega
    rw [if_pos (decide_eq_true g), e6, w64 (n := ((a + i : Nat) : Int) + 7) (by omega), w8 (n := ((a + i : Nat) : Int) + 7) (by omega), w8 (n := ((a + i : Nat) : Int) + 7 - v.2.2.2.2.1) (by omega), w64 (n := ((a + i : Nat) : Int) + 1) (by omega)]
    simp only [Option.bind_some]
    rw [cell_spec hv (bitB v.1 6) ⟨by omega, by omega⟩ hw]
    simp only [Option.bind_some, Int.toNat_natCast, if_pos g2]
    rw [fill_set c (fun x => cellS v (bitB v.1 6) (x + 7 - v.2.2.2.2.1) win) (by omega : a ≤ a + i)]
    rfl
  · unfold scan_ground.L31_0_1.step
    rw [show a + (160 - a) = 160 by omega]
    dsimp only
    rfl
theorem ground_spec {v : VID} (hv : vok v) {y win : Int} (hy : byte y) (hw : byte win) : scan_ground.F (v, y, win, ()) = some ((List.range 160).map (groundS v y win), ()) := by
  have w0 := hv.wx.1
  have w1 := hv.wx.2
  have e0 : word_Bit.F (v.1, 0, ()) = some (bitB v.1 0, ()) := bit_spec 0 (by omega) hv.ctl
  unfold scan_ground.F scan_ground.C scan_ground.G
  simp only [e0, Option.bind_some]
  by_cases q : bitB v.1 0 = true
  · have h1 := lay1 (v := v) (w := v) hv (win := win) hy (c := List.replicate 160 0) (by simp)
    rw [if_neg (by simp [q])]
    dsimp only [vb] at h1
    rw [h1]
    simp only [Option.bind_some]
    rw [window_spec hv]
    simp only [Option.bind_some]
    by_cases z : winS v y = true
    · rw [if_pos z]
      obtain ⟨a, ha⟩ : ∃ a : Nat, (a : Int) = if v.2.2.2.2.1 - 7 > 0 then v.2.2.2.2.1 - 7 else 0 := ⟨(if v.2.2.2.2.1 - 7 > 0 then v.2.2.2.2.1 - 7 else 0).toNat, by split <;> omega⟩
      have hx166 : v.2.2.2.2.1 ≤ 166 := by
        unfold winS at z
        simp only [Bool.and_eq_true, decide_eq_true_eq] at z
        exact z.2
      rw [w64 (n := v.2.2.2.2.1) (by omega), w64 (n := v.2.2.2.2.1 - 7) (by omega), ← ha]
      have ha2 : a ≤ 160 := by split at ha <;> omega
      have ha3 : v.2.2.2.2.1 ≤ (a : Int) + 7 := by split at ha <;> omega
      have h2 := lay2 (v := v) (w := v) hv (y := y) hw ha2 ha3 (c := fillS (List.replicate 160 0) (fun x => cellS v (bitB v.1 3) ((x + v.2.2.1) % 256) ((y + v.2.1) % 256)) 0 160) (by simp [fillS])
      dsimp only [vb] at h2
      rw [h2]
      simp only [Option.bind_some]
      congr 2
      apply List.ext_getElem
      · simp [fillS]
      · intro i h1 h2
        have hi : i < 160 := by simpa [fillS] using h1
        simp only [fillS, List.getElem_map, List.getElem_range, groundS, q, Bool.true_eq_false, if_false, z, true_and]
        by_cases e : a ≤ i
        · have e2 : v.2.2.2.2.1 ≤ (i : Int) + 7 := by omega
          rw [if_pos ⟨e, hi⟩, if_pos e2]
        · have e2 : ¬ v.2.2.2.2.1 ≤ (i : Int) + 7 := by split at ha <;> omega
          rw [if_neg (by omega), if_neg e2]
          rw [getD_in (by simpa using hi)]
          simp [hi]
    · rw [if_neg z]
      congr 2
      apply List.ext_getElem
      · simp [fillS]
      · intro i h1 h2
        have hi : i < 160 := by simpa [fillS] using h1
        simp [fillS, groundS, q, z, hi]
  · have q' : bitB v.1 0 = false := by simpa using q
    rw [if_pos (by simp [q'])]
    congr 2
    apply List.ext_getElem
    · simp
    · intro i h1 h2
      rw [List.getElem_replicate]
      simp [groundS, q']
end Go.Proofs.Ytibgfodjecnnkaa.E
