/- Functions of the program as plain Lean, and what they come to. Conditions: none. -/
import Derived.Test.YtibgfodjecnnkaaEwD
import Derived.Test.YtibgfodjecnnkaaPureE
open Go Go.Ew
namespace Go.Proofs.Ytibgfodjecnnkaa.E
set_option linter.unusedVariables false
set_option linter.unusedSimpArgs false
set_option maxRecDepth 100000

theorem dot_above {v : VID} {y win : Int} {l : List O5} {x : Nat} : dotS v y l win x = if (aboveS v y (bitB v.1 2) x (groundS v y win x) l).2 = true then (aboveS v y (bitB v.1 2) x (groundS v y win x) l).1 else underS v (groundS v y win x) := by
  unfold dotS aboveS
  dsimp only
  cases seen v y (bitB v.1 2) (x : Int) l with
  | none => simp
  | some o => by_cases q : bitB o.2.2.2.1 7 = true ∧ groundS v y win x ≠ 0 <;> simp [q]
theorem above_none {v : VID} {y : Int} {tall : Bool} {x u : Int} {l : List O5} (h : (aboveS v y tall x u l).2 = false) : (aboveS v y tall x u l).1 = 0 := by
  unfold aboveS at h ⊢
  cases hs : seen v y tall x l with
  | none => rfl
  | some o =>
    rw [hs] at h
    by_cases q : bitB o.2.2.2.1 7 = true ∧ u ≠ 0
    · simp [q]
    · simp [q] at h
def lineS (v : VID) (y win : Int) : List Int := (List.range 160).map (dotS v y (objsS v y) win)
def winN (v : VID) (y win : Int) : Int := if winS v y = true then (win + 1) % 256 else win
theorem line_loop {v : VID} (hv : vok v) {y win : Int} (hy : byte y) (hw : byte win) {l : List O5} (hl : ∀ o ∈ l, obytes o) (hl2 : l.length ≤ 100) :
    scan_Line.L0.F ((y, win, (), (), l.map (drawS v y (bitB v.1 2)), (160, 160), (0 : Int), ()), (vb v, ((List.range 160).map (groundS v y win), ()), (List.replicate 160 0, ()), ()), ()) =
      some ((y, win, (), (160, 160), ()), (vb v, (fillS (List.replicate 160 0) (dotS v y l win) 0 160, ()), ()), ()) := by
  have e0 : word_Bit.F (v.1, 0, ()) = some (bitB v.1 0, ()) := bit_spec 0 (by omega) hv.ctl
  unfold scan_Line.L0.F
  refine (congrArg (iterU _) ?_).trans (iterU_range (fun i : Nat => ((y, win, (), (), l.map (drawS v y (bitB v.1 2)), (160, 160), (i : Int), ()), (vb v, ((List.range 160).map (groundS v y win), ()), (fillS (List.replicate 160 0) (dotS v y l win) 0 i, ()), ()), ())) _ 160 ?_ ?_ 0 (by omega))
  · rw [fill_start _ _ (by simp)]
    rfl
  · intro i hi
    unfold scan_Line.L0.step
    dsimp only
    have g : (i : Int) < 160 := by omega
    have g2 : (0 : Int) ≤ (i : Int) ∧ (i : Int) < 160 := by omega
    have g3 : (0 : Int) ≤ (i : Int) ∧ (i : Int) < ((160 : Nat) : Int) := by omega
    have hgi : ((List.range 160).map (groundS v y win)).getD i 0 = groundS v y win i := by
      rw [getD_in (by simpa using hi)]; simp
    have hg := groundS_le v y win i
    rw [if_pos (decide_eq_true g), if_pos g2, w64 (n := (i : Int) + 1) (by omega)]
    simp only [Int.toNat_natCast, hgi, if_pos g2, if_pos g3, Nat.zero_add]
    rw [above_spec hv hl hl2 (x := (i : Int)) (by omega) g hg.1 hg.2, e0]
    simp only [Option.bind_some]
    rw [shade_spec hv.bgp hg.1 hg.2]
    have hf := fill_set (List.replicate 160 0) (dotS v y l win) (Nat.zero_le i)
    have hd := dot_above (v := v) (y := y) (win := win) (l := l) (x := i)
    by_cases qa : (aboveS v y (bitB v.1 2) i (groundS v y win i) l).2 = true
    · rw [if_pos qa] at hd
      rw [if_neg (by simp [qa]), ← hd, hf]
      rfl
    · have qa' : (aboveS v y (bitB v.1 2) i (groundS v y win i) l).2 = false := by simpa using qa
      rw [if_neg qa] at hd
      rw [if_pos (by simp [qa']), above_none qa']
      simp only [Option.bind_some]
      unfold underS at hd
      by_cases q0 : bitB v.1 0 = true
      · rw [if_pos q0] at hd
        rw [if_pos q0, ← hd, hf]
        rfl
      · rw [if_neg q0] at hd
        rw [hd] at hf
        rw [if_neg q0, hf]
        rfl
  · unfold scan_Line.L0.step
    dsimp only
    rfl
theorem fill_all (f : Nat → Int) : fillS (List.replicate 160 0) f 0 160 = (List.range 160).map f := by
  apply List.ext_getElem
  · simp [fillS]
  · intro i h1 h2
    have hi : i < 160 := by simpa [fillS] using h1
    simp only [fillS, List.getElem_map, List.getElem_range]
    rw [if_pos ⟨by omega, hi⟩]
theorem line_spec {v : VID} (hv : vok v) {y win : Int} (hy : byte y) (hw : byte win) : scan_Line.F (v, y, win, ()) = some (lineS v y win, winN v y win, ()) := by
  have w0 := hw.1
  have w1 := hw.2
  unfold scan_Line.F scan_Line.C scan_Line.G lineS winN
  dsimp only
  rw [ground_spec hv hy hw]
  simp only [Option.bind_some]
  rw [drawns_spec hv hy]
  simp only [Option.bind_some]
  have h := line_loop hv hy hw (objsS_obytes hv y) (by have := objsS_length v y; omega)
  dsimp only [vb] at h
  rw [h]
  simp only [Option.bind_some]
  rw [window_spec hv, fill_all, m8]
  simp only [Option.bind_some, List.drop_zero]
  rw [List.take_of_length_le (by simp)]
  by_cases q : winS v y = true <;> simp [q]
theorem rline_loop {v : VID} (hv : vok v) {y win : Int} (hy : byte y) (hw : byte win) {l : List O5} (hl : ∀ o ∈ l, obytes o) (hl2 : l.length ≤ 100) :
    ref18_Line.L0.F ((y, win, (), l, (0 : Int), ()), (vb v, ()), [], ()) = some ((y, win, (), ()), (vb v, ()), (List.range 160).map (dotS v y l win), ()) := by
  unfold ref18_Line.L0.F
  refine (congrArg (iterU _) ?_).trans (iterU_range (fun i : Nat => ((y, win, (), l, (i : Int), ()), (vb v, ()), (List.range i).map (dotS v y l win), ())) _ 160 ?_ ?_ 0 (by omega))
  · rfl
  · intro i hi
    unfold ref18_Line.L0.step
    dsimp only
    have g : (i : Int) < 160 := by omega
    have hlen : ((List.range i).map (dotS v y l win)).length = i := by simp
    rw [if_pos (decide_eq_true g), w64 (n := (i : Int) + 1) (by omega), rdot_spec hv hl hl2 hi hy hw]
    simp only [Option.bind_some]
    rw [hlen, if_pos (by omega), List.range_succ, List.map_append, List.map_singleton]
    rw [List.take_of_length_le (l := (List.range i).map (dotS v y l win)) (by omega)]
    have e3 : List.take (i + 1) ((List.range i).map (dotS v y l win) ++ [dotS v y l win i]) = (List.range i).map (dotS v y l win) ++ [dotS v y l win i] := List.take_of_length_le (by simp)
    rw [show List.take 1 (List.drop 0 [dotS v y l win i]) = [dotS v y l win i] from rfl, e3]
    rfl
  · unfold ref18_Line.L0.step
    dsimp only
    rw [if_neg (by simp), List.take_length]
theorem rline_spec {v : VID} (hv : vok v) {y win : Int} (hy : byte y) (hw : byte win) : ref18_Line.F (v, y, win, ()) = some (lineS v y win, winN v y win, ()) := by
  have w0 := hw.1
  have w1 := hw.2
  have y0 := hy.1
  have y1 := hy.2
  have e1 : ref01_Bit.F (v.1, 1, ()) = some (bitB v.1 1, ()) := rbit_spec 1 (by omega) hv.ctl
  have e2 : ref01_Bit.F (v.1, 2, ()) = some (bitB v.1 2, ()) := rbit_spec 2 (by omega) hv.ctl
  unfold ref18_Line.F ref18_Line.C ref18_Line.G lineS winN
  dsimp only
  simp only [e1, e2, Option.bind_some]
  have hem : ∀ l : List Int, l.length = 160 → (if winS v y = true then some (List.take l.length (List.drop 0 l), IntKind.wrap .u8 (Int.tmod (IntKind.wrap .i64 (IntKind.wrap .i64 win + 1)) 256), ()) else some (List.take l.length (List.drop 0 l), win, ())) =
      some (l, (if winS v y = true then (win + 1) % 256 else win), ()) := by
    intro l hl
    rw [w64 (n := win) (by omega), w64 (n := win + 1) (by omega), tmodN (by omega), w8 (by omega), List.drop_zero, List.take_length]
    by_cases q : winS v y = true <;> simp [q]
  by_cases q : bitB v.1 1 = true
  · rw [if_pos q, w64 (n := y) (by omega)]
    have hsc : ref16_Scan.F (v.2.2.2.2.2.2.2.2.2, y, bitB v.1 2, ()) = some ((onL (oam v) y (bitB v.1 2) 40).take 10, ()) := ref16_Scan_spec hv.oa
    rw [hsc]
    simp only [Option.bind_some]
    have ho := rorder_spec (l := (onL (oam v) y (bitB v.1 2) 40).take 10) (by rw [List.length_take]; omega)
    rw [ho]
    simp only [Option.bind_some]
    have hO : isort ((onL (oam v) y (bitB v.1 2) 40).take 10) = objsS v y := by unfold objsS; rw [if_pos q]
    rw [hO]
    have h := rline_loop hv hy hw (objsS_obytes hv y) (by have := objsS_length v y; omega)
    dsimp only [vb] at h
    rw [h]
    simp only [Option.bind_some]
    rw [rwindow_spec hv]
    simp only [Option.bind_some]
    exact hem _ (by simp)
  · have hO : objsS v y = [] := by unfold objsS; rw [if_neg q]
    rw [if_neg q, hO]
    have h := rline_loop hv hy hw (l := []) (by simp) (by simp)
    dsimp only [vb] at h
    rw [h]
    simp only [Option.bind_some]
    rw [rwindow_spec hv]
    simp only [Option.bind_some]
    exact hem _ (by simp)
/-! texts -/
def textS (l : List Int) : List Int := l.map fun s => 48 + s % 4
theorem text_spec {l : List Int} (hb : bytes l) (hl : l.length ≤ 268435456) : scan_Text.F (l, ()) = some (bytesOf (textS l), ()) := by
  unfold scan_Text.F scan_Text.C scan_Text.G
  dsimp only
  rw [if_pos (by omega)]
  simp only [Int.toNat_natCast]
  have h : scan_Text.L0.F (((l.length, l.length), l, (l.length : Int), (0 : Int), ()), ((List.replicate l.length 0, ()), ()), ()) = some (((l.length, l.length), ()), ((textS l, ()), ()), ()) := by
    unfold scan_Text.L0.F
    refine (congrArg (iterU _) ?_).trans (iterU_range (fun i : Nat => (((l.length, l.length), l, (l.length : Int), (i : Int), ()), ((textS (l.take i) ++ List.replicate (l.length - i) 0, ()), ()), ())) _ l.length ?_ ?_ 0 (by omega))
    · rfl
    · intro i hi
      unfold scan_Text.L0.step
      dsimp only
      have g : (i : Int) < (l.length : Int) := by omega
      have g2 : (0 : Int) ≤ (i : Int) ∧ (i : Int) < (l.length : Int) := by omega
      have hb' := bytes_getD hb i
      have e4 : bits .and .u8 (l.getD i 0) 3 = l.getD i 0 % 4 := low8 2 (n := 3) rfl (by omega) hb'.1 (by omega)
      rw [if_pos (decide_eq_true g), if_pos g2, if_pos g2, w64 (n := (i : Int) + 1) (by omega)]
      simp only [Int.toNat_natCast, Nat.zero_add]
      rw [e4, w8 (n := 48 + l.getD i 0 % 4) (by omega)]
      have e5 : (textS (l.take i) ++ List.replicate (l.length - i) 0).set i (48 + l.getD i 0 % 4) = textS (l.take (i + 1)) ++ List.replicate (l.length - (i + 1)) 0 := by
        have e2 : l.take (i + 1) = l.take i ++ [l.getD i 0] := by rw [getD_in hi, List.take_add_one, List.getElem?_eq_getElem hi]; rfl
        have hlen : (textS (l.take i)).length = i := by simp [textS]; omega
        rw [e2, List.set_append_right _ _ (by omega), hlen, Nat.sub_self, show l.length - i = (l.length - (i + 1)) + 1 by omega, List.replicate_succ, List.set_cons_zero]
        simp [textS]
      rw [e5]
      rfl
    · unfold scan_Text.L0.step
      dsimp only
      rw [if_neg (by simp), List.take_length, Nat.sub_self, List.replicate_zero, List.append_nil]
  rw [h]
  simp only [Option.bind_some, List.drop_zero]
  rw [List.take_of_length_le (by simp [textS])]
theorem rtext_spec {l : List Int} (hb : bytes l) (hl : l.length ≤ 268435456) : ref18_Text.F (l, ()) = some (bytesOf (textS l), ()) := by
  unfold ref18_Text.F ref18_Text.C ref18_Text.G
  dsimp only
  have h : ref18_Text.L0.F ((l, (0 : Int), ()), (), [], ()) = some ((), (), textS l, ()) := by
    unfold ref18_Text.L0.F
    refine (congrArg (iterU _) ?_).trans (iterU_range (fun i : Nat => ((l, (i : Int), ()), (), textS (l.take i), ())) _ l.length ?_ ?_ 0 (by omega))
    · rfl
    · intro i hi
      unfold ref18_Text.L0.step
      dsimp only
      have g : (i : Int) < (l.length : Int) := by omega
      have g2 : (0 : Int) ≤ (i : Int) ∧ (i : Int) < (l.length : Int) := by omega
      have hb' := bytes_getD hb i
      have hlen : (textS (l.take i)).length = i := by simp [textS]; omega
      rw [if_pos (decide_eq_true g), if_pos g2, w64 (n := (i : Int) + 1) (by omega)]
      simp only [Int.toNat_natCast]
      rw [tmodN hb'.1, w8 (n := 48 + l.getD i 0 % 4) (by omega), hlen, if_pos (by omega)]
      have e2 : l.take (i + 1) = l.take i ++ [l.getD i 0] := by rw [getD_in hi, List.take_add_one, List.getElem?_eq_getElem hi]; rfl
      have e3 : textS (l.take (i + 1)) = textS (l.take i) ++ [48 + l.getD i 0 % 4] := by rw [e2]; simp [textS]
      rw [e3, List.take_of_length_le (l := textS (l.take i)) (by omega)]
      rw [show List.take 1 (List.drop 0 [48 + l.getD i 0 % 4]) = [48 + l.getD i 0 % 4] from rfl]
      rw [List.take_of_length_le (l := textS (l.take i) ++ [48 + l.getD i 0 % 4]) (by simp; omega)]
      rfl
    · unfold ref18_Text.L0.step
      dsimp only
      rw [if_neg (by simp), List.take_length, List.take_length]
  rw [h]
  simp
/-! examples -/
def vramP : List Int := (List.range 8).foldl (fun l i => l.set (2 * i) 255) (List.replicate 8192 0)
theorem vramP_length : vramP.length = 8192 := by
  unfold vramP
  simp [List.range_succ]
theorem vramP_get (i : Nat) : vramP.getD i 0 = if i < 16 ∧ i % 2 = 0 then 255 else 0 := by
  unfold vramP
  simp only [List.range_succ, List.range_zero, List.nil_append, List.cons_append, List.foldl_cons, List.foldl_nil, List.getD_eq_getElem?_getD, List.getElem?_set, List.length_set, List.length_replicate, List.getElem?_replicate]
  by_cases h : i < 16
  · have : i = 0 ∨ i = 1 ∨ i = 2 ∨ i = 3 ∨ i = 4 ∨ i = 5 ∨ i = 6 ∨ i = 7 ∨ i = 8 ∨ i = 9 ∨ i = 10 ∨ i = 11 ∨ i = 12 ∨ i = 13 ∨ i = 14 ∨ i = 15 := by omega
    rcases this with rfl | rfl | rfl | rfl | rfl | rfl | rfl | rfl | rfl | rfl | rfl | rfl | rfl | rfl | rfl | rfl <;> rfl
  · have h0 : ¬ (2 * 0 = i) := by omega
    have h1 : ¬ (2 * 1 = i) := by omega
    have h2 : ¬ (2 * 2 = i) := by omega
    have h3 : ¬ (2 * 3 = i) := by omega
    have h4 : ¬ (2 * 4 = i) := by omega
    have h5 : ¬ (2 * 5 = i) := by omega
    have h6 : ¬ (2 * 6 = i) := by omega
    have h7 : ¬ (2 * 7 = i) := by omega
    rw [if_neg h7, if_neg h6, if_neg h5, if_neg h4, if_neg h3, if_neg h2, if_neg h1, if_neg h0, if_neg (c := i < 16 ∧ i % 2 = 0) (by omega)]
    by_cases q : i < 8192
    · rw [if_pos q]; rfl
    · rw [if_neg q]; rfl
def plainS (ctl bgp : Int) : VID := (ctl, 0, 0, 0, 0, bgp, 0, 0, vramP, [])
theorem plain_spec (ctl bgp : Int) : law18_plain.F (ctl, bgp, ()) = some (plainS ctl bgp, ()) := by
  unfold law18_plain.F law18_plain.C law18_plain.G
  dsimp only
  have h : law18_plain.L0.F ((ctl, bgp, (), (8192, 8192), (0 : Int), ()), ((0, 0, 0, 0, 0, 0, 0, 0, [], [], ()), (List.replicate 8192 0, ()), ()), ()) =
      some ((ctl, bgp, (), (8192, 8192), ()), ((0, 0, 0, 0, 0, 0, 0, 0, [], [], ()), (vramP, ()), ()), ()) := by
    unfold law18_plain.L0.F
    refine (congrArg (iterU _) ?_).trans (iterU_range (fun i : Nat => ((ctl, bgp, (), (8192, 8192), ((2 * i : Nat) : Int), ()), ((0, 0, 0, 0, 0, 0, 0, 0, [], [], ()), ((List.range i).foldl (fun l i => l.set (2 * i) 255) (List.replicate 8192 0), ()), ()), ())) _ 8 ?_ ?_ 0 (by omega))
    · rfl
    · intro i hi
      unfold law18_plain.L0.step
      dsimp only
      have g : ((2 * i : Nat) : Int) < 16 := by omega
      have g2 : (0 : Int) ≤ ((2 * i : Nat) : Int) ∧ ((2 * i : Nat) : Int) < ((8192 : Nat) : Int) := by omega
      rw [if_pos (decide_eq_true g), if_pos g2, w64 (n := ((2 * i : Nat) : Int) + 2) (by omega)]
      simp only [Int.toNat_natCast, Nat.zero_add]
      rw [List.range_succ, List.foldl_append]
      rw [show ((2 * (i + 1) : Nat) : Int) = ((2 * i : Nat) : Int) + 2 by omega]
      rfl
    · unfold law18_plain.L0.step
      dsimp only
      rfl
  rw [h]
  simp only [Option.bind_some, List.drop_zero]
  rw [List.take_of_length_le (by rw [vramP_length]; exact Nat.le_refl _)]
  rfl
theorem vramP_bytes : bytes vramP := by
  intro n hn
  obtain ⟨i, hi, e⟩ := List.getElem_of_mem hn
  have h := vramP_get i
  rw [getD_in hi, e] at h
  subst h
  split <;> omega
theorem plain_ok {ctl bgp : Int} (h1 : byte ctl) (h2 : byte bgp) : vok (plainS ctl bgp) := by
  refine ⟨h1, ?_, ?_, ?_, ?_, h2, ?_, ?_, vramP_bytes, by intro n hn; simp [oam, plainS] at hn⟩ <;> exact ⟨by simp [plainS], by simp [plainS]⟩
theorem line_get {v : VID} {y win : Int} {x : Nat} (hx : x < 160) : (lineS v y win).getD x 0 = dotS v y (objsS v y) win x := by
  unfold lineS
  rw [getD_in (by simpa using hx)]
  simp
theorem lineS_length (v : VID) (y win : Int) : (lineS v y win).length = 160 := by simp [lineS]
theorem sEq_self (x : ByteArray) : sEq x x = true := by simp [sEq]
/-- a pixel of the ground alone -/
theorem dot_ground {v : VID} (h0 : bitB v.1 0 = true) (h1 : bitB v.1 1 = false) (h5 : bitB v.1 5 = false) (y win : Int) (x : Nat) :
    dotS v y (objsS v y) win x = shS v.2.2.2.2.2.1 (cellS v (bitB v.1 3) ((x + v.2.2.1) % 256) ((y + v.2.1) % 256)) := by
  have hO : objsS v y = [] := by unfold objsS; rw [if_neg (by simp [h1])]
  have hW : winS v y = false := by simp [winS, h5]
  unfold dotS seen underS groundS
  rw [hO]
  simp [h0, hW]
theorem shown_spec : law18_shown.F () = some (true, ()) := by
  unfold law18_shown.F law18_shown.C law18_shown.G
  have A := plain_ok (ctl := 17) (bgp := 228) ⟨by omega, by omega⟩ ⟨by omega, by omega⟩
  have B := plain_ok (ctl := 17) (bgp := 27) ⟨by omega, by omega⟩ ⟨by omega, by omega⟩
  have C := plain_ok (ctl := 16) (bgp := 27) ⟨by omega, by omega⟩ ⟨by omega, by omega⟩
  simp only [plain_spec, Option.bind_some]
  rw [line_spec A ⟨by omega, by omega⟩ ⟨by omega, by omega⟩]
  simp only [Option.bind_some]
  rw [line_spec B ⟨by omega, by omega⟩ ⟨by omega, by omega⟩]
  simp only [Option.bind_some]
  rw [line_spec C ⟨by omega, by omega⟩ ⟨by omega, by omega⟩]
  simp only [Option.bind_some, lineS_length]
  have wC : winN (plainS 16 27) 3 7 = 7 := by
    have : winS (plainS 16 27) 3 = false := by simp [winS, plainS, bitB]
    unfold winN; rw [if_neg (by simp [this])]
  have at0 : ∀ i : Nat, atS vramP i = if i < 16 ∧ i % 2 = 0 then 255 else if i < 8192 then 0 else 255 := by
    intro i
    unfold atS
    rw [vramP_length, Int.toNat_natCast, vramP_get]
    by_cases q : i < 8192
    · rw [if_neg (by omega)]
      split
      · rfl
      · simp [q]
    · rw [if_pos (by omega), if_neg (by omega), if_neg q]
  have pix : ∀ (ctl bgp y : Int) (x : Nat), bitB ctl 0 = true → bitB ctl 1 = false → bitB ctl 5 = false → bitB ctl 4 = true → bitB ctl 3 = false → x < 160 → 0 ≤ y → y < 160 → dotS (plainS ctl bgp) y (objsS (plainS ctl bgp) y) 0 x = shS bgp (pxS (atS vramP (2 * (y % 8))) (atS vramP (2 * (y % 8) + 1)) (x % 8)) := by
    intro ctl bgp y x h0 h1 h5 h4 h3 hx hy0 hy
    rw [dot_ground (v := plainS ctl bgp) h0 h1 h5]
    have e3 : bitB (plainS ctl bgp).1 3 = false := h3
    have e4 : bitB (plainS ctl bgp).1 4 = true := h4
    unfold cellS
    rw [e3, e4]
    have em : atS (vram (plainS ctl bgp)) (mapS false (((x : Int) + (plainS ctl bgp).2.2.1) % 256) ((y + (plainS ctl bgp).2.1) % 256)) = 0 := by
      show atS vramP _ = 0
      obtain ⟨k, hk, hk1, hk2⟩ : ∃ k : Nat, mapS false (((x : Int) + (plainS ctl bgp).2.2.1) % 256) ((y + (plainS ctl bgp).2.1) % 256) = (k : Int) ∧ 16 ≤ k ∧ k < 8192 := by
        refine ⟨(mapS false (((x : Int) + (plainS ctl bgp).2.2.1) % 256) ((y + (plainS ctl bgp).2.1) % 256)).toNat, ?_, ?_, ?_⟩ <;> simp [mapS, plainS] <;> omega
      rw [hk, at0, if_neg (by omega), if_pos hk2]
    dsimp only
    rw [em]
    have ep : plS 0 (!true) ((y + (plainS ctl bgp).2.1) % 256) = 2 * (y % 8) := by simp [plS, plainS]
    rw [ep]
    have ex : ((x : Int) + (plainS ctl bgp).2.2.1) % 256 % 8 = (x : Int) % 8 := by simp [plainS]
    rw [ex]
    rfl
  have g0 : (lineS (plainS 17 228) 0 0).getD 0 0 = 1 := by
    rw [line_get (by omega), pix 17 228 0 0 (by decide) (by decide) (by decide) (by decide) (by decide) (by omega) (by omega) (by omega)]
    have a0 := at0 0
    have a1 := at0 1
    simp at a0 a1
    simp [a0, a1, pxS, shS]
  have g1 : (lineS (plainS 17 228) 0 0).getD 159 0 = 1 := by
    rw [line_get (by omega), pix 17 228 0 159 (by decide) (by decide) (by decide) (by decide) (by decide) (by omega) (by omega) (by omega)]
    have a0 := at0 0
    have a1 := at0 1
    simp at a0 a1
    simp [a0, a1, pxS, shS]
  have g2 : (lineS (plainS 17 27) 143 0).getD 80 0 = 2 := by
    rw [line_get (by omega), pix 17 27 143 80 (by decide) (by decide) (by decide) (by decide) (by decide) (by omega) (by omega) (by omega)]
    have a0 := at0 14
    have a1 := at0 15
    simp at a0 a1
    simp [a0, a1, pxS, shS]
  have g3 : (lineS (plainS 16 27) 3 7).getD 9 0 = 0 := by
    rw [line_get (by omega)]
    have h0 : bitB (plainS 16 27).1 0 = false := by decide
    have h1 : bitB (plainS 16 27).1 1 = false := by decide
    have hO : objsS (plainS 16 27) 3 = [] := by unfold objsS; rw [if_neg (by simp [h1])]
    unfold dotS seen underS
    rw [hO]
    simp [h0]
  have ht := text_spec (l := [3, 4]) (by intro n hn; simp at hn; omega) (by simp)
  have hs : sEq (bytesOf (textS [3, 4])) { data := { toList := [UInt8.ofNat 51, UInt8.ofNat 48] } } = true := by decide +kernel
  have ed : List.take 2 (List.drop 0 [(3 : Int), 4]) = [3, 4] := rfl
  simp only [g0, g1, g2, g3, wC, ed, ht, hs, Option.bind_some]
  rfl
/-! the laws -/
theorem vok_of {v : VID} (h : wfS (.agg ⟨.i .u8, [.i .u8, .i .u8, .i .u8, .i .u8, .i .u8, .i .u8, .i .u8, .l .u8, .l .u8]⟩) v) : vok v := by
  obtain ⟨h1, h2, h3, h4, h5, h6, h7, h8, h9, h10⟩ := h
  exact ⟨wf_u8.1 h1, wf_u8.1 h2, wf_u8.1 h3, wf_u8.1 h4, wf_u8.1 h5, wf_u8.1 h6, wf_u8.1 h7, wf_u8.1 h8, (fun n hn => wf_u8.1 (h9.2 n hn)), (fun n hn => wf_u8.1 (h10.2 n hn))⟩
theorem scanWindows_walk : LawOK Go.Proofs.Try.prog 3 law18_ScanWindows.as := .of law18_ScanWindows.ok fun x h => by
  obtain ⟨v, y, u⟩ := x
  have hv := vok_of h.1
  unfold law18_ScanWindows.F law18_ScanWindows.C law18_ScanWindows.G
  simp only [shown_spec, Option.bind_some, window_spec hv, rwindow_spec hv]
  simp
theorem scanLines_walk : LawOK Go.Proofs.Try.prog 4 law18_ScanLines.as := .of law18_ScanLines.ok fun x h => by
  obtain ⟨v, y, win, u⟩ := x
  have hv := vok_of h.1
  unfold law18_ScanLines.F law18_ScanLines.C law18_ScanLines.G
  simp only [shown_spec, Option.bind_some, line_spec hv (wf_u8.1 h.2.1) (wf_u8.1 h.2.2.1), rline_spec hv (wf_u8.1 h.2.1) (wf_u8.1 h.2.2.1)]
  simp [sEq_self]
end Go.Proofs.Ytibgfodjecnnkaa.E
