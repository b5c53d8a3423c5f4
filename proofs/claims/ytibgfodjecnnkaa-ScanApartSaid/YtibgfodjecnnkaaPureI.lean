/- Functions of the program as plain Lean, and what they come to. Conditions: none. -/
import Derived.Test.YtibgfodjecnnkaaEwD
import Derived.Test.YtibgfodjecnnkaaWalkA
open Go Go.Ew
namespace Go.Proofs.Ytibgfodjecnnkaa.E
set_option linter.unusedVariables false
set_option linter.unusedSimpArgs false
set_option maxRecDepth 100000
theorem onL_congr {m m' : List Int} {line : Int} {tall : Bool} : ∀ (k : Nat), (∀ i, i < k → objAt m' i = objAt m i ∨ (onB (objAt m' i) line tall = false ∧ onB (objAt m i) line tall = false)) → onL m' line tall k = onL m line tall k
  | 0, _ => rfl
  | k + 1, h => by
    rw [onL_succ, onL_succ, onL_congr k fun i hi => h i (by omega)]
    rcases h k (by omega) with e | ⟨e1, e2⟩
    · rw [e]
    · rw [e1, e2]
      simp
theorem xor_fin : ∀ c : Fin 256, (bitB (bits .xor .u8 (c.val : Int) 128) 0 = bitB (c.val : Int) 0 ∧ bitB (bits .xor .u8 (c.val : Int) 128) 1 = bitB (c.val : Int) 1 ∧ bitB (bits .xor .u8 (c.val : Int) 128) 2 = bitB (c.val : Int) 2 ∧ bitB (bits .xor .u8 (c.val : Int) 128) 3 = bitB (c.val : Int) 3 ∧ bitB (bits .xor .u8 (c.val : Int) 128) 4 = bitB (c.val : Int) 4 ∧ bitB (bits .xor .u8 (c.val : Int) 128) 5 = bitB (c.val : Int) 5 ∧ bitB (bits .xor .u8 (c.val : Int) 128) 6 = bitB (c.val : Int) 6) ∧ 0 ≤ bits .xor .u8 (c.val : Int) 128 ∧ bits .xor .u8 (c.val : Int) 128 ≤ 255 := by decide +kernel
theorem off_fin : ∀ c : Fin 256, bitB (bits .andNot .u8 (c.val : Int) 2) 1 = false ∧ 0 ≤ bits .andNot .u8 (c.val : Int) 2 ∧ bits .andNot .u8 (c.val : Int) 2 ≤ 255 := by decide +kernel
theorem xor_spec {c : Int} (h : byte c) : ∃ d, bits .xor .u8 c 128 = d ∧ (bitB d 0 = bitB c 0 ∧ bitB d 1 = bitB c 1 ∧ bitB d 2 = bitB c 2 ∧ bitB d 3 = bitB c 3 ∧ bitB d 4 = bitB c 4 ∧ bitB d 5 = bitB c 5 ∧ bitB d 6 = bitB c 6) ∧ byte d := by
  have a := h.1
  have b := h.2
  have := xor_fin ⟨c.toNat, by omega⟩
  simp only [Int.toNat_of_nonneg a] at this
  exact ⟨_, rfl, this.1, this.2⟩
theorem off_spec {c : Int} (h : byte c) : ∃ d, bits .andNot .u8 c 2 = d ∧ bitB d 1 = false ∧ byte d := by
  have a := h.1
  have b := h.2
  have := off_fin ⟨c.toNat, by omega⟩
  simp only [Int.toNat_of_nonneg a] at this
  exact ⟨_, rfl, this.1, this.2⟩
theorem lineS_congr {c d a2 a3 a4 a5 a6 a7 a8 : Int} {vr m m' : List Int} {y win : Int}
    (h : bitB d 0 = bitB c 0 ∧ bitB d 2 = bitB c 2 ∧ bitB d 3 = bitB c 3 ∧ bitB d 4 = bitB c 4 ∧ bitB d 5 = bitB c 5 ∧ bitB d 6 = bitB c 6)
    (ho : objsS (d, a2, a3, a4, a5, a6, a7, a8, vr, m') y = objsS (c, a2, a3, a4, a5, a6, a7, a8, vr, m) y) :
    lineS (d, a2, a3, a4, a5, a6, a7, a8, vr, m') y win = lineS (c, a2, a3, a4, a5, a6, a7, a8, vr, m) y win ∧ winN (d, a2, a3, a4, a5, a6, a7, a8, vr, m') y win = winN (c, a2, a3, a4, a5, a6, a7, a8, vr, m) y win := by
  obtain ⟨h0, h2, h3, h4, h5, h6⟩ := h
  have hw : winS (d, a2, a3, a4, a5, a6, a7, a8, vr, m') y = winS (c, a2, a3, a4, a5, a6, a7, a8, vr, m) y := by
    unfold winS; simp only [h0, h5]
  constructor
  · unfold lineS
    rw [ho]
    apply List.map_congr_left
    intro x hx
    have hc : ∀ hi a b, cellS (d, a2, a3, a4, a5, a6, a7, a8, vr, m') hi a b = cellS (c, a2, a3, a4, a5, a6, a7, a8, vr, m) hi a b := by
      intro hi a b; unfold cellS; simp only [h4]
    have hg : groundS (d, a2, a3, a4, a5, a6, a7, a8, vr, m') y win x = groundS (c, a2, a3, a4, a5, a6, a7, a8, vr, m) y win x := by
      unfold groundS; simp only [hw, hc, h0, h3, h6]
    have hu : ∀ u, underS (d, a2, a3, a4, a5, a6, a7, a8, vr, m') u = underS (c, a2, a3, a4, a5, a6, a7, a8, vr, m) u := by
      intro u; unfold underS; simp only [h0]
    unfold dotS
    simp only [hg, hu, h2]
    rfl
  · unfold winN
    rw [hw]
theorem objsS_off {c a2 a3 a4 a5 a6 a7 a8 : Int} {vr m : List Int} {y : Int} (h : bitB c 1 = false) : objsS (c, a2, a3, a4, a5, a6, a7, a8, vr, m) y = [] := by
  unfold objsS; rw [if_neg (by simp [h])]
theorem objsS_congr {c d a2 a3 a4 a5 a6 a7 a8 : Int} {vr m m' : List Int} {y : Int} (h1 : bitB d 1 = bitB c 1) (h2 : bitB d 2 = bitB c 2)
    (h : ∀ i, i < 40 → objAt m' i = objAt m i ∨ (onB (objAt m' i) y (bitB c 2) = false ∧ onB (objAt m i) y (bitB c 2) = false)) :
    objsS (d, a2, a3, a4, a5, a6, a7, a8, vr, m') y = objsS (c, a2, a3, a4, a5, a6, a7, a8, vr, m) y := by
  unfold objsS oam
  simp only [h1, h2]
  rw [onL_congr 40 h]
/-- a memory, cut or filled up to 160 bytes -/
theorem pad_spec (m : List Int) : ∃ M : List Int, List.take 0 (List.replicate 160 0) ++ List.take (min m.length 160) m ++ List.drop (0 + min m.length 160) (List.replicate 160 0) = M ∧ M.length = 160 ∧ ∀ i, i < 160 → M.getD i 0 = m.getD i 0 := by
  refine ⟨_, rfl, by simp; omega, fun i hi => ?_⟩
  simp only [List.take_zero, List.nil_append, Nat.zero_add, List.getD_eq_getElem?_getD]
  by_cases h : i < m.length
  · rw [List.getElem?_append_left (by simp; omega), List.getElem?_take_of_lt (by omega)]
  · rw [List.getElem?_append_right (by simp; omega), List.getElem?_eq_none (l := m) (by omega)]
    rw [List.getElem?_drop, List.getElem?_replicate]
    split <;> rfl
theorem objAt_congr {m M : List Int} (h : ∀ i, i < 160 → M.getD i 0 = m.getD i 0) {i : Nat} (hi : i < 40) : objAt M i = objAt m i := by
  unfold objAt
  rw [h _ (by omega), h _ (by omega), h _ (by omega), h _ (by omega)]
theorem off_line {Y x t a i line : Int} {tall : Bool} (h : Y = 0 ∨ line + 16 < Y ∨ line + 16 ≥ Y + 16) (hl : 0 ≤ line) : onB (Y, x, t, a, i) line tall = false := by
  cases h2 : onB (Y, x, t, a, i) line tall with
  | false => rfl
  | true =>
    obtain ⟨p1, p2, p3, p4⟩ := onB_iff.1 h2
    have := hiS_le tall
    simp only at p3 p4
    omega
theorem set4_get {M : List Int} (hM : M.length = 160) {q : Nat} (hq : q < 40) (b : Int) : objAt ((((M.set (4 * q) 0).set (4 * q + 1) b).set (4 * q + 2) b).set (4 * q + 3) b) q = (0, b, b, b, (q : Int)) ∧
    ∀ i, i ≠ q → objAt ((((M.set (4 * q) 0).set (4 * q + 1) b).set (4 * q + 2) b).set (4 * q + 3) b) i = objAt M i := by
  have g : ∀ j, ((((M.set (4 * q) 0).set (4 * q + 1) b).set (4 * q + 2) b).set (4 * q + 3) b).getD j 0 = if 4 * q + 3 = j ∨ 4 * q + 2 = j ∨ 4 * q + 1 = j then b else if 4 * q = j then 0 else M.getD j 0 := by
    intro j
    simp only [List.getD_eq_getElem?_getD, List.getElem?_set, List.length_set]
    by_cases e3 : 4 * q + 3 = j
    · subst e3; simp [hM, show 4 * q + 3 < 160 by omega]
    · by_cases e2 : 4 * q + 2 = j
      · subst e2; simp [hM, show 4 * q + 2 < 160 by omega]
      · by_cases e1 : 4 * q + 1 = j
        · subst e1; simp [hM, show 4 * q + 1 < 160 by omega]
        · by_cases e0 : 4 * q = j
          · subst e0; simp [hM, show 4 * q < 160 by omega]
          · simp [e3, e2, e1, e0]
  constructor
  · unfold objAt
    rw [g, g, g, g]
    simp
  · intro i hi
    unfold objAt
    rw [g, g, g, g]
    rw [if_neg (by omega), if_neg (by omega), if_neg (by omega), if_neg (by omega), if_neg (by omega), if_neg (by omega), if_neg (by omega), if_neg (by omega)]
theorem set4_bytes {M : List Int} (hM : bytes M) {b : Int} (hb : byte b) (i j k l : Nat) : bytes ((((M.set i 0).set j b).set k b).set l b) := by
  have s : ∀ {M : List Int} {x : Int} (n : Nat), bytes M → byte x → bytes (M.set n x) := by
    intro M x n h hx z hz
    rcases List.mem_or_eq_of_mem_set hz with h1 | rfl
    · exact h z h1
    · exact hx
  exact s _ (s _ (s _ (s _ hM ⟨by omega, by omega⟩) hb) hb) hb
theorem scanApart_walk : LawOK Go.Proofs.Try.prog 8 lawApart.as := .of lawApart.ok fun x h => by
  obtain ⟨v, y, win, at_, to, u⟩ := x
  have hv : vok v := vok_of h.1
  have hy : byte y := wf_u8.1 h.2.1
  have hw : byte win := wf_u8.1 h.2.2.1
  have ha : byte at_ := wf_u8.1 h.2.2.2.1
  have ht : byte to := wf_u8.1 h.2.2.2.2.1
  have y0 := hy.1
  have y1 := hy.2
  have a0 := ha.1
  have a1 := ha.2
  unfold lawApart.F lawApart.C lawApart.G
  dsimp only
  obtain ⟨M, eM, hM, hMg⟩ := pad_spec (oam v)
  have eM' : List.take 0 (List.replicate 160 (0 : Int)) ++ List.take (min (List.length v.2.2.2.2.2.2.2.2.2) 160) v.2.2.2.2.2.2.2.2.2 ++ List.drop (0 + min (List.length v.2.2.2.2.2.2.2.2.2) 160) (List.replicate 160 0) = M := eM
  have hMb : bytes M := by
    intro n hn
    obtain ⟨i, hi, e⟩ := List.getElem_of_mem hn
    have := hMg i (by omega)
    rw [getD_in hi, e] at this
    subst this
    exact bytes_getD hv.oa i
  rw [eM']
  simp only [List.drop_zero, List.take_of_length_le (Nat.le_of_eq hM), List.take_zero, List.nil_append]
  obtain ⟨c, ec, ⟨c0, c1, c2, c3, c4, c5, c6⟩, cb⟩ := xor_spec hv.ctl
  obtain ⟨d, ed, d1, db⟩ := off_spec cb
  rw [ec, ed]
  obtain ⟨q, hq, hq40⟩ : ∃ q : Nat, IntKind.wrap .i64 (4 * Int.tmod (IntKind.wrap .i64 at_) 40) = ((4 * q : Nat) : Int) ∧ q < 40 := by
    refine ⟨(at_ % 40).toNat, ?_, by omega⟩
    rw [w64 (n := at_) (by omega), tmodN a0, w64 (by omega)]; omega
  rw [hq]
  have g : (0 : Int) ≤ ((4 * q : Nat) : Int) ∧ ((4 * q : Nat) : Int) < 160 := by omega
  have gp : ∀ j : Nat, j < 4 → IntKind.wrap .i64 (((4 * q : Nat) : Int) + (j : Int)) = ((4 * q + j : Nat) : Int) := fun j hj => by rw [w64 (by omega)]; omega
  have g1 := gp 1 (by omega)
  have g2 := gp 2 (by omega)
  have g3 := gp 3 (by omega)
  have i1 : (0 : Int) ≤ ((4 * q + 1 : Nat) : Int) ∧ ((4 * q + 1 : Nat) : Int) < 160 := by omega
  have i2 : (0 : Int) ≤ ((4 * q + 2 : Nat) : Int) ∧ ((4 * q + 2 : Nat) : Int) < 160 := by omega
  have i3 : (0 : Int) ≤ ((4 * q + 3 : Nat) : Int) ∧ ((4 * q + 3 : Nat) : Int) < 160 := by omega
  have g1' : IntKind.wrap .i64 (((4 * q : Nat) : Int) + 1) = ((4 * q + 1 : Nat) : Int) := g1
  have g2' : IntKind.wrap .i64 (((4 * q : Nat) : Int) + 2) = ((4 * q + 2 : Nat) : Int) := g2
  have g3' : IntKind.wrap .i64 (((4 * q : Nat) : Int) + 3) = ((4 * q + 3 : Nat) : Int) := g3
  rw [g1', g2', g3']
  simp only [if_pos g, if_pos i1, if_pos i2, if_pos i3, Int.toNat_natCast, Nat.zero_add]
  have mb := bytes_getD hMb (4 * q)
  rw [w64 (n := y) (by omega), w64 (n := y + 16) (by omega), w64 (n := M.getD (4 * q) 0) (by omega), w64 (n := M.getD (4 * q) 0 + 16) (by omega)]
  obtain ⟨ctl, b2, b3, b4, b5, b6, b7, b8, vr, om⟩ := v
  have hvM : vok (c, b2, b3, b4, b5, b6, b7, b8, vr, M) := ⟨cb, hv.scy, hv.scx, hv.wy, hv.wx, hv.bgp, hv.ob0, hv.ob1, hv.vr, hMb⟩
  have hvU : vok (c, b2, b3, b4, b5, b6, b7, b8, vr, (((M.set (4 * q) 0).set (4 * q + 1) to).set (4 * q + 2) to).set (4 * q + 3) to) := ⟨cb, hv.scy, hv.scx, hv.wy, hv.wx, hv.bgp, hv.ob0, hv.ob1, hv.vr, set4_bytes hMb ht _ _ _ _⟩
  have hvD : vok (d, b2, b3, b4, b5, b6, b7, b8, vr, M) := ⟨db, hv.scy, hv.scx, hv.wy, hv.wx, hv.bgp, hv.ob0, hv.ob1, hv.vr, hMb⟩
  have hvE : vok (d, b2, b3, b4, b5, b6, b7, b8, vr, []) := ⟨db, hv.scy, hv.scx, hv.wy, hv.wx, hv.bgp, hv.ob0, hv.ob1, hv.vr, by intro n hn; simp [oam] at hn⟩
  have eSet : (M.set (4 * q) 0).set (4 * q) (M.getD (4 * q) 0) = M := by
    rw [List.set_set]
    apply List.ext_getElem (by simp)
    intro i h1 h2
    rw [List.getElem_set]
    split
    · rename_i e; subst e; rw [getD_in h2]
    · rfl
  have lA := lineS_congr (a2 := b2) (a3 := b3) (a4 := b4) (a5 := b5) (a6 := b6) (a7 := b7) (a8 := b8) (vr := vr) (m := om) (m' := M) (y := y) (win := win) ⟨c0, c2, c3, c4, c5, c6⟩ (objsS_congr c1 c2 fun i hi => .inl (objAt_congr hMg hi))
  have lE := lineS_congr (c := d) (d := d) (a2 := b2) (a3 := b3) (a4 := b4) (a5 := b5) (a6 := b6) (a7 := b7) (a8 := b8) (vr := vr) (m := M) (m' := []) (y := y) (win := win) ⟨rfl, rfl, rfl, rfl, rfl, rfl⟩ (by rw [objsS_off d1, objsS_off d1])
  have lU : (M.getD (4 * q) 0 = 0 ∨ y + 16 < M.getD (4 * q) 0 ∨ y + 16 ≥ M.getD (4 * q) 0 + 16) → lineS (c, b2, b3, b4, b5, b6, b7, b8, vr, (((M.set (4 * q) 0).set (4 * q + 1) to).set (4 * q + 2) to).set (4 * q + 3) to) y win = lineS (c, b2, b3, b4, b5, b6, b7, b8, vr, M) y win := fun hf => by
    refine (lineS_congr ⟨rfl, rfl, rfl, rfl, rfl, rfl⟩ (objsS_congr rfl rfl fun i hi => ?_)).1
    obtain ⟨s1, s2⟩ := set4_get hM hq40 to
    by_cases e : i = q
    · subst e
      right
      rw [s1]
      exact ⟨off_line (.inl rfl) y0, off_line hf y0⟩
    · exact .inl (s2 i e)
  have tM : List.take 160 M = M := List.take_of_length_le (Nat.le_of_eq hM)
  have tU : List.take 160 ((((M.set (4 * q) 0).set (4 * q + 1) to).set (4 * q + 2) to).set (4 * q + 3) to) = (((M.set (4 * q) 0).set (4 * q + 1) to).set (4 * q + 2) to).set (4 * q + 3) to := List.take_of_length_le (by simp only [List.length_set, hM]; exact Nat.le_refl _)
  simp only [shown_spec, Option.bind_some, eSet, tM, tU]
  simp only [line_spec hv hy hw, line_spec hvM hy hw, line_spec hvU hy hw, line_spec hvD hy hw, line_spec hvE hy hw, Option.bind_some, lA.1, lA.2, lE.1, sEq_self]
  by_cases q1 : M.getD (4 * q) 0 = 0
  · have e := lU (.inl q1)
    rw [e, lA.1]
    simp [q1, sEq_self]
  · by_cases q2 : y + 16 < M.getD (4 * q) 0
    · have e := lU (.inr (.inl q2))
      rw [e, lA.1]
      simp [q1, q2, sEq_self]
    · by_cases q3 : y + 16 ≥ M.getD (4 * q) 0 + 16
      · have e := lU (.inr (.inr q3))
        rw [e, lA.1]
        simp [q1, q2, q3, sEq_self]
      · simp only [beq_eq_false_iff_ne.2 q1, decide_eq_false q2, decide_eq_false q3, beq_self_eq_true, if_true, Bool.false_eq_true, if_false, Option.bind_some, lA.1, sEq_self]
end Go.Proofs.Ytibgfodjecnnkaa.E
