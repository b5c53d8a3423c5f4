/- Functions of the program as plain Lean, and what they come to. Conditions: none. -/
import Derived.Test.YtibgfodjecnnkaaEwD
import Derived.Test.YtibgfodjecnnkaaPureD
open Go Go.Ew
namespace Go.Proofs.Ytibgfodjecnnkaa.E
set_option linter.unusedVariables false
set_option linter.unusedSimpArgs false
set_option maxRecDepth 100000

abbrev O7 := Int × Int × Int × Int × Int × Int × Int
abbrev Z7 : O7 := ((0 : Int), (0 : Int), (0 : Int), (0 : Int), (0 : Int), (0 : Int), (0 : Int))
/-- where an object's row stands -/
def atO (y : Int) (tall : Bool) (o : O5) : Int := plS (rowS o y tall).1 false (rowS o y tall).2.1
def pxO (v : VID) (y : Int) (tall : Bool) (x : Int) (o : O5) : Int := pxS (atS (vram v) (atO y tall o)) (atS (vram v) (atO y tall o + 1)) (colS o x).1
def hitO (v : VID) (y : Int) (tall : Bool) (x : Int) (o : O5) : Bool := (colS o x).2 && decide (pxO v y tall x o ≠ 0)
def seen (v : VID) (y : Int) (tall : Bool) (x : Int) (l : List O5) : Option O5 := l.find? (hitO v y tall x)
theorem pxO_le (v : VID) (y : Int) (tall : Bool) (x : Int) (o : O5) : 0 ≤ pxO v y tall x o ∧ pxO v y tall x o ≤ 3 := pxS_le _ _ _
theorem atO_le {o : O5} (ho : obytes o) (y : Int) (tall : Bool) : 0 ≤ atO y tall o ∧ atO y tall o ≤ 10000 := plS_le (rowS_le ho y tall).1 _ _
def objS (v : VID) (y : Int) (tall : Bool) (x : Int) (l : List O5) : O5 × Int := match seen v y tall x l with
  | some o => (o, pxO v y tall x o)
  | none => (Z5, 0)
theorem seen_drop {v : VID} {y : Int} {tall : Bool} {x : Int} {l : List O5} {i : Nat} (h : i < l.length) :
    seen v y tall x (l.drop i) = if hitO v y tall x (l.getD i Z5) = true then some (l.getD i Z5) else seen v y tall x (l.drop (i + 1)) := by
  rw [getD_in h, List.drop_eq_getElem_cons h]
  unfold seen
  rw [List.find?_cons]
  split <;> rename_i q <;> simp [q]
def objR (v : VID) (y : Int) (tall : Bool) (x : Int) (r : Option O5) : ((Unit × Int × Unit) × ((Int × Int × Int × Int × Int × Unit) × Unit) × Unit) ⊕ ((Unit × Unit) × ((Int × Int × Int × Int × Int × Unit) × Unit) × Unit) := match r with
  | some o => .inl (((), pxO v y tall x o, ()), ((o.1, o.2.1, o.2.2.1, o.2.2.2.1, o.2.2.2.2, ()), ()), ())
  | none => .inr (((), ()), ((0, 0, 0, 0, 0, ()), ()), ())
def abR (v : VID) (y : Int) (tall : Bool) (x u : Int) (r : Option O5) : ((Int × Bool × Unit) × Unit × Unit) ⊕ (Unit × Unit × Unit) := match r with
  | none => .inr ((), (), ())
  | some o => .inl (((if bitB o.2.2.2.1 7 = true ∧ u ≠ 0 then (0, false, ()) else (shS (if bitB o.2.2.2.1 4 = true then v.2.2.2.2.2.2.2.1 else v.2.2.2.2.2.2.1) (pxO v y tall x o), true, ()))), (), ())
theorem robj_loop {v : VID} (hv : vok v) {l : List O5} (hl : ∀ o ∈ l, obytes o) (hl2 : l.length ≤ 100) {x y : Int} (hx0 : 0 ≤ x) (hx : x < 160) (hy : byte y) {tall : Bool} :
    ref18_object.L0.F ((l, x, y, (), (), tall, (0 : Int), ()), (vb v, ((0 : Int), (0 : Int), (0 : Int), (0 : Int), (0 : Int), ()), ()), ()) =
      some (objR v y tall x (seen v y tall x l)) := by
  have y0 := hy.1
  have y1 := hy.2
  unfold ref18_object.L0.F
  refine (congrArg (iterU _) ?_).trans (iterU_to (fun i : Nat => ((l, x, y, (), (), tall, (i : Int), ()), (vb v, ((0 : Int), (0 : Int), (0 : Int), (0 : Int), (0 : Int), ()), ()), ()))
    (fun i => objR v y tall x (seen v y tall x (l.drop i))) l.length ?_ ?_ 0 (by omega))
  · rfl
  · intro i hi
    have ho : obytes (l.getD i Z5) := by rw [getD_in hi]; exact hl _ (List.getElem_mem hi)
    unfold ref18_object.L0.step
    dsimp only
    have g : (i : Int) < (l.length : Int) := by omega
    have g2 : (0 : Int) ≤ (i : Int) ∧ (i : Int) < (l.length : Int) := by omega
    have hr := rowS_le ho y tall
    have hat := atO_le ho y tall
    rw [if_pos (decide_eq_true g), w64 (n := y) (by omega), w64 (n := (i : Int) + 1) (by omega)]
    simp only [if_pos g2, Int.toNat_natCast]
    rw [rcol_spec ho hx0 hx, rrow_spec ho]
    simp only [Option.bind_some]
    rw [rplace_spec hr.1 false hr.2.1 (by omega)]
    simp only [Option.bind_some, rat_spec]
    have e1 : plS (rowS (l.getD i Z5) y tall).1 false (rowS (l.getD i Z5) y tall).2.1 = atO y tall (l.getD i Z5) := rfl
    rw [e1, w64 (by omega), rpixel_spec (atS_byte hv.vr _) (atS_byte hv.vr _) (colS_le _ _).1 (colS_le _ _).2]
    simp only [Option.bind_some]
    have e2 : pxS (atS v.2.2.2.2.2.2.2.2.1 (atO y tall (l.getD i Z5))) (atS v.2.2.2.2.2.2.2.2.1 (atO y tall (l.getD i Z5) + 1)) (colS (l.getD i Z5) x).1 = pxO v y tall x (l.getD i Z5) := rfl
    rw [e2, seen_drop hi]
    have e3 : hitO v y tall x (l.getD i Z5) = ((colS (l.getD i Z5) x).2 && decide (pxO v y tall x (l.getD i Z5) ≠ 0)) := rfl
    clear e1 e2
    dsimp only [Z5] at *
    generalize l.getD i ((0 : Int), (0 : Int), (0 : Int), (0 : Int), (0 : Int)) = o at *
    by_cases q1 : (colS o x).2 = true
    · by_cases q2 : pxO v y tall x o = 0
      · left
        rw [e3, q1, q2]
        simp
      · right
        rw [e3, q1]
        simp [q2, objR]
    · left
      have q1' : (colS o x).2 = false := by simpa using q1
      rw [e3, q1']
      simp
  · unfold ref18_object.L0.step
    dsimp only
    rw [if_neg (by simp), List.drop_length]
    rfl
theorem robj_spec {v : VID} (hv : vok v) {l : List O5} (hl : ∀ o ∈ l, obytes o) (hl2 : l.length ≤ 100) {x y : Int} (hx0 : 0 ≤ x) (hx : x < 160) (hy : byte y) :
    ref18_object.F (v, l, x, y, ()) = some ((objS v y (bitB v.1 2) x l).1, (objS v y (bitB v.1 2) x l).2, ()) := by
  unfold ref18_object.F ref18_object.C ref18_object.G objS
  have e2 : ref01_Bit.F (v.1, 2, ()) = some (bitB v.1 2, ()) := rbit_spec 2 (by omega) hv.ctl
  have h := robj_loop hv hl hl2 hx0 hx hy (tall := bitB v.1 2)
  dsimp only [vb] at h
  simp only [e2, Option.bind_some]
  rw [h]
  cases seen v y (bitB v.1 2) x l <;> rfl
/-! what is seen -/
def underS (v : VID) (u : Int) : Int := if bitB v.1 0 = true then shS v.2.2.2.2.2.1 u else 0
def dotS (v : VID) (y : Int) (l : List O5) (win : Int) (x : Nat) : Int :=
  let u := groundS v y win x
  match seen v y (bitB v.1 2) x l with
  | none => underS v u
  | some o => if bitB o.2.2.2.1 7 = true ∧ u ≠ 0 then underS v u
    else shS (if bitB o.2.2.2.1 4 = true then v.2.2.2.2.2.2.2.1 else v.2.2.2.2.2.2.1) (pxO v y (bitB v.1 2) x o)
theorem seen_mem {v : VID} {y : Int} {tall : Bool} {x : Int} {l : List O5} {o : O5} (h : seen v y tall x l = some o) : o ∈ l ∧ (colS o x).2 = true ∧ pxO v y tall x o ≠ 0 := by
  unfold seen at h
  have h1 := List.mem_of_find?_eq_some h
  have h2 := List.find?_some h
  unfold hitO at h2
  simp only [Bool.and_eq_true, decide_eq_true_eq] at h2
  exact ⟨h1, h2⟩
theorem rdot_spec {v : VID} (hv : vok v) {l : List O5} (hl : ∀ o ∈ l, obytes o) (hl2 : l.length ≤ 100) {x : Nat} (hx : x < 160) {y win : Int} (hy : byte y) (hw : byte win) :
    ref18_Dot.F (v, l, (x : Int), y, win, ()) = some (dotS v y l win x, ()) := by
  unfold ref18_Dot.F ref18_Dot.C ref18_Dot.G dotS underS
  have e0 : ref01_Bit.F (v.1, 0, ()) = some (bitB v.1 0, ()) := rbit_spec 0 (by omega) hv.ctl
  have hg := groundS_le v y win x
  simp only [rground_spec hv hy hw hx, robj_spec hv hl hl2 (x := x) (by omega) (by omega) hy, Option.bind_some, e0]
  rw [rshade_spec hv.bgp hg.1 hg.2]
  unfold objS
  cases hs : seen v y (bitB v.1 2) x l with
  | none =>
    have z : ref01_Bit.F (0, 7, ()) = some (bitB 0 7, ()) := rbit_spec 7 (by omega) ⟨by omega, by omega⟩
    simp only [z, Option.bind_some]
    cases bitB v.1 0 <;> simp
  | some o =>
    obtain ⟨hm, hc, hp⟩ := seen_mem hs
    have ho := hl o hm
    have hpx := pxO_le v y (bitB v.1 2) x o
    have e7 : ref01_Bit.F (o.2.2.2.1, 7, ()) = some (bitB o.2.2.2.1 7, ()) := rbit_spec 7 (by omega) ho.2.2.2.1
    have e4 : ref01_Bit.F (o.2.2.2.1, 4, ()) = some (bitB o.2.2.2.1 4, ()) := rbit_spec 4 (by omega) ho.2.2.2.1
    simp only [e7, e4, Option.bind_some]
    rw [rshade_spec hv.ob0 hpx.1 hpx.2, rshade_spec hv.ob1 hpx.1 hpx.2]
    have hp' : (pxO v y (bitB v.1 2) (x : Int) o != 0) = true := by simpa using hp
    by_cases q7 : bitB o.2.2.2.1 7 = true
    · by_cases qu : groundS v y win x = 0
      · by_cases q4 : bitB o.2.2.2.1 4 = true <;> simp [hp', q7, qu, q4]
      · cases bitB v.1 0 <;> simp [hp', q7, qu]
    · by_cases q4 : bitB o.2.2.2.1 4 = true <;> simp [hp', q7, q4]
/-! a line's objects -/
theorem insR_all {P : O5 → Prop} {x : O5} {s : List O5} (hx : P x) (hs : ∀ o ∈ s, P o) : ∀ o ∈ insR x s, P o := by
  have key : ∀ r : List O5, (∀ o ∈ r, P o) → ∀ o ∈ insRev x r, P o := by
    intro r
    induction r with
    | nil => intro _ o ho; simp [insRev] at ho; subst ho; exact hx
    | cons y r ih =>
      intro hr o ho
      unfold insRev at ho
      split at ho
      · rcases List.mem_cons.1 ho with rfl | h
        · exact hr _ (by simp)
        · exact ih (fun o h => hr o (by simp [h])) o h
      · rcases List.mem_cons.1 ho with rfl | h
        · exact hx
        · exact hr o h
  intro o ho
  exact key s.reverse (fun o h => hs o (by simpa using h)) o (by simpa [insR] using ho)
theorem isort_all {P : O5 → Prop} {l : List O5} (hl : ∀ o ∈ l, P o) : ∀ o ∈ isort l, P o := by
  have key : ∀ (l s : List O5), (∀ o ∈ l, P o) → (∀ o ∈ s, P o) → ∀ o ∈ l.foldl (fun s x => insR x s) s, P o := by
    intro l
    induction l with
    | nil => intro s _ hs; exact hs
    | cons x l ih => intro s hl hs; exact ih _ (fun o h => hl o (by simp [h])) (insR_all (hl x (by simp)) hs)
  exact key l [] hl (by simp)
def objsS (v : VID) (y : Int) : List O5 := if bitB v.1 1 = true then isort ((onL (oam v) y (bitB v.1 2) 40).take 10) else []
theorem onL_obytes {m : List Int} (hm : bytes m) {line : Int} {tall : Bool} : ∀ o ∈ onL m line tall 40, obytes o := by
  intro o ho
  unfold onL at ho
  rw [List.mem_filter, List.mem_map] at ho
  obtain ⟨⟨i, hi, rfl⟩, _⟩ := ho
  have hi := List.mem_range.1 hi
  exact ⟨bytes_getD hm _, bytes_getD hm _, bytes_getD hm _, bytes_getD hm _, ⟨by simp [objAt], by simp [objAt]; omega⟩⟩
theorem objsS_obytes {v : VID} (hv : vok v) (y : Int) : ∀ o ∈ objsS v y, obytes o := by
  unfold objsS
  split
  · exact isort_all fun o ho => onL_obytes hv.oa o (List.mem_of_mem_take ho)
  · simp
theorem objsS_length (v : VID) (y : Int) : (objsS v y).length ≤ 10 := by
  unfold objsS
  split
  · rw [isort_length, List.length_take]; omega
  · simp
def drawS (v : VID) (y : Int) (tall : Bool) (o : O5) : O7 := (o.1, o.2.1, o.2.2.1, o.2.2.2.1, o.2.2.2.2, atS (vram v) (atO y tall o), atS (vram v) (atO y tall o + 1))
theorem drawns_loop {v : VID} (hv : vok v) {y : Int} (hy : byte y) {tall : Bool} {l : List O5} (hl : ∀ o ∈ l, obytes o) (hl2 : l.length ≤ 100) :
    scan_drawns.L0.F ((y, (), tall, l, (l.length : Int), (0 : Int), ()), (vb v, ()), [], ()) = some ((), (), l.map (drawS v y tall), ()) := by
  have y0 := hy.1
  have y1 := hy.2
  unfold scan_drawns.L0.F
  refine (congrArg (iterU _) ?_).trans (iterU_range (fun i : Nat => ((y, (), tall, l, (l.length : Int), (i : Int), ()), (vb v, ()), (l.take i).map (drawS v y tall), ())) _ l.length ?_ ?_ 0 (by omega))
  · rfl
  · intro i hi
    have ho : obytes (l.getD i Z5) := by rw [getD_in hi]; exact hl _ (List.getElem_mem hi)
    have hr := rowS_le ho y tall
    have hat := atO_le ho y tall
    unfold scan_drawns.L0.step
    dsimp only
    have g : (i : Int) < (l.length : Int) := by omega
    have g2 : (0 : Int) ≤ (i : Int) ∧ (i : Int) < (l.length : Int) := by omega
    have hlen : ((l.take i).map (drawS v y tall)).length = i := by simp; omega
    rw [if_pos (decide_eq_true g), if_pos g2, w64 (n := y) (by omega), w64 (n := (i : Int) + 1) (by omega)]
    simp only [Int.toNat_natCast]
    rw [row_spec ho]
    simp only [Option.bind_some]
    rw [place_spec hr.1 false hr.2.1 (by omega)]
    simp only [Option.bind_some, at_spec]
    have e1 : plS (rowS (l.getD i Z5) y tall).1 false (rowS (l.getD i Z5) y tall).2.1 = atO y tall (l.getD i Z5) := rfl
    rw [e1, w64 (by omega), hlen, if_pos (by omega)]
    have e2 : l.take (i + 1) = l.take i ++ [l.getD i Z5] := by rw [getD_in hi, List.take_add_one, List.getElem?_eq_getElem hi]; rfl
    rw [e2, List.map_append]
    have e3 : (l.take i).map (drawS v y tall) ++ [drawS v y tall (l.getD i Z5)] = List.take (i + 1) ((l.take i).map (drawS v y tall) ++ [drawS v y tall (l.getD i Z5)]) := by
      rw [List.take_of_length_le (l := (l.take i).map (drawS v y tall) ++ [drawS v y tall (l.getD i Z5)]) (by rw [List.length_append, hlen]; simp)]
    rw [List.map_singleton, e3, List.take_of_length_le (l := (l.take i).map (drawS v y tall)) (by omega)]
    rfl
  · unfold scan_drawns.L0.step
    dsimp only
    rw [if_neg (by simp), List.take_length, List.take_length]
theorem drawns_spec {v : VID} (hv : vok v) {y : Int} (hy : byte y) : scan_drawns.F (v, y, ()) = some ((objsS v y).map (drawS v y (bitB v.1 2)), ()) := by
  have y0 := hy.1
  have y1 := hy.2
  unfold scan_drawns.F scan_drawns.C scan_drawns.G objsS
  have e1 : word_Bit.F (v.1, 1, ()) = some (bitB v.1 1, ()) := bit_spec 1 (by omega) hv.ctl
  have e2 : word_Bit.F (v.1, 2, ()) = some (bitB v.1 2, ()) := bit_spec 2 (by omega) hv.ctl
  simp only [e1, e2, Option.bind_some]
  by_cases q : bitB v.1 1 = true
  · rw [if_neg (by simp [q]), if_pos q, w64 (n := y) (by omega)]
    have hsc : objects_Scan.F (v.2.2.2.2.2.2.2.2.2, y, bitB v.1 2, ()) = some ((onL (oam v) y (bitB v.1 2) 40).take 10, ()) := objects_Scan_spec hv.oa
    rw [hsc]
    simp only [Option.bind_some]
    have ho : objects_Order.F ((onL (oam v) y (bitB v.1 2) 40).take 10, ()) = some (isort ((onL (oam v) y (bitB v.1 2) 40).take 10), ()) := objects_Order_spec _ (by rw [List.length_take]; omega)
    rw [ho]
    simp only [Option.bind_some]
    have hd := drawns_loop hv hy (tall := bitB v.1 2) (l := isort ((onL (oam v) y (bitB v.1 2) 40).take 10)) (isort_all fun o ho => onL_obytes hv.oa o (List.mem_of_mem_take ho)) (by rw [isort_length, List.length_take]; omega)
    dsimp only [vb] at hd
    rw [hd]
    simp only [Option.bind_some, List.drop_zero, List.take_length]
  · have q' : bitB v.1 1 = false := by simpa using q
    rw [if_pos (by simp [q'])]
    simp [q']
def aboveS (v : VID) (y : Int) (tall : Bool) (x : Int) (u : Int) (l : List O5) : Int × Bool := match seen v y tall x l with
  | none => (0, false)
  | some o => if bitB o.2.2.2.1 7 = true ∧ u ≠ 0 then (0, false) else (shS (if bitB o.2.2.2.1 4 = true then v.2.2.2.2.2.2.2.1 else v.2.2.2.2.2.2.1) (pxO v y tall x o), true)
theorem above_loop {v : VID} (hv : vok v) {y : Int} {tall : Bool} {l : List O5} (hl : ∀ o ∈ l, obytes o) (hl2 : l.length ≤ 100) {x u : Int} (hx0 : 0 ≤ x) (hx : x < 160) (u0 : 0 ≤ u) (u1 : u ≤ 3) :
    scan_above.L0.F ((x, u, (), l.map (drawS v y tall), ((l.map (drawS v y tall)).length : Int), (0 : Int), ()), (vb v, ()), ()) =
      some (abR v y tall x u (seen v y tall x l)) := by
  unfold scan_above.L0.F
  refine (congrArg (iterU _) ?_).trans (iterU_to (fun i : Nat => ((x, u, (), l.map (drawS v y tall), ((l.map (drawS v y tall)).length : Int), (i : Int), ()), (vb v, ()), ()))
    (fun i => abR v y tall x u (seen v y tall x (l.drop i))) l.length ?_ ?_ 0 (by omega))
  · rfl
  · intro i hi
    have ho : obytes (l.getD i Z5) := by rw [getD_in hi]; exact hl _ (List.getElem_mem hi)
    unfold scan_above.L0.step
    dsimp only
    have hlen : (l.map (drawS v y tall)).length = l.length := by simp
    have g : (i : Int) < ((l.map (drawS v y tall)).length : Int) := by omega
    have g2 : (0 : Int) ≤ (i : Int) ∧ (i : Int) < ((l.map (drawS v y tall)).length : Int) := by omega
    have eg : (l.map (drawS v y tall)).getD i Z7 = drawS v y tall (l.getD i Z5) := by
      rw [getD_in hi, getD_in (by omega)]; simp
    have eg' : (l.map (drawS v y tall)).getD i ((0 : Int), (0 : Int), (0 : Int), (0 : Int), (0 : Int), (0 : Int), (0 : Int)) = drawS v y tall (l.getD i Z5) := eg
    rw [if_pos (decide_eq_true g), if_pos g2, w64 (n := (i : Int) + 1) (by omega)]
    simp only [Int.toNat_natCast, eg']
    rw [seen_drop hi]
    generalize l.getD i Z5 = o at ho
    have ecol : objects_Column.F (((drawS v y tall o).1, (drawS v y tall o).2.1, (drawS v y tall o).2.2.1, (drawS v y tall o).2.2.2.1, (drawS v y tall o).2.2.2.2.1), x, ()) = some ((colS o x).1, (colS o x).2, ()) := col_spec ho hx0 hx
    have epx : tiles_Pixel.F ((drawS v y tall o).2.2.2.2.2.1, (drawS v y tall o).2.2.2.2.2.2, (colS o x).1, ()) = some (pxO v y tall x o, ()) := pixel_spec (atS_byte hv.vr _) (atS_byte hv.vr _) (colS_le _ _).1 (colS_le _ _).2
    have hpx := pxO_le v y tall x o
    have e7 : word_Bit.F ((drawS v y tall o).2.2.2.1, 7, ()) = some (bitB o.2.2.2.1 7, ()) := bit_spec 7 (by omega) ho.2.2.2.1
    have e4 : word_Bit.F ((drawS v y tall o).2.2.2.1, 4, ()) = some (bitB o.2.2.2.1 4, ()) := bit_spec 4 (by omega) ho.2.2.2.1
    simp only [ecol, epx, e7, e4, Option.bind_some]
    rw [shade_spec hv.ob0 hpx.1 hpx.2, shade_spec hv.ob1 hpx.1 hpx.2]
    have e3 : hitO v y tall x o = ((colS o x).2 && decide (pxO v y tall x o ≠ 0)) := rfl
    by_cases q1 : (colS o x).2 = true
    · by_cases q2 : pxO v y tall x o = 0
      · left
        rw [e3, q1, q2]
        simp
      · right
        rw [e3, q1]
        by_cases q7 : bitB o.2.2.2.1 7 = true
        · by_cases qu : u = 0
          · by_cases q4 : bitB o.2.2.2.1 4 = true <;> simp [q2, q7, qu, q4, abR]
          · simp [q2, q7, qu, abR]
        · by_cases q4 : bitB o.2.2.2.1 4 = true <;> simp [q2, q7, q4, abR]
    · left
      have q1' : (colS o x).2 = false := by simpa using q1
      rw [e3, q1']
      simp
  · unfold scan_above.L0.step
    dsimp only
    rw [if_neg (by simp), List.drop_length]
    rfl
theorem above_spec {v : VID} (hv : vok v) {y : Int} {tall : Bool} {l : List O5} (hl : ∀ o ∈ l, obytes o) (hl2 : l.length ≤ 100) {x u : Int} (hx0 : 0 ≤ x) (hx : x < 160) (u0 : 0 ≤ u) (u1 : u ≤ 3) :
    scan_above.F (v, l.map (drawS v y tall), x, u, ()) = some ((aboveS v y tall x u l).1, (aboveS v y tall x u l).2, ()) := by
  unfold scan_above.F scan_above.C scan_above.G aboveS
  have h := above_loop hv (y := y) (tall := tall) hl hl2 hx0 hx u0 u1
  dsimp only [vb] at h
  dsimp only
  rw [h]
  simp only [Option.bind_some]
  cases seen v y tall x l with
  | none => rfl
  | some o => by_cases q : bitB o.2.2.2.1 7 = true ∧ u ≠ 0 <;> simp [q, abR]
end Go.Proofs.Ytibgfodjecnnkaa.E
