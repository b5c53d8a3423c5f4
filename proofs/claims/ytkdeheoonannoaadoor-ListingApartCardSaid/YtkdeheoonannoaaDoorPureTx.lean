/- Functions of the program as plain Lean, and what they come to. Conditions: none. -/
import Derived.Test.YtkdeheoonannoaaDoorEwD
import Derived.Test.YtkdeheoonannoaaDoorPureX
open Go Go.Ew
namespace Go.Proofs.YtkdeheoonannoaaDoor.E
open Go.IntKind (wrap)
set_option linter.unusedVariables false
set_option linter.unusedSimpArgs false
set_option maxRecDepth 100000
/-! loops that are run to their end -/
section
variable {α β : Type}
def runN (step : α → Option (α ⊕ β)) : Nat → α → Option β
  | 0, _ => none
  | n + 1, a => match step a with
    | some (.inl a') => runN step n a'
    | some (.inr b) => some b
    | none => none
theorem runN_ok {step step' : α → Option (α ⊕ β)} (h : ∀ a z, step a = some z → step' a = some z) : ∀ (n : Nat) (a : α) (b : β), runN step n a = some b → iterU step' a = some b
  | 0, a, b, e => by simp [runN] at e
  | n + 1, a, b, e => by
    unfold runN at e
    rw [iterU_eq]
    split at e
    · rename_i a' ha
      rw [h _ _ ha]
      exact runN_ok h n a' b e
    · rename_i b' hb
      rw [h _ _ hb]
      exact e
    · simp at e
end
/-! the lines: the program's, the document's -/
def digN (n : Nat) : Nat := if n < 10 then 48 + n else 55 + n
def hexSy (v : Nat) : List Sy := cs [digN (v / 16), digN (v % 16)]
def hexB (v : Nat) : ByteArray := evS .empty .empty (hexSy v)
theorem hexSy_ev (B W : ByteArray) (v : Nat) : evS B W (hexSy v) = hexB v := evS_c B W _
theorem hex_fin : ∀ v : Fin 256, word_Hex8.F ((v.val : Int), ()) = some (hexB v.val, ()) ∧ ref01_Hex8.F ((v.val : Int), ()) = some (hexB v.val, ()) := by decide +kernel
theorem hex_spec {v : Nat} (h : v < 256) : word_Hex8.F ((v : Int), ()) = some (hexB v, ()) := (hex_fin ⟨v, h⟩).1
theorem rhex_spec {v : Nat} (h : v < 256) : ref01_Hex8.F ((v : Int), ()) = some (hexB v, ()) := (hex_fin ⟨v, h⟩).2
theorem hex_size (v : Nat) : (hexB v).size = 2 := rfl
def dolB (v : Nat) : ByteArray := bs [36] ++ hexB v
def dolW (hi lo : Nat) : ByteArray := bs [36] ++ (hexB hi ++ hexB lo)
theorem ba_size (a b : ByteArray) : (a ++ b).size = a.size + b.size := ByteArray.size_append
theorem dolB_size (v : Nat) : (dolB v).size = 3 := by unfold dolB; rw [ba_size, hex_size]; rfl
theorem dolW_size (h v : Nat) : (dolW h v).size = 5 := by unfold dolW; rw [ba_size, ba_size, hex_size, hex_size]; rfl
theorem wjoin_spec {hi lo : Nat} (h1 : hi < 256) (h2 : lo < 256) : word_Join.F ((hi : Int), (lo : Int), ()) = some (((256 * hi + lo : Nat) : Int), ()) := by
  show word_Join.G _ _ = _
  unfold word_Join.G
  rw [w16 (n := (hi : Int)) (by omega), w16 (n := (lo : Int)) (by omega), w16 (by omega)]
  have := join16 8 (a := hi) (b := lo) (by omega) (by omega)
  rw [show (hi : Int) * 256 = ((2 ^ 8 * hi : Nat) : Int) by omega, this]
theorem whex16_spec {hi lo : Nat} (h1 : hi < 256) (h2 : lo < 256) : word_Hex16.F (((256 * hi + lo : Nat) : Int), ()) = some (hexB hi ++ hexB lo, ()) := by
  show word_Hex16.G _ _ = _
  unfold word_Hex16.G
  rw [show wrap .u8 (Int.fdiv ((256 * hi + lo : Nat) : Int) 256) = (hi : Int) by rw [w8 (by rw [Int.fdiv_eq_ediv_of_nonneg _ (by decide)]; omega), Int.fdiv_eq_ediv_of_nonneg _ (by decide)]; omega]
  rw [show wrap .u8 ((256 * hi + lo : Nat) : Int) = (lo : Int) by simp [IntKind.wrap, IntKind.bits, IntKind.signed]; omega]
  refine (bind_eq (hex_spec h1)).trans ?_
  refine (bind_eq (hex_spec h2)).trans ?_
  exact if_pos (by rw [decide_eq_true_eq, hex_size, hex_size]; decide)
theorem rjoin_spec {hi lo : Nat} (h1 : hi < 256) (h2 : lo < 256) : ref01_Join.F ((hi : Int), (lo : Int), ()) = some (((256 * hi + lo : Nat) : Int), ()) := by
  show ref01_Join.G _ _ = _
  unfold ref01_Join.G
  rw [w64 (n := (hi : Int)) (by omega), w64 (n := (lo : Int)) (by omega), w64 (n := (hi : Int) * 256) (by omega), w64 (by omega), w16 (by omega)]
  congr 2; omega
theorem rsplit_spec {w : Nat} (h : w < 65536) : ref01_Split.F ((w : Int), ()) = some (((w / 256 : Nat) : Int), ((w % 256 : Nat) : Int), ()) := by
  show ref01_Split.G _ = _
  unfold ref01_Split.G
  rw [w64 (n := (w : Int)) (by omega)]
  have e1 : Int.tdiv (w : Int) 256 = ((w / 256 : Nat) : Int) := rfl
  have e2 : Int.tmod (w : Int) 256 = ((w % 256 : Nat) : Int) := rfl
  rw [e1, e2, w64 (by omega), w8 (by omega), w8 (by omega)]
theorem rhex16_spec {hi lo : Nat} (h1 : hi < 256) (h2 : lo < 256) : ref01_Hex16.F (((256 * hi + lo : Nat) : Int), ()) = some (hexB hi ++ hexB lo, ()) := by
  unfold ref01_Hex16.F ref01_Hex16.C ref01_Hex16.G
  dsimp only
  refine (bind_eq (rsplit_spec (by omega))).trans ?_
  rw [show (256 * hi + lo) / 256 = hi by omega, show (256 * hi + lo) % 256 = lo by omega]
  refine (bind_eq (rhex_spec h1)).trans ?_
  refine (bind_eq (rhex_spec h2)).trans ?_
  exact if_pos (by rw [decide_eq_true_eq, hex_size, hex_size]; decide)
/-! the document's words -/
def wrdC1 : (ByteArray × Int × Int × Int × Unit) × Unit × Unit → Option ((ByteArray × Int × Int × Int × Unit) × Unit × Unit) := runN (fun x => ref06_word.L1.step x.1.1 x.1.2.1 x.1.2.2.1 x.1.2.2.2.1) 40
theorem wrd1_ok (x) (y) (h : wrdC1 x = some y) : ref06_word.L1.F x = some y := runN_ok (fun _ _ h => h) 40 x y h
def wrdC0 : (ByteArray × Int × Int × Int × Unit) × Unit × Unit → Option ((ByteArray × Int × Unit) × Unit × Unit) := runN (fun x => ref06_word.L0.step wrdC1 x.1.1 x.1.2.1 x.1.2.2.1 x.1.2.2.2.1) 40
theorem wrd0_ok (x) (y) (h : wrdC0 x = some y) : ref06_word.L0.F x = some y := by
  refine runN_ok (fun a z h => ?_) 40 x y h
  revert h
  unfold ref06_word.L0.step
  split
  · intro h
    cases e : wrdC1 ((a.1.1, a.1.2.1, a.1.2.2.1, a.1.2.2.2.1, ()), (), ()) with
    | none => rw [e] at h; simp at h
    | some v => rw [e] at h; exact (bind_eq (wrd1_ok _ _ e)).trans h
  · exact id
def wrdC2 : (ByteArray × Int × Int × Unit) × Unit × Unit → Option ((ByteArray × Int × Int × Unit) × Unit × Unit) := runN (fun x => ref06_word.L2.step x.1.1 x.1.2.1 x.1.2.2.1) 40
theorem wrd2_ok (x) (y) (h : wrdC2 x = some y) : ref06_word.L2.F x = some y := runN_ok (fun _ _ h => h) 40 x y h
def wrdC (x : ByteArray × Int × Unit) : Option (ByteArray × Unit) := ref06_word.G wrdC0 wrdC2 x.1 x.2.1
theorem wrd_ok (x) (y) (h : wrdC x = some y) : ref06_word.F x = some y := by
  show ref06_word.G ref06_word.L0.F ref06_word.L2.F x.1 x.2.1 = _
  unfold wrdC ref06_word.G at h
  unfold ref06_word.G
  cases e : wrdC0 ((x.1, x.2.1, 0, 0, ()), (), ()) with
  | none => rw [e] at h; simp at h
  | some v =>
    rw [e] at h
    refine (bind_eq (wrd0_ok _ _ e)).trans ?_
    have h : Option.bind (wrdC2 ((v.1.1, v.1.2.1, v.1.2), (), ())) _ = some y := h
    cases e2 : wrdC2 ((v.1.1, v.1.2.1, v.1.2), (), ()) with
    | none => rw [e2] at h; simp at h
    | some u => rw [e2] at h; exact (bind_eq (wrd2_ok _ _ e2)).trans h
theorem rReg_fin : ∀ n : Fin 8, wrdC (bs [66, 32, 67, 32, 68, 32, 69, 32, 72, 32, 76, 32, 40, 72, 76, 41, 32, 65], (n.val : Int), ()) = some (evS .empty .empty (cs (regT n.val)), ()) := by decide +kernel
theorem rReg_spec {n : Nat} (h : n < 8) (B W : ByteArray) : ref06_Reg.F ((n : Int), ()) = some (evS B W (cs (regT n)), ()) := by
  rw [evS_c]
  exact (bind_eq (wrd_ok _ _ (rReg_fin ⟨n, h⟩))).trans rfl
theorem rPair_fin : ∀ n : Fin 5, wrdC (bs [66, 67, 32, 68, 69, 32, 72, 76, 32, 83, 80, 32, 65, 70], (n.val : Int), ()) = some (evS .empty .empty (cs (pairT n.val)), ()) := by decide +kernel
theorem rPair_spec {n : Nat} (h : n < 5) (B W : ByteArray) : ref06_Pair.F ((n : Int), ()) = some (evS B W (cs (pairT n)), ()) := by
  rw [evS_c]
  exact (bind_eq (wrd_ok _ _ (rPair_fin ⟨n, h⟩))).trans rfl
theorem rCond_fin : ∀ n : Fin 4, wrdC (bs [78, 90, 32, 90, 32, 78, 67, 32, 67], (n.val : Int), ()) = some (evS .empty .empty (cs (cndT n.val)), ()) := by decide +kernel
theorem rCond_spec {n : Nat} (h : n < 4) (B W : ByteArray) : ref06_Cond.F ((n : Int), ()) = some (evS B W (cs (cndT n)), ()) := by
  rw [evS_c]
  exact (bind_eq (wrd_ok _ _ (rCond_fin ⟨n, h⟩))).trans rfl
theorem rOp_fin : ∀ n : Fin 8, wrdC (bs [65, 68, 68, 32, 65, 68, 67, 32, 83, 85, 66, 32, 83, 66, 67, 32, 65, 78, 68, 32, 88, 79, 82, 32, 79, 82, 32, 67, 80], (n.val : Int), ()) = some (evS .empty .empty (cs (opnT n.val)), ()) := by decide +kernel
theorem rOp_spec {n : Nat} (h : n < 8) (B W : ByteArray) : ref06_Op.F ((n : Int), ()) = some (evS B W (cs (opnT n)), ()) := by
  rw [evS_c]
  exact (bind_eq (wrd_ok _ _ (rOp_fin ⟨n, h⟩))).trans rfl
theorem rShift_fin : ∀ n : Fin 8, wrdC (bs [82, 76, 67, 32, 82, 82, 67, 32, 82, 76, 32, 82, 82, 32, 83, 76, 65, 32, 83, 82, 65, 32, 83, 87, 65, 80, 32, 83, 82, 76], (n.val : Int), ()) = some (evS .empty .empty (cs (shfT n.val)), ()) := by decide +kernel
theorem rShift_spec {n : Nat} (h : n < 8) (B W : ByteArray) : ref06_Shift.F ((n : Int), ()) = some (evS B W (cs (shfT n)), ()) := by
  rw [evS_c]
  exact (bind_eq (wrd_ok _ _ (rShift_fin ⟨n, h⟩))).trans rfl
theorem rPlace_fin : ∀ n : Fin 4, wrdC (bs [40, 66, 67, 41, 32, 40, 68, 69, 41, 32, 40, 72, 76, 43, 41, 32, 40, 72, 76, 45, 41], (n.val : Int), ()) = some (evS .empty .empty (cs (placeT n.val)), ()) := by decide +kernel
theorem rPlace_spec {n : Nat} (h : n < 4) (B W : ByteArray) : ref06_word.F (bs [40, 66, 67, 41, 32, 40, 68, 69, 41, 32, 40, 72, 76, 43, 41, 32, 40, 72, 76, 45, 41], (n : Int), ()) = some (evS B W (cs (placeT n)), ()) := by
  rw [evS_c]
  exact wrd_ok _ _ (rPlace_fin ⟨n, h⟩)
def patT (k : Nat) (al : Bool) : List Nat := ((if al = true then [[78, 79, 80], [83, 84, 79, 80, 32, 98], [72, 65, 76, 84], [68, 73], [69, 73], [68, 66, 32, 111], [68, 66, 32, 111], [76, 68, 32, 114, 44, 115], [76, 68, 32, 114, 44, 98], [76, 68, 32, 65, 44, 113], [76, 68, 32, 113, 44, 65], [76, 68, 72, 32, 65, 44, 40, 98, 41], [76, 68, 72, 32, 40, 98, 41, 44, 65], [76, 68, 72, 32, 65, 44, 40, 67, 41], [76, 68, 72, 32, 40, 67, 41, 44, 65], [76, 68, 32, 65, 44, 40, 119, 41], [76, 68, 32, 40, 119, 41, 44, 65], [76, 68, 32, 112, 44, 119], [76, 68, 32, 40, 119, 41, 44, 83, 80], [76, 68, 32, 83, 80, 44, 72, 76], [76, 68, 32, 72, 76, 44, 83, 80, 43, 98], [80, 85, 83, 72, 32, 112], [80, 79, 80, 32, 112], [97, 32, 115], [97, 32, 98], [73, 78, 67, 32, 114], [68, 69, 67, 32, 114], [73, 78, 67, 32, 112], [68, 69, 67, 32, 112], [65, 68, 68, 32, 72, 76, 44, 112], [65, 68, 68, 32, 83, 80, 44, 98], [104, 65], [68, 65, 65], [67, 80, 76], [83, 67, 70], [67, 67, 70], [74, 82, 32, 98], [74, 80, 32, 119], [74, 80, 32, 72, 76], [67, 65, 76, 76, 32, 119], [82, 69, 84], [82, 69, 84, 73], [82, 83, 84, 32, 101], [104, 32, 115], [66, 73, 84, 32, 120, 44, 115], [82, 69, 83, 32, 120, 44, 115], [83, 69, 84, 32, 120, 44, 115]] else [[78, 79, 80], [83, 84, 79, 80, 32, 98], [72, 65, 76, 84], [68, 73], [69, 73], [68, 66, 32, 111], [68, 66, 32, 111], [76, 68, 32, 114, 44, 115], [76, 68, 32, 114, 44, 98], [76, 68, 32, 65, 44, 113], [76, 68, 32, 113, 44, 65], [76, 68, 72, 32, 65, 44, 40, 98, 41], [76, 68, 72, 32, 40, 98, 41, 44, 65], [76, 68, 72, 32, 65, 44, 40, 67, 41], [76, 68, 72, 32, 40, 67, 41, 44, 65], [76, 68, 32, 65, 44, 40, 119, 41], [76, 68, 32, 40, 119, 41, 44, 65], [76, 68, 32, 112, 44, 119], [76, 68, 32, 40, 119, 41, 44, 83, 80], [76, 68, 32, 83, 80, 44, 72, 76], [76, 68, 32, 72, 76, 44, 83, 80, 43, 98], [80, 85, 83, 72, 32, 112], [80, 79, 80, 32, 112], [97, 32, 115], [97, 32, 98], [73, 78, 67, 32, 114], [68, 69, 67, 32, 114], [73, 78, 67, 32, 112], [68, 69, 67, 32, 112], [65, 68, 68, 32, 72, 76, 44, 112], [65, 68, 68, 32, 83, 80, 44, 98], [104, 65], [68, 65, 65], [67, 80, 76], [83, 67, 70], [67, 67, 70], [74, 82, 32, 110, 44, 98], [74, 80, 32, 110, 44, 119], [74, 80, 32, 72, 76], [67, 65, 76, 76, 32, 110, 44, 119], [82, 69, 84, 32, 110], [82, 69, 84, 73], [82, 83, 84, 32, 101], [104, 32, 115], [66, 73, 84, 32, 120, 44, 115], [82, 69, 83, 32, 120, 44, 115], [83, 69, 84, 32, 120, 44, 115]])).getD k []
theorem pat_fin : ∀ k : Fin 47, ∀ al : Bool, ref06_Pattern.F ((k.val : Int), al, ()) = some (evS .empty .empty (cs (patT k.val al)), ()) := by decide +kernel
/-- what a small letter stands for -/
def meanS (c X Y op : Nat) : List Sy :=
  if c = 114 then cs (regT X) else if c = 115 then cs (regT Y) else if c = 112 then cs (pairT X) else if c = 110 then cs (cndT X) else if c = 113 then cs (placeT X) else if c = 97 then cs (opnT X) else if c = 104 then cs (shfT X) else
  if c = 120 then [.c (48 + X)] else if c = 101 then .c 36 :: hexSy (8 * X % 256) else if c = 111 then .c 36 :: hexSy op else if c = 98 then [.b] else [.w]
def okC (c X Y : Nat) : Bool := if c = 112 then decide (X < 5) else if c = 110 ∨ c = 113 then decide (X < 4) else decide (X < 8 ∧ Y < 8)
theorem dol_ev (v : Nat) (B W : ByteArray) : bs [36] ++ hexB v = evS B W (.c 36 :: hexSy v) := by
  rw [show (Sy.c 36 :: hexSy v) = cs [36] ++ hexSy v from rfl, evS_app, hexSy_ev]
  rw [evS_c]; rfl
theorem dig1_fin : ∀ n : Fin 8, ByteArray.extract (bs [48, 49, 50, 51, 52, 53, 54, 55]) n.val (n.val + 1) = evS .empty .empty [.c (48 + n.val)] := by decide +kernel
theorem mean_spec {c X Y : Nat} (hk : okC c X Y = true) (f4 f5 f6 z : Int) {op lo hi : Nat} (h1 : op < 256) (h2 : lo < 256) (h3 : hi < 256) :
    ref06_means.F ((c : Int), (z, (X : Int), (Y : Int), f4, f5, f6), (op : Int), (lo : Int), (hi : Int), ()) = some (evS (dolB lo) (dolW hi lo) (meanS c X Y op), ()) := by
  unfold okC at hk
  unfold ref06_means.F ref06_means.C ref06_means.G meanS
  dsimp only
  by_cases c114 : c = 114
  · subst c114
    have hx : X < 8 := by simp at hk; omega
    refine (if_pos (show ((114 : Int) == 114) = true by decide)).trans ?_
    exact (bind_eq (rReg_spec hx _ _)).trans rfl
  rw [if_neg c114]
  refine (if_neg (show ¬ ((c : Int) == 114) = true by rw [beq_iff_eq]; omega)).trans ?_
  by_cases c115 : c = 115
  · subst c115
    have hx : Y < 8 := by simp at hk; omega
    refine (if_pos (show ((115 : Int) == 115) = true by decide)).trans ?_
    exact (bind_eq (rReg_spec hx _ _)).trans rfl
  rw [if_neg c115]
  refine (if_neg (show ¬ ((c : Int) == 115) = true by rw [beq_iff_eq]; omega)).trans ?_
  by_cases c112 : c = 112
  · subst c112
    have hx : X < 5 := by simp at hk; omega
    refine (if_pos (show ((112 : Int) == 112) = true by decide)).trans ?_
    exact (bind_eq (rPair_spec hx _ _)).trans rfl
  rw [if_neg c112]
  refine (if_neg (show ¬ ((c : Int) == 112) = true by rw [beq_iff_eq]; omega)).trans ?_
  by_cases c110 : c = 110
  · subst c110
    have hx : X < 4 := by simp at hk; omega
    refine (if_pos (show ((110 : Int) == 110) = true by decide)).trans ?_
    exact (bind_eq (rCond_spec hx _ _)).trans rfl
  rw [if_neg c110]
  refine (if_neg (show ¬ ((c : Int) == 110) = true by rw [beq_iff_eq]; omega)).trans ?_
  by_cases c113 : c = 113
  · subst c113
    have hx : X < 4 := by simp at hk; omega
    refine (if_pos (show ((113 : Int) == 113) = true by decide)).trans ?_
    exact (bind_eq (rPlace_spec hx _ _)).trans rfl
  rw [if_neg c113]
  refine (if_neg (show ¬ ((c : Int) == 113) = true by rw [beq_iff_eq]; omega)).trans ?_
  by_cases c97 : c = 97
  · subst c97
    have hx : X < 8 := by simp at hk; omega
    refine (if_pos (show ((97 : Int) == 97) = true by decide)).trans ?_
    exact (bind_eq (rOp_spec hx _ _)).trans rfl
  rw [if_neg c97]
  refine (if_neg (show ¬ ((c : Int) == 97) = true by rw [beq_iff_eq]; omega)).trans ?_
  by_cases c104 : c = 104
  · subst c104
    have hx : X < 8 := by simp at hk; omega
    refine (if_pos (show ((104 : Int) == 104) = true by decide)).trans ?_
    exact (bind_eq (rShift_spec hx _ _)).trans rfl
  rw [if_neg c104]
  refine (if_neg (show ¬ ((c : Int) == 104) = true by rw [beq_iff_eq]; omega)).trans ?_
  have hXY : X < 8 ∧ Y < 8 := by
    by_cases h : c = 112 ∨ c = 110 ∨ c = 113
    · omega
    · rw [if_neg (by omega), if_neg (by omega)] at hk; simpa using hk
  by_cases c120 : c = 120
  · subst c120
    refine (if_pos (show ((120 : Int) == 120) = true by decide)).trans ?_
    have e : wrap .i64 ((X : Int) + 1) = ((X + 1 : Nat) : Int) := by rw [w64 (by omega)]; omega
    rw [e]
    refine (if_pos ⟨by omega, by omega, by omega⟩).trans ?_
    rw [Int.toNat_natCast, Int.toNat_natCast]
    show some (ByteArray.extract (bs [48, 49, 50, 51, 52, 53, 54, 55]) X (X + 1), ()) = _
    rw [dig1_fin ⟨X, hXY.1⟩]
    rfl
  rw [if_neg c120]
  refine (if_neg (show ¬ ((c : Int) == 120) = true by rw [beq_iff_eq]; omega)).trans ?_
  by_cases c101 : c = 101
  · subst c101
    refine (if_pos (show ((101 : Int) == 101) = true by decide)).trans ?_
    have e : wrap .u8 (wrap .i64 (8 * (X : Int))) = ((8 * X % 256 : Nat) : Int) := by rw [w64 (by omega), w8 (by omega)]; omega
    refine (bind_eq (show ref01_Hex8.F _ = _ by rw [e]; exact rhex_spec (by omega))).trans ?_
    refine (if_pos (by rw [decide_eq_true_eq, hex_size]; decide)).trans ?_
    exact congrArg (fun z => some (z, ())) (dol_ev _ _ _)
  rw [if_neg c101]
  refine (if_neg (show ¬ ((c : Int) == 101) = true by rw [beq_iff_eq]; omega)).trans ?_
  by_cases c111 : c = 111
  · subst c111
    refine (if_pos (show ((111 : Int) == 111) = true by decide)).trans ?_
    refine (bind_eq (rhex_spec h1)).trans ?_
    refine (if_pos (by rw [decide_eq_true_eq, hex_size]; decide)).trans ?_
    exact congrArg (fun z => some (z, ())) (dol_ev _ _ _)
  rw [if_neg c111]
  refine (if_neg (show ¬ ((c : Int) == 111) = true by rw [beq_iff_eq]; omega)).trans ?_
  by_cases c98 : c = 98
  · subst c98
    refine (if_pos (show ((98 : Int) == 98) = true by decide)).trans ?_
    refine (bind_eq (rhex_spec h2)).trans ?_
    refine (if_pos (by rw [decide_eq_true_eq, hex_size]; decide)).trans ?_
    rw [if_pos rfl, evS_b]
    rfl
  rw [if_neg c98]
  refine (if_neg (show ¬ ((c : Int) == 98) = true by rw [beq_iff_eq]; omega)).trans ?_
  refine (bind_eq (rjoin_spec h3 h2)).trans ?_
  refine (bind_eq (rhex16_spec h3 h2)).trans ?_
  refine (if_pos (by rw [decide_eq_true_eq, ba_size, hex_size, hex_size]; decide)).trans ?_
  rw [evS_w]
  rfl
end Go.Proofs.YtkdeheoonannoaaDoor.E
