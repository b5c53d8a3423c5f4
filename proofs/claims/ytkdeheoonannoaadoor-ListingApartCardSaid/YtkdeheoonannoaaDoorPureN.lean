/- Functions of the program as plain Lean, and what they come to. Conditions: none. -/
import Derived.Test.YtkdeheoonannoaaDoorEwD
import Derived.Test.YtkdeheoonannoaaDoorPureMu
import Derived.Test.YtkdeheoonannoaaDoorPureLn
open Go Go.Ew
namespace Go.Proofs.YtkdeheoonannoaaDoor.E
open Go.IntKind (wrap)
set_option linter.unusedVariables false
set_option linter.unusedSimpArgs false
set_option maxRecDepth 100000
/-! the number that the reference finds in a text -/
noncomputable def wthL : ((Int × Int × Unit) × Unit × Unit) → Option (((Int × Unit) × Unit × Unit) ⊕ (Unit × Unit × Unit)) := runN (fun x => ref01_worth.L0.step ref01_sign.F x.1.1 x.1.2.1) 40
theorem wthL_ok (x) (y) (h : wthL x = some y) : ref01_worth.L0.F x = some y := runN_ok (fun _ _ h => h) 40 x y h
theorem wth_fin : ∀ b : Fin 256, wthL (((b.val : Int), 0, ()), (), ()) = some (match hd b.val with | some d => .inl (((d : Int), ()), (), ()) | none => .inr ((), (), ())) := by decide +kernel
theorem worth_spec {b : Nat} (h : b < 256) : ref01_worth.F ((b : Int), ()) = some (match hd b with | some d => (d : Int) | none => -1, ()) := by
  unfold ref01_worth.F ref01_worth.C ref01_worth.G
  refine (bind_eq (wthL_ok _ _ (wth_fin ⟨b, h⟩))).trans ?_
  dsimp only
  cases hd b <;> rfl
theorem w16' {n : Int} (h1 : 0 ≤ n) (h2 : n ≤ 65535) : wrap .u16 n = n := by unfold wrap; simp [IntKind.signed, IntKind.bits]; omega
theorem w8' {n : Int} (h1 : 0 ≤ n) (h2 : n ≤ 255) : wrap .u8 n = n := by unfold wrap; simp [IntKind.signed, IntKind.bits]; omega
noncomputable def rdstep (x : ((ByteArray × Int × Int × Unit) × Unit × Unit)) := ref01_Read.L0.step ref01_worth.F x.1.1 x.1.2.1 x.1.2.2.1
theorem getD_at (s : ByteArray) (pos : Nat) (h : pos < s.size) : List.getD s.data.toList pos (UInt8.ofNat 0) = s[pos]'h := by
  rw [List.getD_eq_getElem?_getD, List.getElem?_eq_getElem (by rw [Array.length_toList]; exact h)]
  rfl
theorem rd_loop (s : ByteArray) (hs : s.size ≤ 4) : ∀ (n pos acc : Nat), s.size = pos + n → (acc + 1) * 16 ^ n ≤ 65536 →
    iterU rdstep ((s, (acc : Int), (pos : Int), ()), (), ()) = some (match hexF (s.data.toList.drop pos) acc with | some v => .inr (((v : Int), ()), (), ()) | none => .inl ((0, 6, ()), (), ()))
  | 0, pos, acc, h1, h4 => by
    rw [iterU_eq, show s.data.toList.drop pos = [] from List.drop_eq_nil_of_le (by rw [Array.length_toList]; show s.size ≤ pos; omega)]
    have e : rdstep ((s, (acc : Int), (pos : Int), ()), (), ()) = some (.inr (.inr (((acc : Int), ()), (), ()))) := by
      unfold rdstep ref01_Read.L0.step
      dsimp only
      exact if_neg (by rw [decide_eq_true_eq]; omega)
    rw [e]; rfl
  | n + 1, pos, acc, h1, h4 => by
    have hp : pos < s.size := by omega
    rw [iterU_eq, data_drop s pos hp, hexF_cons]
    have p1 : 1 ≤ 16 ^ n := Nat.one_le_pow _ _ (by decide)
    rw [Nat.pow_succ, Nat.mul_comm (16 ^ n) 16] at h4
    have b4 : (acc * 16 + 16) * 16 ^ n ≤ 65536 := by
      rw [show (acc * 16 + 16) = (acc + 1) * 16 by omega, Nat.mul_assoc]; exact h4
    have b5 : acc * 16 + 16 ≤ 65536 := Nat.le_trans (Nat.le_mul_of_pos_right _ p1) b4
    have hc : (s[pos]'hp).toNat < 256 := (s[pos]'hp).toNat_lt
    cases e : hd (s[pos]'hp).toNat with
    | none =>
      have e2 : rdstep ((s, (acc : Int), (pos : Int), ()), (), ()) = some (.inr (.inl ((0, 6, ()), (), ()))) := by
        unfold rdstep ref01_Read.L0.step
        dsimp only
        refine (if_pos (by rw [decide_eq_true_eq]; omega)).trans ?_
        refine (if_pos ⟨by omega, by omega⟩).trans ?_
        rw [Int.toNat_natCast, getD_at s pos hp]
        refine (bind_eq (worth_spec hc)).trans ?_
        rw [e]
        exact if_pos (by decide)
      rw [e2]
    | some d =>
      have d1 := (hd_lt e).1
      have e2 : rdstep ((s, (acc : Int), (pos : Int), ()), (), ()) = some (.inl ((s, ((acc * 16 + d : Nat) : Int), ((pos + 1 : Nat) : Int), ()), (), ())) := by
        unfold rdstep ref01_Read.L0.step
        dsimp only
        refine (if_pos (by rw [decide_eq_true_eq]; omega)).trans ?_
        refine (if_pos ⟨by omega, by omega⟩).trans ?_
        rw [Int.toNat_natCast, getD_at s pos hp]
        refine (bind_eq (worth_spec hc)).trans ?_
        rw [e]
        dsimp only
        refine (if_neg (by rw [decide_eq_true_eq]; omega)).trans ?_
        rw [w64 (n := (acc : Int) * 16) (by omega) (by omega), w64 (by omega) (by omega), w64 (by omega) (by omega)]
        rfl
      rw [e2]
      dsimp only
      have b6 : (acc * 16 + d + 1) * 16 ^ n ≤ 65536 := Nat.le_trans (Nat.mul_le_mul_right _ (by omega)) b4
      exact rd_loop s hs n (pos + 1) (acc * 16 + d) (by omega) b6
theorem hexF_lt : ∀ {l : List UInt8} {acc v : Nat}, hexF l acc = some v → v < (acc + 1) * 16 ^ l.length
  | [], acc, v, h => by simp only [hexF, Option.some.injEq] at h; simp; omega
  | c :: l, acc, v, h => by
    rw [hexF_cons] at h
    cases e : hd c.toNat with
    | none => rw [e] at h; simp at h
    | some d =>
      rw [e] at h
      have := hexF_lt h
      have d1 := (hd_lt e).1
      have p : (acc * 16 + d + 1) * 16 ^ l.length ≤ ((acc + 1) * 16) * 16 ^ l.length := Nat.mul_le_mul_right _ (by omega)
      rw [List.length_cons, Nat.pow_succ, Nat.mul_comm (16 ^ l.length) 16, ← Nat.mul_assoc]
      omega
theorem rread_spec {s : ByteArray} {d : Nat} (h1 : 1 ≤ d) (h2 : d ≤ 4) (hs : s.size = d) : ref01_Read.F (s, (d : Int), ()) = some (match hexF s.data.toList 0 with | some v => ((v : Int), 0, ()) | none => (0, 6, ())) := by
  unfold ref01_Read.F ref01_Read.C ref01_Read.G
  dsimp only
  refine (if_pos (by rw [decide_eq_false (by omega)]; rfl)).trans ?_
  refine (if_neg (by rw [decide_eq_true_eq]; omega)).trans ?_
  refine (if_neg (by rw [hs]; simp)).trans ?_
  have p : 16 ^ d ≤ 65536 := Nat.le_trans (Nat.pow_le_pow_right (by decide) (show d ≤ 4 by omega)) (by decide)
  have := rd_loop s (by omega) d 0 0 (by omega) (by omega)
  refine (bind_eq this).trans ?_
  rw [List.drop_zero]
  cases e : hexF s.data.toList 0 with
  | none => rfl
  | some v =>
    have := hexF_lt e
    rw [← sz_list, hs] at this
    show some (wrap .u16 (v : Int), (0 : Int), ()) = _
    rw [w16' (by omega) (by omega)]
/-- the last place of '$' -/
def lastD (l : List UInt8) : Nat → Int
  | 0 => -1
  | i + 1 => if l.getD i (UInt8.ofNat 0) = 36 then (i : Int) else lastD l i
noncomputable def nbstep (x : ((ByteArray × Int × Int × Unit) × Unit × Unit)) := ref06_number.L0.step x.1.1 x.1.2.1 x.1.2.2.1
theorem u36 (c : UInt8) : ((c.toNat : Int) == 36) = decide (c = 36) := by
  by_cases e : c = 36
  · rw [decide_eq_true e, e]; rfl
  · rw [decide_eq_false e]
    refine beq_eq_false_iff_ne.2 (fun z => e ?_)
    exact UInt8.toNat_inj.1 (show c.toNat = 36 by omega)
theorem nb_loop (s : ByteArray) (hs : s.size ≤ 9223372036854775806) : ref06_number.L0.F ((s, -1, 0, ()), (), ()) = some ((s, lastD s.data.toList s.size, ()), (), ()) := by
  show iterU nbstep _ = _
  refine iterU_range (step := nbstep) (fun i => ((s, lastD s.data.toList i, (i : Int), ()), (), ())) _ s.size (fun i hi => ?_) ?_ 0 (Nat.zero_le _)
  · unfold nbstep ref06_number.L0.step
    dsimp only
    refine (if_pos (by rw [decide_eq_true_eq]; omega)).trans ?_
    refine (if_pos ⟨by omega, by omega⟩).trans ?_
    rw [Int.toNat_natCast, u36, w64 (by omega) (by omega)]
    by_cases e : s.data.toList.getD i (UInt8.ofNat 0) = 36
    · refine (if_pos (decide_eq_true e)).trans ?_
      rw [show lastD s.data.toList (i + 1) = (i : Int) from if_pos e]; rfl
    · refine (if_neg (by rw [decide_eq_true_eq]; exact e)).trans ?_
      rw [show lastD s.data.toList (i + 1) = lastD s.data.toList i from if_neg e]; rfl
  · unfold nbstep ref06_number.L0.step
    dsimp only
    exact if_neg (by rw [decide_eq_true_eq]; omega)
theorem last_none {l : List UInt8} (h : (36 : UInt8) ∉ l) : ∀ n, n ≤ l.length → lastD l n = -1
  | 0, _ => rfl
  | n + 1, hn => by
    unfold lastD
    rw [if_neg (fun z => h ?_)]
    · exact last_none h n (by omega)
    · rw [List.getD_eq_getElem?_getD, List.getElem?_eq_getElem (by omega), Option.getD_some] at z
      exact z ▸ List.getElem_mem _
theorem last_some {p r : List UInt8} (h : (36 : UInt8) ∉ r) : ∀ n, n ≤ r.length → lastD (p ++ 36 :: r) (p.length + 1 + n) = p.length
  | 0, _ => by
    show lastD (p ++ 36 :: r) (p.length + 1) = _
    unfold lastD
    exact if_pos (by rw [List.getD_eq_getElem?_getD]; simp)
  | n + 1, hn => by
    show lastD (p ++ 36 :: r) ((p.length + 1 + n) + 1) = _
    unfold lastD
    rw [if_neg (fun z => h ?_)]
    · exact last_some h n (by omega)
    · rw [List.getD_eq_getElem?_getD, List.getElem?_append_right (by omega), show p.length + 1 + n - p.length = n + 1 by omega, List.getElem?_cons_succ, List.getElem?_eq_getElem (by omega), Option.getD_some] at z
      exact z ▸ List.getElem_mem _
theorem last_split : ∀ {l : List UInt8}, (36 : UInt8) ∈ l → ∃ p r, l = p ++ 36 :: r ∧ (36 : UInt8) ∉ r
  | a :: l, h => by
    by_cases e : (36 : UInt8) ∈ l
    · obtain ⟨p, r, h1, h2⟩ := last_split e
      exact ⟨a :: p, r, by rw [h1]; rfl, h2⟩
    · rcases List.mem_cons.1 h with q | q
      · exact ⟨[], l, by rw [q]; rfl, e⟩
      · exact absurd q e
def numT (r : List UInt8) : Nat × Nat :=
  if 4 ≤ r.length then (match hexF (r.take 4) 0 with | some v => (v % 256, v / 256) | none => ((hexF (r.take 2) 0).getD 0, 0))
  else if 2 ≤ r.length then ((hexF (r.take 2) 0).getD 0, 0) else (0, 0)
theorem number_none {s : ByteArray} (hs : s.size ≤ 140737488355328) (h : (36 : UInt8) ∉ s.data.toList) : ref06_number.F (s, ()) = some (0, 0, ()) := by
  unfold ref06_number.F ref06_number.C ref06_number.G
  refine (bind_eq (nb_loop s (by omega))).trans ?_
  rw [last_none h s.size (Nat.le_of_eq (sz_list s))]
  exact if_pos (show decide ((-1 : Int) < 0) = true by decide)
theorem ext_r {s : ByteArray} {p r : List UInt8} (e : s.data.toList = p ++ 36 :: r) (d : Nat) : (s.extract (p.length + 1) (p.length + 1 + d)).data.toList = r.take d := by
  rw [ext_list, e, show p.length + 1 + d - (p.length + 1) = d by omega, show p ++ 36 :: r = (p ++ [36]) ++ r by simp, show p.length + 1 = (p ++ [(36 : UInt8)]).length by simp, List.drop_left]
theorem take2_lt {r : List UInt8} (h : 2 ≤ r.length) : (hexF (r.take 2) 0).getD 0 < 256 := by
  cases e : hexF (r.take 2) 0 with
  | none => exact (by decide : 0 < 256)
  | some v =>
    have := hexF_lt e
    rw [List.length_take, Nat.min_eq_left h] at this
    exact this
theorem number_some {s : ByteArray} (hs : s.size ≤ 140737488355328) {p r : List UInt8} (e : s.data.toList = p ++ 36 :: r) (h : (36 : UInt8) ∉ r) : ref06_number.F (s, ()) = some (((numT r).1 : Int), ((numT r).2 : Int), ()) := by
  have hz : s.size = p.length + 1 + r.length := by rw [sz_list, e]; simp; omega
  have hl : lastD s.data.toList s.size = p.length := by rw [e, hz]; exact last_some h _ (Nat.le_refl _)
  obtain ⟨t, ht⟩ : ∃ t, numT r = t := ⟨_, rfl⟩
  rw [ht]
  unfold numT at ht
  unfold ref06_number.F ref06_number.C ref06_number.G
  refine (bind_eq (nb_loop s (by omega))).trans ?_
  rw [hl]
  dsimp only
  refine (if_neg (by rw [decide_eq_true_eq]; omega)).trans ?_
  rw [w64 (n := (p.length : Int) + 5) (by omega) (by omega), w64 (n := (p.length : Int) + 3) (by omega) (by omega), w64 (n := (p.length : Int) + 1) (by omega) (by omega)]
  rw [show Int.toNat ((p.length : Int) + 1) = p.length + 1 by omega, show Int.toNat ((p.length : Int) + 5) = p.length + 1 + 4 by omega, show Int.toNat ((p.length : Int) + 3) = p.length + 1 + 2 by omega]
  have x4 := ext_r e 4
  have x2 := ext_r e 2
  have two : 2 ≤ r.length → ref01_Read.F (s.extract (p.length + 1) (p.length + 1 + 2), 2, ()) = some (match hexF (r.take 2) 0 with | some v => ((v : Int), 0, ()) | none => (0, 6, ())) := fun l2 => by
    have := rread_spec (s := s.extract (p.length + 1) (p.length + 1 + 2)) (d := 2) (by decide) (by decide) (by rw [sz_list, x2, List.length_take]; omega)
    rw [x2] at this; exact this
  have fin2 : 2 ≤ r.length → ∀ z : Option (Int × Int × Unit), (if (0 : Int) ≤ (p.length : Int) + 1 ∧ (p.length : Int) + 1 ≤ (p.length : Int) + 3 ∧ (p.length : Int) + 3 ≤ (s.size : Int) then Option.bind (ref01_Read.F (s.extract (p.length + 1) (p.length + 1 + 2), 2, ())) (fun y => some (wrap .u8 y.1, (0 : Int), ())) else z) = some ((((hexF (r.take 2) 0).getD 0 : Nat) : Int), 0, ()) := by
    intro l2 z
    refine (if_pos ⟨by omega, by omega, by omega⟩).trans ?_
    refine (bind_eq (two l2)).trans ?_
    have := take2_lt l2
    cases e2 : hexF (r.take 2) 0 with
    | none => rfl
    | some v =>
      rw [e2] at this
      exact congrArg (fun a : Int => some (a, (0 : Int), ())) (w8' (by show (0 : Int) ≤ (v : Int); omega) (by show (v : Int) ≤ 255; have : v < 256 := this; omega))
  by_cases l4 : 4 ≤ r.length
  · rw [if_pos l4] at ht
    refine (if_pos (by rw [decide_eq_true_eq]; omega)).trans ?_
    refine (if_pos ⟨by omega, by omega, by omega⟩).trans ?_
    have four := rread_spec (s := s.extract (p.length + 1) (p.length + 1 + 4)) (d := 4) (by decide) (by decide) (by rw [sz_list, x4, List.length_take]; omega)
    rw [x4] at four
    refine (bind_eq four).trans ?_
    cases e4 : hexF (r.take 4) 0 with
    | none =>
      rw [e4] at ht
      dsimp only at ht ⊢
      subst ht
      refine (if_neg (by decide)).trans ?_
      refine (if_pos (by rw [decide_eq_true_eq]; omega)).trans ?_
      exact fin2 (by omega) _
    | some v =>
      rw [e4] at ht
      dsimp only at ht ⊢
      subst ht
      have v4 := hexF_lt e4
      rw [List.length_take, Nat.min_eq_left l4] at v4
      refine (if_pos rfl).trans ?_
      exact bind_eq (rsplit_spec (by omega))
  · rw [if_neg l4] at ht
    refine (if_neg (by rw [decide_eq_true_eq]; omega)).trans ?_
    by_cases l2 : 2 ≤ r.length
    · rw [if_pos l2] at ht
      subst ht
      refine (if_pos (by rw [decide_eq_true_eq]; omega)).trans ?_
      exact fin2 l2 _
    · rw [if_neg l2] at ht
      subst ht
      exact if_neg (by rw [decide_eq_true_eq]; omega)
theorem numT_lt (r : List UInt8) : (numT r).1 < 256 ∧ (numT r).2 < 256 := by
  unfold numT
  split
  · rename_i l4
    split
    · rename_i v e
      have := hexF_lt e
      rw [List.length_take, Nat.min_eq_left l4] at this
      exact ⟨Nat.mod_lt _ (by decide), by show v / 256 < 256; omega⟩
    · exact ⟨take2_lt (by omega), show 0 < 256 by decide⟩
  · split
    · rename_i l2; exact ⟨take2_lt l2, show 0 < 256 by decide⟩
    · exact ⟨show 0 < 256 by decide, show 0 < 256 by decide⟩
theorem number_any {s : ByteArray} (hs : s.size ≤ 140737488355328) : ∃ lo hi : Nat, lo < 256 ∧ hi < 256 ∧ ref06_number.F (s, ()) = some ((lo : Int), (hi : Int), ()) := by
  by_cases h : (36 : UInt8) ∈ s.data.toList
  · obtain ⟨p, r, e, h2⟩ := last_split h
    exact ⟨_, _, (numT_lt r).1, (numT_lt r).2, number_some hs e h2⟩
  · exact ⟨0, 0, by decide, by decide, number_none hs h⟩
theorem numT_w {hi lo : Nat} (h1 : hi < 256) (h2 : lo < 256) (q : List UInt8) : numT (hx hi ++ (hx lo ++ q)) = (lo, hi) := by
  unfold numT
  rw [if_pos (by simp [hx])]
  have e : List.take 4 (hx hi ++ (hx lo ++ q)) = hx hi ++ (hx lo ++ []) := rfl
  rw [e, hexF_hx h1, hexF_hx h2]
  show ((((0 * 256 + hi) * 256 + lo) % 256, ((0 * 256 + hi) * 256 + lo) / 256) : Nat × Nat) = _
  rw [show ((0 * 256 + hi) * 256 + lo) % 256 = lo by omega, show ((0 * 256 + hi) * 256 + lo) / 256 = hi by omega]
theorem numT_b {lo : Nat} (h2 : lo < 256) {q : List Nat} (hq : ∀ n ∈ q, 0 < n ∧ n < 97) (hh : headok q = true) : numT (hx lo ++ by8 q) = (lo, 0) := by
  have e2 : hexF (List.take 2 (hx lo ++ by8 q)) 0 = some lo := by
    rw [show List.take 2 (hx lo ++ by8 q) = hx lo ++ [] from rfl, hexF_hx h2]
    show some (0 * 256 + lo) = _
    rw [Nat.zero_mul, Nat.zero_add]
  unfold numT
  rw [e2]
  split
  · rename_i l4
    have : hexF (List.take 4 (hx lo ++ by8 q)) 0 = none := by
      match q, hh, hq with
      | [], _, _ => simp [hx, by8] at l4
      | n :: q, hh, hq =>
        have hn := hq n (List.mem_cons_self ..)
        have : hd (UInt8.ofNat n).toNat = none := by
          rw [UInt8.toNat_ofNat', Nat.mod_eq_of_lt (by omega)]
          exact Option.isNone_iff_eq_none.1 hh
        rw [show List.take 4 (hx lo ++ by8 (n :: q)) = hx lo ++ UInt8.ofNat n :: List.take 1 (by8 q) from rfl]
        exact hexF_cut this _ 0
    rw [this]; rfl
  · split
    · rfl
    · rename_i l; simp [hx] at l
end Go.Proofs.YtkdeheoonannoaaDoor.E
