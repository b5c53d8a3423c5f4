/- Functions of the program as plain Lean, and what they come to. Conditions: none. -/
import Derived.Test.YtfpepeembbpncaaEwD
import Derived.Test.YtfpepeembbpncaaRd
import Derived.Test.YtfpepeembbpncaaRe
open Go Go.Ew Go.Mrg
namespace Go.Proofs.Ytfpepeembbpncaa.E
open Go.IntKind (wrap)
set_option linter.unusedVariables false
set_option linter.unusedSimpArgs false
set_option maxRecDepth 100000
/-! what symMerge and the stable sort do -/
theorem u64 {n : Int} (h1 : 0 ≤ n) (h2 : n ≤ 9223372036854775807) : wrap .u64 n = n := by unfold wrap; simp [IntKind.signed, IntKind.bits]; omega
theorem half_nat (i j : Nat) (h : i + j ≤ 1000000000000) : wrap .i64 (Int.fdiv (wrap .u64 (wrap .i64 ((i : Int) + (j : Int)))) 2) = (((i + j) / 2 : Nat) : Int) := by
 rw [w64 (n := (i : Int) + (j : Int)) (by omega) (by omega), u64 (by omega) (by omega)]
 have e : Int.fdiv ((i : Int) + (j : Int)) 2 = (((i + j) / 2 : Nat) : Int) := by
  rw [Int.fdiv_eq_ediv_of_nonneg _ (by omega)]
  omega
 rw [e, w64 (by omega) (by omega)]
theorem at2_getD (l : List O5) (i j : Nat) (hi : i < l.length) (hj : j < l.length) : at2 lt5 l i j = lt5 (l.getD (0 + i) Z5) (l.getD (0 + j) Z5) := by
 unfold at2
 rw [Nat.zero_add, Nat.zero_add, List.getD_eq_getElem?_getD, List.getD_eq_getElem?_getD, List.getElem?_eq_getElem hi, List.getElem?_eq_getElem hj]
 rfl
theorem sw_comm (l : List O5) (i j : Nat) (h : i ≠ j) : sw l i j = sw l j i := by
 unfold sw
 cases hi : l[i]? with
 | none => cases hj : l[j]? <;> rfl
 | some x => cases hj : l[j]? with
  | none => rfl
  | some y => exact List.set_comm _ _ h
theorem mvR_len : ∀ (n : Nat) (l : List O5) (a : Nat), (mvR n l a).length = l.length
 | 0, l, a => rfl
 | n + 1, l, a => by unfold mvR; rw [mvR_len, sw_len]
theorem mvL_len : ∀ (n : Nat) (l : List O5) (a : Nat), (mvL n l a).length = l.length
 | 0, l, a => rfl
 | n + 1, l, a => by unfold mvL; rw [mvL_len, sw_len]
theorem rot_len : ∀ (f : Nat) (l : List O5) (m i j : Nat), (rot f l m i j).length = l.length
 | 0, l, m, i, j => rfl
 | f + 1, l, m, i, j => by
  rw [rot_succ]
  split
  ·exact swR_len _ _ _ _
  ·split
   ·rw [rot_len, swR_len]
   ·rw [rot_len, swR_len]
theorem symG_len : ∀ (f : Nat) (l : List O5) (a m b : Nat), (symG lt5 f l a m b).length = l.length
 | 0, l, a, m, b => rfl
 | f + 1, l, a, m, b => by
  unfold symG
  split
  ·exact mvR_len _ _ _
  ·split
   ·exact mvL_len _ _ _
   ·dsimp only
    have h1 : ∀ (c : Prop) [Decidable c] (f : Nat) (l : List O5) (m i j : Nat), (if c then rot f l m i j else l).length = l.length := fun c _ f l m i j => by
     split
     ·exact rot_len _ _ _ _ _
     ·rfl
    have h2 : ∀ (c : Prop) [Decidable c] (l : List O5) (m i j : Nat), (if c then symG lt5 f l m i j else l).length = l.length := fun c _ l m i j => by
     split
     ·exact symG_len f _ _ _ _
     ·rfl
    rw [h2, h2, h1]
noncomputable def sy0 (x : (Nat × Int × Unit × Int × Int × Unit) × (((List O5) × Unit) × Unit) × Unit) := symMerge.L0.step order1.F x.1.1 x.1.2.1 x.1.2.2.2.1 x.1.2.2.2.2.1 x.2.1.1.1
noncomputable def sy1 (x : (Nat × Int × Int × Unit) × (((List O5) × Unit) × Unit) × Unit) := symMerge.L1.step x.1.1 x.1.2.1 x.1.2.2.1 x.2.1.1.1
noncomputable def sy2 (x : (Nat × Int × Unit × Int × Int × Unit) × (((List O5) × Unit) × Unit) × Unit) := symMerge.L2.step order1.F x.1.1 x.1.2.1 x.1.2.2.2.1 x.1.2.2.2.2.1 x.2.1.1.1
noncomputable def sy3 (x : (Nat × Int × Int × Unit) × (((List O5) × Unit) × Unit) × Unit) := symMerge.L3.step x.1.1 x.1.2.1 x.1.2.2.1 x.2.1.1.1
noncomputable def sy4 (x : (Nat × Int × Int × Int × Unit × Int × Int × Int × Int × Int × Unit) × (((List O5) × Unit) × Unit) × Unit) := symMerge.L4.step order1.F x.1.1 x.1.2.1 x.1.2.2.1 x.1.2.2.2.1 x.1.2.2.2.2.2.1 x.1.2.2.2.2.2.2.1 x.1.2.2.2.2.2.2.2.1 x.1.2.2.2.2.2.2.2.2.1 x.1.2.2.2.2.2.2.2.2.2.1 x.2.1.1.1
theorem sy0_loop (l : List O5) (z a : Nat) (hz : l.length = z) (hl : z ≤ 268435456) (ha : a < z) : ∀ (f i j : Nat), j - i ≤ f → i ≤ j → j ≤ z →
  iterU sy0 ((z, (a : Int), (), (i : Int), (j : Int), ()), ((l, ()), ()), ()) = some ((z, (a : Int), ((bsr (fun h => at2 lt5 l h a) f i j : Nat) : Int), ()), ((l, ()), ()), ()) := by
 have stop : ∀ (i j : Nat), ¬ i < j → iterU sy0 ((z, (a : Int), (), (i : Int), (j : Int), ()), ((l, ()), ()), ()) = some ((z, (a : Int), (i : Int), ()), ((l, ()), ()), ()) := by
  intro i j h
  rw [iterU_eq]
  have e : sy0 ((z, (a : Int), (), (i : Int), (j : Int), ()), ((l, ()), ()), ()) = some (.inr ((z, (a : Int), (i : Int), ()), ((l, ()), ()), ())) := by
   unfold sy0 symMerge.L0.step
   exact if_neg (by rw [decide_eq_true_eq]; show ¬ (i : Int) < (j : Int); omega)
  rw [e]
 intro f
 induction f with
 | zero => intro i j h1 h2 h3; exact stop i j (by omega)
 | succ f ih =>
  intro i j h1 h2 h3
  unfold bsr
  by_cases c : i < j
  ·rw [if_pos c, iterU_eq]
   obtain ⟨r, q1, q2⟩ := ord_spec (l.getD (0 + (i + j) / 2) Z5) (l.getD (0 + a) Z5)
   have e : sy0 ((z, (a : Int), (), (i : Int), (j : Int), ()), ((l, ()), ()), ()) = if at2 lt5 l ((i + j) / 2) a = true then some (.inl ((z, (a : Int), (), (((i + j) / 2 + 1 : Nat) : Int), (j : Int), ()), ((l, ()), ()), ())) else some (.inl ((z, (a : Int), (), (i : Int), (((i + j) / 2 : Nat) : Int), ()), ((l, ()), ()), ())) := by
    unfold sy0 symMerge.L0.step
    dsimp only
    rw [half_nat i j (by omega), w64 (n := (((i + j) / 2 : Nat) : Int) + 1) (by omega) (by omega), at2_getD l _ _ (by omega) (by omega)]
    refine (if_pos (by rw [decide_eq_true_eq]; omega)).trans ?_
    refine (if_pos (by omega)).trans ?_
    refine (if_pos (by omega)).trans ?_
    rw [Int.toNat_natCast, Int.toNat_natCast]
    refine (bind_eq q1).trans ?_
    dsimp only
    rw [q2]
    rfl
   rw [e]
   by_cases d : at2 lt5 l ((i + j) / 2) a = true
   ·rw [if_pos d, if_pos d]
    exact ih _ _ (by omega) (by omega) (by omega)
   ·rw [if_neg d, if_neg d]
    exact ih _ _ (by omega) (by omega) (by omega)
  ·rw [if_neg c]; exact stop i j c
theorem sy2_loop (l : List O5) (z m : Nat) (hz : l.length = z) (hl : z ≤ 268435456) (ha : m < z) : ∀ (f i j : Nat), j - i ≤ f → i ≤ j → j ≤ z →
  iterU sy2 ((z, (m : Int), (), (i : Int), (j : Int), ()), ((l, ()), ()), ()) = some ((z, (m : Int), ((bsr (fun h => !at2 lt5 l m h) f i j : Nat) : Int), ()), ((l, ()), ()), ()) := by
 have stop : ∀ (i j : Nat), ¬ i < j → iterU sy2 ((z, (m : Int), (), (i : Int), (j : Int), ()), ((l, ()), ()), ()) = some ((z, (m : Int), (i : Int), ()), ((l, ()), ()), ()) := by
  intro i j h
  rw [iterU_eq]
  have e : sy2 ((z, (m : Int), (), (i : Int), (j : Int), ()), ((l, ()), ()), ()) = some (.inr ((z, (m : Int), (i : Int), ()), ((l, ()), ()), ())) := by
   unfold sy2 symMerge.L2.step
   exact if_neg (by rw [decide_eq_true_eq]; show ¬ (i : Int) < (j : Int); omega)
  rw [e]
 intro f
 induction f with
 | zero => intro i j h1 h2 h3; exact stop i j (by omega)
 | succ f ih =>
  intro i j h1 h2 h3
  unfold bsr
  by_cases c : i < j
  ·rw [if_pos c, iterU_eq]
   obtain ⟨r, q1, q2⟩ := ord_spec (l.getD (0 + m) Z5) (l.getD (0 + (i + j) / 2) Z5)
   have e : sy2 ((z, (m : Int), (), (i : Int), (j : Int), ()), ((l, ()), ()), ()) = if (!at2 lt5 l m ((i + j) / 2)) = true then some (.inl ((z, (m : Int), (), (((i + j) / 2 + 1 : Nat) : Int), (j : Int), ()), ((l, ()), ()), ())) else some (.inl ((z, (m : Int), (), (i : Int), (((i + j) / 2 : Nat) : Int), ()), ((l, ()), ()), ())) := by
    unfold sy2 symMerge.L2.step
    dsimp only
    rw [half_nat i j (by omega), w64 (n := (((i + j) / 2 : Nat) : Int) + 1) (by omega) (by omega), at2_getD l _ _ (by omega) (by omega)]
    refine (if_pos (by rw [decide_eq_true_eq]; omega)).trans ?_
    refine (if_pos (by omega)).trans ?_
    refine (if_pos (by omega)).trans ?_
    rw [Int.toNat_natCast, Int.toNat_natCast]
    refine (bind_eq q1).trans ?_
    dsimp only
    rw [q2]
    rfl
   rw [e]
   by_cases d : (!at2 lt5 l m ((i + j) / 2)) = true
   ·rw [if_pos d, if_pos d]
    exact ih _ _ (by omega) (by omega) (by omega)
   ·rw [if_neg d, if_neg d]
    exact ih _ _ (by omega) (by omega) (by omega)
  ·rw [if_neg c]; exact stop i j c
theorem sy4_loop (l : List O5) (z n : Nat) (a m b mid : Int) (hz : l.length = z) (hl : z ≤ 268435456) (hn : n ≤ 2 * z) : ∀ (f i j : Nat), j - i ≤ f → i ≤ j → j ≤ z → (∀ c, i ≤ c → c < j → c + 1 ≤ n ∧ n - 1 - c < z) →
  iterU sy4 ((z, a, m, b, (), mid, (n : Int), (i : Int), (j : Int), (n : Int) - 1, ()), ((l, ()), ()), ()) = some ((z, a, m, b, (), mid, (n : Int), ((bsr (fun c => !at2 lt5 l (n - 1 - c) c) f i j : Nat) : Int), ()), ((l, ()), ()), ()) := by
 have stop : ∀ (i j : Nat), ¬ i < j → iterU sy4 ((z, a, m, b, (), mid, (n : Int), (i : Int), (j : Int), (n : Int) - 1, ()), ((l, ()), ()), ()) = some ((z, a, m, b, (), mid, (n : Int), (i : Int), ()), ((l, ()), ()), ()) := by
  intro i j h
  rw [iterU_eq]
  have e : sy4 ((z, a, m, b, (), mid, (n : Int), (i : Int), (j : Int), (n : Int) - 1, ()), ((l, ()), ()), ()) = some (.inr ((z, a, m, b, (), mid, (n : Int), (i : Int), ()), ((l, ()), ()), ())) := by
   unfold sy4 symMerge.L4.step
   exact if_neg (by rw [decide_eq_true_eq]; show ¬ (i : Int) < (j : Int); omega)
  rw [e]
 intro f
 induction f with
 | zero => intro i j h1 h2 h3 _; exact stop i j (by omega)
 | succ f ih =>
  intro i j h1 h2 h3 h4
  unfold bsr
  by_cases c : i < j
  ·rw [if_pos c, iterU_eq]
   obtain ⟨g1, g2⟩ := h4 ((i + j) / 2) (by omega) (by omega)
   obtain ⟨r, q1, q2⟩ := ord_spec (l.getD (0 + (n - 1 - (i + j) / 2)) Z5) (l.getD (0 + (i + j) / 2) Z5)
   have e : sy4 ((z, a, m, b, (), mid, (n : Int), (i : Int), (j : Int), (n : Int) - 1, ()), ((l, ()), ()), ()) = if (!at2 lt5 l (n - 1 - (i + j) / 2) ((i + j) / 2)) = true then some (.inl ((z, a, m, b, (), mid, (n : Int), (((i + j) / 2 + 1 : Nat) : Int), (j : Int), (n : Int) - 1, ()), ((l, ()), ()), ())) else some (.inl ((z, a, m, b, (), mid, (n : Int), (i : Int), (((i + j) / 2 : Nat) : Int), (n : Int) - 1, ()), ((l, ()), ()), ())) := by
    unfold sy4 symMerge.L4.step
    dsimp only
    rw [half_nat i j (by omega), w64 (n := (n : Int) - 1 - (((i + j) / 2 : Nat) : Int)) (by omega) (by omega), w64 (n := (((i + j) / 2 : Nat) : Int) + 1) (by omega) (by omega), at2_getD l _ _ (by omega) (by omega), show (n : Int) - 1 - (((i + j) / 2 : Nat) : Int) = ((n - 1 - (i + j) / 2 : Nat) : Int) by omega]
    refine (if_pos (by rw [decide_eq_true_eq]; omega)).trans ?_
    refine (if_pos (by omega)).trans ?_
    refine (if_pos (by omega)).trans ?_
    rw [Int.toNat_natCast, Int.toNat_natCast]
    refine (bind_eq q1).trans ?_
    dsimp only
    rw [q2]
    rfl
   rw [e]
   by_cases d : (!at2 lt5 l (n - 1 - (i + j) / 2) ((i + j) / 2)) = true
   ·rw [if_pos d, if_pos d]
    exact ih _ _ (by omega) (by omega) (by omega) (fun c h5 h6 => h4 c (by omega) (by omega))
   ·rw [if_neg d, if_neg d]
    exact ih _ _ (by omega) (by omega) (by omega) (fun c h5 h6 => h4 c (by omega) (by omega))
  ·rw [if_neg c]; exact stop i j c
theorem sy1_loop (z i : Nat) (hl : z ≤ 268435456) (hi : i ≤ z) (hi1 : 1 ≤ i) : ∀ (n k : Nat) (l : List O5), l.length = z → n = i - 1 - k →
  iterU sy1 ((z, (i : Int), (k : Int), ()), ((l, ()), ()), ()) = some ((), ((mvR n l k, ()), ()), ())
 | 0, k, l, hz, hn => by
  rw [iterU_eq]
  have e : sy1 ((z, (i : Int), (k : Int), ()), ((l, ()), ()), ()) = some (.inr ((), ((l, ()), ()), ())) := by
   unfold sy1 symMerge.L1.step
   dsimp only
   rw [w64 (n := (i : Int) - 1) (by omega) (by omega)]
   exact if_neg (by rw [decide_eq_true_eq]; omega)
  rw [e]; rfl
 | n + 1, k, l, hz, hn => by
  rw [iterU_eq]
  have e : sy1 ((z, (i : Int), (k : Int), ()), ((l, ()), ()), ()) = some (.inl ((z, (i : Int), ((k + 1 : Nat) : Int), ()), ((sw l k (k + 1), ()), ()), ())) := by
   unfold sy1 symMerge.L1.step
   dsimp only
   rw [w64 (n := (i : Int) - 1) (by omega) (by omega), w64 (n := (k : Int) + 1) (by omega) (by omega), show (k : Int) + 1 = ((k + 1 : Nat) : Int) by omega]
   refine (if_pos (by rw [decide_eq_true_eq]; omega)).trans ?_
   refine (if_pos (by omega)).trans ?_
   refine (if_pos (by omega)).trans ?_
   refine (if_pos (by omega)).trans ?_
   refine (if_pos (by omega)).trans ?_
   rw [Int.toNat_natCast, Int.toNat_natCast, set_sw l k (k + 1) (by omega) (by omega)]
  rw [e]
  exact sy1_loop z i hl hi hi1 n (k + 1) _ (by rw [sw_len]; exact hz) (by omega)
theorem sy3_loop (z i : Nat) (hl : z ≤ 268435456) : ∀ (n k : Nat) (l : List O5), l.length = z → n = k - i → k < z →
  iterU sy3 ((z, (i : Int), (k : Int), ()), ((l, ()), ()), ()) = some ((), ((mvL n l k, ()), ()), ())
 | 0, k, l, hz, hn, hk => by
  rw [iterU_eq]
  have e : sy3 ((z, (i : Int), (k : Int), ()), ((l, ()), ()), ()) = some (.inr ((), ((l, ()), ()), ())) := by
   unfold sy3 symMerge.L3.step
   exact if_neg (by rw [decide_eq_true_eq]; show ¬ (i : Int) < (k : Int); omega)
  rw [e]; rfl
 | n + 1, k, l, hz, hn, hk => by
  rw [iterU_eq]
  have e : sy3 ((z, (i : Int), (k : Int), ()), ((l, ()), ()), ()) = some (.inl ((z, (i : Int), ((k - 1 : Nat) : Int), ()), ((sw l (k - 1) k, ()), ()), ())) := by
   unfold sy3 symMerge.L3.step
   dsimp only
   rw [w64 (n := (k : Int) - 1) (by omega) (by omega), show (k : Int) - 1 = ((k - 1 : Nat) : Int) by omega]
   refine (if_pos (by rw [decide_eq_true_eq]; show (i : Int) < (k : Int); omega)).trans ?_
   refine (if_pos (by omega)).trans ?_
   refine (if_pos (by omega)).trans ?_
   refine (if_pos (by omega)).trans ?_
   refine (if_pos (by omega)).trans ?_
   rw [Int.toNat_natCast, Int.toNat_natCast, set_sw l k (k - 1) (by omega) (by omega), sw_comm l k (k - 1) (by omega)]
  rw [e]
  exact sy3_loop z i hl n (k - 1) _ (by rw [sw_len]; exact hz) (by omega) (by omega)
section
variable (RO RF : Nat → (Int × Int × Int × Unit) → (List O5 × Unit) → Option (Unit × (List O5 × Unit)))
def T3 (z : Nat) (b mid n s : Int) (l : List O5 × Unit) : Option (Unit × (List O5 × Unit)) :=
 if (decide (mid < wrap .i64 (n - s)) == true) = true then if decide (wrap .i64 (n - s) < b) = true then if (1 : Nat) ≤ z then Option.bind (RF z (mid, wrap .i64 (n - s), b, ()) l) fun y => some ((), y.2) else none else some ((), l) else some ((), l)
def T2 (z : Nat) (a b mid n s : Int) (l : List O5 × Unit) : Option (Unit × (List O5 × Unit)) :=
 if (decide (a < s) == true) = true then if decide (s < mid) = true then if (1 : Nat) ≤ z then Option.bind (RF z (a, s, mid, ()) l) fun y => T3 RF z b mid n s y.2 else none else T3 RF z b mid n s l else T3 RF z b mid n s l
def T1 (z : Nat) (a m b mid n s : Int) (l : List O5 × Unit) : Option (Unit × (List O5 × Unit)) :=
 if (decide (s < m) == true) = true then if decide (m < wrap .i64 (n - s)) = true then if (1 : Nat) ≤ z then Option.bind (RO z (s, m, wrap .i64 (n - s), ()) l) fun y => T2 RF z a b mid n s y.2 else none else T2 RF z a b mid n s l else T2 RF z a b mid n s l
end
theorem sym_spec : ∀ (f k : Nat) (l : List O5) (z a m b : Nat), l.length = z → z ≤ 268435456 → a < m → m < b → b ≤ z → b - a ≤ f → b - a ≤ k →
  symMerge.R k z ((a : Int), (m : Int), (b : Int), ()) (l, ()) = some ((), (symG lt5 f l a m b, ()))
 | 0, k, l, z, a, m, b, hz, hl, h1, h2, h3, h4, h5 => by omega
 | f + 1, 0, l, z, a, m, b, hz, hl, h1, h2, h3, h4, h5 => by omega
 | f + 1, k + 1, l, z, a, m, b, hz, hl, h1, h2, h3, h4, h5 => by
  have tail : ∀ (s0 r0 : Nat), s0 ≤ r0 → a ≤ s0 → (a + b) / 2 + m - b ≤ s0 → r0 ≤ z → r0 ≤ (a + b) / 2 → r0 ≤ m → (∀ s, s0 ≤ s → (a + b) / 2 + m - s ≤ b) →
    T1 rotate.F (symMerge.R k) z (a : Int) (m : Int) (b : Int) (((a + b) / 2 : Nat) : Int) (((a + b) / 2 + m : Nat) : Int) ((bsr (fun c => !at2 lt5 l ((a + b) / 2 + m - 1 - c) c) (r0 - s0) s0 r0 : Nat) : Int) (l, ()) =
     some ((), ((let s := bsr (fun c => !at2 lt5 l ((a + b) / 2 + m - 1 - c) c) (r0 - s0) s0 r0
      let e := (a + b) / 2 + m - s
      let l1 := if s < m ∧ m < e then rot ((m - s) + (e - m)) l m (m - s) (e - m) else l
      let l2 := if a < s ∧ s < (a + b) / 2 then symG lt5 f l1 a s ((a + b) / 2) else l1
      if (a + b) / 2 < e ∧ e < b then symG lt5 f l2 ((a + b) / 2) e b else l2), ())) := by
   intro s0 r0 g1 g2 g3 g4 g5 g6 g7
   obtain ⟨s1, s2, _, _⟩ := bsr_spec (fun c => !at2 lt5 l ((a + b) / 2 + m - 1 - c) c) s0 r0 (r0 - s0) s0 r0 (Nat.le_refl _) (Nat.le_refl _) g1 (Nat.le_refl _) (.inl rfl) (.inl rfl)
   generalize bsr (fun c => !at2 lt5 l ((a + b) / 2 + m - 1 - c) c) (r0 - s0) s0 r0 = s at s1 s2 ⊢
   dsimp only
   have g8 := g7 s s1
   have hmid : a < (a + b) / 2 := by omega
   have hmid2 : (a + b) / 2 < b := by omega
   generalize hm : (a + b) / 2 = mid at *
   have he : wrap .i64 (((mid + m : Nat) : Int) - (s : Int)) = ((mid + m - s : Nat) : Int) := by rw [w64 (by omega) (by omega)]; omega
   generalize hev : mid + m - s = e at *
   have t3 : ∀ (l : List O5), l.length = z → T3 (symMerge.R k) z (b : Int) (mid : Int) ((mid + m : Nat) : Int) (s : Int) (l, ()) = some ((), (if mid < e ∧ e < b then symG lt5 f l mid e b else l, ())) := by
    intro l hz
    unfold T3
    rw [he]
    by_cases c1 : mid < e
    ·refine (if_pos (by simp; omega)).trans ?_
     by_cases c2 : e < b
     ·refine (if_pos (by simp; omega)).trans ?_
      refine (if_pos (by omega)).trans ?_
      refine (bind_eq (sym_spec f k l z mid e b hz hl c1 c2 h3 (by omega) (by omega))).trans ?_
      rw [if_pos ⟨c1, c2⟩]
     ·refine (if_neg (by simp; omega)).trans ?_
      rw [if_neg (by omega)]
    ·refine (if_neg (by simp; omega)).trans ?_
     rw [if_neg (by omega)]
   have t2 : ∀ (l : List O5), l.length = z → T2 (symMerge.R k) z (a : Int) (b : Int) (mid : Int) ((mid + m : Nat) : Int) (s : Int) (l, ()) = some ((), (if mid < e ∧ e < b then symG lt5 f (if a < s ∧ s < mid then symG lt5 f l a s mid else l) mid e b else (if a < s ∧ s < mid then symG lt5 f l a s mid else l), ())) := by
    intro l hz
    unfold T2
    by_cases c1 : a < s
    ·refine (if_pos (by simp; omega)).trans ?_
     by_cases c2 : s < mid
     ·refine (if_pos (by simp; omega)).trans ?_
      refine (if_pos (by omega)).trans ?_
      refine (bind_eq (sym_spec f k l z a s mid hz hl c1 c2 (by omega) (by omega) (by omega))).trans ?_
      rw [if_pos (c := a < s ∧ s < mid) ⟨c1, c2⟩]
      exact t3 _ (by rw [symG_len]; exact hz)
     ·refine (if_neg (by simp; omega)).trans ?_
      rw [if_neg (c := a < s ∧ s < mid) (by omega)]
      exact t3 l hz
    ·refine (if_neg (by simp; omega)).trans ?_
     rw [if_neg (c := a < s ∧ s < mid) (by omega)]
     exact t3 l hz
   unfold T1
   rw [he]
   by_cases c1 : s < m
   ·refine (if_pos (by simp; omega)).trans ?_
    by_cases c2 : m < e
    ·refine (if_pos (by simp; omega)).trans ?_
     refine (if_pos (by omega)).trans ?_
     refine (bind_eq (rot_spec hz hl c1 c2 (by omega))).trans ?_
     rw [if_pos (c := s < m ∧ m < e) ⟨c1, c2⟩]
     exact t2 _ (by rw [rot_len]; exact hz)
    ·refine (if_neg (by simp; omega)).trans ?_
     rw [if_neg (c := s < m ∧ m < e) (by omega)]
     exact t2 l hz
   ·refine (if_neg (by simp; omega)).trans ?_
    rw [if_neg (c := s < m ∧ m < e) (by omega)]
    exact t2 l hz
  unfold symMerge.R symMerge.G symG
  dsimp only
  rw [w64 (n := (m : Int) - (a : Int)) (by omega) (by omega), w64 (n := (b : Int) - (m : Int)) (by omega) (by omega)]
  by_cases c1 : m - a = 1
  ·rw [if_pos c1]
   refine (if_pos (by rw [beq_iff_eq]; omega)).trans ?_
   refine (bind_eq (show symMerge.L0.F _ = _ from sy0_loop l z a hz hl (by omega) (b - m) m b (Nat.le_refl _) (by omega) h3)).trans ?_
   obtain ⟨s1, s2, _, _⟩ := bsr_spec (fun h => at2 lt5 l h a) m b (b - m) m b (Nat.le_refl _) (Nat.le_refl _) (by omega) (Nat.le_refl _) (.inl rfl) (.inl rfl)
   exact bind_eq (show symMerge.L1.F _ = _ from sy1_loop z _ hl (by omega) (by omega) _ a l hz rfl)
  ·rw [if_neg c1]
   refine (if_neg (by rw [beq_iff_eq]; omega)).trans ?_
   by_cases c2 : b - m = 1
   ·rw [if_pos c2]
    refine (if_pos (by rw [beq_iff_eq]; omega)).trans ?_
    refine (bind_eq (show symMerge.L2.F _ = _ from sy2_loop l z m hz hl (by omega) (m - a) a m (Nat.le_refl _) (by omega) (by omega))).trans ?_
    exact bind_eq (show symMerge.L3.F _ = _ from sy3_loop z _ hl _ m l hz rfl (by omega))
   ·rw [if_neg c2]
    refine (if_neg (by rw [beq_iff_eq]; omega)).trans ?_
    rw [half_nat a b (by omega), w64 (n := (((a + b) / 2 : Nat) : Int) + (m : Int)) (by omega) (by omega), show (((a + b) / 2 : Nat) : Int) + (m : Int) = (((a + b) / 2 + m : Nat) : Int) by omega, w64 (n := (((a + b) / 2 + m : Nat) : Int) - 1) (by omega) (by omega)]
    by_cases c3 : (a + b) / 2 < m
    ·refine (if_pos (by rw [decide_eq_true_eq]; show (((a + b) / 2 : Nat) : Int) < (m : Int); omega)).trans ?_
     rw [if_pos c3, if_pos c3, w64 (n := (((a + b) / 2 + m : Nat) : Int) - (b : Int)) (by omega) (by omega), show (((a + b) / 2 + m : Nat) : Int) - (b : Int) = (((a + b) / 2 + m - b : Nat) : Int) by omega]
     refine (bind_eq (show symMerge.L4.F _ = _ from sy4_loop l z ((a + b) / 2 + m) _ _ _ _ hz hl (by omega) ((a + b) / 2 - ((a + b) / 2 + m - b)) _ _ (Nat.le_refl _) (by omega) (by omega) (fun c _ _ => by omega))).trans ?_
     exact tail ((a + b) / 2 + m - b) ((a + b) / 2) (by omega) (by omega) (Nat.le_refl _) (by omega) (Nat.le_refl _) (by omega) (fun s _ => by omega)
    ·refine (if_neg (by rw [decide_eq_true_eq]; show ¬ (((a + b) / 2 : Nat) : Int) < (m : Int); omega)).trans ?_
     rw [if_neg c3, if_neg c3]
     refine (bind_eq (show symMerge.L4.F _ = _ from sy4_loop l z ((a + b) / 2 + m) _ _ _ _ hz hl (by omega) (m - a) a m (Nat.le_refl _) (by omega) (by omega) (fun c _ _ => by omega))).trans ?_
     exact tail a m (by omega) (Nat.le_refl _) (by omega) (by omega) (by omega) (Nat.le_refl _) (fun s _ => by omega)
theorem symF_spec {l : List O5} {z a m b : Nat} (hz : l.length = z) (hl : z ≤ 268435456) (h1 : a < m) (h2 : m < b) (h3 : b ≤ z) :
  symMerge.F z ((a : Int), (m : Int), (b : Int), ()) (l, ()) = some ((), (symG lt5 (b - a) l a m b, ())) := sym_spec (b - a) z l z a m b hz hl h1 h2 h3 (Nat.le_refl _) (by omega)
/-! the stable sort -/
noncomputable def st0 (x : (Nat × Int × Unit × Int × Int × Int × Unit) × (((List O5) × Unit) × Unit) × Unit) := stable.L0.step insertion.F x.1.1 x.1.2.1 x.1.2.2.2.1 x.1.2.2.2.2.1 x.1.2.2.2.2.2.1 x.2.1.1.1
noncomputable def st2 (x : (Nat × Int × Unit × Int × Int × Int × Unit) × (((List O5) × Unit) × Unit) × Unit) := stable.L2.step symMerge.F x.1.1 x.1.2.1 x.1.2.2.2.1 x.1.2.2.2.2.1 x.1.2.2.2.2.2.1 x.2.1.1.1
noncomputable def st1 (x : (Nat × Int × Unit × Int × Unit) × (((List O5) × Unit) × Unit) × Unit) := stable.L1.step symMerge.F stable.L2.F x.1.1 x.1.2.1 x.1.2.2.2.1 x.2.1.1.1
theorem insG_len (l : List O5) (a b : Nat) (h1 : a ≤ b) (h2 : b ≤ l.length) : (insG lt5 l a b).length = l.length := by
 unfold insG
 rw [List.length_append, List.length_append, srt_len, List.length_take, List.length_take, List.length_drop, List.length_drop]
 omega
theorem st0_loop (z s : Nat) (hl : z ≤ 268435456) (hs : 0 < s) (hs2 : s ≤ 268435456) (hz1 : 1 ≤ z) : ∀ (f : Nat) (l : List O5) (a b : Nat), l.length = z → a ≤ z → b = a + s → z - a < f →
  ∃ (a' : Nat) (l' : List O5), iterU st0 ((z, (z : Int), (), (s : Int), (a : Int), (b : Int), ()), ((l, ()), ()), ()) = some ((z, (z : Int), (), (s : Int), (a' : Int), ()), ((l', ()), ()), ()) ∧
   insG lt5 l' a' z = ph1 lt5 s f l a b z ∧ a' ≤ z ∧ l'.length = z
 | 0, l, a, b, hz, ha, hb, hf => by omega
 | f + 1, l, a, b, hz, ha, hb, hf => by
  rw [iterU_eq]
  unfold ph1
  by_cases c : b ≤ z
  ·have e : st0 ((z, (z : Int), (), (s : Int), (a : Int), (b : Int), ()), ((l, ()), ()), ()) = some (.inl ((z, (z : Int), (), (s : Int), (b : Int), ((b + s : Nat) : Int), ()), ((insG lt5 l a b, ()), ()), ())) := by
    unfold st0 stable.L0.step
    dsimp only
    rw [w64 (n := (b : Int) + (s : Int)) (by omega) (by omega), show (b : Int) + (s : Int) = ((b + s : Nat) : Int) by omega]
    refine (if_pos (by rw [decide_eq_true_eq]; omega)).trans ?_
    refine (if_pos hz1).trans ?_
    exact bind_eq (ins_spec hz hl (by omega) c)
   rw [e, if_pos c]
   exact st0_loop z s hl hs hs2 hz1 f _ b (b + s) (by rw [insG_len l a b (by omega) (by omega)]; exact hz) c rfl (by omega)
  ·have e : st0 ((z, (z : Int), (), (s : Int), (a : Int), (b : Int), ()), ((l, ()), ()), ()) = some (.inr ((z, (z : Int), (), (s : Int), (a : Int), ()), ((l, ()), ()), ())) := by
    unfold st0 stable.L0.step
    exact if_neg (by rw [decide_eq_true_eq]; show ¬ (b : Int) ≤ (z : Int); omega)
   rw [e, if_neg c]
   exact ⟨a, l, rfl, rfl, ha, hz⟩
theorem st2_loop (z s : Nat) (hl : z ≤ 268435456) (hs : 0 < s) (hs2 : s ≤ 268435456) (hz1 : 1 ≤ z) : ∀ (f : Nat) (l : List O5) (a b : Nat), l.length = z → a ≤ z → b = a + 2 * s → z - a < f →
  ∃ (a' : Nat) (l' : List O5), iterU st2 ((z, (z : Int), (), (s : Int), (a : Int), (b : Int), ()), ((l, ()), ()), ()) = some ((z, (z : Int), (), (s : Int), (a' : Int), ()), ((l', ()), ()), ()) ∧
   (if a' + s < z then symG lt5 (z - a') l' a' (a' + s) z else l') = rnd lt5 s f l a b z ∧ a' ≤ z ∧ l'.length = z
 | 0, l, a, b, hz, ha, hb, hf => by omega
 | f + 1, l, a, b, hz, ha, hb, hf => by
  rw [iterU_eq]
  unfold rnd
  by_cases c : b ≤ z
  ·have e : st2 ((z, (z : Int), (), (s : Int), (a : Int), (b : Int), ()), ((l, ()), ()), ()) = some (.inl ((z, (z : Int), (), (s : Int), (b : Int), ((b + 2 * s : Nat) : Int), ()), ((symG lt5 (b - a) l a (a + s) b, ()), ()), ())) := by
    unfold st2 stable.L2.step
    dsimp only
    rw [w64 (n := (2 : Int) * (s : Int)) (by omega) (by omega), w64 (n := (b : Int) + (2 : Int) * (s : Int)) (by omega) (by omega), w64 (n := (a : Int) + (s : Int)) (by omega) (by omega), show (b : Int) + (2 : Int) * (s : Int) = ((b + 2 * s : Nat) : Int) by omega, show (a : Int) + (s : Int) = ((a + s : Nat) : Int) by omega]
    refine (if_pos (by rw [decide_eq_true_eq]; omega)).trans ?_
    refine (if_pos hz1).trans ?_
    exact bind_eq (symF_spec hz hl (by omega) (by omega) c)
   rw [e, if_pos c]
   exact st2_loop z s hl hs hs2 hz1 f _ b (b + 2 * s) (by rw [symG_len]; exact hz) c rfl (by omega)
  ·have e : st2 ((z, (z : Int), (), (s : Int), (a : Int), (b : Int), ()), ((l, ()), ()), ()) = some (.inr ((z, (z : Int), (), (s : Int), (a : Int), ()), ((l, ()), ()), ())) := by
    unfold st2 stable.L2.step
    exact if_neg (by rw [decide_eq_true_eq]; show ¬ (b : Int) ≤ (z : Int); omega)
   rw [e, if_neg c]
   exact ⟨a, l, rfl, rfl, ha, hz⟩
theorem st1_loop (z : Nat) (hl : z ≤ 268435456) (hz1 : 1 ≤ z) : ∀ (f : Nat) (l : List O5) (s : Nat), l.length = z → 0 < s → s ≤ 2 * z + 20 → z < s + f →
  ∃ (l' : List O5), iterU st1 ((z, (z : Int), (), (s : Int), ()), ((l, ()), ()), ()) = some ((), ((l', ()), ()), ()) ∧ l' = phs lt5 f l s z
 | 0, l, s, hz, h1, h2, hf => by
  have e : st1 ((z, (z : Int), (), (s : Int), ()), ((l, ()), ()), ()) = some (.inr ((), ((l, ()), ()), ())) := by
   unfold st1 stable.L1.step
   exact if_neg (by rw [decide_eq_true_eq]; show ¬ (s : Int) < (z : Int); omega)
  exact ⟨l, by rw [iterU_eq, e], rfl⟩
 | f + 1, l, s, hz, h1, h2, hf => by
  rw [iterU_eq]
  unfold phs
  by_cases c : s < z
  ·obtain ⟨a', l', q1, q2, q3, q4⟩ := st2_loop z s hl h1 (by omega) hz1 (z + 1) l 0 (2 * s) hz (by omega) (by omega) (by omega)
   have e : st1 ((z, (z : Int), (), (s : Int), ()), ((l, ()), ()), ()) = some (.inl ((z, (z : Int), (), ((2 * s : Nat) : Int), ()), ((rnd lt5 s (z + 1) l 0 (2 * s) z, ()), ()), ())) := by
    unfold st1 stable.L1.step
    dsimp only
    refine (if_pos (by rw [decide_eq_true_eq]; omega)).trans ?_
    rw [w64 (n := (2 : Int) * (s : Int)) (by omega) (by omega), show (2 : Int) * (s : Int) = ((2 * s : Nat) : Int) by omega]
    refine (bind_eq (show stable.L2.F _ = _ from q1)).trans ?_
    dsimp only
    rw [w64 (n := (a' : Int) + (s : Int)) (by omega) (by omega), w64 (n := (s : Int) * (2 : Int)) (by omega) (by omega), show (s : Int) * (2 : Int) = ((2 * s : Nat) : Int) by omega, show (a' : Int) + (s : Int) = ((a' + s : Nat) : Int) by omega]
    by_cases d : a' + s < z
    ·rw [if_pos d] at q2
     refine (if_pos (by rw [decide_eq_true_eq]; omega)).trans ?_
     refine (if_pos hz1).trans ?_
     refine (bind_eq (symF_spec q4 hl (by omega) d (Nat.le_refl _))).trans ?_
     rw [q2]
    ·rw [if_neg d] at q2
     refine (if_neg (by rw [decide_eq_true_eq]; omega)).trans ?_
     rw [q2]
   rw [e, if_pos c]
   refine st1_loop z hl hz1 f _ (2 * s) ?_ (by omega) (by omega) (by omega)
   rw [← q2]
   split
   ·rw [symG_len]; exact q4
   ·exact q4
  ·have e : st1 ((z, (z : Int), (), (s : Int), ()), ((l, ()), ()), ()) = some (.inr ((), ((l, ()), ()), ())) := by
    unfold st1 stable.L1.step
    exact if_neg (by rw [decide_eq_true_eq]; show ¬ (s : Int) < (z : Int); omega)
   rw [e, if_neg c]
   exact ⟨l, rfl, rfl⟩
theorem stable_spec {l : List O5} {z : Nat} (hz : l.length = z) (hl : z ≤ 268435456) (hz1 : 1 ≤ z) : stable.F z ((z : Int), ()) (l, ()) = some ((), (srt lt5 l, ())) := by
 rw [← stb_srt lt5_swo l]
 unfold stable.F stable.G stb
 dsimp only
 rw [hz]
 obtain ⟨a', l', q1, q2, q3, q4⟩ := st0_loop z 20 hl (by omega) (by omega) hz1 (z + 1) l 0 20 hz (by omega) rfl (by omega)
 refine (bind_eq (show stable.L0.F _ = _ from q1)).trans ?_
 dsimp only
 refine (if_pos hz1).trans ?_
 refine (bind_eq (ins_spec q4 hl q3 (Nat.le_refl _))).trans ?_
 dsimp only
 rw [q2]
 obtain ⟨l2, r1, r2⟩ := st1_loop z hl hz1 z (ph1 lt5 20 (z + 1) l 0 20 z) 20 (by rw [← q2, insG_len _ _ _ q3 (by omega)]; exact q4) (by omega) (by omega) (by omega)
 refine (bind_eq (show stable.L1.F _ = _ from r1)).trans ?_
 rw [r2]
end Go.Proofs.Ytfpepeembbpncaa.E
