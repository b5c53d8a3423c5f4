/- Functions of the program as plain Lean, and what they come to. Conditions: none. -/
import Derived.Test.YtkdeheoonannoaaDoorEwD
import Derived.Test.YtkdeheoonannoaaDoorPureN
open Go Go.Ew
namespace Go.Proofs.YtkdeheoonannoaaDoor.E
open Go.IntKind (wrap)
set_option linter.unusedVariables false
set_option linter.unusedSimpArgs false
set_option maxRecDepth 100000
/-! each text tells its instruction -/
theorem mat_cs {l : List Nat} (h : ∀ n ∈ l, 0 < n ∧ n < 97) : mat l (by8 l) := by
  induction l with
  | nil => exact trivial
  | cons a l ih =>
    have ha := h a (List.mem_cons_self ..)
    refine ⟨?_, ih fun n hn => h n (List.mem_cons_of_mem _ hn)⟩
    rw [if_neg (by omega), UInt8.toNat_ofNat', Nat.mod_eq_of_lt (by omega)]
theorem pat_cs (l : List Nat) : patS (cs l) = l := by
  unfold patS cs
  rw [List.flatMap_map]
  induction l with
  | nil => rfl
  | cons a l ih => simp only [List.flatMap_cons, ih]; rfl
theorem mat_hx {v : Nat} (h : v < 256) : mat [0, 0] (hx v) := by
  have h1 := hx_mem h _ (List.mem_cons_self ..)
  have h2 := hx_mem h _ (List.mem_cons_of_mem _ (List.mem_cons_self ..))
  exact ⟨h1.2.2.2, h2.2.2.2, trivial⟩
theorem mat_T {i lo hi : Nat} (h : i < 512) (h1 : lo < 256) (h2 : hi < 256) : mat (patS (txI i)) (TL i lo hi) := by
  have f := info h
  rw [TL_eq h, f.e]
  unfold patS
  rw [List.flatMap_append, List.flatMap_append]
  show mat (patS (cs (txA i)) ++ (_ ++ patS (cs (txC i)))) _
  rw [pat_cs, pat_cs]
  refine mat_app (mat_cs f.a) (mat_app ?_ (mat_cs f.c))
  have hz := f.z
  match txZ i, hz with
  | 0, _ => exact trivial
  | 1, _ => exact ⟨rfl, mat_hx h1⟩
  | 2, _ => exact ⟨rfl, (mat_app (mat_hx h2) (mat_hx h1) : mat ([0, 0] ++ [0, 0]) (hx hi ++ hx lo))⟩
theorem pat_at' {i : Nat} (h : i < 512) : patL[i]? = some (patS (txI i)) := patL_ok ⟨i, h⟩
theorem good_inc {i : Nat} (h : i < 512) (g : goodI i = true) : inc (patS (txI i)) dbP = true := by
  have := good_ok ⟨i, h⟩
  dsimp only at this
  rw [List.getD_eq_getElem?_getD, pat_at' h, g] at this
  exact this.symm
theorem good_skip {i : Nat} (h : i < 512) (g : goodI i = true) : skips (patS (txI i)) = false := by
  unfold skips; rw [good_inc h g]; rfl
theorem uniq {i j lo hi lo' hi' : Nat} (hi1 : i < 512) (hj1 : j < 512) (gi : goodI i = true) (gj : goodI j = true) (a1 : lo < 256) (a2 : hi < 256) (b1 : lo' < 256) (b2 : hi' < 256)
    (e : TL i lo hi = TL j lo' hi') : i = j := by
  have m1 := mat_T hi1 a1 a2
  have m2 := mat_T hj1 b1 b2
  rw [← e] at m2
  rcases Nat.lt_trichotomy i j with q | q | q
  · exact (inc_mat (incPairs_at pairs_ok q (pat_at' hi1) (pat_at' hj1) (good_skip hi1 gi) (good_skip hj1 gj)) m1 m2).elim
  · exact q
  · exact (inc_mat (incPairs_at pairs_ok q (pat_at' hj1) (pat_at' hi1) (good_skip hj1 gj) (good_skip hi1 gi)) m2 m1).elim
def DBL (v : Nat) : List UInt8 := by8 [68, 66, 32] ++ 36 :: hx v
theorem db_list (v : Nat) : (dbS v).data.toList = DBL v := by
  unfold dbS
  rw [ByteArray.data_append, Array.toList_append]
  rfl
theorem db_no {i lo hi v : Nat} (h : i < 512) (g : goodI i = true) (a1 : lo < 256) (a2 : hi < 256) (hv : v < 256) : TL i lo hi ≠ DBL v := by
  intro e
  have m1 := mat_T h a1 a2
  rw [e] at m1
  exact inc_mat (good_inc h g) m1 ⟨rfl, rfl, rfl, rfl, mat_hx hv⟩
def unK (c : UInt8) : List UInt8 := if c = 98 then 36 :: hx 0 else if c = 119 then 36 :: (hx 0 ++ hx 0) else [c]
theorem unK_cs {l : List Nat} (h : ∀ n ∈ l, 0 < n ∧ n < 97) : (by8 l).flatMap unK = by8 l := by
  induction l with
  | nil => rfl
  | cons a l ih =>
    have ha := h a (List.mem_cons_self ..)
    have hn : (UInt8.ofNat a).toNat = a := by rw [UInt8.toNat_ofNat', Nat.mod_eq_of_lt (by omega)]
    have e : unK (UInt8.ofNat a) = [UInt8.ofNat a] := by
      unfold unK
      rw [if_neg (fun z => by have := congrArg UInt8.toNat z; rw [hn] at this; have : a = 98 := this; omega), if_neg (fun z => by have := congrArg UInt8.toNat z; rw [hn] at this; have : a = 119 := this; omega)]
    show List.flatMap unK (UInt8.ofNat a :: by8 l) = _
    rw [List.flatMap_cons, e, ih fun n hn => h n (List.mem_cons_of_mem _ hn)]
    rfl
theorem unK_T {i : Nat} (h : i < 512) : (KL i).flatMap unK = TL i 0 0 := by
  have f := info h
  rw [KL_eq h, TL_eq h, List.flatMap_append, List.flatMap_append, unK_cs f.a, unK_cs f.c]
  have hz := f.z
  have : List.flatMap unK (zK (txZ i)) = zT 0 0 (txZ i) := by
    match txZ i, hz with
    | 0, _ => rfl
    | 1, _ => rfl
    | 2, _ => rfl
  rw [this]
theorem key_inj {i j : Nat} (hi1 : i < 512) (hj1 : j < 512) (gi : goodI i = true) (gj : goodI j = true) (e : KL i = KL j) : i = j :=
  uniq (lo := 0) (hi := 0) (lo' := 0) (hi' := 0) hi1 hj1 gi gj (by decide) (by decide) (by decide) (by decide) (by rw [← unK_T hi1, ← unK_T hj1, e])
theorem find_some : ∀ {n : Nat} {l : List UInt8} {v : Nat}, findN n l = some v → v < n ∧ goodI v = true ∧ KL v = l
  | 0, l, v, h => nomatch h
  | n + 1, l, v, h => by
    unfold findN at h
    split at h
    · rename_i q
      simp only [Option.some.injEq] at h
      subst h
      exact ⟨Nat.lt_succ_self _, q⟩
    · obtain ⟨h1, h2⟩ := find_some h
      exact ⟨Nat.lt_succ_of_lt h1, h2⟩
theorem find_none : ∀ {n : Nat} {l : List UInt8}, findN n l = none → ∀ v, v < n → goodI v = true → KL v ≠ l
  | n + 1, l, h, v, hv, g => by
    unfold findN at h
    split at h
    · simp at h
    · rename_i q
      by_cases e : v = n
      · subst e; exact fun z => q ⟨g, z⟩
      · exact find_none h v (by omega) g
theorem find_key {i : Nat} (h : i < 512) (g : goodI i = true) : findN 512 (KL i) = some i := by
  cases e : findN 512 (KL i) with
  | none => exact absurd rfl (find_none e i h g)
  | some v =>
    obtain ⟨h1, h2, h3⟩ := find_some e
    rw [key_inj h1 h h2 g h3]
/-! the bare number -/
theorem bare_hit {s L : ByteArray} {d v : Nat} {p g q : List UInt8} (e : s.data.toList = p ++ 36 :: (g ++ q)) (hp : (36 : UInt8) ∉ p) (hl : g.length = d) (d1 : 1 ≤ d) (d4 : d ≤ 4) (hv : hexF g 0 = some v) (hu : Go.Lib.toUpperA g = g) :
    (bareR s d L).2 = ((v : Int), true) ∧ (bareR s d L).1.data.toList = p ++ (L.data.toList ++ q) := by
  have hi : Go.Lib.indexByte s.data.toList 36 = p.length := by rw [e]; exact idx_at hp
  have hz : s.size = p.length + 1 + d + q.length := by rw [sz_list, e]; simp [hl]; omega
  have e1 : ((p.length : Int) + 1).toNat = p.length + 1 := by omega
  have e2 : ((p.length : Int) + 1 + (d : Int)).toNat = p.length + 1 + d := by omega
  have ex : (s.extract (p.length + 1) (p.length + 1 + d)).data.toList = g := by
    rw [ext_r e, ← hl]; exact List.take_left' rfl
  have hup : upB (s.extract (p.length + 1) (p.length + 1 + d)) = s.extract (p.length + 1) (p.length + 1 + d) := by
    apply ba_ext
    unfold upB
    rw [ex, hu]
  have hrd : R.readS (s.extract (p.length + 1) (p.length + 1 + d)) (d : Int) = ((v : Int), 0) := by
    rw [readS_eq _ d1 d4, if_pos (by rw [sz_list, ex]; exact hl), ex, hv]
  unfold bareR
  rw [hi, e1, e2, if_neg (by omega), if_neg (by omega), hrd, if_pos rfl, if_pos hup]
  refine ⟨rfl, ?_⟩
  show (joinB _ _).data.toList = _
  rw [joinB_list]
  simp only [List.map_cons, List.map_nil, List.flatten_cons, List.flatten_nil, List.append_nil]
  rw [ext_list, ext_list, e, Int.toNat_natCast]
  have a1 : ((p ++ 36 :: (g ++ q)).drop 0).take (p.length - 0) = p := by rw [List.drop_zero, Nat.sub_zero]; exact List.take_left' rfl
  have a2 : ((p ++ 36 :: (g ++ q)).drop (p.length + 1 + d)).take (s.size - (p.length + 1 + d)) = q := by
    rw [show p ++ 36 :: (g ++ q) = (p ++ 36 :: g) ++ q by simp, show p.length + 1 + d = (p ++ 36 :: g).length by simp [hl]; omega, List.drop_left]
    exact List.take_of_length_le (by simp only [List.length_append, List.length_cons, hl]; omega)
  rw [a1, a2]
theorem bare_inv {s L : ByteArray} {d : Nat} (d1 : 1 ≤ d) (d4 : d ≤ 4) (h : (bareR s d L).2.2 = true) : ∃ p g q v, s.data.toList = p ++ 36 :: (g ++ q) ∧ (36 : UInt8) ∉ p ∧ g.length = d ∧ hexF g 0 = some v ∧ Go.Lib.toUpperA g = g := by
  by_cases hi : Go.Lib.indexByte s.data.toList 36 < 0
  · unfold bareR at h; rw [if_pos hi] at h; cases h
  obtain ⟨p, r, e, hp⟩ := idx_inv (Int.not_lt.1 hi)
  have hi' : Go.Lib.indexByte s.data.toList 36 = p.length := by rw [e]; exact idx_at hp
  have hz : s.size = p.length + 1 + r.length := by rw [sz_list, e]; simp; omega
  have e1 : ((p.length : Int) + 1).toNat = p.length + 1 := by omega
  have e2 : ((p.length : Int) + 1 + (d : Int)).toNat = p.length + 1 + d := by omega
  unfold bareR at h
  rw [hi', e1, e2, if_neg (by omega)] at h
  by_cases l : r.length < d
  · rw [if_pos (by omega)] at h; cases h
  rw [if_neg (by omega)] at h
  have ex : (s.extract (p.length + 1) (p.length + 1 + d)).data.toList = r.take d := ext_r e d
  have hlen : (r.take d).length = d := by rw [List.length_take]; omega
  have hrd := readS_eq (s.extract (p.length + 1) (p.length + 1 + d)) d1 d4
  rw [if_pos (by rw [sz_list, ex]; exact hlen), ex] at hrd
  cases hv : hexF (r.take d) 0 with
  | none => rw [hv] at hrd; rw [hrd, if_neg (by decide)] at h; cases h
  | some v =>
    rw [hv] at hrd
    rw [hrd, if_pos rfl] at h
    by_cases hu : upB (s.extract (p.length + 1) (p.length + 1 + d)) = s.extract (p.length + 1) (p.length + 1 + d)
    · refine ⟨p, r.take d, r.drop d, v, by rw [e, List.take_append_drop], hp, hlen, hv, ?_⟩
      have := congrArg (fun b : ByteArray => b.data.toList) hu
      unfold upB at this
      dsimp only at this
      rw [ex] at this
      exact this
    · rw [if_neg hu] at h; cases h
theorem split1 {a : UInt8} : ∀ {p q A C : List UInt8}, a ∉ A → a ∉ C → p ++ a :: q = A ++ a :: C → p = A ∧ q = C
  | [], q, [], C, _, _, h => by simp at h; exact ⟨rfl, h⟩
  | [], q, x :: A, C, h1, _, h => by simp at h; exact absurd (List.mem_cons_self ..) (h.1 ▸ h1)
  | x :: p, q, [], C, _, h2, h => by
    simp at h
    exact absurd (h.2 ▸ (by simp : a ∈ p ++ a :: q)) h2
  | x :: p, q, y :: A, C, h1, h2, h => by
    simp at h
    obtain ⟨e1, e2⟩ := split1 (fun z => h1 (List.mem_cons_of_mem _ z)) h2 h.2
    exact ⟨by rw [h.1, e1], e2⟩
/-! the reference's search -/
theorem TX_cb (i : Nat) (hi : i < 256) (a b : Nat) : TX (256 + i) a b = txS i true a b := by
  unfold TX
  rw [show (256 + i) % 256 = i by omega, decide_eq_true (by omega)]
theorem TX_no (i : Nat) (hi : i < 256) (a b : Nat) : TX i a b = txS i false a b := by
  unfold TX
  rw [Nat.mod_eq_of_lt hi, decide_eq_false (by omega)]
noncomputable def amstep (x : ((ByteArray × Int × Int × Int × Unit) × Unit × Unit)) := ref06_Assemble.L0.step ref06_form.F ref06_Text.F x.1.1 x.1.2.1 x.1.2.2.1 x.1.2.2.2.1
def M1 (s : ByteArray) (lo hi i : Nat) : Prop := kN i false ≠ 6 ∧ TX i lo hi = s
def M2 (s : ByteArray) (i : Nat) : Prop := TX (256 + i) 0 0 = s
theorem am_step {s : ByteArray} {lo hi i : Nat} (h : i < 256) (h1 : lo < 256) (h2 : hi < 256) :
    (¬ M1 s lo hi i → ¬ M2 s i → amstep ((s, (lo : Int), (hi : Int), (i : Int), ()), (), ()) = some (.inl ((s, (lo : Int), (hi : Int), ((i + 1 : Nat) : Int), ()), (), ()))) ∧
    (M1 s lo hi i → amstep ((s, (lo : Int), (hi : Int), (i : Int), ()), (), ()) = some (.inr (.inl ((0, ()), (), List.take (lN i false) [(i : Int), (lo : Int), (hi : Int)], ())))) ∧
    (¬ M1 s lo hi i → M2 s i → amstep ((s, (lo : Int), (hi : Int), (i : Int), ()), (), ()) = some (.inr (.inl ((0, ()), (), [203, (i : Int)], ())))) := by
  have wi : wrap .u8 (i : Int) = (i : Int) := w8' (by omega) (by omega)
  have wn : wrap .i64 ((i : Int) + 1) = ((i + 1 : Nat) : Int) := w64 (by omega) (by omega)
  have t0 := tab_fin ⟨i, h⟩ false
  have ek : (T.formS (i : Int) false).1 = (kN i false : Int) := by unfold kN; have := t0.1; dsimp only at this; omega
  have el : (T.formS (i : Int) false).2.2.2.1 = (lN i false : Int) := by unfold lN; have := t0.2.2.2.1; dsimp only at this; omega
  have hl3 : lN i false ≤ 3 := by have := t0.2.2.2.2.1; dsimp only at this; omega
  have cb : ∀ z1 z2 : Option (((ByteArray × Int × Int × Int × Unit) × Unit × Unit) ⊕ (((Int × Unit) × Unit × ((List Int) × Unit)) ⊕ (Unit × Unit × Unit))), Option.bind (ref06_Text.F ((i : Int), true, 0, 0, ())) (fun y => if sEq y.1 s = true then z1 else z2) = if sEq (TX (256 + i) 0 0) s = true then z1 else z2 := by
    intro z1 z2
    rw [TX_cb i h]
    exact bind_eq (ref_text_spec (lo := 0) (hi := 0) h (by decide) (by decide) true)
  have no : ∀ z1 z2 : Option (((ByteArray × Int × Int × Int × Unit) × Unit × Unit) ⊕ (((Int × Unit) × Unit × ((List Int) × Unit)) ⊕ (Unit × Unit × Unit))), Option.bind (ref06_Text.F ((i : Int), false, (lo : Int), (hi : Int), ())) (fun y => if sEq y.1 s = true then z1 else z2) = if sEq (TX i lo hi) s = true then z1 else z2 := by
    intro z1 z2
    rw [TX_no i h]
    exact bind_eq (ref_text_spec h h1 h2 false)
  have key : amstep ((s, (lo : Int), (hi : Int), (i : Int), ()), (), ()) = if ((kN i false : Int) != 6) = true then (if sEq (TX i lo hi) s = true then some (.inr (.inl ((0, ()), (), List.take (lN i false) [(i : Int), (lo : Int), (hi : Int)], ()))) else if sEq (TX (256 + i) 0 0) s = true then some (.inr (.inl ((0, ()), (), [203, (i : Int)], ()))) else some (.inl ((s, (lo : Int), (hi : Int), ((i + 1 : Nat) : Int), ()), (), ()))) else if sEq (TX (256 + i) 0 0) s = true then some (.inr (.inl ((0, ()), (), [203, (i : Int)], ()))) else some (.inl ((s, (lo : Int), (hi : Int), ((i + 1 : Nat) : Int), ()), (), ())) := by
    unfold amstep ref06_Assemble.L0.step
    dsimp only
    rw [wi, wn]
    refine (if_pos (by rw [decide_eq_true_eq]; omega)).trans ?_
    refine (bind_eq (rform_spec h false)).trans ?_
    dsimp only
    rw [ek, el, cb, no]
    by_cases k6 : ((kN i false : Int) != 6) = true
    · rw [if_pos (by rw [k6]; rfl), if_pos k6, if_pos (show (0 : Int) ≤ 0 ∧ (0 : Int) ≤ (lN i false : Int) ∧ (lN i false : Int) ≤ 3 from ⟨by decide, by omega, by omega⟩), Int.toNat_natCast]
      rfl
    · rw [if_neg (by intro z; exact k6 (by simpa using z)), if_neg k6]
      rfl
  have k6 : ((kN i false : Int) != 6) = true ↔ kN i false ≠ 6 := by
    rw [bne_iff_ne]
    constructor
    · intro z q; exact z (by rw [q]; rfl)
    · intro z q; exact z (by omega)
  rw [key]
  refine ⟨fun n1 n2 => ?_, fun m1 => ?_, fun n1 m2 => ?_⟩
  · have c2 : ¬ sEq (TX (256 + i) 0 0) s = true := fun z => n2 (sEq_iff.1 z)
    by_cases q : kN i false = 6
    · rw [if_neg (fun z => (k6.1 z) q), if_neg c2]
    · rw [if_pos (k6.2 q), if_neg (fun z => n1 ⟨q, sEq_iff.1 z⟩), if_neg c2]
  · rw [if_pos (k6.2 m1.1), if_pos (sEq_iff.2 m1.2)]
  · have c2 : sEq (TX (256 + i) 0 0) s = true := sEq_iff.2 m2
    by_cases q : kN i false = 6
    · rw [if_neg (fun z => (k6.1 z) q), if_pos c2]
    · rw [if_pos (k6.2 q), if_neg (fun z => n1 ⟨q, sEq_iff.1 z⟩), if_pos c2]
theorem am_none {s : ByteArray} {lo hi : Nat} (h1 : lo < 256) (h2 : hi < 256) (n1 : ∀ i, i < 256 → ¬ M1 s lo hi i) (n2 : ∀ i, i < 256 → ¬ M2 s i) :
    ref06_Assemble.L0.F ((s, (lo : Int), (hi : Int), 0, ()), (), ()) = some (.inr ((), (), ())) := by
  show iterU amstep _ = _
  refine iterU_range (step := amstep) (fun i => ((s, (lo : Int), (hi : Int), (i : Int), ()), (), ())) _ 256 (fun i hi' => (am_step hi' h1 h2).1 (n1 i hi') (n2 i hi')) ?_ 0 (by decide)
  unfold amstep ref06_Assemble.L0.step
  exact if_neg (show ¬ decide ((256 : Int) < 256) = true by decide)
theorem am_hit {s : ByteArray} {lo hi k : Nat} (h1 : lo < 256) (h2 : hi < 256) (hk : k < 256) (n1 : ∀ i, i < k → ¬ M1 s lo hi i) (n2 : ∀ i, i < k → ¬ M2 s i) {R}
    (hR : amstep ((s, (lo : Int), (hi : Int), (k : Int), ()), (), ()) = some (.inr R)) :
    ref06_Assemble.L0.F ((s, (lo : Int), (hi : Int), 0, ()), (), ()) = some R := by
  show iterU amstep _ = _
  exact iterU_range (step := amstep) (fun i => ((s, (lo : Int), (hi : Int), (i : Int), ()), (), ())) _ k (fun i hi' => (am_step (by omega) h1 h2).1 (n1 i hi') (n2 i hi')) hR 0 (Nat.zero_le _)
end Go.Proofs.YtkdeheoonannoaaDoor.E
