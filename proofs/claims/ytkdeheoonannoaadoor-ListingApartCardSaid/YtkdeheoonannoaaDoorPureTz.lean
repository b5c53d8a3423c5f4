/- Functions of the program as plain Lean, and what they come to. Conditions: none. -/
import Derived.Test.YtkdeheoonannoaaDoorEwD
import Derived.Test.YtkdeheoonannoaaDoorPureTy
open Go Go.Ew
namespace Go.Proofs.YtkdeheoonannoaaDoor.E
open Go.IntKind (wrap)
set_option linter.unusedVariables false
set_option linter.unusedSimpArgs false
set_option maxRecDepth 100000
/-! the table of all lines -/
def chS (X Y op c : Nat) : List Sy := if 97 ≤ c ∧ c ≤ 122 then meanS c X Y op else [.c c]
def srS (k X Y op : Nat) : List Sy := (patT k (decide (X = 4))).flatMap (chS X Y op)
def okB (k X Y : Nat) : Bool := decide (k < 47 ∧ X < 8 ∧ Y < 8 ∧ (k = 9 ∨ k = 10 → X < 4) ∧ (k = 17 ∨ k = 21 ∨ k = 22 ∨ k = 27 ∨ k = 28 ∨ k = 29 ∨ k = 36 ∨ k = 37 ∨ k = 39 ∨ k = 40 → X < 5))
def kN (op : Nat) (cb : Bool) : Nat := (T.formS (op : Int) cb).1.toNat
def xN (op : Nat) (cb : Bool) : Nat := (T.formS (op : Int) cb).2.1.toNat
def yN (op : Nat) (cb : Bool) : Nat := (T.formS (op : Int) cb).2.2.1.toNat
def lN (op : Nat) (cb : Bool) : Nat := (T.formS (op : Int) cb).2.2.2.1.toNat
theorem tab_fin : ∀ op : Fin 256, ∀ cb : Bool, 0 ≤ (T.formS (op.val : Int) cb).1 ∧ 0 ≤ (T.formS (op.val : Int) cb).2.1 ∧ 0 ≤ (T.formS (op.val : Int) cb).2.2.1 ∧ 1 ≤ (T.formS (op.val : Int) cb).2.2.2.1 ∧ (T.formS (op.val : Int) cb).2.2.2.1 ≤ 3 ∧
    okB (kN op.val cb) (xN op.val cb) (yN op.val cb) = true ∧ (patT (kN op.val cb) (decide (xN op.val cb = 4))).all (fun c => (decide (c < 128)) && (!(decide (97 ≤ c ∧ c ≤ 122)) || okC c (xN op.val cb) (yN op.val cb))) = true ∧
    (patT (kN op.val cb) (decide (xN op.val cb = 4))).length ≤ 20 ∧ spS (kN op.val cb) (xN op.val cb) (yN op.val cb) op.val = srS (kN op.val cb) (xN op.val cb) (yN op.val cb) op.val ∧ (srS (kN op.val cb) (xN op.val cb) (yN op.val cb) op.val).length ≤ 20 := by decide +kernel
def tx (op : Nat) (cb : Bool) : List Sy := srS (kN op cb) (xN op cb) (yN op cb) op
structure isT (op : Nat) (cb : Bool) : Prop where
  f : ∃ u v : Int, T.formS (op : Int) cb = ((kN op cb : Int), (xN op cb : Int), (yN op cb : Int), (lN op cb : Int), u, v)
  l1 : 1 ≤ lN op cb
  l3 : lN op cb ≤ 3
  ok : okF (kN op cb) (xN op cb) (yN op cb)
  pat : ∀ c ∈ patT (kN op cb) (decide (xN op cb = 4)), c < 128 ∧ (97 ≤ c ∧ c ≤ 122 → okC c (xN op cb) (yN op cb) = true)
  plen : (patT (kN op cb) (decide (xN op cb = 4))).length ≤ 20
  eq : spS (kN op cb) (xN op cb) (yN op cb) op = tx op cb
  len : (tx op cb).length ≤ 20
theorem is_tab {op : Nat} (h : op < 256) (cb : Bool) : isT op cb := by
  obtain ⟨a1, a2, a3, a4, a5, a6, a7, a8, a9, a10⟩ := tab_fin ⟨op, h⟩ cb
  dsimp only at a1 a2 a3 a4 a5 a6 a7 a8 a9 a10
  unfold okB at a6
  rw [decide_eq_true_eq] at a6
  refine ⟨⟨(T.formS (op : Int) cb).2.2.2.2.1, (T.formS (op : Int) cb).2.2.2.2.2, ?_⟩, ?_, ?_, ⟨a6.1, a6.2.1, a6.2.2.1, a6.2.2.2.1, a6.2.2.2.2⟩, fun c hc => ?_, a8, a9, a10⟩
  · unfold kN xN yN lN
    rw [Int.toNat_of_nonneg a1, Int.toNat_of_nonneg a2, Int.toNat_of_nonneg a3, Int.toNat_of_nonneg (by omega)]
  · unfold lN; omega
  · unfold lN; omega
  · have := List.all_eq_true.1 a7 c hc
    rw [Bool.and_eq_true, decide_eq_true_eq] at this
    refine ⟨this.1, fun h => ?_⟩
    have h2 := this.2
    rw [decide_eq_true h] at h2
    simpa using h2
theorem dec_spec {op : Nat} (h : op < 256) : opcode_Decode.F ((op : Int), ()) = some (T.formS (op : Int) false, ()) := by
  show T.opcode_Decode.F ((op : Int), ()) = _
  unfold T.opcode_Decode.F T.tabF
  exact if_pos ⟨by omega, by show (op : Int) ≤ 255; omega⟩
theorem deccb_spec {op : Nat} (h : op < 256) : opcode_DecodeCB.F ((op : Int), ()) = some (T.formS (op : Int) true, ()) := by
  show T.opcode_DecodeCB.F ((op : Int), ()) = _
  unfold T.opcode_DecodeCB.F T.tabF
  exact if_pos ⟨by omega, by show (op : Int) ≤ 255; omega⟩
theorem rdec_spec {op : Nat} (h : op < 256) : ref05_Decode.F ((op : Int), ()) = some (T.formS (op : Int) false, ()) := T.rdec_spec (by omega) (by omega)
theorem rdeccb_spec {op : Nat} (h : op < 256) : ref05_DecodeCB.F ((op : Int), ()) = some (T.formS (op : Int) true, ()) := T.rcb_spec (by omega) (by omega)
theorem form_spec {op : Nat} (h : op < 256) (cb : Bool) : listing_form.F ((op : Int), cb, ()) = some (T.formS (op : Int) cb, ()) := by
  unfold listing_form.F listing_form.C listing_form.G
  cases cb with
  | true => exact (if_pos rfl).trans ((bind_eq (deccb_spec h)).trans rfl)
  | false => exact (if_neg (show ¬ (false = true) by decide)).trans ((bind_eq (dec_spec h)).trans rfl)
theorem rform_spec {op : Nat} (h : op < 256) (cb : Bool) : ref06_form.F ((op : Int), cb, ()) = some (T.formS (op : Int) cb, ()) := by
  unfold ref06_form.F ref06_form.C ref06_form.G
  cases cb with
  | true => exact (if_pos rfl).trans ((bind_eq (rdeccb_spec h)).trans rfl)
  | false => exact (if_neg (show ¬ (false = true) by decide)).trans ((bind_eq (rdec_spec h)).trans rfl)
/-- a line -/
def txS (op : Nat) (cb : Bool) (lo hi : Nat) : ByteArray := evS (dolB lo) (dolW hi lo) (tx op cb)
theorem ltext_spec {op lo hi : Nat} (h : op < 256) (h2 : lo < 256) (h3 : hi < 256) (cb : Bool) : listing_Text.F ((op : Int), cb, (lo : Int), (hi : Int), ()) = some (txS op cb lo hi, ()) := by
  have t := is_tab h cb
  obtain ⟨u, v, hf⟩ := t.f
  unfold listing_Text.F listing_Text.C listing_Text.G
  dsimp only
  refine (bind_eq (form_spec h cb)).trans ?_
  refine (bind_eq (hex_spec h2)).trans ?_
  refine (if_pos (by rw [decide_eq_true_eq, hex_size]; decide)).trans ?_
  refine (bind_eq (wjoin_spec h3 h2)).trans ?_
  refine (bind_eq (whex16_spec h3 h2)).trans ?_
  refine (if_pos (by rw [decide_eq_true_eq, ba_size, hex_size, hex_size]; decide)).trans ?_
  have e := text_spec (B := dolB lo) (W := dolW hi lo) (by rw [dolB_size]; decide) (by rw [dolB_size]; decide) (by rw [dolW_size]; decide) (by rw [dolW_size]; decide) t.ok (lN op cb : Int) u v h
  rw [t.eq] at e
  refine (bind_eq (show listing_text.F (T.formS (op : Int) cb, (op : Int), dolB lo, dolW hi lo, ()) = _ by rw [hf]; exact e)).trans rfl
abbrev rtD := ((Int × Int × Int × Unit × ByteArray × ByteArray × Int × Unit) × ((Int × Int × Int × Int × Int × Int × Unit) × Unit) × Unit)
abbrev rtX := ((ByteArray × Unit) × Unit × Unit)
noncomputable def rtstep (x : rtD) : Option (rtD ⊕ rtX) := ref06_Text.L0.step ref06_means.F x.1.1 x.1.2.1 x.1.2.2.1 x.1.2.2.2.2.1 x.1.2.2.2.2.2.1 x.1.2.2.2.2.2.2.1 x.2.1.1.1 x.2.1.1.2.1 x.2.1.1.2.2.1 x.2.1.1.2.2.2.1 x.2.1.1.2.2.2.2.1 x.2.1.1.2.2.2.2.2.1
theorem rt_F_eq : ref06_Text.L0.F = iterU rtstep := rfl
theorem pat_size (l : List Nat) : (evS .empty .empty (cs l)).size = l.length := by
  show ((cs l).flatMap (byL .empty .empty)).toArray.size = _
  rw [List.size_toArray]
  unfold cs
  rw [List.flatMap_map]
  induction l with
  | nil => rfl
  | cons a l ih => rw [List.flatMap_cons, List.length_append, ih]; show 1 + _ = _; simp; omega
theorem pat_list (l : List Nat) : (evS .empty .empty (cs l)).data.toList = l.map UInt8.ofNat := by
  show ((cs l).flatMap (byL .empty .empty)).toArray.toList = _
  unfold cs
  rw [List.flatMap_map]
  induction l with
  | nil => rfl
  | cons a l ih => rw [List.flatMap_cons, List.map_cons, ← ih]; rfl
theorem pat_at {l : List Nat} {i : Nat} (h : i < l.length) (hc : ∀ c ∈ l, c < 128) : ((UInt8.toNat (List.getD (evS .empty .empty (cs l)).data.toList i (UInt8.ofNat 0)) : Nat) : Int) = ((l.getD i 0 : Nat) : Int) := by
  rw [pat_list, List.getD_eq_getElem?_getD, List.getElem?_map, List.getElem?_eq_getElem h, List.getD_eq_getElem?_getD, List.getElem?_eq_getElem h]
  have := hc l[i] (List.getElem_mem h)
  simp only [Option.map_some, Option.getD_some]
  show (((UInt8.ofNat l[i]).toNat : Nat) : Int) = _
  rw [UInt8.toNat_ofNat']
  omega
theorem pat_ext {l : List Nat} {i : Nat} (h : i < l.length) (B W : ByteArray) : (evS .empty .empty (cs l)).extract i (i + 1) = evS B W [.c (l.getD i 0)] := by
  apply ba_ext
  rw [ByteArray.data_extract, Array.toList_extract, pat_list]
  rw [List.getD_eq_getElem?_getD, List.getElem?_eq_getElem h]
  show List.extract _ i (i + 1) = [UInt8.ofNat l[i]]
  rw [List.extract_eq_take_drop, Nat.add_sub_cancel_left, List.drop_eq_getElem_cons (by rw [List.length_map]; exact h), List.take_succ_cons, List.take_zero, List.getElem_map]
theorem ref_text_spec {op lo hi : Nat} (h : op < 256) (h2 : lo < 256) (h3 : hi < 256) (cb : Bool) : ref06_Text.F ((op : Int), cb, (lo : Int), (hi : Int), ()) = some (txS op cb lo hi, ()) := by
  have t := is_tab h cb
  obtain ⟨u, v, hf⟩ := t.f
  unfold ref06_Text.F ref06_Text.C ref06_Text.G
  dsimp only
  refine (bind_eq (rform_spec h cb)).trans ?_
  rw [hf]
  have eb : ((xN op cb : Int) == 4) = decide (xN op cb = 4) := by
    by_cases q : xN op cb = 4
    · rw [q]; rfl
    · rw [decide_eq_false q]; exact beq_eq_false_iff_ne.2 (by omega)
  refine (bind_eq (show ref06_Pattern.F ((kN op cb : Int), (xN op cb : Int) == 4, ()) = _ by rw [eb]; exact pat_fin ⟨kN op cb, t.ok.hk⟩ (decide (xN op cb = 4)))).trans ?_
  obtain ⟨p, hp⟩ : ∃ p, patT (kN op cb) (decide (xN op cb = 4)) = p := ⟨_, rfl⟩
  have hpat := t.pat
  have hplen := t.plen
  rw [hp] at hpat hplen
  dsimp only
  rw [hp, rt_F_eq]
  obtain ⟨B, hB⟩ : ∃ B, dolB lo = B := ⟨_, rfl⟩
  obtain ⟨W, hW⟩ : ∃ W, dolW hi lo = W := ⟨_, rfl⟩
  have bB : B.size = 3 := by rw [← hB]; exact dolB_size lo
  have bW : W.size = 5 := by rw [← hW]; exact dolW_size hi lo
  have st0 := iterU_range (step := rtstep) (fun i => (((op : Int), (lo : Int), (hi : Int), (), evS .empty .empty (cs p), evS B W ((p.take i).flatMap (chS (xN op cb) (yN op cb) op)), (i : Int), ()), (((kN op cb : Int), (xN op cb : Int), (yN op cb : Int), (lN op cb : Int), u, v, ()), ()), ()))
    ((evS B W (p.flatMap (chS (xN op cb) (yN op cb) op)), ()), (), ()) p.length ?_ ?_ 0 (by omega)
  · refine (bind_eq st0).trans ?_
    unfold txS tx srS
    rw [hp, hB, hW]
  · intro i hi'
    obtain ⟨c, hc⟩ : ∃ c, p.getD i 0 = c := ⟨_, rfl⟩
    have hmem : c ∈ p := by
      rw [← hc, List.getD_eq_getElem?_getD, List.getElem?_eq_getElem hi']; exact List.getElem_mem hi'
    obtain ⟨c128, cok⟩ := hpat c hmem
    have at' := pat_at hi' (fun c hc => (hpat c hc).1)
    rw [hc] at at'
    have g : (0 : Int) ≤ (i : Int) ∧ (i : Int) < ((evS .empty .empty (cs p)).size : Int) := by rw [pat_size]; exact ⟨by omega, by omega⟩
    have ei : wrap .i64 ((i : Int) + 1) = ((i + 1 : Nat) : Int) := by rw [w64 (by omega)]; omega
    have etake : p.take (i + 1) = p.take i ++ [c] := by
      rw [List.take_succ_eq_append_getElem hi', ← hc, List.getD_eq_getElem?_getD, List.getElem?_eq_getElem hi']; rfl
    have efl : evS B W ((p.take (i + 1)).flatMap (chS (xN op cb) (yN op cb) op)) = evS B W ((p.take i).flatMap (chS (xN op cb) (yN op cb) op)) ++ evS B W (chS (xN op cb) (yN op cb) op c) := by
      rw [etake, List.flatMap_append, evS_app, List.flatMap_singleton]
    have lch : ∀ c, (chS (xN op cb) (yN op cb) op c).length ≤ 5 := by
      intro c
      have := regT_len (xN op cb); have := regT_len (yN op cb); have := pairT_len (xN op cb); have := placeT_len (xN op cb); have := opnT_len (xN op cb); have := shfT_len (xN op cb); have := cndT_len (xN op cb)
      unfold chS meanS
      repeat' apply ite_pred (Q := fun l : List Sy => l.length ≤ 5)
      all_goals (simp only [cs, List.length_map, List.length_cons, List.length_nil, hexSy]; omega)
    have lsum : ∀ q : List Nat, (q.flatMap (chS (xN op cb) (yN op cb) op)).length ≤ 5 * q.length := by
      intro q
      induction q with
      | nil => exact Nat.le_refl _
      | cons a q ih => rw [List.flatMap_cons, List.length_append, List.length_cons]; have := lch a; omega
    have s1 := evS_size (B := B) (W := W) (by omega) (by omega) ((p.take i).flatMap (chS (xN op cb) (yN op cb) op))
    have s2 := lsum (p.take i)
    have s3 := evS_size (B := B) (W := W) (by omega) (by omega) (chS (xN op cb) (yN op cb) op c)
    have s4 := lch c
    have s5 : (p.take i).length ≤ 20 := by rw [List.length_take]; omega
    have fin : ∀ z, z = evS B W (chS (xN op cb) (yN op cb) op c) → (some (Sum.inl (((op : Int), (lo : Int), (hi : Int), (), evS .empty .empty (cs p), evS B W ((p.take i).flatMap (chS (xN op cb) (yN op cb) op)) ++ z, wrap .i64 ((i : Int) + 1), ()), (((kN op cb : Int), (xN op cb : Int), (yN op cb : Int), (lN op cb : Int), u, v, ()), ()), ())) : Option (rtD ⊕ rtX)) =
        some (Sum.inl (((op : Int), (lo : Int), (hi : Int), (), evS .empty .empty (cs p), evS B W ((p.take (i + 1)).flatMap (chS (xN op cb) (yN op cb) op)), ((i + 1 : Nat) : Int), ()), (((kN op cb : Int), (xN op cb : Int), (yN op cb : Int), (lN op cb : Int), u, v, ()), ()), ())) := by
      intro z hz
      rw [efl, hz, ei]
    have lit : chS (xN op cb) (yN op cb) op c = [.c c] → ∀ K : Option (rtD ⊕ rtX), K = none → (if (0 : Int) ≤ (i : Int) ∧ (i : Int) ≤ wrap .i64 ((i : Int) + 1) ∧ wrap .i64 ((i : Int) + 1) ≤ ((evS .empty .empty (cs p)).size : Int) then
        (if decide ((evS B W ((p.take i).flatMap (chS (xN op cb) (yN op cb) op))).size + ((evS .empty .empty (cs p)).extract (Int.toNat (i : Int)) (Int.toNat (wrap .i64 ((i : Int) + 1)))).size ≤ 9223372036854775807) = true then some (Sum.inl (((op : Int), (lo : Int), (hi : Int), (), evS .empty .empty (cs p), evS B W ((p.take i).flatMap (chS (xN op cb) (yN op cb) op)) ++ (evS .empty .empty (cs p)).extract (Int.toNat (i : Int)) (Int.toNat (wrap .i64 ((i : Int) + 1))), wrap .i64 ((i : Int) + 1), ()), (((kN op cb : Int), (xN op cb : Int), (yN op cb : Int), (lN op cb : Int), u, v, ()), ()), ())) else K) else K : Option (rtD ⊕ rtX)) =
        some (Sum.inl (((op : Int), (lo : Int), (hi : Int), (), evS .empty .empty (cs p), evS B W ((p.take (i + 1)).flatMap (chS (xN op cb) (yN op cb) op)), ((i + 1 : Nat) : Int), ()), (((kN op cb : Int), (xN op cb : Int), (yN op cb : Int), (lN op cb : Int), u, v, ()), ()), ())) := by
      intro hl K hK
      have ex : (evS .empty .empty (cs p)).extract (Int.toNat (i : Int)) (Int.toNat (wrap .i64 ((i : Int) + 1))) = evS B W (chS (xN op cb) (yN op cb) op c) := by
        rw [ei, Int.toNat_natCast, Int.toNat_natCast, pat_ext hi' B W, hc, hl]
      rw [ex]
      refine (if_pos ⟨by omega, by rw [ei]; omega, by rw [ei, pat_size]; omega⟩).trans ?_
      refine (if_pos (by rw [decide_eq_true_eq]; omega)).trans ?_
      exact fin _ rfl
    unfold rtstep ref06_Text.L0.step
    dsimp only
    refine (if_pos (decide_eq_true g.2)).trans ?_
    refine (if_pos g).trans ?_
    rw [Int.toNat_natCast, at']
    by_cases q1 : 97 ≤ c
    · refine (if_pos (show (decide ((c : Int) ≥ 97) == true) = true by rw [decide_eq_true (by omega)]; rfl)).trans ?_
      refine (if_pos g).trans ?_
      by_cases q2 : c ≤ 122
      · refine (if_pos (show decide ((c : Int) ≤ 122) = true by rw [decide_eq_true_eq]; omega)).trans ?_
        refine (if_pos g).trans ?_
        have m := mean_spec (cok ⟨q1, q2⟩) (lN op cb : Int) u v (kN op cb : Int) h h2 h3
        rw [hB, hW] at m
        refine (bind_eq m).trans ?_
        have ec : chS (xN op cb) (yN op cb) op c = meanS c (xN op cb) (yN op cb) op := if_pos ⟨q1, q2⟩
        rw [ec] at s3 s4 fin
        refine (if_pos (by rw [decide_eq_true_eq]; dsimp only; omega)).trans ?_
        exact fin _ rfl
      · refine (if_neg (show ¬ decide ((c : Int) ≤ 122) = true by rw [decide_eq_true_eq]; omega)).trans ?_
        have := lit (if_neg (by omega)) none rfl
        rw [Int.toNat_natCast] at this
        exact this
    · refine (if_neg (show ¬ (decide ((c : Int) ≥ 97) == true) = true by rw [decide_eq_false (by omega)]; decide)).trans ?_
      have := lit (if_neg (by omega)) none rfl
      rw [Int.toNat_natCast] at this
      exact this
  · unfold rtstep ref06_Text.L0.step
    dsimp only
    refine (if_neg (by rw [decide_eq_true_eq, pat_size]; omega)).trans ?_
    rw [List.take_length]
end Go.Proofs.YtkdeheoonannoaaDoor.E
