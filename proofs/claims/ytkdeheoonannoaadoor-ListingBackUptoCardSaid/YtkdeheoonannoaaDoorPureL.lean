/- Functions of the program as plain Lean, and what they come to. Conditions: none. -/
import Derived.Test.YtkdeheoonannoaaDoorEwD
import Derived.Test.YtkdeheoonannoaaDoorWalkL
open Go Go.Ew
namespace Go.Proofs.YtkdeheoonannoaaDoor.E
open Go.IntKind (wrap)
set_option linter.unusedVariables false
set_option linter.unusedSimpArgs false
set_option maxRecDepth 100000
/-! what bytes begin with -/
def dbT : List Sy := cs [68, 66, 32, 36]
def dbS (v : Nat) : ByteArray := bs [68, 66, 32, 36] ++ hexB v
def bN (b : List Int) (i : Nat) : Nat := (b.getD i 0).toNat
def okBy (b : List Int) : Prop := ∀ v ∈ b, 0 ≤ v ∧ v ≤ 255
theorem bN_lt {b : List Int} (h : okBy b) (i : Nat) : bN b i < 256 ∧ b.getD i 0 = (bN b i : Int) := by
  have : 0 ≤ b.getD i 0 ∧ b.getD i 0 ≤ 255 := by
    rcases Nat.lt_or_ge i b.length with g | g
    · rw [List.getD_eq_getElem?_getD, List.getElem?_eq_getElem g]
      exact h _ (List.getElem_mem g)
    · rw [List.getD_eq_getElem?_getD, List.getElem?_eq_none g]
      exact ⟨by decide, by decide⟩
  unfold bN
  omega
/-- how many bytes, and the line -/
def oneS (b : List Int) : ByteArray × Nat :=
  if b.length = 0 then (bs [], 0) else
  if kN (bN b 0) false = 6 ∧ 1 < b.length then (txS (bN b 1) true 0 0, 2) else
  if b.length < lN (bN b 0) false then (dbS (bN b 0), 1) else
  (txS (bN b 0) false (if 1 < lN (bN b 0) false then bN b 1 else 0) (if 2 < lN (bN b 0) false then bN b 2 else 0), lN (bN b 0) false)
theorem len_fin : ∀ op : Fin 256, lN op.val true = 2 ∧ (kN op.val false = 6 → lN op.val false = 1 ∧ txS op.val false 0 0 = dbS op.val) := by decide +kernel
theorem kb_beq {k : Nat} {v : Int} (h : v = (k : Int)) (n : Nat) : (v == (n : Int)) = decide (k = n) := by
  subst h
  by_cases q : k = n
  · rw [q]; simp
  · rw [decide_eq_false q]; exact beq_eq_false_iff_ne.2 (by omega)
theorem one_spec {b : List Int} (h : okBy b) : listing_One.F (b, ()) = some ((oneS b).1, ((oneS b).2 : Int), ()) := by
  obtain ⟨r, hr⟩ : ∃ r, oneS b = r := ⟨_, rfl⟩
  rw [hr]
  unfold oneS at hr
  unfold listing_One.F listing_One.C listing_One.G
  dsimp only
  by_cases l0 : b.length = 0
  · rw [if_pos l0] at hr
    subst hr
    exact if_pos (by rw [l0]; rfl)
  rw [if_neg l0] at hr
  refine (if_neg (show ¬ ((b.length : Int) == 0) = true by simp; exact fun z => l0 (by rw [z]; rfl))).trans ?_
  refine (if_pos ⟨by decide, by omega⟩).trans ?_
  obtain ⟨n0, e0⟩ := bN_lt h 0
  obtain ⟨n1, e1⟩ := bN_lt h 1
  obtain ⟨n2, e2⟩ := bN_lt h 2
  rw [e0, e1, e2]
  have t0 := tab_fin ⟨bN b 0, n0⟩ false
  have ek : (T.formS (bN b 0 : Int) false).1 = (kN (bN b 0) false : Int) := by unfold kN; have := t0.1; dsimp only at this; omega
  have el : (T.formS (bN b 0 : Int) false).2.2.2.1 = (lN (bN b 0) false : Int) := by unfold lN; have := t0.2.2.2.1; dsimp only at this; omega
  have t1 := tab_fin ⟨bN b 1, n1⟩ true
  have el1 : (T.formS (bN b 1 : Int) true).2.2.2.1 = (lN (bN b 1) true : Int) := by unfold lN; have := t1.2.2.2.1; dsimp only at this; omega
  refine (bind_eq (dec_spec n0)).trans ?_
  dsimp only
  have dbk : ∀ z : Option (ByteArray × Int × Unit), (if (0 : Int) ≤ 0 ∧ (0 : Int) < (b.length : Int) then Option.bind (word_Hex8.F ((bN b 0 : Int), ())) (fun y => if decide ((4 : Nat) + ByteArray.size y.1 ≤ 9223372036854775807) = true then some (bs [68, 66, 32, 36] ++ y.1, (1 : Int), ()) else z) else z) = some (dbS (bN b 0), 1, ()) := by
    intro z
    refine (if_pos ⟨by decide, by omega⟩).trans ?_
    refine (bind_eq (hex_spec n0)).trans ?_
    exact if_pos (by rw [decide_eq_true_eq, hex_size]; decide)
  by_cases k6 : kN (bN b 0) false = 6
  · have lk := ((len_fin ⟨bN b 0, n0⟩).2 k6).1
    dsimp only at lk
    refine (if_pos (show (((T.formS (bN b 0 : Int) false).1 == 6) == true) = true by rw [ek, k6]; rfl)).trans ?_
    by_cases l1 : 1 < b.length
    · rw [if_pos ⟨k6, l1⟩] at hr
      subst hr
      refine (if_pos (show decide ((b.length : Int) > 1) = true by rw [decide_eq_true_eq]; omega)).trans ?_
      refine (if_pos (show (0:Int) ≤ 1 ∧ (1:Int) < (b.length:Int) from ⟨by decide, by omega⟩)).trans ?_
      refine (bind_eq (deccb_spec n1)).trans ?_
      dsimp only
      have lcb : lN (bN b 1) true = 2 := (len_fin ⟨bN b 1, n1⟩).1
      rw [lcb] at el1
      refine (if_neg (show ¬ decide ((b.length : Int) < (T.formS (bN b 1 : Int) true).2.2.2.1) = true by rw [el1, decide_eq_true_eq]; omega)).trans ?_
      refine (if_neg (show ¬ decide ((T.formS (bN b 1 : Int) true).2.2.2.1 > 2) = true by rw [el1]; decide)).trans ?_
      refine (bind_eq (ltext_spec (lo := 0) (hi := 0) n1 (by decide) (by decide) true)).trans ?_
      rw [el1]
    · rw [if_neg (fun z => l1 z.2), if_neg (show ¬ b.length < lN (bN b 0) false by omega), if_neg (show ¬ 1 < lN (bN b 0) false by omega), if_neg (show ¬ 2 < lN (bN b 0) false by omega)] at hr
      subst hr
      refine (if_neg (show ¬ decide ((b.length : Int) > 1) = true by rw [decide_eq_true_eq]; omega)).trans ?_
      refine (if_neg (show ¬ decide ((b.length : Int) < (T.formS (bN b 0 : Int) false).2.2.2.1) = true by rw [decide_eq_true_eq]; omega)).trans ?_
      refine (if_neg (show ¬ decide ((T.formS (bN b 0 : Int) false).2.2.2.1 > 1) = true by rw [decide_eq_true_eq]; omega)).trans ?_
      refine (if_neg (show ¬ decide ((T.formS (bN b 0 : Int) false).2.2.2.1 > 2) = true by rw [decide_eq_true_eq]; omega)).trans ?_
      refine (bind_eq (ltext_spec (lo := 0) (hi := 0) n0 (by decide) (by decide) false)).trans ?_
      rw [el]
  · rw [if_neg (fun z => k6 z.1)] at hr
    refine (if_neg (show ¬ (((T.formS (bN b 0 : Int) false).1 == 6) == true) = true by rw [ek]; intro z; exact k6 (Int.ofNat_inj.1 (by simpa using z)))).trans ?_
    by_cases ls : b.length < lN (bN b 0) false
    · rw [if_pos ls] at hr
      subst hr
      refine (if_pos (show decide ((b.length : Int) < (T.formS (bN b 0 : Int) false).2.2.2.1) = true by rw [decide_eq_true_eq]; omega)).trans ?_
      exact dbk _
    · rw [if_neg ls] at hr
      refine (if_neg (show ¬ decide ((b.length : Int) < (T.formS (bN b 0 : Int) false).2.2.2.1) = true by rw [decide_eq_true_eq]; omega)).trans ?_
      by_cases g1 : 1 < lN (bN b 0) false
      · rw [if_pos g1] at hr
        refine (if_pos (show decide ((T.formS (bN b 0 : Int) false).2.2.2.1 > 1) = true by rw [decide_eq_true_eq]; omega)).trans ?_
        refine (if_pos ⟨by decide, by omega⟩).trans ?_
        by_cases g2 : 2 < lN (bN b 0) false
        · rw [if_pos g2] at hr
          subst hr
          refine (if_pos (show decide ((T.formS (bN b 0 : Int) false).2.2.2.1 > 2) = true by rw [decide_eq_true_eq]; omega)).trans ?_
          refine (if_pos ⟨by decide, by omega⟩).trans ?_
          refine (bind_eq (ltext_spec n0 n1 n2 false)).trans ?_
          rw [el]
        · rw [if_neg g2] at hr
          subst hr
          refine (if_neg (show ¬ decide ((T.formS (bN b 0 : Int) false).2.2.2.1 > 2) = true by rw [decide_eq_true_eq]; omega)).trans ?_
          refine (bind_eq (ltext_spec (hi := 0) n0 n1 (by decide) false)).trans ?_
          rw [el]
      · rw [if_neg g1, if_neg (show ¬ 2 < lN (bN b 0) false by omega)] at hr
        subst hr
        refine (if_neg (show ¬ decide ((T.formS (bN b 0 : Int) false).2.2.2.1 > 1) = true by rw [decide_eq_true_eq]; omega)).trans ?_
        refine (if_neg (show ¬ decide ((T.formS (bN b 0 : Int) false).2.2.2.1 > 2) = true by rw [decide_eq_true_eq]; omega)).trans ?_
        refine (bind_eq (ltext_spec (lo := 0) (hi := 0) n0 (by decide) (by decide) false)).trans ?_
        rw [el]
theorem rone_spec {b : List Int} (h : okBy b) : ref06_One.F (b, ()) = some ((oneS b).1, ((oneS b).2 : Int), ()) := by
  obtain ⟨r, hr⟩ : ∃ r, oneS b = r := ⟨_, rfl⟩
  rw [hr]
  unfold oneS at hr
  unfold ref06_One.F ref06_One.C ref06_One.G
  dsimp only
  by_cases l0 : b.length = 0
  · rw [if_pos l0] at hr
    subst hr
    exact if_pos (by rw [l0]; rfl)
  rw [if_neg l0] at hr
  refine (if_neg (show ¬ ((b.length : Int) == 0) = true by simp; exact fun z => l0 (by rw [z]; rfl))).trans ?_
  refine (if_pos ⟨by decide, by omega⟩).trans ?_
  obtain ⟨n0, e0⟩ := bN_lt h 0
  obtain ⟨n1, e1⟩ := bN_lt h 1
  obtain ⟨n2, e2⟩ := bN_lt h 2
  rw [e0, e1, e2]
  have t0 := tab_fin ⟨bN b 0, n0⟩ false
  have ek : (T.formS (bN b 0 : Int) false).1 = (kN (bN b 0) false : Int) := by unfold kN; have := t0.1; dsimp only at this; omega
  have el : (T.formS (bN b 0 : Int) false).2.2.2.1 = (lN (bN b 0) false : Int) := by unfold lN; have := t0.2.2.2.1; dsimp only at this; omega
  have hl1 : 1 ≤ lN (bN b 0) false := by have := t0.2.2.2.1; dsimp only at this; omega
  have hl3 : lN (bN b 0) false ≤ 3 := by have := t0.2.2.2.2.1; dsimp only at this; omega
  refine (bind_eq (rform_spec n0 false)).trans ?_
  dsimp only
  have dbk : ∀ z : Option (ByteArray × Int × Unit), (if (0 : Int) ≤ 0 ∧ (0 : Int) < (b.length : Int) then Option.bind (ref01_Hex8.F ((bN b 0 : Int), ())) (fun y => if decide ((4 : Nat) + ByteArray.size y.1 ≤ 9223372036854775807) = true then some (bs [68, 66, 32, 36] ++ y.1, (1 : Int), ()) else z) else z) = some (dbS (bN b 0), 1, ()) := by
    intro z
    refine (if_pos ⟨by decide, by omega⟩).trans ?_
    refine (bind_eq (rhex_spec n0)).trans ?_
    exact if_pos (by rw [decide_eq_true_eq, hex_size]; decide)
  by_cases k6 : kN (bN b 0) false = 6
  · have lk := ((len_fin ⟨bN b 0, n0⟩).2 k6)
    dsimp only at lk
    refine (if_pos (show (((T.formS (bN b 0 : Int) false).1 == 6) == true) = true by rw [ek, k6]; rfl)).trans ?_
    by_cases l1 : 1 < b.length
    · rw [if_pos ⟨k6, l1⟩] at hr
      subst hr
      refine (if_pos (show decide ((b.length : Int) > 1) = true by rw [decide_eq_true_eq]; omega)).trans ?_
      refine (if_pos (show (0:Int) ≤ 1 ∧ (1:Int) < (b.length:Int) from ⟨by decide, by omega⟩)).trans ?_
      exact bind_eq (ref_text_spec (lo := 0) (hi := 0) n1 (by decide) (by decide) true)
    · rw [if_neg (fun z => l1 z.2), if_neg (show ¬ b.length < lN (bN b 0) false by omega), if_neg (show ¬ 1 < lN (bN b 0) false by omega), if_neg (show ¬ 2 < lN (bN b 0) false by omega), lk.2, lk.1] at hr
      subst hr
      refine (if_neg (show ¬ decide ((b.length : Int) > 1) = true by rw [decide_eq_true_eq]; omega)).trans ?_
      refine (if_pos (show (decide ((b.length : Int) < (T.formS (bN b 0 : Int) false).2.2.2.1) == false) = true by rw [decide_eq_false (by omega)]; rfl)).trans ?_
      refine (if_pos (show ((T.formS (bN b 0 : Int) false).1 == 6) = true by rw [ek, k6]; rfl)).trans ?_
      exact dbk _
  · rw [if_neg (fun z => k6 z.1)] at hr
    have nk : ¬ ((T.formS (bN b 0 : Int) false).1 == 6) = true := by rw [ek]; intro z; exact k6 (Int.ofNat_inj.1 (by simpa using z))
    refine (if_neg (show ¬ (((T.formS (bN b 0 : Int) false).1 == 6) == true) = true by rw [Bool.not_eq_true _ |>.mp nk]; decide)).trans ?_
    by_cases ls : b.length < lN (bN b 0) false
    · rw [if_pos ls] at hr
      subst hr
      refine (if_neg (show ¬ (decide ((b.length : Int) < (T.formS (bN b 0 : Int) false).2.2.2.1) == false) = true by rw [decide_eq_true (by omega)]; decide)).trans ?_
      exact dbk _
    · rw [if_neg ls] at hr
      refine (if_pos (show (decide ((b.length : Int) < (T.formS (bN b 0 : Int) false).2.2.2.1) == false) = true by rw [decide_eq_false (by omega)]; rfl)).trans ?_
      refine (if_neg nk).trans ?_
      have cs : lN (bN b 0) false = 1 ∨ lN (bN b 0) false = 2 ∨ lN (bN b 0) false = 3 := by omega
      rcases cs with c | c | c
      · rw [c, if_neg (by decide), if_neg (by decide)] at hr
        subst hr
        refine (if_neg (show ¬ ((T.formS (bN b 0 : Int) false).2.2.2.1 == 2) = true by rw [el, c]; decide)).trans ?_
        refine (if_neg (show ¬ ((T.formS (bN b 0 : Int) false).2.2.2.1 == 3) = true by rw [el, c]; decide)).trans ?_
        refine (if_pos (show (0:Int) ≤ 0 ∧ (0:Int) < (b.length:Int) from ⟨by decide, by omega⟩)).trans ?_
        exact bind_eq (ref_text_spec (lo := 0) (hi := 0) n0 (by decide) (by decide) false)
      · rw [c, if_pos (by decide), if_neg (by decide)] at hr
        subst hr
        refine (if_pos (show ((T.formS (bN b 0 : Int) false).2.2.2.1 == 2) = true by rw [el, c]; rfl)).trans ?_
        refine (if_pos (show (0:Int) ≤ 0 ∧ (0:Int) < (b.length:Int) from ⟨by decide, by omega⟩)).trans ?_
        refine (if_pos (show (0:Int) ≤ 1 ∧ (1:Int) < (b.length:Int) from ⟨by decide, by omega⟩)).trans ?_
        exact bind_eq (ref_text_spec (hi := 0) n0 n1 (by decide) false)
      · rw [c, if_pos (by decide), if_pos (by decide)] at hr
        subst hr
        refine (if_neg (show ¬ ((T.formS (bN b 0 : Int) false).2.2.2.1 == 2) = true by rw [el, c]; decide)).trans ?_
        refine (if_pos (show ((T.formS (bN b 0 : Int) false).2.2.2.1 == 3) = true by rw [el, c]; rfl)).trans ?_
        refine (if_pos (show (0:Int) ≤ 0 ∧ (0:Int) < (b.length:Int) from ⟨by decide, by omega⟩)).trans ?_
        refine (if_pos (show (0:Int) ≤ 1 ∧ (1:Int) < (b.length:Int) from ⟨by decide, by omega⟩)).trans ?_
        refine (if_pos (show (0:Int) ≤ 2 ∧ (2:Int) < (b.length:Int) from ⟨by decide, by omega⟩)).trans ?_
        exact bind_eq (ref_text_spec n0 n1 n2 false)
/-! what they show -/
theorem shown_true : law06_shown.F () = some (true, ()) := by
  unfold law06_shown.F law06_shown.C law06_shown.G
  refine (bind_eq (one_spec (b := [62, 18]) (by intro v hv; simp at hv; omega))).trans ?_
  refine (bind_eq (one_spec (b := [203, 126]) (by intro v hv; simp at hv; omega))).trans ?_
  have ha : listing_Assemble.F (bs [74, 80, 32, 78, 90, 44, 36, 49, 50, 51, 52], ()) = some ([194, 52, 18], 0, ()) := by decide +kernel
  refine (bind_eq ha).trans ?_
  have h1 : oneS [62, 18] = (bs [76, 68, 32, 65, 44, 36, 49, 50], 2) := by decide +kernel
  have h2 : oneS [203, 126] = (bs [66, 73, 84, 32, 55, 44, 40, 72, 76, 41], 2) := by decide +kernel
  rw [h1, h2]
  decide +kernel
/-! the single texts and the single lines -/
theorem ones_true {b : List Int} (h : okBy b) : law06_ListingOnes.F (b, ()) = some (true, ()) := by
  unfold law06_ListingOnes.F law06_ListingOnes.C law06_ListingOnes.G
  refine (bind_eq shown_true).trans ((bind_eq (one_spec h)).trans ((bind_eq (rone_spec h)).trans ?_))
  refine (if_pos rfl).trans ((if_pos (by rw [sEq_iff.2 rfl]; rfl)).trans ?_)
  rw [beq_self_eq_true]
theorem texts_true {op w : Nat} (cb : Bool) (h : op < 256) (hw : w < 65536) : law06_ListingTexts.F ((op : Int), cb, (w : Int), ()) = some (true, ()) := by
  unfold law06_ListingTexts.F law06_ListingTexts.C law06_ListingTexts.G
  refine (bind_eq shown_true).trans ((if_pos rfl).trans ?_)
  have e1 : wrap .u8 (w : Int) = ((w % 256 : Nat) : Int) := rfl
  have e2 : wrap .u8 (Int.fdiv (w : Int) 256) = ((w / 256 : Nat) : Int) := by
    rw [show Int.fdiv (w : Int) 256 = ((w / 256 : Nat) : Int) by rw [Int.fdiv_eq_ediv_of_nonneg _ (by decide)]; rfl]
    show ((w / 256 % 256 : Nat) : Int) = _
    rw [Nat.mod_eq_of_lt (show w / 256 < 256 by omega)]
  dsimp only
  rw [e1, e2]
  refine (bind_eq (ltext_spec h (by omega) (by omega) cb)).trans ((bind_eq (ref_text_spec h (by omega) (by omega) cb)).trans ?_)
  rw [sEq_iff.2 rfl]
theorem ones_walk : LawOK Tryd.prog 4 law06_ListingOnes.as := .of law06_ListingOnes.ok fun x h => by
  obtain ⟨b, u⟩ := x
  exact ones_true (fun v hv => wf_u8.1 (h.1.2 v hv))
theorem texts_wf {op w : Int} {cb : Bool} (h1 : 0 ≤ op ∧ op ≤ 255) (h2 : 0 ≤ w ∧ w ≤ 65535) : law06_ListingTexts.F (op, cb, w, ()) = some (true, ()) := by
  obtain ⟨o, rfl⟩ : ∃ o : Nat, op = o := ⟨op.toNat, by omega⟩
  obtain ⟨v, rfl⟩ : ∃ v : Nat, w = v := ⟨w.toNat, by omega⟩
  exact texts_true cb (by omega) (by omega)
theorem texts_walk : LawOK Tryd.prog 3 law06_ListingTexts.as := .of law06_ListingTexts.ok fun x h => texts_wf (wf_u8.1 h.1) (wf_u16.1 h.2.2.1)
end Go.Proofs.YtkdeheoonannoaaDoor.E
