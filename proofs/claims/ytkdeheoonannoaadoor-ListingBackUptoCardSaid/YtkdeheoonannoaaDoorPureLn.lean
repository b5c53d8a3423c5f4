/- Functions of the program as plain Lean, and what they come to. Conditions: none. -/
import Derived.Test.YtkdeheoonannoaaDoorEwD
import Derived.Test.YtkdeheoonannoaaDoorPureL
open Go Go.Ew
namespace Go.Proofs.YtkdeheoonannoaaDoor.E
open Go.IntKind (wrap)
set_option linter.unusedVariables false
set_option linter.unusedSimpArgs false
set_option maxRecDepth 100000
/-! the lines -/
theorem one_len {b : List Int} (h : okBy b) (h0 : b.length ≠ 0) : 1 ≤ (oneS b).2 ∧ (oneS b).2 ≤ b.length := by
  unfold oneS
  have n0 := (bN_lt h 0).1
  have t0 := tab_fin ⟨bN b 0, n0⟩ false
  have hl1 : 1 ≤ lN (bN b 0) false := by have := t0.2.2.2.1; dsimp only at this; unfold lN; omega
  rw [if_neg h0]
  split
  · rename_i z; exact ⟨Nat.le_succ 1, z.2⟩
  split
  · exact ⟨Nat.le_refl 1, by show 1 ≤ b.length; omega⟩
  · exact ⟨hl1, by show lN (bN b 0) false ≤ b.length; omega⟩
theorem okBy_drop {b : List Int} (h : okBy b) (n : Nat) : okBy (b.drop n) := fun v hv => h v (List.mem_of_mem_drop hv)
def linesN : Nat → List Int → List ByteArray
  | 0, _ => []
  | n + 1, b => if b.length = 0 then [] else (oneS b).1 :: linesN n (b.drop (oneS b).2)
theorem app1 {α : Type} (l : List α) (x : α) : List.take (l.length + 1) (List.take l.length l ++ List.take 1 (List.drop 0 [x])) = l ++ [x] := by
  rw [List.take_length, List.drop_zero, show List.take 1 [x] = [x] from rfl]
  exact List.take_of_length_le (by simp)
theorem cut1 {α : Type} (l : List α) (k : Nat) : List.take (Int.toNat (l.length : Int) - Int.toNat (k : Int)) (List.drop (Int.toNat (k : Int)) l) = l.drop k := by
  rw [Int.toNat_natCast, Int.toNat_natCast]
  exact List.take_of_length_le (by rw [List.length_drop]; omega)
theorem whole1 {α : Type} (l : List α) : List.take l.length (List.drop 0 l) = l := by rw [List.drop_zero, List.take_length]
noncomputable def lnstep (x : ((List Int) × Unit) × Unit × ((List ByteArray) × Unit)) := listing_Lines.L0.step listing_One.F x.1.1 x.2.2.1
theorem lines_loop : ∀ (n : Nat) (b : List Int) (l : List ByteArray), okBy b → b.length ≤ n → l.length + b.length ≤ 268435456 →
    iterU lnstep ((b, ()), (), l, ()) = some ((), (), l ++ linesN n b, ())
  | n, b, l, h, hn, hl => by
    rw [iterU_eq]
    by_cases h0 : b.length = 0
    · have e : lnstep ((b, ()), (), l, ()) = some (.inr ((), (), l, ())) := by
        unfold lnstep listing_Lines.L0.step
        dsimp only
        rw [if_neg (by rw [decide_eq_true_eq]; omega), List.take_length]
      have e2 : linesN n b = [] := by
        cases n with
        | zero => rfl
        | succ n => exact if_pos h0
      rw [e, e2, List.append_nil]
    · obtain ⟨k1, k2⟩ := one_len h h0
      have e : lnstep ((b, ()), (), l, ()) = some (.inl ((b.drop (oneS b).2, ()), (), l ++ [(oneS b).1], ())) := by
        unfold lnstep listing_Lines.L0.step
        dsimp only
        refine (if_pos (by rw [decide_eq_true_eq]; omega)).trans ?_
        refine (bind_eq (one_spec h)).trans ?_
        dsimp only
        refine (if_pos (by omega)).trans ?_
        refine (if_pos ⟨by omega, by omega, by omega⟩).trans ?_
        rw [app1, cut1]
      rw [e]
      dsimp only
      cases n with
      | zero => exact absurd (Nat.le_zero.1 hn) h0
      | succ n =>
        rw [lines_loop n (b.drop (oneS b).2) (l ++ [(oneS b).1]) (okBy_drop h _) (by rw [List.length_drop]; omega) (by rw [List.length_drop, List.length_append, List.length_singleton]; omega)]
        rw [show linesN (n + 1) b = (oneS b).1 :: linesN n (b.drop (oneS b).2) from if_neg h0, List.append_assoc, List.singleton_append]
theorem lines_spec {b : List Int} (h : okBy b) (hb : b.length ≤ 268435456) : listing_Lines.F (b, ()) = some (linesN b.length b, ()) := by
  unfold listing_Lines.F listing_Lines.C listing_Lines.G
  refine (bind_eq (show listing_Lines.L0.F ((b, ()), (), [], ()) = _ from lines_loop b.length b [] h (Nat.le_refl _) (by simp; omega))).trans ?_
  dsimp only
  rw [whole1]; rfl
noncomputable def rlstep (x : ((List Int) × Int × Unit) × Unit × ((List ByteArray) × Unit)) := ref06_Lines.L0.step ref06_One.F x.1.1 x.1.2.1 x.2.2.1
theorem w64 {n : Int} (h1 : 0 ≤ n) (h2 : n ≤ 9223372036854775807) : wrap .i64 n = n := by unfold wrap; simp [IntKind.signed, IntKind.bits]; omega
theorem rlines_loop {b : List Int} (h : okBy b) (hb : b.length ≤ 268435456) : ∀ (n i : Nat) (l : List ByteArray), i ≤ b.length → b.length - i ≤ n → l.length + (b.length - i) ≤ 268435456 →
    iterU rlstep ((b, (i : Int), ()), (), l, ()) = some ((), (), l ++ linesN n (b.drop i), ())
  | n, i, l, hi, hn, hl => by
    rw [iterU_eq]
    by_cases h0 : b.length = i
    · have e : rlstep ((b, (i : Int), ()), (), l, ()) = some (.inr ((), (), l, ())) := by
        unfold rlstep ref06_Lines.L0.step
        dsimp only
        rw [if_neg (by rw [decide_eq_true_eq]; omega), List.take_length]
      have e2 : linesN n (b.drop i) = [] := by
        cases n with
        | zero => rfl
        | succ n => exact if_pos (by rw [List.length_drop]; omega)
      rw [e, e2, List.append_nil]
    · have hd := okBy_drop h i
      obtain ⟨k1, k2⟩ := one_len hd (by rw [List.length_drop]; omega)
      rw [List.length_drop] at k2
      have e : rlstep ((b, (i : Int), ()), (), l, ()) = some (.inl ((b, ((i + (oneS (b.drop i)).2 : Nat) : Int), ()), (), l ++ [(oneS (b.drop i)).1], ())) := by
        unfold rlstep ref06_Lines.L0.step
        dsimp only
        refine (if_pos (by rw [decide_eq_true_eq]; omega)).trans ?_
        refine (if_pos ⟨by omega, by omega, by omega⟩).trans ?_
        rw [cut1]
        refine (bind_eq (rone_spec hd)).trans ?_
        dsimp only
        refine (if_pos (by omega)).trans ?_
        rw [app1, w64 (by omega) (by omega)]
        rfl
      rw [e]
      dsimp only
      cases n with
      | zero => omega
      | succ n =>
        rw [rlines_loop h hb n (i + (oneS (b.drop i)).2) (l ++ [(oneS (b.drop i)).1]) (by omega) (by omega) (by rw [List.length_append, List.length_singleton]; omega)]
        rw [show linesN (n + 1) (b.drop i) = (oneS (b.drop i)).1 :: linesN n ((b.drop i).drop (oneS (b.drop i)).2) from if_neg (by rw [List.length_drop]; omega), List.append_assoc, List.singleton_append, List.drop_drop]
theorem rlines_spec {b : List Int} (h : okBy b) (hb : b.length ≤ 268435456) : ref06_Lines.F (b, ()) = some (linesN b.length b, ()) := by
  unfold ref06_Lines.F ref06_Lines.C ref06_Lines.G
  refine (bind_eq (show ref06_Lines.L0.F ((b, 0, ()), (), [], ()) = _ from rlines_loop h hb b.length 0 [] (by omega) (by omega) (by simp; omega))).trans ?_
  dsimp only
  rw [whole1, List.drop_zero]; rfl
noncomputable def smstep (x : ((List ByteArray) × (List ByteArray) × Int × Unit) × Unit × Unit) := law06_same.L0.step x.1.1 x.1.2.1 x.1.2.2.1
theorem same_spec {l : List ByteArray} (hl : l.length ≤ 9223372036854775806) : law06_same.F (l, l, ()) = some (true, ()) := by
  unfold law06_same.F law06_same.C law06_same.G
  refine (if_neg (by simp)).trans ?_
  have hs : law06_same.L0.F ((l, l, 0, ()), (), ()) = some (.inr ((), (), ())) := by
    show iterU smstep _ = _
    refine iterU_range (step := smstep) (fun i => ((l, l, (i : Int), ()), (), ())) _ l.length (fun i hi => ?_) ?_ 0 (Nat.zero_le _)
    · unfold smstep law06_same.L0.step
      dsimp only
      refine (if_pos (by rw [decide_eq_true_eq]; omega)).trans ?_
      refine (if_pos ⟨by omega, by omega⟩).trans ?_
      refine (if_pos ⟨by omega, by omega⟩).trans ?_
      refine (if_neg (by rw [sEq_iff.2 rfl]; decide)).trans ?_
      rw [w64 (by omega) (by omega)]
      rfl
    · unfold smstep law06_same.L0.step
      dsimp only
      exact if_neg (by rw [decide_eq_true_eq]; omega)
  exact bind_eq hs
theorem linesN_len : ∀ (n : Nat) (b : List Int), (linesN n b).length ≤ n
  | 0, _ => Nat.le_refl _
  | n + 1, b => by
    unfold linesN
    split
    · exact Nat.zero_le _
    · have := linesN_len n (b.drop (oneS b).2)
      simp only [List.length_cons]; omega
theorem lines_true {b : List Int} (h : okBy b) (hb : b.length ≤ 268435456) : law06_ListingLines.F (b, ()) = some (true, ()) := by
  unfold law06_ListingLines.F law06_ListingLines.C law06_ListingLines.G
  refine (bind_eq shown_true).trans ((if_pos rfl).trans ((bind_eq (lines_spec h hb)).trans ((bind_eq (rlines_spec h hb)).trans ?_)))
  exact bind_eq (same_spec (by have := linesN_len b.length b; show (linesN b.length b).length ≤ _; omega))
theorem lines_walk : LawIf Tryd.prog 7 law06_ListingLines.as (fun x => x.1.length ≤ 1048576) := .of law06_ListingLines.ok fun x h hB => by
  obtain ⟨b, u⟩ := x
  exact lines_true (fun v hv => wf_u8.1 (h.1.2 v hv)) (Nat.le_trans hB (by decide))
end Go.Proofs.YtkdeheoonannoaaDoor.E
