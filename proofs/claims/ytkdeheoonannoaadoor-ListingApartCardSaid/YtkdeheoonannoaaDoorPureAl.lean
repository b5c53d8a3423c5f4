/- Functions of the program as plain Lean, and what they come to. Conditions: none. -/
import Derived.Test.YtkdeheoonannoaaDoorEwD
import Derived.Test.YtkdeheoonannoaaDoorPureSn
open Go Go.Ew
namespace Go.Proofs.YtkdeheoonannoaaDoor.E
open Go.IntKind (wrap)
set_option linter.unusedVariables false
set_option linter.unusedSimpArgs false
set_option maxRecDepth 100000
/-! all lines put together -/
abbrev AX := ((Int × Unit) × Unit × ((List Int) × Unit)) ⊕ (Unit × Unit × ((List Int) × Unit))
def allX : List ByteArray → List Int → AX
  | [], acc => .inr ((), (), acc, ())
  | s :: r, acc => if (asmR s).2 = 0 then allX r (acc ++ (asmR s).1) else .inl (((asmR s).2, ()), (), [], ())
theorem asmT_len (q2 : ByteArray × Int × Bool) (b2 : Bool) (v2 : Nat) : (asmT q2 b2 v2).1.length ≤ 3 := by
  unfold asmT
  split
  · exact Nat.zero_le _
  split
  · show 1 ≤ 3; decide
  split
  · split
    · show 2 ≤ 3; decide
    · exact Nat.zero_le _
  · exact Nat.zero_le _
theorem asm_len (s : ByteArray) : (asmR s).1.length ≤ 3 := by
  unfold asmR asmG
  split
  · split
    · show 2 ≤ 3; decide
    split
    · show 1 ≤ 3; decide
    · exact Nat.zero_le _
  split
  · split
    · split
      · show 3 ≤ 3; decide
      · exact asmT_len _ _ _
    · exact asmT_len _ _ _
  · exact asmT_len _ _ _
theorem app2 {α : Type} (l m : List α) : List.take (l.length + m.length) (List.take l.length l ++ m) = l ++ m := by
  rw [List.take_length]
  exact List.take_of_length_le (by simp)
theorem getD_drop (t : List ByteArray) (i : Nat) (h : i < t.length) : t.drop i = List.getD t i (bs []) :: t.drop (i + 1) := by
  rw [List.drop_eq_getElem_cons h, List.getD_eq_getElem?_getD, List.getElem?_eq_getElem h]
  rfl
noncomputable def lastp (x : ((List ByteArray) × Int × Int × Unit) × Unit × ((List Int) × Unit)) := listing_All.L0.step listing_Assemble.F x.1.1 x.1.2.1 x.1.2.2.1 x.2.2.1
noncomputable def rastp (x : ((List ByteArray) × Int × Unit) × Unit × ((List Int) × Unit)) := ref06_All.L0.step ref06_Assemble.F x.1.1 x.1.2.1 x.2.2.1
theorem lall_loop {t : List ByteArray} (ht : ∀ s ∈ t, s.size ≤ 140737488355328) (hl : t.length ≤ 1048576) : ∀ (n i : Nat) (acc : List Int), t.length = i + n → acc.length ≤ 3 * i →
    iterU lastp ((t, (t.length : Int), (i : Int), ()), (), acc, ()) = some (allX (t.drop i) acc)
  | 0, i, acc, h1, h2 => by
    rw [iterU_eq]
    have e : lastp ((t, (t.length : Int), (i : Int), ()), (), acc, ()) = some (.inr (.inr ((), (), acc, ()))) := by
      unfold lastp listing_All.L0.step
      dsimp only
      refine (if_neg (by rw [decide_eq_true_eq]; omega)).trans ?_
      rw [List.take_length]
    rw [e, show t.drop i = [] from List.drop_eq_nil_of_le (by omega)]; rfl
  | n + 1, i, acc, h1, h2 => by
    rw [iterU_eq]
    have hi : i < t.length := by omega
    rw [getD_drop t i hi]
    obtain ⟨s, es⟩ : ∃ s, List.getD t i (bs []) = s := ⟨_, rfl⟩
    have hs : s.size ≤ 140737488355328 := ht s (by rw [← es, List.getD_eq_getElem?_getD, List.getElem?_eq_getElem hi]; exact List.getElem_mem _)
    have hn := asm_len s
    rw [es]
    have e : lastp ((t, (t.length : Int), (i : Int), ()), (), acc, ()) = if ((asmR s).2 != 0) = true then some (.inr (.inl (((asmR s).2, ()), (), [], ()))) else some (.inl ((t, (t.length : Int), ((i + 1 : Nat) : Int), ()), (), acc ++ (asmR s).1, ())) := by
      unfold lastp listing_All.L0.step
      dsimp only
      refine (if_pos (by rw [decide_eq_true_eq]; omega)).trans ?_
      refine (if_pos ⟨by omega, by omega⟩).trans ?_
      rw [Int.toNat_natCast, es]
      refine (bind_eq (asm_F hs)).trans ?_
      dsimp only
      rw [w64 (by omega) (by omega), app2]
      split
      · rfl
      · exact if_pos (by omega)
    rw [e]
    unfold allX
    by_cases z : (asmR s).2 = 0
    · rw [if_neg (by rw [z]; decide), if_pos z]
      exact lall_loop ht hl n (i + 1) (acc ++ (asmR s).1) (by omega) (by rw [List.length_append]; omega)
    · rw [if_pos (by rw [bne_iff_ne]; exact z), if_neg z]
theorem rall_loop {t : List ByteArray} (ht : ∀ s ∈ t, s.size ≤ 140737488355328) (hl : t.length ≤ 1048576) : ∀ (n i : Nat) (acc : List Int), t.length = i + n → acc.length ≤ 3 * i →
    iterU rastp ((t, (i : Int), ()), (), acc, ()) = some (allX (t.drop i) acc)
  | 0, i, acc, h1, h2 => by
    rw [iterU_eq]
    have e : rastp ((t, (i : Int), ()), (), acc, ()) = some (.inr (.inr ((), (), acc, ()))) := by
      unfold rastp ref06_All.L0.step
      dsimp only
      refine (if_neg (by rw [decide_eq_true_eq]; omega)).trans ?_
      rw [List.take_length]
    rw [e, show t.drop i = [] from List.drop_eq_nil_of_le (by omega)]; rfl
  | n + 1, i, acc, h1, h2 => by
    rw [iterU_eq]
    have hi : i < t.length := by omega
    rw [getD_drop t i hi]
    obtain ⟨s, es⟩ : ∃ s, List.getD t i (bs []) = s := ⟨_, rfl⟩
    have hs : s.size ≤ 140737488355328 := ht s (by rw [← es, List.getD_eq_getElem?_getD, List.getElem?_eq_getElem hi]; exact List.getElem_mem _)
    have hn := asm_len s
    rw [es]
    have e : rastp ((t, (i : Int), ()), (), acc, ()) = if ((asmR s).2 != 0) = true then some (.inr (.inl (((asmR s).2, ()), (), [], ()))) else some (.inl ((t, ((i + 1 : Nat) : Int), ()), (), acc ++ (asmR s).1, ())) := by
      unfold rastp ref06_All.L0.step
      dsimp only
      refine (if_pos (by rw [decide_eq_true_eq]; omega)).trans ?_
      refine (if_pos ⟨by omega, by omega⟩).trans ?_
      rw [Int.toNat_natCast, es]
      refine (bind_eq (asm_ref hs)).trans ?_
      dsimp only
      rw [w64 (by omega) (by omega), app2]
      split
      · rfl
      · exact if_pos (by omega)
    rw [e]
    unfold allX
    by_cases z : (asmR s).2 = 0
    · rw [if_neg (by rw [z]; decide), if_pos z]
      exact rall_loop ht hl n (i + 1) (acc ++ (asmR s).1) (by omega) (by rw [List.length_append]; omega)
    · rw [if_pos (by rw [bne_iff_ne]; exact z), if_neg z]
def allR (t : List ByteArray) : List Int × Int := match allX t [] with
  | .inl y => (y.2.2.1, y.1.1)
  | .inr y => (y.2.2.1, 0)
theorem lall_spec {t : List ByteArray} (ht : ∀ s ∈ t, s.size ≤ 140737488355328) (hl : t.length ≤ 1048576) : listing_All.F (t, ()) = some ((allR t).1, (allR t).2, ()) := by
  unfold listing_All.F listing_All.C listing_All.G
  refine (bind_eq (show listing_All.L0.F ((t, (t.length : Int), 0, ()), (), [], ()) = _ from lall_loop ht hl t.length 0 [] (by omega) (Nat.zero_le _))).trans ?_
  rw [List.drop_zero]
  unfold allR
  cases allX t [] with
  | inl y => show some (List.take _ (List.drop 0 _), _) = _; rw [whole1]
  | inr y => show some (List.take _ (List.drop 0 _), _) = _; rw [whole1]
theorem rall_spec {t : List ByteArray} (ht : ∀ s ∈ t, s.size ≤ 140737488355328) (hl : t.length ≤ 1048576) : ref06_All.F (t, ()) = some ((allR t).1, (allR t).2, ()) := by
  unfold ref06_All.F ref06_All.C ref06_All.G
  refine (bind_eq (show ref06_All.L0.F ((t, 0, ()), (), [], ()) = _ from rall_loop ht hl t.length 0 [] (by omega) (Nat.zero_le _))).trans ?_
  rw [List.drop_zero]
  unfold allR
  cases allX t [] with
  | inl y => show some (List.take _ (List.drop 0 _), _) = _; rw [whole1]
  | inr y => show some (List.take _ (List.drop 0 _), _) = _; rw [whole1]
theorem alls_true {t : List ByteArray} (ht : ∀ s ∈ t, s.size ≤ 140737488355328) (hl : t.length ≤ 1048576) : law06_ListingAlls.F (t, ()) = some (true, ()) := by
  unfold law06_ListingAlls.F law06_ListingAlls.C law06_ListingAlls.G
  refine (bind_eq shown_true).trans ((bind_eq (lall_spec ht hl)).trans ((bind_eq (rall_spec ht hl)).trans ?_))
  refine (if_pos rfl).trans ((if_pos (by rw [sEq_iff.2 rfl]; rfl)).trans ?_)
  rw [beq_self_eq_true]
theorem alls_walk : LawIf Tryd.prog 8 law06_ListingAlls.as (fun x => List.length x.1 ≤ 1048576 ∧ ∀ s ∈ x.1, ByteArray.size s ≤ 140737488355328) := .of law06_ListingAlls.ok fun x h hB => alls_true hB.2 hB.1
end Go.Proofs.YtkdeheoonannoaaDoor.E
