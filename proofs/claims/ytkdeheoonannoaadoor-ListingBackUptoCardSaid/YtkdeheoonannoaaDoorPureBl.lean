/- Functions of the program as plain Lean, and what they come to. Conditions: none. -/
import Derived.Test.YtkdeheoonannoaaDoorEwD
import Derived.Test.YtkdeheoonannoaaDoorPureApl
open Go Go.Ew
namespace Go.Proofs.YtkdeheoonannoaaDoor.E
open Go.IntKind (wrap)
set_option linter.unusedVariables false
set_option linter.unusedSimpArgs false
set_option maxRecDepth 100000
/-! what one line gives back fits -/
theorem one_le3 {b : List Int} (h : okBy b) (h0 : b.length ≠ 0) : (oneS b).2 ≤ 3 := by
  have a := asm_len (oneS b).1
  rw [asm_one h h0] at a
  have := one_len h h0
  have e : (b.take (oneS b).2).length = (oneS b).2 := by rw [List.length_take]; omega
  dsimp only at a
  omega
theorem allR_lines {b : List Int} (h : okBy b) : allR (linesN b.length b) = (b, 0) := by
  unfold allR
  rw [all_lines b.length [] h (Nat.le_refl _)]
  rfl
/-- where the loop stands -/
theorem lines_at {l : List ByteArray} {b : List Int} {m i n : Nat} (h : okBy b) (e : l.drop i = linesN m (b.drop n)) (hm : b.length - n ≤ m) (hn : n < b.length) :
    i < l.length ∧ List.getD l i (bs []) = (oneS (b.drop n)).1 ∧ l.drop (i + 1) = linesN (m - 1) (b.drop (n + (oneS (b.drop n)).2)) := by
  obtain ⟨m, rfl⟩ : ∃ k, m = k + 1 := ⟨m - 1, by omega⟩
  have e2 : linesN (m + 1) (b.drop n) = (oneS (b.drop n)).1 :: linesN m ((b.drop n).drop (oneS (b.drop n)).2) := if_neg (by rw [List.length_drop]; omega)
  rw [e2] at e
  have hi : i < l.length := by
    rcases Nat.lt_or_ge i l.length with q | q
    · exact q
    · rw [List.drop_eq_nil_of_le q] at e; cases e
  rw [getD_drop l i hi] at e
  have := List.cons.inj e
  refine ⟨hi, this.1, ?_⟩
  rw [this.2, List.drop_drop]
  rfl
theorem lines_end {l : List ByteArray} {b : List Int} {m i : Nat} (e : l.drop i = linesN m (b.drop b.length)) : ¬ i < l.length := by
  intro hi
  rw [getD_drop l i hi] at e
  rw [List.drop_length] at e
  cases m with
  | zero => cases e
  | succ m => rw [show linesN (m + 1) [] = [] from rfl] at e; cases e
end Go.Proofs.YtkdeheoonannoaaDoor.E
