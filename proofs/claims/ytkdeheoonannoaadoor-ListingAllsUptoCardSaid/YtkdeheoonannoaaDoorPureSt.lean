/- Functions of the program as plain Lean, and what they come to. Conditions: none. -/
import Derived.Test.YtkdeheoonannoaaDoorEwD
import Derived.SliceStrings
import Derived.Test.YtkdeheoonannoaaDoorPureAl
open Go Go.Ew Go.ChangeShapes
namespace Go.Proofs.YtkdeheoonannoaaDoor.E
set_option linter.unusedVariables false
set_option linter.unusedSimpArgs false
/-- a row of texts is the row that it reads as -/
theorem im_str {H : Type} {enc : TypeId × Value → H} {P : Program} {W : World} {base : Nat} {spare : Nat → Bool} {held : Bool} {t e : TypeId} (ht : P.underlying t = some (.slice e)) (he : P.underlying e = some .string) (hc : P.cellsOf e = 1)
    {l : List ByteArray} {v : Value} {d : DataW H} {p : List MemPlace} (k : DataW.Trod enc P W base spare held t v d p) (R : ImR (all W) ⟨.s, []⟩ l v) :
    ∀ s ∈ l, ∃ elems rest, d = .slice elems rest ∧ (.lit (.string s.data.toList)) ∈ elems := by
  obtain ⟨A, c, rfl, hlc, hx⟩ := R
  obtain ⟨m, hm⟩ := k
  intro s hs
  obtain ⟨j, hj⟩ := List.mem_iff_getElem?.1 hs
  rcases open_strings ht he hc hm with ⟨e1, e2⟩ | ⟨a, len, cap, ss, e1, _, hlc2, _, hss, e2, hcell, _⟩
  · have e3 : [Value.slice A l.length c] = [Value.slice none 0 0] := e1
    simp only [List.cons.injEq, Value.slice.injEq, and_true] at e3
    have : l = [] := List.length_eq_zero_iff.1 e3.2.1
    rw [this] at hs; nomatch hs
  · have e3 : [Value.slice A l.length c] = [Value.slice (some a) len cap] := e1
    simp only [List.cons.injEq, Value.slice.injEq, and_true] at e3
    have jl : j < l.length := (List.getElem?_eq_some_iff.1 hj).1
    have js : j < ss.length := by rw [hss]; split <;> omega
    have ed : d = .slice (strs (ss.take len)) (strs (ss.drop len)) := congrArg Prod.fst e2
    obtain ⟨b, o, hA, L, hL, hat⟩ := hx j s hj
    have ea : a = ⟨b, o, none⟩ := Option.some.inj (e3.1.symm.trans hA)
    have h1 := hcell j js
    have h2 : scell (all W) b (o + j) = some (.string s) := by
      match L, hL with
      | [V], hL =>
        have hV : V = .string s := by simpa [RowR, KR] using hL
        have := hat 0 V rfl
        rw [hV, show (⟨.s, []⟩ : Tag).sz = 1 from rfl, Nat.mul_one, Nat.add_zero] at this
        exact this
    have h3 : W.cell? (a.add j) = some (.string s) := by
      rw [ea]
      have ead : (⟨b, o, none⟩ : Addr).add j = ⟨b, o + j, none⟩ := by
        unfold Addr.add
        by_cases hh : j = 0 <;> simp [hh]
      rw [ead]
      unfold scell all at h2
      unfold World.cell?
      exact h2
    rw [h1] at h3
    have e4 : ss.getD j ByteArray.empty = s := by simpa using h3
    refine ⟨_, _, ed, ?_⟩
    have e5 : ss[j]? = some s := by
      rw [List.getD_eq_getElem?_getD, List.getElem?_eq_getElem js] at e4
      rw [List.getElem?_eq_getElem js]
      exact congrArg some e4
    have mem : s ∈ ss.take len := List.mem_of_getElem? (i := j) (by rw [List.getElem?_take_of_lt (by omega)]; exact e5)
    unfold strs
    exact List.mem_map.2 ⟨s, mem, rfl⟩
end Go.Proofs.YtkdeheoonannoaaDoor.E
