/- Functions of the program as plain Lean, and what they come to. Conditions: none. -/
import Derived.Test.YtkdeheoonannoaaDoorEwD
import Derived.Test.YtkdeheoonannoaaDoorPureAp
open Go Go.Ew
namespace Go.Proofs.YtkdeheoonannoaaDoor.E
open Go.IntKind (wrap)
set_option linter.unusedVariables false
set_option linter.unusedSimpArgs false
set_option maxRecDepth 100000
/-! a line's text gives its bytes back -/
theorem fin_len : ∀ i : Fin 512, (txI i.val).length ≤ 40 := by decide +kernel
theorem TX_size {i lo hi : Nat} (h : i < 512) : (TX i lo hi).size ≤ 1000 := by
  have := evS_size (B := dolB lo) (W := dolW hi lo) (by rw [dolB_size]; decide) (by rw [dolW_size]; decide) (txI i)
  have l := fin_len ⟨i, h⟩
  dsimp only at l
  have e : TX i lo hi = evS (dolB lo) (dolW hi lo) (txI i) := rfl
  rw [e]; omega
theorem db_size (v : Nat) : (dbS v).size ≤ 1000 := by
  rw [sz_list, db_list]
  show 6 ≤ 1000
  decide
theorem one_size {b : List Int} (h : okBy b) : (oneS b).1.size ≤ 1000 := by
  by_cases h0 : b.length = 0
  · unfold oneS; rw [if_pos h0]; show 0 ≤ 1000; decide
  · rcases one_mean h h0 with ⟨v, hv, e, _, _, _⟩ | ⟨i, lo, hi, h5, _, _, _, e, _, _, _, _⟩
    · rw [e]; exact db_size v
    · rw [e]; exact TX_size h5
theorem asm_of {s : ByteArray} {r : List Int} (hs : s.size ≤ 1000) (h : ref06_Assemble.F (s, ()) = some (r, 0, ())) : asmR s = (r, 0) := by
  have := asm_ref (s := s) (by omega)
  rw [h] at this
  simp only [Option.some.injEq, Prod.mk.injEq, and_true] at this
  exact Prod.ext this.1.symm this.2.symm
theorem asm_one {b : List Int} (h : okBy b) (h0 : b.length ≠ 0) : asmR (oneS b).1 = (b.take (oneS b).2, 0) := by
  have hs := one_size h
  refine asm_of hs ?_
  rcases one_mean h h0 with ⟨v, hv, e, n, t, g⟩ | ⟨i, lo, hi, h5, h1, h2, g, e, n, t, z0, z1⟩
  · rw [e] at hs
    rw [e, n, t]
    exact ref_db hv (num_db (by omega) hv (db_list v)) rfl
  · rw [e] at hs
    rw [e, t]
    have f := info h5
    obtain ⟨lo', hi', a1, a2, hn⟩ := number_any (s := TX i lo hi) (by omega)
    unfold bytesT
    by_cases ci : i < 256
    · rw [if_pos ci]
      have ll : lN i false = 1 + txZ i := by have := f.l; rw [if_pos ci] at this; exact this g
      have hz := f.z
      have cs : txZ i = 0 ∨ txZ i = 1 ∨ txZ i = 2 := by omega
      have el : (TX i lo hi).data.toList = by8 (txA i) ++ (zT lo hi (txZ i) ++ by8 (txC i)) := TL_eq h5
      rcases cs with z | z | z
      · have := ref_hit1 a1 a2 hn ci g (ba_ext (show TL i lo' hi' = TL i lo hi by rw [← KT0 h5 z, ← KT0 h5 z]))
        rw [this, ll, z]; rfl
      · have d := f.d (by rw [z]; decide)
        rw [z] at el
        have n36 : (36 : UInt8) ∉ hx lo ++ by8 (txC i) := fun z => (List.mem_append.1 z).elim (fun z => (hx_mem h1 _ z).2.2.1 rfl) (by8_36 f.c d.2.1)
        have el2 : (TX i lo hi).data.toList = by8 (txA i) ++ 36 :: (hx lo ++ by8 (txC i)) := el
        have hn2 := number_some (s := TX i lo hi) (by omega) el2 n36
        rw [numT_b h1 f.c d.2.2] at hn2
        have := ref_hit1 (hi := 0) h1 (by decide) hn2 ci g (by rw [z1 z])
        rw [this, ll, z1 z]
      · have d := f.d (by rw [z]; decide)
        rw [z] at el
        have el2 : (TX i lo hi).data.toList = by8 (txA i) ++ 36 :: (hx hi ++ (hx lo ++ by8 (txC i))) := by rw [el]; show _ ++ ((36 :: (hx hi ++ hx lo)) ++ _) = _; simp
        have n36 : (36 : UInt8) ∉ hx hi ++ (hx lo ++ by8 (txC i)) := fun z => (List.mem_append.1 z).elim (fun z => (hx_mem h2 _ z).2.2.1 rfl) (fun z => (List.mem_append.1 z).elim (fun z => (hx_mem h1 _ z).2.2.1 rfl) (by8_36 f.c d.2.1))
        have hn2 := number_some (s := TX i lo hi) (by omega) el2 n36
        rw [numT_w h2 h1] at hn2
        have := ref_hit1 h1 h2 hn2 ci g rfl
        rw [this, ll]
    · rw [if_neg ci]
      have zi : txZ i = 0 := by have := f.l; rw [if_neg ci] at this; exact this
      have e0 := z0 zi
      exact ref_hit2 a1 a2 hn (show i - 256 < 256 by omega) (by rw [show 256 + (i - 256) = i by omega, e0.1, e0.2])
theorem lines_size : ∀ (n : Nat) {b : List Int}, okBy b → ∀ s ∈ linesN n b, s.size ≤ 1000
  | 0, b, h, s, hs => nomatch hs
  | n + 1, b, h, s, hs => by
    unfold linesN at hs
    split at hs
    · nomatch hs
    · rcases List.mem_cons.1 hs with e | e
      · rw [e]; exact one_size h
      · exact lines_size n (okBy_drop h _) s e
theorem all_lines : ∀ (n : Nat) {b : List Int} (acc : List Int), okBy b → b.length ≤ n → allX (linesN n b) acc = .inr ((), (), acc ++ b, ())
  | 0, b, acc, h, hn => by
    have : b = [] := List.length_eq_zero_iff.1 (by omega)
    rw [this, List.append_nil]; rfl
  | n + 1, b, acc, h, hn => by
    unfold linesN
    by_cases h0 : b.length = 0
    · rw [if_pos h0, List.length_eq_zero_iff.1 h0, List.append_nil]; rfl
    · have := one_len h h0
      rw [if_neg h0]
      unfold allX
      rw [asm_one h h0, if_pos rfl, all_lines n _ (okBy_drop h _) (by rw [List.length_drop]; omega)]
      rw [List.append_assoc, List.take_append_drop]
end Go.Proofs.YtkdeheoonannoaaDoor.E
