/- By how many dots objects make a line longer: the two sums are the same, as plain functions. Conditions: none. -/
import Derived.Test.YtfpepeembbpncaaPureRows
namespace Go.Proofs.Ytfpepeembbpncaa.P
open Go.RowKit Go.Proofs.YtfpepeembbpncaaW.PrintWords Go.Proofs.YtfpepeembbpncaaW.PrintLast Go.Proofs.YtfpepeembbpncaaW.PrintMore
set_option linter.unusedVariables false
set_option linter.unusedSimpArgs false
theorem and7 : ∀ m : Fin 256, Go.bits .and .i64 ((m.val : Nat) : Int) 7 = (m.val : Int) % 8 := by decide +kernel
theorem and7u : ∀ m : Fin 256, Go.bits .and .u8 ((m.val : Nat) : Int) 7 = (m.val : Int) % 8 := by decide +kernel
theorem and7' {n : Int} (h : in8 n) : Go.bits .and .i64 n 7 = n % 8 := by obtain ⟨m, rfl⟩ := fin_of h; exact and7 m
theorem and7u' {n : Int} (h : in8 n) : Go.bits .and .u8 n 7 = n % 8 := by obtain ⟨m, rfl⟩ := fin_of h; exact and7u m
theorem extra_same (l : List S29) (a : Int) (hq : ∀ x ∈ l, in8 x.f1) (ha : in8 a) (hlen : l.length ≤ 9223372036854775807) :
    ∀ (d : Nat) (s i : Int), 0 ≤ i → (l.length : Int) - i = d → ∃ r, objects_Extra.l0 (d + 1) a s l (l.length : Int) i = some r ∧ whirligigref16_Extra.l0 (d + 1) l a s i = some r
  | 0, s, i, h0, hd => by
    refine ⟨s, ?_, ?_⟩
    · unfold objects_Extra.l0; rw [if_neg (by omega)]
    · unfold whirligigref16_Extra.l0; rw [if_neg (by omega)]
  | d + 1, s, i, h0, hd => by
    have hi : i < (l.length : Int) := by omega
    have hf : in8 (rd_T29 l i).f1 := by
      unfold rd_T29
      have hl : i.toNat < l.length := by omega
      rw [List.getD_eq_getElem?_getD, List.getElem?_eq_getElem hl]
      exact hq _ (List.getElem_mem hl)
    have e1 : wrap64 (i + 1) = i + 1 := w64 (by unfold in64; omega)
    have hi1 : (l.length : Int) - (i + 1) = (d : Nat) := by omega
    unfold objects_Extra.l0 whirligigref16_Extra.l0
    rw [if_pos hi, if_pos h0, if_pos hi, if_pos hi, if_pos h0, e1]
    generalize (rd_T29 l i).f1 = f at hf
    unfold in8 at hf
    have ha2 := ha
    unfold in8 at ha2
    by_cases c : f < 168
    · rw [if_pos c, if_pos c]
      have e2 : Go.bits .and .i64 ((f + a) % 256) 7 = (f + a) % 8 := by rw [and7' (by unfold in8; omega)]; omega
      have e3 : wrap64 f = f := w64 (by unfold in64; omega)
      have e4 : wrap64 a = a := w64 (by unfold in64; omega)
      have e5 : wrap64 (f + a) = f + a := w64 (by unfold in64; omega)
      have e6 : Int.tmod (f + a) 8 = (f + a) % 8 := by rw [Int.tmod_eq_emod_of_nonneg (by omega)]
      rw [e2, e3, e4, e5, e6]
      by_cases c2 : (f + a) % 8 > 5
      · rw [if_pos c2]
        have e7 : wrap64 (s + wrap64 (11 - mn 5 ((f + a) % 8))) = wrap64 (wrap64 (s + 11) - 5) := by unfold mn wrap64; rw [if_neg (by omega)]; omega
        rw [e7]
        exact extra_same l a hq ha hlen d _ (i + 1) (by omega) hi1
      · rw [if_neg c2]
        have e7 : wrap64 (s + wrap64 (11 - mn 5 ((f + a) % 8))) = wrap64 (wrap64 (s + 11) - (f + a) % 8) := by
          unfold mn wrap64
          by_cases c3 : (f + a) % 8 < 5
          · rw [if_pos c3]; omega
          · rw [if_neg c3]; omega
        rw [e7]
        exact extra_same l a hq ha hlen d _ (i + 1) (by omega) hi1
    · rw [if_neg c, if_neg c]
      exact extra_same l a hq ha hlen d s (i + 1) (by omega) hi1
theorem objectsExtras_pure (l : List S29) (a : Int) (hq : ∀ x ∈ l, in8 x.f1) (ha : in8 a) (hlen : l.length ≤ 9223372036854775807) : whirligiglaw16_ObjectsExtras.f (l.length + 1) l a = some true := by
  unfold whirligiglaw16_ObjectsExtras.f whirligiglaw16_shown.f objects_Extra.f whirligigref16_Extra.f
  have e0 : wrap64 (Go.bits .and .u8 a 7) = Int.tmod (wrap64 a) 8 := by
    have ha2 := ha
    unfold in8 at ha2
    rw [and7u' ha, w64 (n := a) (by unfold in64; omega), w64 (by unfold in64; omega), Int.tmod_eq_emod_of_nonneg (by omega)]
  obtain ⟨r, h1, h2⟩ := extra_same l a hq ha hlen l.length (Int.tmod (wrap64 a) 8) 0 (by omega) (by omega)
  simp only [Option.bind_some, if_true]
  rw [e0, h1, h2]
  simp
#print axioms objectsExtras_pure
end Go.Proofs.Ytfpepeembbpncaa.P
