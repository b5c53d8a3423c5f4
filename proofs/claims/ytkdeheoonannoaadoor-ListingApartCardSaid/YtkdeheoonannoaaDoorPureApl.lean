/- Functions of the program as plain Lean, and what they come to. Conditions: none. -/
import Derived.Test.YtkdeheoonannoaaDoorEwD
import Derived.Test.YtkdeheoonannoaaDoorPureBk
open Go Go.Ew
namespace Go.Proofs.YtkdeheoonannoaaDoor.E
open Go.IntKind (wrap)
set_option linter.unusedVariables false
set_option linter.unusedSimpArgs false
set_option maxRecDepth 100000
/-! texts apart -/
theorem bytesOf_list (l : List Int) : (bytesOf l).data.toList = l.map fun n => UInt8.ofNat n.toNat := rfl
theorem map_inj : ∀ {x y : List Int}, okBy x → okBy y → (x.map fun n => UInt8.ofNat n.toNat) = (y.map fun n => UInt8.ofNat n.toNat) → x = y
  | [], [], _, _, _ => rfl
  | [], _ :: _, _, _, h => by simp at h
  | _ :: _, [], _, _, h => by simp at h
  | a :: x, b :: y, hx, hy, h => by
    simp only [List.map_cons, List.cons.injEq] at h
    have ha := hx a (List.mem_cons_self ..)
    have hb := hy b (List.mem_cons_self ..)
    have e := congrArg UInt8.toNat h.1
    rw [UInt8.toNat_ofNat', UInt8.toNat_ofNat', Nat.mod_eq_of_lt (by omega), Nat.mod_eq_of_lt (by omega)] at e
    rw [show a = b by omega, map_inj (fun v hv => hx v (List.mem_cons_of_mem _ hv)) (fun v hv => hy v (List.mem_cons_of_mem _ hv)) h.2]
theorem bytesOf_iff {x y : List Int} (hx : okBy x) (hy : okBy y) : bytesOf x = bytesOf y ↔ x = y := by
  refine ⟨fun e => map_inj hx hy ?_, fun e => by rw [e]⟩
  rw [← bytesOf_list, ← bytesOf_list, e]
theorem okBy_take {b : List Int} (h : okBy b) (n : Nat) : okBy (b.take n) := fun v hv => h v (List.mem_of_mem_take hv)
theorem sEq_one {a b : List Int} (ha : okBy a) (hb : okBy b) : sEq (oneS a).1 (oneS b).1 = sEq (bytesOf (a.take (oneS a).2)) (bytesOf (b.take (oneS b).2)) := by
  have h := apart_eq ha hb
  have h2 := bytesOf_iff (okBy_take ha (oneS a).2) (okBy_take hb (oneS b).2)
  by_cases e : (oneS a).1 = (oneS b).1
  · rw [sEq_iff.2 e, sEq_iff.2 (h2.2 (h.1 e))]
  · rw [sEq_no e, sEq_no (fun z => e (h.2 (h2.1 z)))]
theorem one_le {b : List Int} (h : okBy b) : (oneS b).2 ≤ b.length ∧ ((oneS b).2 = 0 ↔ b.length = 0) := by
  by_cases h0 : b.length = 0
  · have : oneS b = (bs [], 0) := by unfold oneS; exact if_pos h0
    rw [this]
    exact ⟨Nat.zero_le _, fun _ => h0, fun _ => rfl⟩
  · have := one_len h h0
    exact ⟨this.2, fun z => by omega, fun z => absurd z h0⟩
end Go.Proofs.YtkdeheoonannoaaDoor.E
