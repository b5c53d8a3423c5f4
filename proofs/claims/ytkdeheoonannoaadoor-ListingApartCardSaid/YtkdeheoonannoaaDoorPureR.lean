/- Functions of the program as plain Lean, and what they come to. Conditions: none. -/
import Derived.Test.YtkdeheoonannoaaDoorEwD
import Derived.Test.YtkdeheoonannoaaDoorProg
import Derived.WalkKit
import Derived.WalkSpells
import Derived.Deep.LoopGhost
import Derived.Lib.OthersKept
import Derived.BigQuiet
import Derived.Test.YtkdeheoonannoaaDoorPureTab
import Derived.Test.YtkdeheoonannoaaDoorShelf
namespace Go.Proofs.YtkdeheoonannoaaDoor.R
open Go Go.Proofs Go.RowKit
set_option linter.unusedVariables false
set_option linter.unusedSimpArgs false
/-! word.Read: a range over a text -/
def digS (c : Int) : Int × Bool := if 48 ≤ c ∧ c ≤ 57 then (c - 48, true) else if 65 ≤ c ∧ c ≤ 70 then (c - 55, true) else if 97 ≤ c ∧ c ≤ 102 then (c - 87, true) else (0, false)
theorem w32 {x : Int} (h : -2147483648 ≤ x ∧ x ≤ 2147483647) : IntKind.wrap .i32 x = x := by
  simp only [IntKind.wrap, IntKind.signed, IntKind.bits]; simp; omega
theorem w16u {x : Int} (h : 0 ≤ x ∧ x ≤ 65535) : IntKind.wrap .u16 x = x := by
  simp only [IntKind.wrap, IntKind.signed, IntKind.bits]; simp; omega
theorem digit_any (c : Int) (hc : 0 ≤ c ∧ c ≤ 2147483647) (w : World) :
    Calls Tryd.prog 77 #[.int .i32 c] w fun e w' => e = .returned (.tuple #[.int .u16 (digS c).1, .bool (digS c).2]) ∧ w' = w := by
  go_enter Tryd.func77, Tryd.ntmps77
  go_wp2
  all_goals (go_ret2; refine ⟨?_, rfl⟩; unfold digS; repeat' split)
  all_goals first | rfl | (exfalso; omega) | (have e : ∀ a b : Int, a = b → Ending.returned (.tuple #[.int .u16 a, .bool true]) = .returned (.tuple #[.int .u16 b, .bool true]) := (fun a b h => by rw [h]); exact e _ _ (by omega))
def readL (s : ByteArray) : Nat → Nat → Int → Int × Int
  | 0, _, acc => (acc, 0)
  | n + 1, pos, acc => if pos < s.size then (if (digS (Utf8.decode s pos).1).2 = true then readL s n (pos + (Utf8.decode s pos).2) (bits .or .u16 (IntKind.wrap .u16 (acc * 16)) (digS (Utf8.decode s pos).1).1) else (0, 6)) else (acc, 0)
theorem readL_go (s : ByteArray) (n pos : Nat) (acc : Int) (h : pos < s.size) : readL s (n + 1) pos acc = if (digS (Utf8.decode s pos).1).2 = true then readL s n (pos + (Utf8.decode s pos).2) (bits .or .u16 (IntKind.wrap .u16 (acc * 16)) (digS (Utf8.decode s pos).1).1) else (0, 6) := if_pos h
theorem readL_end (s : ByteArray) (n pos : Nat) (acc : Int) (h : ¬ pos < s.size) : readL s n pos acc = (acc, 0) := by
  cases n with
  | zero => rfl
  | succ n => unfold readL; rw [if_neg h]
def readS (s : ByteArray) (n : Int) : Int × Int := if n < 1 ∨ 4 < n then (0, 1) else if (s.size : Int) = n then readL s s.size 0 0 else (0, 6)
theorem width_pos (s : ByteArray) (pos : Nat) (h : pos < s.size) : 1 ≤ (Utf8.decode s pos).2 := by
  by_cases ha : (s[pos]'h).toNat < 128
  · rw [decode_ascii s pos h ha]
    exact Nat.le_refl _
  · exact (decode_high s pos h (by omega)).2
theorem iterPos_of {w : World} {k : Nat} {s : ByteArray} {p : Nat} (h : w.heap[k]? = some (.stringIter s p)) : w.iterPos k = p := by simp [World.iterPos, h]
set_option maxRecDepth 1000000 in
set_option maxHeartbeats 2000000 in
theorem read_any (s : ByteArray) (n : Int) (w : World) :
    Calls Tryd.prog 59 #[.string s, .int .i64 n] w fun e w' => e = .returned (.tuple #[.int .u16 (readS s n).1, .int .i64 (readS s n).2]) ∧ Below w.heap.size w w' := by
  go_enter Tryd.func59, Tryd.ntmps59
  go_wp2
  · go_ret2
    refine ⟨?_, Below.refl _ _⟩
    rw [show readS s n = (0, 1) by unfold readS; rw [if_pos (by omega)]]
    rfl
  · go_ret2
    refine ⟨?_, Below.refl _ _⟩
    have hne : ¬ (s.size : Int) = n := by
      have h : ((s.size : Int) != n) = true := by assumption
      simpa using h
    rw [show readS s n = (0, 6) by unfold readS; rw [if_neg (by omega), if_neg hne]]
    rfl
  · have hs : (s.size : Int) = n := by
      have h : ((s.size : Int) != n) = false := by assumption
      simpa using h
    have hS : readS s n = readL s s.size 0 0 := by unfold readS; rw [if_neg (by omega), if_pos hs]
    go_loopw [6] (fun v wr => ∃ (pos b : Nat) (acc : Int), wr = w.iter s pos ∧ v = .int .u16 acc ∧ readL s b pos acc = readL s s.size 0 0 ∧ s.size ≤ pos + b) (fun _ wr => s.size - wr.iterPos w.heap.size)
    case atStart => exact ⟨0, s.size, 0, rfl, rfl, rfl, by omega⟩
    case round =>
      obtain ⟨pos, b, acc, rfl, rfl, hc, hb⟩ := hrel
      by_cases hp : pos < s.size
      · have hnx : ∀ ty, (Instr.next (.pointer (some ⟨w.heap.size, 0, none⟩)) true ty).run Tryd.prog (w.iter s pos) = _ := fun ty => run_next_any w s pos ty hp
        have hwd := width_pos s pos hp
        cases b with
        | zero => omega
        | succ b =>
        rw [readL_go s b pos acc hp] at hc
        go_wp2_with (first | go_in)
        all_goals try (
          go_ret2
          refine ⟨?_, (Below.refl _ _).alloc (Nat.le_refl _) _⟩
          rw [show digS ((Utf8.decode s pos).1 : Int) = (0, false) by unfold digS; rw [if_neg (by omega), if_neg (by omega), if_neg (by omega)]] at hc
          first
            | (rw [hS, ← hc]; rfl)
            | (rw [← hc]; rfl))
        · rw [show digS ((Utf8.decode s pos).1 : Int) = (((Utf8.decode s pos).1 : Int) - 48, true) by unfold digS; rw [if_pos (by omega)]] at hc
          refine ⟨⟨pos + (Utf8.decode s pos).2, b, _, rfl, rfl, (if_pos rfl).symm.trans hc, by omega⟩, ?_⟩
          simp
          omega
        · rw [show digS ((Utf8.decode s pos).1 : Int) = (((Utf8.decode s pos).1 : Int) - 65 + 10, true) by unfold digS; rw [if_neg (by omega), if_pos (by omega)]; congr 1; omega] at hc
          refine ⟨⟨pos + (Utf8.decode s pos).2, b, _, rfl, rfl, (if_pos rfl).symm.trans hc, by omega⟩, ?_⟩
          simp
          omega
        · rw [show digS ((Utf8.decode s pos).1 : Int) = (((Utf8.decode s pos).1 : Int) - 97 + 10, true) by unfold digS; rw [if_neg (by omega), if_neg (by omega), if_pos (by omega)]; congr 1; omega] at hc
          refine ⟨⟨pos + (Utf8.decode s pos).2, b, _, rfl, rfl, (if_pos rfl).symm.trans hc, by omega⟩, ?_⟩
          simp
          omega
      · have hnx : ∀ ty, (Instr.next (.pointer (some ⟨w.heap.size, 0, none⟩)) true ty).run Tryd.prog (w.iter s pos) = _ := fun ty => run_next_end w s pos ty hp
        go_wp2
        go_ret2
        rw [readL_end s b pos acc hp] at hc
        rw [hS, ← hc]
        exact ⟨rfl, (Below.refl _ _).alloc (Nat.le_refl _) _⟩
  · go_ret2
    refine ⟨?_, Below.refl _ _⟩
    rw [show readS s n = (0, 1) by unfold readS; rw [if_pos (by omega)]]
    rfl
end Go.Proofs.YtkdeheoonannoaaDoor.R
