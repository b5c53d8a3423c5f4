/- Functions of the program as plain Lean, and what they come to. Conditions: none. -/
import Derived.Test.YtkdeheoonannoaaDoorEwD
import Derived.WalkKit
import Derived.WalkSpells
import Derived.Deep.LoopGhost
import Derived.Lib.OthersKept
import Derived.BigQuiet
import Derived.Maps.Own
import Derived.Maps.OwnSet
import Derived.Maps.OwnOps
import Derived.Maps.Views
import Derived.StringKeys
import Derived.Test.YtkdeheoonannoaaDoorPureTz
open Go Go.Ew Go.RowKit Go.Maps Go.WideMaps
namespace Go.Proofs.YtkdeheoonannoaaDoor.E
open Go.IntKind (wrap)
set_option linter.unusedVariables false
set_option linter.unusedSimpArgs false
set_option maxRecDepth 100000
/-! the book of all lines: a map -/
def S0 : Stay := fun _ => none
theorem rel0 (w : World) : Rel S0 [] [] w := ⟨rfl, fun i j bi bj n t u h => by simp at h, fun i b n t h => by simp at h, fun i b t h => by simp at h, fun n o h => by simp [S0] at h, fun n h => by simp [nums] at h⟩
theorem pure_calls {g : FuncId} {a rs : List Shp} {f : SS a → Option (SS rs)} (h : PureOK Tryd.prog g a rs f) {x : SS a} {y : SS rs} (hx : f x = some y) {A : List Value} (w : World) (hA : LR (AV.R S0 []) (encSS a x) A) :
    Calls Tryd.prog g A.toArray w fun e w' => (∃ S' V, e = .returned V ∧ (resOf rs y).R S' [] V) ∧ Below w.heap.size w w' := by
  refine ((h x y hx).2 S0 w A (rel0 w) hA).mono ?_
  rintro e w' ⟨S', V, rfl, hv, _, hf⟩
  exact ⟨⟨S', V, rfl, hv⟩, hf.below⟩
def fG (F : F6) : Value := .agg #[.int .i64 F.1, .int .i64 F.2.1, .int .i64 F.2.2.1, .int .i64 F.2.2.2.1, .int .i64 F.2.2.2.2.1, .int .i64 F.2.2.2.2.2]
def fV (op : Nat) (cb : Bool) : Value := fG (T.formS (op : Int) cb)
theorem form_calls {op : Nat} (h : op < 256) (cb : Bool) (w : World) : Calls Tryd.prog 23 #[.int .u8 (op : Int), .bool cb] w fun e w' => e = .returned (fV op cb) ∧ Below w.heap.size w w' := by
  refine (pure_calls listing_form.ok (form_spec h cb) (A := [.int .u8 (op : Int), .bool cb]) w ⟨⟨rfl, rfl⟩, ⟨rfl, rfl⟩, trivial⟩).mono ?_
  rintro e w' ⟨⟨S', V, rfl, hv⟩, hb⟩
  refine ⟨?_, hb⟩
  obtain ⟨L, hL, rfl⟩ := hv
  match L, hL with
  | [a, b, c, d, e, f], ⟨ha, hb, hc, hd, he, hf, _⟩ => rw [ha.1, hb.1, hc.1, hd.1, he.1, hf.1]; rfl
theorem form_k (k : Nat) (w : World) : Calls Tryd.prog 23 #[.int .u8 ((k : Int) % 256), .bool (decide (255 < (k : Int)))] w fun e w' => e = .returned (fV (k % 256) (decide (255 < k))) ∧ Below w.heap.size w w' := by
  have h := form_calls (op := k % 256) (by omega) (decide (255 < k)) w
  rw [show ((k % 256 : Nat) : Int) = (k : Int) % 256 by omega, show decide (255 < k) = decide (255 < (k : Int)) from decide_eq_decide.2 (by omega)] at h
  rw [show decide (255 < k) = decide (255 < (k : Int)) from decide_eq_decide.2 (by omega)]
  exact h
def keyB (op : Nat) (cb : Bool) : ByteArray := evS (bs [98]) (bs [119]) (tx op cb)
theorem text_calls {op : Nat} (h : op < 256) (cb : Bool) (w : World) : Calls Tryd.prog 22 #[fV op cb, .int .u8 (op : Int), .string (bs [98]), .string (bs [119])] w fun e w' => e = .returned (.string (keyB op cb)) ∧ Below w.heap.size w w' := by
  have t := is_tab h cb
  obtain ⟨u, v, hf⟩ := t.f
  have sp := text_spec (B := bs [98]) (W := bs [119]) (by decide) (by decide) (by decide) (by decide) t.ok (lN op cb : Int) u v h
  rw [t.eq, ← hf] at sp
  refine (pure_calls listing_text.ok sp (A := [fV op cb, .int .u8 (op : Int), .string (bs [98]), .string (bs [119])]) w ⟨?_, ⟨rfl, rfl⟩, ⟨rfl, rfl⟩, ⟨rfl, rfl⟩, trivial⟩).mono ?_
  · exact ⟨[_, _, _, _, _, _], ⟨⟨rfl, rfl⟩, ⟨rfl, rfl⟩, ⟨rfl, rfl⟩, ⟨rfl, rfl⟩, ⟨rfl, rfl⟩, ⟨rfl, rfl⟩, trivial⟩, rfl⟩
  · rintro e w' ⟨⟨S', V, rfl, hv⟩, hb⟩
    exact ⟨by rw [hv.1]; rfl, hb⟩
theorem text_k (k : Nat) (w : World) : Calls Tryd.prog 22 #[fV (k % 256) (decide (255 < k)), .int .u8 ((k : Int) % 256), .string (bs [98]), .string (bs [119])] w fun e w' => e = .returned (.string (keyB (k % 256) (decide (255 < k)))) ∧ Below w.heap.size w w' := by
  have h := text_calls (op := k % 256) (by omega) (decide (255 < k)) w
  rw [show ((k % 256 : Nat) : Int) = (k : Int) % 256 by omega] at h
  exact h
def bookD : Nat → DataW Unit
  | 0 => .map []
  | i + 1 => if kN (i % 256) (decide (255 < i)) = 5 ∨ kN (i % 256) (decide (255 < i)) = 6 then bookD i else (bookD i).put (.string (keyB (i % 256) (decide (255 < i))).data.toList) (.lit (.int .i64 (i : Int)))
theorem slaw : Keyed Tryd.prog 9 := string_keyed Tryd.underlying9
theorem zero3 (w : World) : (zeroValue 3).run Tryd.prog w = .ok (.int .i64 0) w := by kernel_rfl
theorem key_ok {s : ByteArray} (h : s.size ≤ 1000) : keyOf Tryd.prog 9 (.string s) = some (.string s.data.toList) := keyOf_string_mk Tryd.underlying9 (by unfold maxLen; omega)
theorem own_below {w w1 : World} {R : Value → Option (DataW Unit × List MemPlace)} {b n : Nat} {D : DataW Unit} (h : w.ownsMap Tryd.prog 9 R b n D) (hb : Below w.heap.size w w1) : w1.ownsMap Tryd.prog 9 R b n D := by
  have hl := h.lt
  unfold World.ownsMap at h ⊢
  rw [hb.block b hl]
  exact h
theorem kN_of {op : Nat} (h : op < 256) (cb : Bool) : (T.formS (op : Int) cb).1 = (kN op cb : Int) := by
  obtain ⟨u, v, hf⟩ := (is_tab h cb).f
  rw [hf]
theorem keyB_size {op : Nat} (h : op < 256) (cb : Bool) : (keyB op cb).size ≤ 1000 := by
  have := evS_size (B := bs [98]) (W := bs [119]) (by decide) (by decide) (tx op cb)
  have := (is_tab h cb).len
  show (evS (bs [98]) (bs [119]) (tx op cb)).size ≤ _
  omega
theorem bookD_no {k : Nat} {F : F6} (hF : T.formS ((k % 256 : Nat) : Int) (decide (255 < k)) = F) (h : F.1 = 5 ∨ F.1 = 6) : bookD (k + 1) = bookD k := by
  have e := kN_of (op := k % 256) (by omega) (decide (255 < k))
  rw [hF] at e
  exact if_pos (by omega)
theorem bookD_yes {k : Nat} {F : F6} (hF : T.formS ((k % 256 : Nat) : Int) (decide (255 < k)) = F) (h : ¬ (F.1 = 5 ∨ F.1 = 6)) : bookD (k + 1) = (bookD k).put (.string (keyB (k % 256) (decide (255 < k))).data.toList) (.lit (.int .i64 (k : Int))) := by
  have e := kN_of (op := k % 256) (by omega) (decide (255 < k))
  rw [hF] at e
  exact if_neg (by omega)
set_option maxHeartbeats 2000000 in
theorem book_any (w : World) : Calls Tryd.prog 33 #[] w fun e w' => e = .returned (.map (some w.heap.size)) ∧ w'.ownsMap Tryd.prog 9 (plainElem (H := Unit) Tryd.prog 3) w.heap.size 512 (bookD 512) ∧ Below w.heap.size w w' := by
  have hmm := @run_makeMap Tryd.prog
  go_enter Tryd.func33, Tryd.ntmps33
  go_wp2
  go_loopw [5] (fun i wr => ∃ k : Nat, k ≤ 512 ∧ i = .int .i64 k ∧ wr.ownsMap Tryd.prog 9 (plainElem (H := Unit) Tryd.prog 3) w.heap.size k (bookD k) ∧ Below w.heap.size w wr)
    (fun i _ => 512 - (intOf i).toNat)
  case atStart => exact ⟨0, Nat.zero_le _, rfl, World.ownsMap_made _ _ _ _, (Below.refl _ _).alloc (Nat.le_refl _) _⟩
  case round =>
    obtain ⟨k, hk, rfl, hown, hnx⟩ := hrel
    by_cases hlt : k < 512
    · obtain ⟨F, hF⟩ : ∃ F, T.formS ((k % 256 : Nat) : Int) (decide (255 < k)) = F := ⟨_, rfl⟩
      obtain ⟨s, hs⟩ : ∃ s, keyB (k % 256) (decide (255 < k)) = s := ⟨_, rfl⟩
      have hkey : keyOf Tryd.prog 9 (.string s) = some (.string s.data.toList) := key_ok (by rw [← hs]; exact keyB_size (by omega) _)
      have c1 : ∀ w, Calls Tryd.prog 23 #[.int .u8 ((k : Int) % 256), .bool (decide (255 < (k : Int)))] w fun e w' => e = .returned (.agg #[.int .i64 F.1, .int .i64 F.2.1, .int .i64 F.2.2.1, .int .i64 F.2.2.2.1, .int .i64 F.2.2.2.2.1, .int .i64 F.2.2.2.2.2]) ∧ Below w.heap.size w w' := by rw [← hF]; exact form_k k
      have c2 : ∀ w, Calls Tryd.prog 22 #[.agg #[.int .i64 F.1, .int .i64 F.2.1, .int .i64 F.2.2.1, .int .i64 F.2.2.2.1, .int .i64 F.2.2.2.2.1, .int .i64 F.2.2.2.2.2], .int .u8 ((k : Int) % 256), .string { data := #[98] }, .string { data := #[119] }] w fun e w' => e = .returned (.string s) ∧ Below w.heap.size w w' := by rw [← hF, ← hs]; exact text_k k
      go_wp2_with (first
        | (go_at_call 23; refine (c1 _).mono ?_; rintro e w1 ⟨rfl, hb1⟩; have hown1 := own_below hown hb1)
        | (go_at_call 22; refine (c2 _).mono ?_; rintro e w2 ⟨rfl, hb2⟩; have hown2 := own_below (hown1.alloc _) hb2)
        | (at_mapUpdate; refine wpList_mapUpdate_own _ rfl _ _ _ 54 rfl 9 3 slaw Tryd.underlying54 _ w.heap.size k _ rfl hown2 (by unfold maxLen; omega) _ _ _ rfl rfl hkey _ [] (plainElem_int Tryd.underlying3 (WalkArith.wf_i64 (by omega))) ?_; intro w3 hown3 hgrow3)
        | go_in)
      · have hF5 : F.1 = 5 := by assumption
        have e := bookD_no hF (.inl hF5)
        have hB : Below w.heap.size w w1 := hnx.trans (hb1.mono hnx.size)
        refine ⟨⟨k + 1, by omega, by rw [show ((k + 1 : Nat) : Int) = (k : Int) + 1 by omega], ?_, hB.alloc hB.size _⟩, by simp [intOf]; omega⟩
        rw [e]
        exact (hown1.alloc _).mono (Nat.le_succ _)
      · have hh : (F.1 != 5) = true ∧ (F.1 != 6) = true := by assumption
        have n5 : F.1 ≠ 5 := by simpa using hh.1
        have n6 : F.1 ≠ 6 := by simpa using hh.2
        have e := bookD_yes hF (by omega)
        rw [hs] at e
        have hB : Below w.heap.size w w1 := hnx.trans (hb1.mono hnx.size)
        have hB2 := (hB.alloc hB.size _).trans (hb2.mono (hB.alloc hB.size _).size)
        refine ⟨⟨k + 1, by omega, by rw [show ((k + 1 : Nat) : Int) = (k : Int) + 1 by omega], ?_, hB2.grown hgrow3 hB2.size (fun j hj => by cases hj; exact Nat.le_refl _)⟩, by simp [intOf]; omega⟩
        rw [e]
        exact hown3
      · have n5 : ¬ F.1 = 5 := by assumption
        have hh : (F.1 != 5) = false ∨ (F.1 != 6) = false := by assumption
        have hF5 : F.1 = 6 := by
          rcases hh with q | q
          · exact absurd (by simpa using q) n5
          · simpa using q
        have e := bookD_no hF (.inr hF5)
        have hB : Below w.heap.size w w1 := hnx.trans (hb1.mono hnx.size)
        refine ⟨⟨k + 1, by omega, by rw [show ((k + 1 : Nat) : Int) = (k : Int) + 1 by omega], ?_, hB.alloc hB.size _⟩, by simp [intOf]; omega⟩
        rw [e]
        exact (hown1.alloc _).mono (Nat.le_succ _)
    · obtain rfl : k = 512 := by omega
      go_wp2
      go_ret
      exact ⟨rfl, hown, hnx⟩
end Go.Proofs.YtkdeheoonannoaaDoor.E
