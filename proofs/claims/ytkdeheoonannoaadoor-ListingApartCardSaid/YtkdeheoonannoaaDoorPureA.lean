/- Functions of the program as plain Lean, and what they come to. Conditions: none. -/
import Derived.Test.YtkdeheoonannoaaDoorEwD
import Derived.Test.YtkdeheoonannoaaDoorPureB
import Derived.Test.YtkdeheoonannoaaDoorPureH
open Go Go.Ew Go.RowKit Go.Maps Go.WideMaps
namespace Go.Proofs.YtkdeheoonannoaaDoor.E
open Go.IntKind (wrap)
set_option linter.unusedVariables false
set_option linter.unusedSimpArgs false
set_option maxRecDepth 100000
/-! what the book holds -/
theorem keyLit {l : List UInt8} : WideAt.IsKeyLit (.string l) := by first | trivial | exact ⟨_, rfl⟩ | (unfold WideAt.IsKeyLit; simp)
def goodI (i : Nat) : Bool := !(decide (kN (i % 256) (decide (255 < i)) = 5 ∨ kN (i % 256) (decide (255 < i)) = 6))
def keyI (i : Nat) : ByteArray := keyB (i % 256) (decide (255 < i))
def findN : Nat → List UInt8 → Option Nat
  | 0, _ => none
  | n + 1, l => if goodI n = true ∧ (keyI n).data.toList = l then some n else findN n l
theorem bookD_map : ∀ n, IsMap (bookD n)
  | 0 => ⟨[], rfl⟩
  | n + 1 => by
    unfold bookD
    split
    · exact bookD_map n
    · obtain ⟨es, he⟩ := bookD_map n
      rw [he]
      exact ⟨_, rfl⟩
theorem book_find (l : List UInt8) : ∀ n, Maps.has (bookD n) (.string l) = (findN n l).isSome ∧ (bookD n).atKey (.string l) (.lit (.int .i64 0)) = .lit (.int .i64 (((findN n l).getD 0 : Nat) : Int))
  | 0 => ⟨rfl, rfl⟩
  | n + 1 => by
    obtain ⟨h1, h2⟩ := book_find l n
    by_cases g : kN (n % 256) (decide (255 < n)) = 5 ∨ kN (n % 256) (decide (255 < n)) = 6
    · have e : bookD (n + 1) = bookD n := if_pos g
      have ef : findN (n + 1) l = findN n l := if_neg (fun z => by have := z.1; unfold goodI at this; rw [decide_eq_true g] at this; simp at this)
      rw [e, ef]; exact ⟨h1, h2⟩
    · have e : bookD (n + 1) = (bookD n).put (.string (keyB (n % 256) (decide (255 < n))).data.toList) (.lit (.int .i64 (n : Int))) := if_neg g
      have hg : goodI n = true := by unfold goodI; rw [decide_eq_false g]; rfl
      by_cases q : (keyI n).data.toList = l
      · have ef : findN (n + 1) l = some n := if_pos ⟨hg, q⟩
        rw [e, ef, show (keyB (n % 256) (decide (255 < n))).data.toList = l from q]
        exact ⟨has_put_same (bookD_map n) keyLit _, atKey_put_same (bookD_map n) keyLit _ _⟩
      · have ef : findN (n + 1) l = findN n l := if_neg (fun z => q z.2)
        have hne : (Lit.string l) ≠ .string (keyB (n % 256) (decide (255 < n))).data.toList := by
          intro z
          simp only [Lit.string.injEq] at z
          exact q z.symm
        rw [e, ef, has_put_other hne, atKey_put_other hne]
        exact ⟨h1, h2⟩
def lkH (s : ByteArray) : Bool := (findN 512 s.data.toList).isSome
def lkV (s : ByteArray) : Nat := (findN 512 s.data.toList).getD 0
theorem findN_lt {l : List UInt8} : ∀ {n : Nat}, (findN n l).getD 0 ≤ n
  | 0 => Nat.le_refl _
  | n + 1 => by
    unfold findN
    split
    · exact Nat.le_succ n
    · exact Nat.le_trans findN_lt (Nat.le_succ n)
theorem bare_any {s L : ByteArray} {d : Nat} (hd : d = 2 ∨ d = 4) (hL : L.size = 1) (hs : s.size ≤ 140737488355328) (w : World) :
    Calls Tryd.prog 34 #[.string s, .int .i64 (d : Int), .string L] w fun e w' => e = .returned (.tuple #[.string (bareR s d L).1, .int .u16 (bareR s d L).2.1, .bool (bareR s d L).2.2]) ∧ Below w.heap.size w w' := by
  refine (pure_calls listing_bare.ok (bare_spec hd hL hs) (A := [.string s, .int .i64 (d : Int), .string L]) w ⟨⟨rfl, rfl⟩, ⟨rfl, rfl⟩, ⟨rfl, rfl⟩, trivial⟩).mono ?_
  rintro e w' ⟨⟨S', V, rfl, hv⟩, hb⟩
  refine ⟨?_, hb⟩
  obtain ⟨l, hl, rfl⟩ := hv
  match l, hl with
  | [a, b, c], ⟨ha, hb, hc, _⟩ => rw [ha.1, hb.1, hc.1]
def RowIs (B : Nat) (w : World) (V : Value) (l : List Int) : Prop := (l = [] ∧ V = .slice none 0 0) ∨ ∃ b, B ≤ b ∧ V = .slice (some ⟨b, 0, none⟩) l.length l.length ∧ w.heap[b]? = some (.cells (l.map (Value.int .u8)).toArray 5 (0, 0))
def asmT (q2 : ByteArray × Int × Bool) (b2 : Bool) (v2 : Nat) : List Int × Int :=
  if (!q2.2.2) = true then ([], 6) else if (q2.1.toList == [68, 66, 32, 98]) = true then ([q2.2.1 % 256], 0) else if b2 = true then (if (v2 : Int) < 256 then ([(v2 : Int), q2.2.1 % 256], 0) else ([], 6)) else ([], 6)
def asmG (b0 : Bool) (v0 : Nat) (f4 : Int) (q1 : ByteArray × Int × Bool) (b1 : Bool) (v1 : Nat) (q2 : ByteArray × Int × Bool) (b2 : Bool) (v2 : Nat) : List Int × Int :=
  if b0 = true then (if 255 < (v0 : Int) then ([203, (v0 : Int) % 256], 0) else if (f4 == 1) = true then ([(v0 : Int)], 0) else ([], 6))
  else if q1.2.2 = true then (if b1 = true then (if (v1 : Int) < 256 then ([(v1 : Int), q1.2.1 % 256, q1.2.1 / 256 % 256], 0) else asmT q2 b2 v2) else asmT q2 b2 v2) else asmT q2 b2 v2
theorem row_new {B : Nat} {W : World} {b : Nat} {l : List Value} {m : List Int} (hB : B ≤ W.heap.size) (hb : b = W.heap.size) (h : l = m.map (Value.int .u8)) (n : Nat) (hn : n = m.length) : RowIs B (W.alloc (.cells l.toArray 5)) (.slice (some ⟨b, 0, none⟩) n n) m := by
  subst hn h hb
  refine .inr ⟨_, hB, rfl, ?_⟩
  exact Array.getElem?_push_size
def lkF (s : ByteArray) : F6 := T.formS ((lkV s % 256 : Nat) : Int) (decide (255 < lkV s))
def asmR (s : ByteArray) : List Int × Int := asmG (lkH s) (lkV s) (lkF s).2.2.2.1 (bareR s 4 (bs [119])) (lkH (bareR s 4 (bs [119])).1) (lkV (bareR s 4 (bs [119])).1) (bareR s 2 (bs [98])) (lkH (bareR s 2 (bs [98])).1) (lkV (bareR s 2 (bs [98])).1)
set_option maxHeartbeats 4000000 in
theorem asm_any {s : ByteArray} (hs : s.size ≤ 140737488355328) (w : World) : Calls Tryd.prog 15 #[.string s] w fun e w' => ∃ V, e = .returned (.tuple #[V, .int .i64 (asmR s).2]) ∧ RowIs w.heap.size w' V (asmR s).1 ∧ Below w.heap.size w w' := by
  obtain ⟨q1, hq1⟩ : ∃ q, bareR s 4 { data := #[119] } = q := ⟨_, rfl⟩
  obtain ⟨q2, hq2⟩ : ∃ q, bareR s 2 { data := #[98] } = q := ⟨_, rfl⟩
  have cb1 : ∀ w, Calls Tryd.prog 34 #[.string s, .int .i64 4, .string { data := #[119] }] w fun e w' => e = .returned (.tuple #[.string q1.1, .int .u16 q1.2.1, .bool q1.2.2]) ∧ Below w.heap.size w w' := by rw [← hq1]; exact bare_any (.inr rfl) rfl hs
  have cb2 : ∀ w, Calls Tryd.prog 34 #[.string s, .int .i64 2, .string { data := #[98] }] w fun e w' => e = .returned (.tuple #[.string q2.1, .int .u16 q2.2.1, .bool q2.2.2]) ∧ Below w.heap.size w w' := by rw [← hq2]; exact bare_any (.inl rfl) rfl hs
  have k0 : keyOf Tryd.prog 9 (.string s) = some (.string s.data.toList) := keyOf_string_mk Tryd.underlying9 (by unfold maxLen; omega)
  have k1 : keyOf Tryd.prog 9 (.string q1.1) = some (.string q1.1.data.toList) := keyOf_string_mk Tryd.underlying9 (by have := bareR_size (s := s) (d := 4) (L := bs [119]) rfl (by decide) hs; rw [show bareR s 4 (bs [119]) = q1 from hq1] at this; unfold maxLen; omega)
  have k2 : keyOf Tryd.prog 9 (.string q2.1) = some (.string q2.1.data.toList) := keyOf_string_mk Tryd.underlying9 (by have := bareR_size (s := s) (d := 2) (L := bs [98]) rfl (by decide) hs; rw [show bareR s 2 (bs [98]) = q2 from hq2] at this; unfold maxLen; omega)
  have f0 := book_find s.data.toList 512
  have f1 := book_find q1.1.data.toList 512
  have f2 := book_find q2.1.data.toList 512
  obtain ⟨b0, hb0⟩ : ∃ b, (findN 512 s.data.toList).isSome = b := ⟨_, rfl⟩
  obtain ⟨b1, hb1⟩ : ∃ b, (findN 512 q1.1.data.toList).isSome = b := ⟨_, rfl⟩
  obtain ⟨b2, hb2⟩ : ∃ b, (findN 512 q2.1.data.toList).isSome = b := ⟨_, rfl⟩
  obtain ⟨v0, hv0⟩ : ∃ b, (findN 512 s.data.toList).getD 0 = b := ⟨_, rfl⟩
  obtain ⟨v1, hv1⟩ : ∃ b, (findN 512 q1.1.data.toList).getD 0 = b := ⟨_, rfl⟩
  obtain ⟨v2, hv2⟩ : ∃ b, (findN 512 q2.1.data.toList).getD 0 = b := ⟨_, rfl⟩
  rw [hb0, hv0] at f0
  rw [hb1, hv1] at f1
  rw [hb2, hv2] at f2
  have l0 : v0 ≤ 512 := hv0 ▸ findN_lt
  have l1 : v1 ≤ 512 := hv1 ▸ findN_lt
  have l2 : v2 ≤ 512 := hv2 ▸ findN_lt
  obtain ⟨F, hF⟩ : ∃ F, T.formS ((v0 % 256 : Nat) : Int) (decide (255 < v0)) = F := ⟨_, rfl⟩
  have cf : ∀ w, Calls Tryd.prog 23 #[.int .u8 ((v0 : Int) % 256), .bool (decide (255 < (v0 : Int)))] w fun e w' => e = .returned (.agg #[.int .i64 F.1, .int .i64 F.2.1, .int .i64 F.2.2.1, .int .i64 F.2.2.2.1, .int .i64 F.2.2.2.2.1, .int .i64 F.2.2.2.2.2]) ∧ Below w.heap.size w w' := by rw [← hF]; exact form_k v0
  have hint : ∀ {c v : Int}, (DataW.lit (H := Unit) (.int .i64 v)) = .lit (.int .i64 c) → c = v := fun h => by simp at h; exact h.symm
  obtain ⟨G, hG⟩ : ∃ G, asmG b0 v0 F.2.2.2.1 q1 b1 v1 q2 b2 v2 = G := ⟨_, rfl⟩
  have hR : asmR s = G := by
    rw [← hG, ← hF, ← hb0, ← hv0, ← hb1, ← hv1, ← hb2, ← hv2, ← hq1, ← hq2]; rfl
  rw [hR]
  have t0 : True := trivial
  have t1 : True := trivial
  have t2 : True := trivial
  have t3 : True := trivial
  go_enter Tryd.func15, Tryd.ntmps15
  go_wp2_with (first
    | (go_at_call 33; refine (book_any _).mono ?_; rintro e w1 ⟨rfl, hown1, hbl1⟩)
    | (at_lookup; have _t := t0; refine wpList_lookup_own_ok_int _ rfl _ _ 54 rfl 9 3 .i64 slaw Tryd.underlying54 Tryd.underlying3 (zero3 _) w.heap.size 512 (bookD 512) rfl hown1 _ _ rfl k0 ?_; intro c hat hwc; rw [f0.2] at hat; obtain rfl := hint hat; rw [f0.1]; clear t0)
    | (at_lookup; have _t := t1; refine wpList_lookup_own_ok_int _ rfl _ _ 54 rfl 9 3 .i64 slaw Tryd.underlying54 Tryd.underlying3 (zero3 _) w.heap.size 512 (bookD 512) rfl hown2 _ _ rfl k1 ?_; intro c hat hwc; rw [f1.2] at hat; obtain rfl := hint hat; rw [f1.1]; clear t1)
    | (at_lookup; have _t := t2; refine wpList_lookup_own_ok_int _ rfl _ _ 54 rfl 9 3 .i64 slaw Tryd.underlying54 Tryd.underlying3 (zero3 _) w.heap.size 512 (bookD 512) rfl hown3 _ _ rfl k2 ?_; intro c hat hwc; rw [f2.2] at hat; obtain rfl := hint hat; rw [f2.1]; clear t2)
    | (go_at_call 23; refine (cf _).mono ?_; rintro e w2 ⟨rfl, hbl2⟩)
    | (go_at_call 34; have _t := t3; refine (cb1 _).mono ?_; rintro e w2 ⟨rfl, hbl2⟩; have hown2 := own_below hown1 hbl2; clear t3)
    | (go_at_call 34; refine (cb2 _).mono ?_; rintro e w3 ⟨rfl, hbl3⟩; have hown3 := own_below hown2 hbl3)
    | go_in)
  all_goals
    unfold asmG asmT at hG
    repeat first
      | rw [if_pos (by first | assumption | omega)] at hG
      | rw [if_neg (by first | assumption | omega | (rw [Bool.not_eq_true]; assumption))] at hG
    subst hG
    go_ret2
    refine ⟨_, rfl, ?_, ?_⟩
    · first
        | exact .inl ⟨rfl, rfl⟩
        | (refine row_new ?_ rfl rfl _ rfl
           first
             | exact ((hbl1.trans (hbl2.mono hbl1.size)).trans (hbl3.mono (hbl1.trans (hbl2.mono hbl1.size)).size)).size
             | exact (hbl1.trans (hbl2.mono hbl1.size)).size)
        | (refine row_new ((hbl1.trans (hbl2.mono hbl1.size)).alloc (hbl1.trans (hbl2.mono hbl1.size)).size _).size ?_ rfl _ rfl; exact (Array.size_push _).symm)
    · first
        | exact ((hbl1.trans (hbl2.mono hbl1.size)).trans (hbl3.mono (hbl1.trans (hbl2.mono hbl1.size)).size)).alloc ((hbl1.trans (hbl2.mono hbl1.size)).trans (hbl3.mono (hbl1.trans (hbl2.mono hbl1.size)).size)).size _
        | exact (hbl1.trans (hbl2.mono hbl1.size)).trans (hbl3.mono (hbl1.trans (hbl2.mono hbl1.size)).size)
        | exact ((hbl1.trans (hbl2.mono hbl1.size)).alloc (hbl1.trans (hbl2.mono hbl1.size)).size _).alloc ((hbl1.trans (hbl2.mono hbl1.size)).alloc (hbl1.trans (hbl2.mono hbl1.size)).size _).size _
        | exact (hbl1.trans (hbl2.mono hbl1.size)).alloc (hbl1.trans (hbl2.mono hbl1.size)).size _
@[reducible] def listing_Assemble.as : List Shp := [.k .s]
@[reducible] def listing_Assemble.rs : List Shp := [.im ⟨.i .u8, []⟩, .k (.i .i64)]
def listing_Assemble.F (x : ByteArray × Unit) : Option (List Int × Int × Unit) := if x.1.size ≤ 140737488355328 then some ((asmR x.1).1, (asmR x.1).2, ()) else none
/-- a row of bytes that a call hands back stays as it is -/
theorem row_rel {S : Stay} {w w' : World} {V : Value} {l : List Int} (hr : Rel S [] [] w) (hb : Below w.heap.size w w') (hV : RowIs w.heap.size w' V l) :
    ∃ S', ImR S' ⟨.i .u8, []⟩ l V ∧ Rel S' [] [] w' ∧ Frx S S' [] [] w w' := by
  rcases hV with ⟨rfl, rfl⟩ | ⟨b, hbn, rfl, hc⟩
  · obtain ⟨h1, h2⟩ := below_rel hr hb
    exact ⟨S, ⟨none, 0, rfl, Nat.le_refl _, fun j x hj => by simp at hj⟩, h1, h2⟩
  · refine ⟨fun n => if n = b then w'.heap[b]? else S n, ?_, ?_, ?_⟩
    · refine ⟨some ⟨b, 0, none⟩, l.length, rfl, Nat.le_refl _, fun j x hj => ⟨b, 0, rfl, [.int .u8 x], rfl, fun i V hi => ?_⟩⟩
      match i, hi with
      | 0, hi =>
        simp only [List.getElem?_cons_zero, Option.some.injEq] at hi
        subst hi
        unfold scell
        dsimp only
        rw [if_pos rfl, hc]
        show (l.map (Value.int .u8)).toArray[0 + j * 1 + 0]? = _
        rw [List.getElem?_toArray, List.getElem?_map, Nat.zero_add, Nat.mul_one, Nat.add_zero, hj]
        rfl
      | i + 1, hi => simp at hi
    · refine ⟨rfl, fun i j bi bj n t u h => by simp at h, fun i b n t h => by simp at h, fun i b t h => by simp at h, fun n o h => ?_, fun n h => by simp [nums] at h⟩
      by_cases e : n = b
      · rw [if_pos e] at h; subst e; exact ⟨h, fun i b t h => by simp at h⟩
      · rw [if_neg e] at h
        have := hr.sig n o h
        exact ⟨(hb.block n (Array.getElem?_eq_some_iff.1 this.1).1).trans this.1, this.2⟩
    · refine ⟨hb.os, hb.tape, hb.output, hb.size, rfl, id, fun _ h => .inl h, fun k hk _ => hb.block k hk, fun n o h => ?_, fun n o h => ?_⟩
      · have h1 := hr.sig n o h
        have lt := (Array.getElem?_eq_some_iff.1 h1.1).1
        rw [if_neg (by omega)]; exact h
      · by_cases e : n = b
        · exact .inr (.inr (by omega))
        · rw [if_neg e] at h; exact .inl h
theorem listing_Assemble.ok : PureOK Tryd.prog 15 listing_Assemble.as listing_Assemble.rs listing_Assemble.F := by
  intro x y hx
  obtain ⟨s, u⟩ := x
  unfold listing_Assemble.F at hx
  split at hx
  · rename_i hp
    simp only [Option.some.injEq] at hx
    subst hx
    refine ⟨⟨Tryd.f15, Tryd.func15, by rfl, by rfl⟩, fun S w A hr hA => ?_⟩
    have hA' : A = [.string s] := by
      match A, hA with
      | [V], h => exact congrArg (fun z => [z]) h.1.1
    subst hA'
    refine (asm_any hp w).mono ?_
    rintro e w' ⟨V, rfl, hV, hb⟩
    obtain ⟨S', h1, h2, h3⟩ := row_rel hr hb hV
    exact ⟨S', _, rfl, ⟨[V, _], ⟨h1, ⟨rfl, rfl⟩, trivial⟩, rfl⟩, h2, h3⟩
  · simp at hx
end Go.Proofs.YtkdeheoonannoaaDoor.E
