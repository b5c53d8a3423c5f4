/- Functions of the program as plain Lean, and what they come to. Conditions: none. -/
import Derived.Test.YtkdeheoonannoaaDoorEwD
import Derived.Test.YtkdeheoonannoaaDoorPureR
open Go Go.Ew Go.RowKit
namespace Go.Proofs.YtkdeheoonannoaaDoor.E
set_option linter.unusedVariables false
set_option maxRecDepth 100000
/-! what is taken from the shelf -/
theorem below_rel {S : Stay} {w w' : World} (hr : Rel S [] [] w) (hb : Below w.heap.size w w') : Rel S [] [] w' ∧ Frx S S [] [] w w' := by
  refine ⟨⟨hr.len, hr.inj, fun i b n t h => by simp at h, fun i b t h => by simp at h, fun n o h => ?_, fun n h => by simp [nums] at h⟩, ⟨hb.os, hb.tape, hb.output, hb.size, rfl, id, fun _ h => .inl h, fun k hk _ => hb.block k hk, Stay.le.refl S, fun _ _ h => .inl h⟩⟩
  have := hr.sig n o h
  exact ⟨(hb.block n (Array.getElem?_eq_some_iff.1 this.1).1).trans this.1, this.2⟩
/-- texts one behind the other -/
def joinB (l : List ByteArray) (sep : ByteArray) : ByteArray := ⟨(Go.Lib.join (l.map (·.data.toList)) sep.data.toList).toArray⟩
@[reducible] def strings_Join.as : List Shp := [.im ⟨.s, []⟩, .k .s]
@[reducible] def strings_Join.rs : List Shp := [.k .s]
def strings_Join.F (x : List ByteArray × ByteArray × Unit) : Option (ByteArray × Unit) := if x.1.length ≤ 1000 ∧ (joinB x.1 x.2.1).size ≤ 140737488355328 then some (joinB x.1 x.2.1, ()) else none
theorem cell_sig {S : Stay} {w : World} (hr : Rel S [] [] w) {b off : Nat} {V : Value} (h : scell S b off = some V) : w.cell? ⟨b, off, none⟩ = some V ∧ b < w.heap.size := by
  unfold scell at h
  split at h
  · rename_i a t z hs
    have := (hr.sig b _ hs).1
    refine ⟨?_, (Array.getElem?_eq_some_iff.1 this).1⟩
    simp [World.cell?, this, h]
  · simp at h
theorem strings_Join.ok : PureOK Tryd.prog 63 strings_Join.as strings_Join.rs strings_Join.F := by
  intro x y hx
  obtain ⟨l, sep, u⟩ := x
  unfold strings_Join.F at hx
  split at hx
  · rename_i hp
    simp only [Option.some.injEq] at hx
    subst hx
    refine ⟨⟨Tryd.f63, Tryd.func63, by rfl, by rfl⟩, fun S w A hr hA => ?_⟩
    obtain ⟨V0, A0, rfl, h0, hA1⟩ : ∃ V0 A0, A = V0 :: A0 ∧ AV.R S [] (encS (.im ⟨.s, []⟩) l) V0 ∧ LR (AV.R S []) (encSS [.k .s] (sep, ())) A0 := by
      match A, hA with
      | V :: A0, h => exact ⟨V, A0, rfl, h.1, h.2⟩
    have hA0 : A0 = [.string sep] := by
      match A0, hA1 with
      | [V], h => exact congrArg (fun z => [z]) h.1.1
    subst hA0
    obtain ⟨A, c, rfl, hc, hx⟩ : ImR S ⟨.s, []⟩ l V0 := h0
    have key : Calls Tryd.prog 63 #[.slice A l.length c, .string sep] w fun e w' => e = .returned (.string (joinB l sep)) ∧ Below w.heap.size w w' := by
      cases l with
      | nil =>
        refine (Tryd.strings_Join_none A c sep w).mono ?_
        rintro e w' ⟨rfl, rfl⟩
        exact ⟨rfl, Below.refl _ _⟩
      | cons a l =>
        obtain ⟨b, o, rfl, L, hL, hcell⟩ := hx 0 a rfl
        have one : ∀ (j : Nat) x, (a :: l)[j]? = some x → scell S b (o + j) = some (.string x) := by
          intro j x hj
          obtain ⟨b', o', e, L, hL, hcell⟩ := hx j x hj
          simp only [Option.some.injEq, Addr.mk.injEq] at e
          obtain ⟨rfl, rfl, _⟩ := e
          match L, hL with
          | [V], h =>
            have e : V = .string x := h
            subst e
            have := hcell 0 _ rfl
            simpa [Tag.sz] using this
        refine Tryd.strings_Join b o c (a :: l) sep w (fun j x hj => (cell_sig hr (one j x hj)).1) (cell_sig hr (one 0 a rfl)).2 (by have := hp.1; dsimp only at this; omega) hc ?_
        have e : (joinB (a :: l) sep).size = (Go.Lib.join ((a :: l).map (·.data.toList)) sep.data.toList).length := by
          unfold joinB; simp [ByteArray.size]
        have h2 : (joinB (a :: l) sep).size ≤ 140737488355328 := hp.2
        exact Nat.le_trans (Nat.le_of_eq e.symm) (by omega)
    refine key.mono ?_
    rintro e w' ⟨rfl, hb⟩
    obtain ⟨h1, h2⟩ := below_rel hr hb
    exact ⟨S, _, rfl, ⟨rfl, rfl⟩, h1, h2⟩
  · simp at hx
@[reducible] def strings_IndexByte.as : List Shp := [.k .s, .k (.i .u8)]
@[reducible] def strings_IndexByte.rs : List Shp := [.k (.i .i64)]
def strings_IndexByte.F (x : ByteArray × Int × Unit) : Option (Int × Unit) := some (Go.Lib.indexByte x.1.data.toList x.2.1.toNat.toUInt8, ())
theorem strings_IndexByte.ok : PureOK Tryd.prog 58 strings_IndexByte.as strings_IndexByte.rs strings_IndexByte.F := by
  intro x y hx
  obtain ⟨s, c, u⟩ := x
  simp only [strings_IndexByte.F, Option.some.injEq] at hx
  subst hx
  refine ⟨⟨Tryd.f58, Tryd.func58, by rfl, by rfl⟩, fun S w A hr hA => ?_⟩
  have hA' : A = [.string s, .int .u8 c] := by
    match A, hA with
    | [V, W], h => rw [show V = _ from h.1.1, show W = _ from h.2.1.1]
  subst hA'
  refine (Tryd.strings_IndexByte s c w).mono ?_
  rintro e w' ⟨rfl, rfl⟩
  obtain ⟨h1, h2⟩ := below_rel hr (Below.refl _ _)
  exact ⟨S, _, rfl, ⟨rfl, rfl⟩, h1, h2⟩
def upB (s : ByteArray) : ByteArray := ⟨(Go.Lib.toUpperA s.data.toList).toArray⟩
@[reducible] def strings_ToUpper.as : List Shp := [.k .s]
@[reducible] def strings_ToUpper.rs : List Shp := [.k .s]
def strings_ToUpper.F (x : ByteArray × Unit) : Option (ByteArray × Unit) := if x.1.size ≤ 1000 ∧ x.1.data.toList.all (fun b => decide (b.toNat < 128)) = true then some (upB x.1, ()) else none
theorem strings_ToUpper.ok : PureOK Tryd.prog 60 strings_ToUpper.as strings_ToUpper.rs strings_ToUpper.F := by
  intro x y hx
  obtain ⟨s, u⟩ := x
  unfold strings_ToUpper.F at hx
  split at hx
  · rename_i hp
    simp only [Option.some.injEq] at hx
    subst hx
    refine ⟨⟨Tryd.f60, Tryd.func60, by rfl, by rfl⟩, fun S w A hr hA => ?_⟩
    have hA' : A = [.string s] := by
      match A, hA with
      | [V], h => exact congrArg (fun z => [z]) h.1.1
    subst hA'
    refine (Tryd.strings_ToUpper_ascii s w (by have := hp.1; dsimp only at this; omega) (fun j b hj => ?_)).mono ?_
    · have := List.all_eq_true.1 hp.2 b (List.mem_of_getElem? hj)
      simpa using this
    rintro e w' ⟨rfl, hb⟩
    obtain ⟨h1, h2⟩ := below_rel hr hb
    exact ⟨S, _, rfl, ⟨rfl, rfl⟩, h1, h2⟩
  · simp at hx
@[reducible] def word_Read.as : List Shp := [.k .s, .k (.i .i64)]
@[reducible] def word_Read.rs : List Shp := [.k (.i .u16), .k (.i .i64)]
def word_Read.F (x : ByteArray × Int × Unit) : Option (Int × Int × Unit) := some ((R.readS x.1 x.2.1).1, (R.readS x.1 x.2.1).2, ())
theorem word_Read.ok : PureOK Tryd.prog 59 word_Read.as word_Read.rs word_Read.F := by
  intro x y hx
  obtain ⟨s, n, u⟩ := x
  simp only [word_Read.F, Option.some.injEq] at hx
  subst hx
  refine ⟨⟨Tryd.f59, Tryd.func59, by rfl, by rfl⟩, fun S w A hr hA => ?_⟩
  have hA' : A = [.string s, .int .i64 n] := by
    match A, hA with
    | [V, W], h => rw [show V = _ from h.1.1, show W = _ from h.2.1.1]
  subst hA'
  refine (R.read_any s n w).mono ?_
  rintro e w' ⟨rfl, hb⟩
  obtain ⟨h1, h2⟩ := below_rel hr hb
  exact ⟨S, _, rfl, ⟨[_, _], ⟨⟨rfl, rfl⟩, ⟨rfl, rfl⟩, trivial⟩, rfl⟩, h1, h2⟩
end Go.Proofs.YtkdeheoonannoaaDoor.E
