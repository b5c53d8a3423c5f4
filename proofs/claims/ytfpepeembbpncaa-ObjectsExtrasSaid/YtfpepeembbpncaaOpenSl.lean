/- A slice of objects handed in, opened to a list. Conditions: none. -/
import Derived.Test.YtfpepeembbpncaaPx0
import Derived.Test.YtfpepeembbpncaaCells
import Derived.Deep.Slices
import Derived.Deep.Fields
namespace Go.Proofs.Ytfpepeembbpncaa.E
open Go Go.RowKit Go.ChangeShapes Go.WideShapes Go.Deep Go.Proofs.Ytfpepeembbpncaa.P Go.Proofs.YtfpepeembbpncaaW.PrintWords
set_option linter.unusedVariables false
set_option linter.unusedSimpArgs false
section
variable {H : Type} {enc : TypeId × Value → H} {P : Program} {w : World} {base : Nat} {spare : Nat → Bool} {held : Bool}
theorem cells_of_trod {t : TypeId} {fs : Array Field} {fuel : Nat} {cs : List Value} {x : DataW H × List MemPlace} (hs : P.underlying t = some (.struct fs)) (hone : oneCellFields P fs = true) (hC : P.cellsOf t = fs.size)
    (h : DataW.trod enc P w base spare held fuel t cs = some x) :
    cs.length = fs.size ∧ ∀ (j : Nat) (f : Field) (c : Value), fs[j]? = some f → cs[j]? = some c → ∃ n y, DataW.trod enc P w base spare held n f.type [c] = some y := by
  obtain ⟨xs, n, _, _, hcl, hlen, hg⟩ := DataW.trod_struct hs h
  refine ⟨hcl.trans hC, fun j f c hj hc => ?_⟩
  obtain ⟨o, k⟩ := hone_of hone j f hj
  have hjl : j < fs.size := (Array.getElem?_eq_some_iff.1 hj).1
  have h1 := hg j f hj
  have hx : xs[j]? = some (xs[j]'(by omega)) := List.getElem?_eq_getElem (by omega)
  obtain ⟨hl, e⟩ := List.getElem?_eq_some_iff.1 hc
  have hd : (cs.drop j).take 1 = [c] := by
    rw [List.drop_eq_getElem_cons hl]
    simp [e]
  refine ⟨n, xs[j]'(by omega), ?_⟩
  rw [hx, o, k, hd] at h1
  exact h1
end
theorem list5 {cs : List Value} (h : cs.length = 5) : ∃ c0 c1 c2 c3 c4, cs = [c0, c1, c2, c3, c4] := by
  match cs, h with
  | [c0, c1, c2, c3, c4], _ => exact ⟨c0, c1, c2, c3, c4, rfl⟩
def wfS (x : S29) : Prop := (Lit.int .u8 x.f0).wf = true ∧ (Lit.int .u8 x.f1).wf = true ∧ (Lit.int .u8 x.f2).wf = true ∧ (Lit.int .u8 x.f3).wf = true ∧ (Lit.int .u8 x.f4).wf = true
theorem obj_of {H : Type} {enc : TypeId × Value → H} {w : World} {base : Nat} {spare : Nat → Bool} {held : Bool} {fuel : Nat} {cs : List Value} {x : DataW H × List MemPlace} (h : DataW.trod enc Try.prog w base spare held fuel 29 cs = some x) :
    ∃ o : S29, wfS o ∧ cs = [.int .u8 o.f0, .int .u8 o.f1, .int .u8 o.f2, .int .u8 o.f3, .int .u8 o.f4] := by
  obtain ⟨hl, hf⟩ := cells_of_trod Try.underlying29 (by kernel_rfl) (by kernel_rfl) h
  obtain ⟨c0, c1, c2, c3, c4, rfl⟩ := list5 hl
  obtain ⟨n0, y0, g0⟩ := hf 0 _ _ rfl rfl
  obtain ⟨n1, y1, g1⟩ := hf 1 _ _ rfl rfl
  obtain ⟨n2, y2, g2⟩ := hf 2 _ _ rfl rfl
  obtain ⟨n3, y3, g3⟩ := hf 3 _ _ rfl rfl
  obtain ⟨n4, y4, g4⟩ := hf 4 _ _ rfl rfl
  obtain ⟨a0, e0, -, w0⟩ := DataW.trod_int Try.underlying5 g0
  obtain ⟨a1, e1, -, w1⟩ := DataW.trod_int Try.underlying5 g1
  obtain ⟨a2, e2, -, w2⟩ := DataW.trod_int Try.underlying5 g2
  obtain ⟨a3, e3, -, w3⟩ := DataW.trod_int Try.underlying5 g3
  obtain ⟨a4, e4, -, w4⟩ := DataW.trod_int Try.underlying5 g4
  simp only [List.cons.injEq, and_true] at e0 e1 e2 e3 e4
  subst e0 e1 e2 e3 e4
  exact ⟨⟨a0, a1, a2, a3, a4⟩, ⟨w0, w1, w2, w3, w4⟩, rfl⟩
theorem open_sl25 {H : Type} {enc : TypeId × Value → H} {W : World} {r : Reach} {b0 base : Nat} {spare : Nat → Bool} {held : Bool} {v : Value} {d : DataW H} {p : List MemPlace} (hv : Value.okWide Try.prog W r b0 25 v) (h : DataW.Trod enc Try.prog W base spare held 25 v d p) :
    ∃ (A : Option Addr) (c : Nat) (l : List S29), v = .slice A l.length c ∧ Kd.C k29 W A l.length l ∧ l.length ≤ c ∧ l.length ≤ maxLen ∧ ∀ x ∈ l, wfS x := by
  obtain ⟨a, len, cap, rfl⟩ := okWide_slice Try.underlying25 hv
  obtain ⟨fuel, hf⟩ := h
  rcases Go.Deep.open_slice Try.underlying25 hf with ⟨hcs, _⟩ | ⟨a', len', cap', m, n, D, Pl, hcs, hb, hl, hm, hmm, hx, hi⟩
  · simp [Value.cells] at hcs
    obtain ⟨rfl, rfl, rfl⟩ := hcs
    exact ⟨none, 0, [], rfl, ⟨rfl, by simp, fun h => absurd h (by simp)⟩, by simp, by simp, by simp⟩
  · simp [Value.cells] at hcs
    obtain ⟨rfl, rfl, rfl⟩ := hcs
    have hlm : len ≤ m := by rw [hmm]; split <;> omega
    have hel : ∀ i, ∃ o : S29, i < len → wfS o ∧ ∀ j u, ([.int .u8 o.f0, .int .u8 o.f1, .int .u8 o.f2, .int .u8 o.f3, .int .u8 o.f4] : List Value)[j]? = some u → W.cell? (a'.add (i * 5 + j)) = some u := by
      intro i
      by_cases hil : i < len
      · obtain ⟨cs', hc, ht⟩ := hi i (by omega)
        obtain ⟨o, wo, rfl⟩ := obj_of ht
        have C5 : Try.prog.cellsOf 29 = 5 := by kernel_rfl
        rw [C5] at hc
        obtain ⟨_, hcl, hat⟩ := World.cells?_some hc
        refine ⟨o, fun _ => ⟨wo, fun j u hj => ?_⟩⟩
        have hj5 : j < 5 := by
          obtain ⟨q, _⟩ := List.getElem?_eq_some_iff.1 hj
          simpa using q
        rw [← Go.Deep.add_add, hat j hj5]
        exact hj
      · exact ⟨z29, fun h => absurd h hil⟩
    let g : Nat → S29 := fun i => Classical.choose (hel i)
    have hg : ∀ i, i < len → wfS (g i) ∧ ∀ j u, ([.int .u8 (g i).f0, .int .u8 (g i).f1, .int .u8 (g i).f2, .int .u8 (g i).f3, .int .u8 (g i).f4] : List Value)[j]? = some u → W.cell? (a'.add (i * 5 + j)) = some u := fun i => Classical.choose_spec (hel i)
    have hlen : ((List.range len).map g).length = len := by simp
    refine ⟨some a', cap, (List.range len).map g, by rw [hlen], ⟨rfl, ?_, fun _ => ⟨a', rfl, fun j q hj => ?_⟩⟩, by rw [hlen]; exact hl, by rw [hlen]; omega, fun x hx => ?_⟩
    · rw [hlen]; unfold maxLen at hm; omega
    · obtain ⟨hjl, e⟩ := List.getElem?_eq_some_iff.1 hj
      simp only [List.getElem_map, List.getElem_range] at e
      subst e
      have hjl' : j < len := by simpa using hjl
      exact ⟨_, rfl, k29_mk W (g j), fun i u hi => (hg j hjl').2 i u hi⟩
    · obtain ⟨i, hi, rfl⟩ := List.mem_map.1 hx
      exact (hg i (List.mem_range.1 hi)).1
end Go.Proofs.Ytfpepeembbpncaa.E
