/- Functions of the program as plain Lean, and what they come to. Conditions: none. -/
import Derived.Test.YtkdeheoonannoaaDoorEwD
import Derived.Test.YtkdeheoonannoaaDoorPureAl
open Go Go.Ew
namespace Go.Proofs.YtkdeheoonannoaaDoor.E
open Go.IntKind (wrap)
set_option linter.unusedVariables false
set_option linter.unusedSimpArgs false
set_option maxRecDepth 100000
/-! what one line means -/
def bytesT (i lo hi : Nat) : List Int := if i < 256 then List.take (1 + txZ i) [(i : Int), (lo : Int), (hi : Int)] else [203, ((i - 256 : Nat) : Int)]
theorem fin_k : ∀ op : Fin 256, (kN op.val false = 6 → op.val = 203) ∧ (kN op.val false = 5 → lN op.val false = 1) := by decide +kernel
theorem fin_a : ∀ i : Fin 512, txA i.val ≠ [] := by decide +kernel
theorem take1 {b : List Int} (h : 1 ≤ b.length) : b.take 1 = [b.getD 0 0] := by
  match b, h with
  | x :: r, _ => rfl
theorem take2 {b : List Int} (h : 2 ≤ b.length) : b.take 2 = [b.getD 0 0, b.getD 1 0] := by
  match b, h with
  | x :: y :: r, _ => rfl
theorem take3 {b : List Int} (h : 3 ≤ b.length) : b.take 3 = [b.getD 0 0, b.getD 1 0, b.getD 2 0] := by
  match b, h with
  | x :: y :: z :: r, _ => rfl
inductive Means (b : List Int) : Prop
  | db (v : Nat) (hv : v < 256) (e : (oneS b).1 = dbS v) (n : (oneS b).2 = 1) (t : b.take 1 = [(v : Int)]) (g : ¬ (goodI v = true ∧ lN v false = 1))
  | tx (i lo hi : Nat) (hi5 : i < 512) (h1 : lo < 256) (h2 : hi < 256) (g : goodI i = true) (e : (oneS b).1 = TX i lo hi) (n : (oneS b).2 = (bytesT i lo hi).length) (t : b.take (oneS b).2 = bytesT i lo hi) (z0 : txZ i = 0 → lo = 0 ∧ hi = 0) (z1 : txZ i = 1 → hi = 0)
theorem one_mean {b : List Int} (h : okBy b) (h0 : b.length ≠ 0) : Means b := by
  obtain ⟨n0, e0⟩ := bN_lt h 0
  obtain ⟨n1, e1⟩ := bN_lt h 1
  obtain ⟨n2, e2⟩ := bN_lt h 2
  have t0 := tab_fin ⟨bN b 0, n0⟩ false
  have hl1 : 1 ≤ lN (bN b 0) false := by have := t0.2.2.2.1; dsimp only at this; unfold lN; omega
  have hl3 : lN (bN b 0) false ≤ 3 := by have := t0.2.2.2.2.1; dsimp only at this; unfold lN; omega
  have k1 := take1 (b := b) (by omega)
  rw [e0] at k1
  by_cases c6 : kN (bN b 0) false = 6 ∧ 1 < b.length
  · have eo : oneS b = (txS (bN b 1) true 0 0, 2) := by unfold oneS; rw [if_neg h0, if_pos c6]
    have k2 := take2 (b := b) (by omega)
    have q3 : bN b 0 = 203 := (fin_k ⟨bN b 0, n0⟩).1 c6.1
    rw [e0, e1, q3] at k2
    have eb : bytesT (256 + bN b 1) 0 0 = [203, (bN b 1 : Int)] := by
      unfold bytesT; rw [if_neg (by omega), show 256 + bN b 1 - 256 = bN b 1 by omega]
    refine .tx (256 + bN b 1) 0 0 (by omega) (by decide) (by decide) (gcb n1) ?_ ?_ ?_ (fun _ => ⟨rfl, rfl⟩) (fun _ => rfl)
    · rw [eo, TX_cb _ n1]
    · rw [eo, eb]; rfl
    · rw [eo, eb]; exact k2
  by_cases cl : b.length < lN (bN b 0) false
  · have eo : oneS b = (dbS (bN b 0), 1) := by unfold oneS; rw [if_neg h0, if_neg c6, if_pos cl]
    exact .db (bN b 0) n0 (by rw [eo]) (by rw [eo]) k1 (fun z => by omega)
  have eo : oneS b = (txS (bN b 0) false (if 1 < lN (bN b 0) false then bN b 1 else 0) (if 2 < lN (bN b 0) false then bN b 2 else 0), lN (bN b 0) false) := by unfold oneS; rw [if_neg h0, if_neg c6, if_neg cl]
  by_cases g : goodI (bN b 0) = true
  · have f := info (i := bN b 0) (by omega)
    have ll : lN (bN b 0) false = 1 + txZ (bN b 0) := by have := f.l; rw [if_pos n0] at this; exact this g
    have hz := f.z
    have cs : txZ (bN b 0) = 0 ∨ txZ (bN b 0) = 1 ∨ txZ (bN b 0) = 2 := by omega
    rcases cs with z | z | z
    · rw [ll, z, if_neg (by decide), if_neg (by decide)] at eo
      have eb : bytesT (bN b 0) 0 0 = [(bN b 0 : Int)] := by unfold bytesT; rw [if_pos n0, z]; rfl
      refine .tx (bN b 0) 0 0 (by omega) (by decide) (by decide) g ?_ ?_ ?_ (fun _ => ⟨rfl, rfl⟩) (fun _ => rfl)
      · rw [eo, TX_no _ n0]
      · rw [eo, eb]; rfl
      · rw [eo, eb]; exact k1
    · have k2 := take2 (b := b) (by omega)
      rw [e0, e1] at k2
      rw [ll, z, if_pos (by decide), if_neg (by decide)] at eo
      have eb : bytesT (bN b 0) (bN b 1) 0 = [(bN b 0 : Int), (bN b 1 : Int)] := by unfold bytesT; rw [if_pos n0, z]; rfl
      refine .tx (bN b 0) (bN b 1) 0 (by omega) n1 (by decide) g ?_ ?_ ?_ (fun q => by omega) (fun _ => rfl)
      · rw [eo, TX_no _ n0]
      · rw [eo, eb]; rfl
      · rw [eo, eb]; exact k2
    · have k3 := take3 (b := b) (by omega)
      rw [e0, e1, e2] at k3
      rw [ll, z, if_pos (by decide), if_pos (by decide)] at eo
      have eb : bytesT (bN b 0) (bN b 1) (bN b 2) = [(bN b 0 : Int), (bN b 1 : Int), (bN b 2 : Int)] := by unfold bytesT; rw [if_pos n0, z]; rfl
      refine .tx (bN b 0) (bN b 1) (bN b 2) (by omega) n1 n2 g ?_ ?_ ?_ (fun q => by omega) (fun q => by omega)
      · rw [eo, TX_no _ n0]
      · rw [eo, eb]; rfl
      · rw [eo, eb]; exact k3
  · have gf : goodI (bN b 0) = false := by cases e : goodI (bN b 0) with | true => exact absurd e g | false => rfl
    have l1 : lN (bN b 0) false = 1 := by
      rcases (good_k ⟨bN b 0, n0⟩).1 gf with q | q
      · exact (fin_k ⟨bN b 0, n0⟩).2 q
      · exact ((len_fin ⟨bN b 0, n0⟩).2 q).1
    have tx : txS (bN b 0) false 0 0 = dbS (bN b 0) := by
      rcases (good_k ⟨bN b 0, n0⟩).1 gf with q | q
      · rw [← TX_no _ n0]; exact ba_ext (by rw [db_list]; exact ill_TL n0 q)
      · exact ((len_fin ⟨bN b 0, n0⟩).2 q).2
    rw [l1, if_neg (by decide), if_neg (by decide), tx] at eo
    exact .db (bN b 0) n0 (by rw [eo]) (by rw [eo]) k1 (fun z => g z.1)
theorem hx_inj {v w : Nat} (hv : v < 256) (hw : w < 256) (e : hx v = hx w) : v = w := by
  have a := hexF_hx hv [] 0
  have b := hexF_hx hw [] 0
  rw [e, b] at a
  simp only [hexF, Option.some.injEq] at a
  omega
theorem db_inj {v w : Nat} (hv : v < 256) (hw : w < 256) (e : dbS v = dbS w) : v = w := by
  have this : (dbS v).data.toList = (dbS w).data.toList := by rw [e]
  rw [db_list, db_list] at this
  have := List.append_cancel_left this
  simp only [List.cons.injEq, true_and] at this
  exact hx_inj hv hw this
theorem TX_ne {i lo hi : Nat} (h : i < 512) : TX i lo hi ≠ bs [] := by
  intro e
  have := congrArg (fun b : ByteArray => b.data.toList) e
  have e2 : TL i lo hi = [] := this
  rw [TL_eq h] at e2
  have := (List.append_eq_nil_iff.1 e2).1
  exact fin_a ⟨i, h⟩ (List.map_eq_nil_iff.1 this)
theorem db_ne {v : Nat} : dbS v ≠ bs [] := by
  intro e
  have this : (dbS v).data.toList = [] := by rw [e]; rfl
  rw [db_list] at this
  have e2 : DBL v = [] := this
  unfold DBL at e2
  simp at e2
theorem bytesT_len {i lo hi : Nat} (h : i < 512) : 1 ≤ (bytesT i lo hi).length := by
  unfold bytesT
  split
  · rw [List.length_take]; simp; omega
  · show 1 ≤ 2; decide
theorem tx_same {i lo hi lo' hi' : Nat} (h : i < 512) (h1 : lo < 256) (h2 : hi < 256) (h3 : lo' < 256) (h4 : hi' < 256) (z0 : txZ i = 0 → lo = 0 ∧ hi = 0) (z1 : txZ i = 1 → hi = 0) (y0 : txZ i = 0 → lo' = 0 ∧ hi' = 0) (y1 : txZ i = 1 → hi' = 0) (e : TL i lo hi = TL i lo' hi') : lo = lo' ∧ hi = hi' := by
  rw [TL_eq h, TL_eq h] at e
  have e2 := List.append_cancel_right (List.append_cancel_left e)
  have hz := (info h).z
  have cs : txZ i = 0 ∨ txZ i = 1 ∨ txZ i = 2 := by omega
  rcases cs with z | z | z
  · exact ⟨(z0 z).1.trans (y0 z).1.symm, (z0 z).2.trans (y0 z).2.symm⟩
  · rw [z] at e2
    have : hx lo = hx lo' := (List.cons.inj e2).2
    exact ⟨hx_inj h1 h3 this, (z1 z).trans (y1 z).symm⟩
  · rw [z] at e2
    have e3 : hx hi ++ hx lo = hx hi' ++ hx lo' := (List.cons.inj e2).2
    have e4 := List.append_inj e3 rfl
    exact ⟨hx_inj h1 h3 e4.2, hx_inj h2 h4 e4.1⟩
theorem bytesT_inj {i j lo hi lo' hi' : Nat} (hi5 : i < 512) (hj5 : j < 512) (gi : goodI i = true) (gj : goodI j = true) (z0 : txZ i = 0 → lo = 0 ∧ hi = 0) (z1 : txZ i = 1 → hi = 0) (y0 : txZ j = 0 → lo' = 0 ∧ hi' = 0) (y1 : txZ j = 1 → hi' = 0)
    (e : bytesT i lo hi = bytesT j lo' hi') : i = j ∧ lo = lo' ∧ hi = hi' := by
  have g203 : goodI 203 = false := by decide +kernel
  have zc : ∀ i, i < 512 → ¬ i < 256 → txZ i = 0 := fun i h5 h => by have := (info h5).l; rw [if_neg h] at this; exact this
  have hd1 : ∀ i lo hi : Nat, i < 256 → ∃ r, bytesT i lo hi = (i : Int) :: r := fun i lo hi h => by
    unfold bytesT; rw [if_pos h, show 1 + txZ i = txZ i + 1 by omega]; exact ⟨_, rfl⟩
  by_cases ci : i < 256
  · obtain ⟨r, hr⟩ := hd1 i lo hi ci
    by_cases cj : j < 256
    · obtain ⟨r', hr'⟩ := hd1 j lo' hi' cj
      have ij : i = j := by rw [hr, hr'] at e; have := (List.cons.inj e).1; omega
      subst ij
      refine ⟨rfl, ?_⟩
      unfold bytesT at e
      rw [if_pos ci, if_pos ci] at e
      have hz := (info hi5).z
      have cs : txZ i = 0 ∨ txZ i = 1 ∨ txZ i = 2 := by omega
      rcases cs with z | z | z
      · exact ⟨(z0 z).1.trans (y0 z).1.symm, (z0 z).2.trans (y0 z).2.symm⟩
      · rw [z] at e
        have e2 : [(i : Int), (lo : Int)] = [(i : Int), (lo' : Int)] := e
        simp at e2
        exact ⟨by omega, (z1 z).trans (y1 z).symm⟩
      · rw [z] at e
        have e2 : [(i : Int), (lo : Int), (hi : Int)] = [(i : Int), (lo' : Int), (hi' : Int)] := e
        simp at e2
        exact ⟨by omega, by omega⟩
    · rw [hr] at e
      unfold bytesT at e
      rw [if_neg cj] at e
      have : (i : Int) = 203 := (List.cons.inj e).1
      have : i = 203 := by omega
      rw [this, g203] at gi; cases gi
  · have zi := zc i hi5 ci
    by_cases cj : j < 256
    · obtain ⟨r', hr'⟩ := hd1 j lo' hi' cj
      rw [hr'] at e
      unfold bytesT at e
      rw [if_neg ci] at e
      have : (203 : Int) = (j : Int) := (List.cons.inj e).1
      have : j = 203 := by omega
      rw [this, g203] at gj; cases gj
    · have zj := zc j hj5 cj
      unfold bytesT at e
      rw [if_neg ci, if_neg cj] at e
      have : ((i - 256 : Nat) : Int) = ((j - 256 : Nat) : Int) := by simpa using e
      exact ⟨by omega, (z0 zi).1.trans (y0 zj).1.symm, (z0 zi).2.trans (y0 zj).2.symm⟩
theorem db_tx {v i lo hi : Nat} (hv : v < 256) (g : ¬ (goodI v = true ∧ lN v false = 1)) (h5 : i < 512) (gi : goodI i = true) : [(v : Int)] ≠ bytesT i lo hi := by
  intro e
  unfold bytesT at e
  split at e
  · rename_i ci
    rw [show 1 + txZ i = txZ i + 1 by omega] at e
    have e1 : (v : Int) = (i : Int) := (List.cons.inj e).1
    have e2 := congrArg List.length e
    have vi : v = i := by omega
    subst vi
    have ll : lN v false = 1 + txZ v := by have := (info h5).l; rw [if_pos ci] at this; exact this gi
    have hz := (info h5).z
    rw [List.length_take] at e2
    simp at e2
    exact g ⟨gi, by omega⟩
  · simp at e
theorem apart_eq {a b : List Int} (ha : okBy a) (hb : okBy b) : (oneS a).1 = (oneS b).1 ↔ a.take (oneS a).2 = b.take (oneS b).2 := by
  have nil : ∀ {b : List Int}, b.length = 0 → oneS b = (bs [], 0) := fun h => by unfold oneS; exact if_pos h
  have ne : ∀ {b : List Int}, okBy b → b.length ≠ 0 → (oneS b).1 ≠ bs [] ∧ b.take (oneS b).2 ≠ [] := by
    intro b hb h0
    have := one_len hb h0
    refine ⟨?_, fun z => ?_⟩
    · rcases one_mean hb h0 with ⟨v, hv, e, _, _, _⟩ | ⟨i, lo, hi, h5, _, _, _, e, _, _, _, _⟩
      · rw [e]; exact db_ne
      · rw [e]; exact TX_ne h5
    · have q := congrArg List.length z
      rw [List.length_take, List.length_nil] at q
      omega
  by_cases a0 : a.length = 0
  · by_cases b0 : b.length = 0
    · rw [nil a0, nil b0]; simp
    · have := ne hb b0
      rw [nil a0]
      exact ⟨fun z => absurd z.symm this.1, fun z => absurd z.symm this.2⟩
  by_cases b0 : b.length = 0
  · have := ne ha a0
    rw [nil b0]
    exact ⟨fun z => absurd z this.1, fun z => absurd z this.2⟩
  rcases one_mean ha a0 with ⟨v, hv, e, n, t, g⟩ | ⟨i, lo, hi, h5, h1, h2, g, e, n, t, z0, z1⟩ <;> rcases one_mean hb b0 with ⟨w, hw, e', n', t', g'⟩ | ⟨j, lo', hi', h5', h1', h2', g', e', n', t', y0, y1⟩
  · rw [e, e', n, n', t, t']
    refine ⟨fun z => by rw [db_inj hv hw z], fun z => ?_⟩
    have : (v : Int) = (w : Int) := by simpa using z
    rw [show v = w by omega]
  · rw [e, e', n, t, t']
    exact ⟨fun z => (db_no h5' g' h1' h2' hv (by rw [← db_list, z]; rfl)).elim, fun z => (db_tx hv g h5' g' z).elim⟩
  · rw [e, e', n', t, t']
    exact ⟨fun z => (db_no h5 g h1 h2 hw (by rw [← db_list, ← z]; rfl)).elim, fun z => (db_tx hw g' h5 g z.symm).elim⟩
  · rw [e, e', t, t']
    refine ⟨fun z => ?_, fun z => ?_⟩
    · have zl : TL i lo hi = TL j lo' hi' := congrArg (fun b : ByteArray => b.data.toList) z
      have ij := uniq h5 h5' g g' h1 h2 h1' h2' zl
      subst ij
      have := tx_same h5 h1 h2 h1' h2' z0 z1 y0 y1 zl
      rw [this.1, this.2]
    · obtain ⟨rfl, rfl, rfl⟩ := bytesT_inj h5 h5' g g' z0 z1 y0 y1 z
      rfl
end Go.Proofs.YtkdeheoonannoaaDoor.E
