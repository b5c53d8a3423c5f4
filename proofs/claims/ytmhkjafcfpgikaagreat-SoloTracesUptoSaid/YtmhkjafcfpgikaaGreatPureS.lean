/- Functions of the program as plain Lean, and what they come to. Conditions: none. -/
import Derived.Test.YtmhkjafcfpgikaaGreatEwD
import Derived.Test.YtmhkjafcfpgikaaGreatPureO
import Derived.Test.YtmhkjafcfpgikaaGreatWalkL
open Go Go.Ew
namespace Go.Proofs.YtmhkjafcfpgikaaGreat.E

set_option linter.unusedVariables false
set_option linter.unusedSimpArgs false
set_option maxRecDepth 100000
abbrev ltrD := (((List (Int × Int × Int)) × Bool × (List ByteArray) × (List ByteArray) × Int × Unit) × Unit × Unit)
abbrev ltrX := (((Bool × Unit) × Unit × Unit) ⊕ ((Bool × Unit) × Unit × Unit))
noncomputable def ltrstep (x : ltrD) : Option (ltrD ⊕ ltrX) := law23_SoloTraces.L0.step solo_Line.F x.1.1 x.1.2.1 x.1.2.2.1 x.1.2.2.2.1 x.1.2.2.2.2.1
theorem ltr_F_eq : law23_SoloTraces.L0.F = iterU ltrstep := rfl
abbrev rd0D := (((List Int) × Int × Bool × (List Int) × (List (Int × Int × Int)) × Int × (Nat × Nat) × Int × Unit) × (((List Int) × Unit) × Unit) × Unit)
abbrev rd0X := ((Int × Bool × (List Int) × (List (Int × Int × Int)) × Int × (Nat × Nat) × Unit) × (((List Int) × Unit) × Unit) × Unit)
noncomputable def rd0step (x : rd0D) : Option (rd0D ⊕ rd0X) := law23_SoloReads.L0.step x.1.1 x.1.2.1 x.1.2.2.1 x.1.2.2.2.1 x.1.2.2.2.2.1 x.1.x5 x.1.x6 x.1.x7 x.2.1.1.1
theorem rd0_F_eq : law23_SoloReads.L0.F = iterU rd0step := rfl
abbrev rd1D := ((Int × Bool × (List Int) × (List (Int × Int × Int)) × Int × (Nat × Nat) × Int × Unit) × (((List Int) × Unit) × Unit) × Unit)
abbrev rd1X := (((Bool × Unit) × Unit × Unit) ⊕ ((Int × Bool × (List Int) × (List (Int × Int × Int)) × Int × (Nat × Nat) × Unit) × (((List Int) × Unit) × Unit) × Unit))
noncomputable def rd1step (x : rd1D) : Option (rd1D ⊕ rd1X) := law23_SoloReads.L1.step x.1.1 x.1.2.1 x.1.2.2.1 x.1.2.2.2.1 x.1.2.2.2.2.1 x.1.x5 x.1.x6 x.2.1.1.1
theorem rd1_F_eq : law23_SoloReads.L1.F = iterU rd1step := rfl
theorem sEq_self (x : ByteArray) : sEq x x = true := by unfold sEq; simp
theorem traces_core {l : List A3} (hl : l.length ≤ 1048576) (h : ∀ a ∈ l, word a.2.1 ∧ byte a.2.2) : law23_SoloTraces.G solo_Trace.F ref23_Trace.F law23_shown.F law23_SoloTraces.L0.F l = some (true, ()) := by
  unfold law23_SoloTraces.G
  rw [ltr_F_eq]
  refine (bind_eq shown_true).trans ?_
  refine (bind_eq (trace_spec (by omega) h)).trans ?_
  refine (bind_eq (rtrace_spec (by omega) h)).trans ?_
  refine (if_pos (by simp)).trans ?_
  refine (if_neg (by simp)).trans ?_
  have hm : (l.map lineB).length = l.length := by simp
  have st0 := iterU_range (step := ltrstep) (fun i => ((l, true, l.map lineB, l.map lineB, (i : Int), ()), (), ())) (.inr ((true, ()), (), ())) l.length ?_ ?_ 0 (by omega)
  · exact bind_eq st0
  · intro i hi
    have g : (0 : Int) ≤ (i : Int) ∧ (i : Int) < (l.length : Int) := ⟨by omega, by omega⟩
    have g' : (0 : Int) ≤ (i : Int) ∧ (i : Int) < ((l.map lineB).length : Int) := by rw [hm]; exact g
    have ha := h _ (getD_mem hi ((0 : Int), (0 : Int), (0 : Int)))
    have ge : (l.map lineB).getD (Int.toNat (i : Int)) { data := { toList := [] } } = lineB (l.getD (Int.toNat (i : Int)) ((0 : Int), (0 : Int), (0 : Int))) := by
      simp [List.getD_eq_getElem?_getD, hi]
    unfold ltrstep law23_SoloTraces.L0.step
    refine (if_pos (decide_eq_true g'.2)).trans ?_
    refine (if_pos g').trans ?_
    refine (if_pos g').trans ?_
    refine (if_pos (by dsimp only; rw [sEq_self]; rfl)).trans ?_
    refine (if_pos g).trans ?_
    refine (bind_eq (line_spec (a := l.getD (Int.toNat (i : Int)) ((0 : Int), (0 : Int), (0 : Int))) ha.1 ha.2)).trans ?_
    refine (if_pos g').trans ?_
    refine (if_neg (by dsimp only; rw [ge, sEq_self]; decide)).trans ?_
    have : IntKind.wrap .i64 ((i : Int) + 1) = ((i + 1 : Nat) : Int) := by rw [w64 (by omega)]; omega
    dsimp only
    rw [this]
  · unfold ltrstep law23_SoloTraces.L0.step
    exact if_neg (by rw [decide_eq_true_eq]; dsimp only; rw [hm]; omega)
theorem soloTraces_walk : LawIf Go.Proofs.Tryz.prog 4 law23_SoloTraces.as (fun x => x.1.length ≤ 1048576) := .of law23_SoloTraces.ok fun x h hB => by
  obtain ⟨l, u⟩ := x
  exact traces_core hB fun a ha => by
    have := h.1.2 a ha
    exact ⟨wf_u16.1 this.2.1, wf_u8.1 this.2.2⟩
/-! split -/
theorem memS_id {m : List Int} (h : m.length = 65536) : memS m = m := by
  unfold memS
  rw [h]
  simp only [List.take_zero, List.nil_append, Nat.min_self, Nat.zero_add]
  rw [List.take_of_length_le (by omega), List.drop_of_length_le (by rw [List.length_replicate]; exact Nat.le_refl _), List.append_nil]
theorem runM_l : ∀ (n : Nat) (c : Nat → Int) (x : MC), runM n c x = { runM n c ⟨x.s, x.m, []⟩ with l := x.l ++ (runM n c ⟨x.s, x.m, []⟩).l }
  | 0, c, x => by simp [runM]
  | n + 1, c, x => by
    rw [runM_snoc, runM_snoc, runM_l n c x]
    simp [stepM]
theorem cm_rest {came : List Int} {a : Nat} : cmS (came.drop a) = fun i => cmS came (a + i) := by
  funext i
  unfold cmS
  rw [List.getD_eq_getElem?_getD, List.getD_eq_getElem?_getD, List.getElem?_drop]
theorem cm_nil {came : List Int} {a : Nat} (h : came.length ≤ a) : cmS [] = fun i => cmS came (a + i) := by
  funext i
  unfold cmS
  rw [List.getD_eq_getElem?_getD (l := came), List.getElem?_eq_none (by omega)]; rfl
theorem split_run {s : St} (h : sok s) {mem came rest : List Int} (hm : ∀ v ∈ mem, byte v) (hc : ∀ v ∈ came, byte v) (a b : Nat) (hr : cmS rest = fun i => cmS came (a + i)) :
    ∃ X1 X2 X3 : MC, mok X1 ∧ X1 = runM a (cmS came) ⟨s, memS mem, []⟩ ∧ X2 = runM b (cmS rest) ⟨X1.s, memS X1.m, []⟩ ∧ X3 = runM (a + b) (cmS came) ⟨s, memS mem, []⟩ ∧ X2.s = X3.s ∧ X2.m = X3.m ∧ X3.l = X1.l ++ X2.l ∧ X1.l.length = a ∧ X2.l.length = b := by
  refine ⟨_, _, _, ?_, rfl, rfl, rfl, ?_, ?_, ?_, ?_, ?_⟩
  · exact run_ok' (cm_byte hc) ⟨h, memS_len mem, memS_byte hm⟩ a
  all_goals
    have k1 : mok (runM a (cmS came) ⟨s, memS mem, []⟩) := run_ok' (cm_byte hc) ⟨h, memS_len mem, memS_byte hm⟩ a
    first
      | (rw [memS_id k1.len, runM_add a b, hr, runM_l b _ (runM a (cmS came) ⟨s, memS mem, []⟩)])
      | (rw [run_len]; simp)
theorem st_eq (c : CC) : (c.1 == c.1 && (c.2.1 == c.2.1 && (c.2.2.1 == c.2.2.1 && (c.2.2.2.1 == c.2.2.2.1 && (c.2.2.2.2.1 == c.2.2.2.2.1 && (c.x5 == c.x5 && (c.x6 == c.x6 && (c.x7 == c.x7 && (c.x8 == c.x8 && (c.x9 == c.x9 && true))))))))) && (c.x10 == c.x10 && (c.x11 == c.x11 && (c.x12 == c.x12 && (c.x13 == c.x13 && (c.x14 == c.x14 && (c.x15 == c.x15 && (c.x16 == c.x16 && (c.x17 == c.x17 && (c.z18 == c.z18 && true)))))))))) = true := by simp
theorem splits_core {s : St} (h : sok s) {mem came : List Int} (hm : ∀ v ∈ mem, byte v) (hc : ∀ v ∈ came, byte v) {a b : Nat} (ha : a ≤ 255) (hb : b ≤ 255) :
    law23_SoloSplits.G solo_Run.F law23_same.F law23_shown.F s.c mem came (a : Int) (b : Int) = some (true, ()) := by
  unfold law23_SoloSplits.G
  rw [w64 (n := (a : Int)) (by omega), w64 (n := (b : Int)) (by omega), w64 (n := (a : Int) + (b : Int)) (by omega), show (a : Int) + (b : Int) = ((a + b : Nat) : Int) by omega]
  refine (bind_eq shown_true).trans ?_
  refine (bind_eq (run_spec h hm hc (n := a) (by omega))).trans ?_
  have main : ∀ rest : List Int, (∀ v ∈ rest, byte v) → (cmS rest = fun i => cmS came (a + i)) → ∀ K : (CC × List Int × List A3 × Int × Unit) → Option (Bool × Unit),
      (∀ X1 X2 X3 : MC, X1 = runM a (cmS came) ⟨s, memS mem, []⟩ → X2.s = X3.s → X2.m = X3.m → X3.l = X1.l ++ X2.l → X1.l.length = a → X2.l.length = b → X3 = runM (a + b) (cmS came) ⟨s, memS mem, []⟩ → K (X2.s.c, X2.m, X2.l, 0, ()) = some (true, ())) →
      Option.bind (solo_Run.F ((runM a (cmS came) ⟨s, memS mem, []⟩).s.c, (runM a (cmS came) ⟨s, memS mem, []⟩).m, rest, (b : Int), ())) K = some (true, ()) := by
    intro rest hrb hrc K hK
    obtain ⟨X1, X2, X3, k1, e1, e2, e3, q1, q2, q3, q4, q5⟩ := split_run h hm hc a b hrc
    rw [← e1]
    refine (bind_eq (run_spec k1.s k1.m hrb (n := b) (by omega))).trans ?_
    rw [← e2]
    exact hK X1 X2 X3 e1 q1 q2 q3 q4 q5 e3
  have run3 := run_spec h hm hc (n := a + b) (by omega)
  have tail : ∀ (X1 X2 X3 : MC) (E : List A3), X2.s = X3.s → X2.m = X3.m → E = X3.l → X3.l.length ≤ 100000 →
      (Option.bind (law23_same.F (E, X3.l, ())) fun y4 => if (true == true) = true then if ((X2.s.c.1 == X3.s.c.1 && (X2.s.c.2.1 == X3.s.c.2.1 && (X2.s.c.2.2.1 == X3.s.c.2.2.1 && (X2.s.c.2.2.2.1 == X3.s.c.2.2.2.1 && (X2.s.c.2.2.2.2.1 == X3.s.c.2.2.2.2.1 && (X2.s.c.x5 == X3.s.c.x5 && (X2.s.c.x6 == X3.s.c.x6 && (X2.s.c.x7 == X3.s.c.x7 && (X2.s.c.x8 == X3.s.c.x8 && (X2.s.c.x9 == X3.s.c.x9 && true))))))))) && (X2.s.c.x10 == X3.s.c.x10 && (X2.s.c.x11 == X3.s.c.x11 && (X2.s.c.x12 == X3.s.c.x12 && (X2.s.c.x13 == X3.s.c.x13 && (X2.s.c.x14 == X3.s.c.x14 && (X2.s.c.x15 == X3.s.c.x15 && (X2.s.c.x16 == X3.s.c.x16 && (X2.s.c.x17 == X3.s.c.x17 && (X2.s.c.z18 == X3.s.c.z18 && true)))))))))) == true) = true then if (sEq (bytesOf X2.m) (bytesOf X3.m) == true) = true then some y4 else some (false, ()) else some (false, ()) else some (false, ())) = some (true, ()) := by
    intro X1 X2 X3 E q1 q2 q3 hlen
    rw [q3, q1, q2, st_eq, sEq_self]
    refine (bind_eq (same_refl _ hlen)).trans ?_
    rfl
  have leaf : ∀ X1 X2 X3 : MC, X1 = runM a (cmS came) ⟨s, memS mem, []⟩ → X2.s = X3.s → X2.m = X3.m → X3.l = X1.l ++ X2.l → X1.l.length = a → X2.l.length = b → X3 = runM (a + b) (cmS came) ⟨s, memS mem, []⟩ →
      solo_Run.F (s.c, mem, came, ((a + b : Nat) : Int), ()) = some (X3.s.c, X3.m, X3.l, 0, ()) ∧ X3.l.length ≤ 100000 ∧ ((X1.l.length : Int) != (a : Int)) = false ∧ ((X2.l.length : Int) != (b : Int)) = false := by
    intro X1 X2 X3 e1 q1 q2 q3 q4 q5 e3
    refine ⟨by rw [e3]; exact run3, by rw [q3, List.length_append]; omega, by rw [q4]; simp, by rw [q5]; simp⟩
  by_cases g : (a : Int) < (came.length : Int)
  · refine (if_pos (decide_eq_true g)).trans ?_
    refine (if_pos (show (0 : Int) ≤ (a : Int) ∧ (a : Int) ≤ (came.length : Int) ∧ (came.length : Int) ≤ (came.length : Int) from ⟨by omega, by omega, Int.le_refl _⟩)).trans ?_
    have er : List.take (Int.toNat (came.length : Int) - Int.toNat (a : Int)) (List.drop (Int.toNat (a : Int)) came) = came.drop a := by
      rw [Int.toNat_natCast, Int.toNat_natCast, List.take_of_length_le (by rw [List.length_drop]; omega)]
    rw [er]
    refine main (came.drop a) (fun v hv => hc v (List.mem_of_mem_drop hv)) cm_rest _ ?_
    intro X1 X2 X3 e1 q1 q2 q3 q4 q5 e3
    obtain ⟨r3, hl3, n1, n2⟩ := leaf X1 X2 X3 e1 q1 q2 q3 q4 q5 e3
    rw [← e1]
    refine (bind_eq r3).trans ?_
    refine (if_pos rfl).trans ?_
    refine (if_pos (show (((X1.l.length : Int) != (a : Int)) == false) = true by rw [n1]; rfl)).trans ?_
    refine (if_neg (show ¬ ((X2.l.length : Int) != (b : Int)) = true by rw [n2]; decide)).trans ?_
    dsimp only
    by_cases c1 : 0 + X1.l.length ≤ 0
    · rw [if_pos c1]
      have z1 : X1.l = [] := List.eq_nil_of_length_eq_zero (by omega)
      by_cases c2 : 0 + X1.l.length + X2.l.length ≤ 0
      · rw [if_pos c2]
        have z2 : X2.l = [] := List.eq_nil_of_length_eq_zero (by omega)
        exact tail X1 X2 X3 _ q1 q2 (by rw [q3, z1, z2]; rfl) hl3
      · rw [if_neg c2]
        refine (if_pos (by omega)).trans ?_
        exact tail X1 X2 X3 _ q1 q2 (by rw [q3, z1]; simp) hl3
    · rw [if_neg c1]
      refine (if_pos (by omega)).trans ?_
      refine (if_pos (by omega)).trans ?_
      exact tail X1 X2 X3 _ q1 q2 (by
        rw [q3]; simp only [List.drop_zero, List.take_nil, List.nil_append, Nat.zero_add, List.take_length]
        exact List.take_of_length_le (by rw [List.length_append]; exact Nat.le_refl _)) hl3
  · refine (if_neg (by rw [decide_eq_true_eq]; exact g)).trans ?_
    refine main [] (fun v hv => nomatch hv) (cm_nil (by omega)) _ ?_
    intro X1 X2 X3 e1 q1 q2 q3 q4 q5 e3
    obtain ⟨r3, hl3, n1, n2⟩ := leaf X1 X2 X3 e1 q1 q2 q3 q4 q5 e3
    rw [← e1]
    refine (bind_eq r3).trans ?_
    refine (if_pos rfl).trans ?_
    refine (if_pos (show (((X1.l.length : Int) != (a : Int)) == false) = true by rw [n1]; rfl)).trans ?_
    refine (if_neg (show ¬ ((X2.l.length : Int) != (b : Int)) = true by rw [n2]; decide)).trans ?_
    dsimp only
    by_cases c1 : 0 + X1.l.length ≤ 0
    · rw [if_pos c1]
      have z1 : X1.l = [] := List.eq_nil_of_length_eq_zero (by omega)
      by_cases c2 : 0 + X1.l.length + X2.l.length ≤ 0
      · rw [if_pos c2]
        have z2 : X2.l = [] := List.eq_nil_of_length_eq_zero (by omega)
        exact tail X1 X2 X3 _ q1 q2 (by rw [q3, z1, z2]; rfl) hl3
      · rw [if_neg c2]
        refine (if_pos (by omega)).trans ?_
        exact tail X1 X2 X3 _ q1 q2 (by rw [q3, z1]; simp) hl3
    · rw [if_neg c1]
      refine (if_pos (by omega)).trans ?_
      refine (if_pos (by omega)).trans ?_
      exact tail X1 X2 X3 _ q1 q2 (by
        rw [q3]; simp only [List.drop_zero, List.take_nil, List.nil_append, Nat.zero_add, List.take_length]
        exact List.take_of_length_le (by rw [List.length_append]; exact Nat.le_refl _)) hl3
theorem soloSplits_walk : LawOK Go.Proofs.Tryz.prog 5 law23_SoloSplits.as := .of law23_SoloSplits.ok fun x h => by
  obtain ⟨c, mem, came, a, b, u⟩ := x
  have ha : byte a := wf_u8.1 h.2.2.2.1
  have hb : byte b := wf_u8.1 h.2.2.2.2.1
  obtain ⟨a, rfl⟩ := Int.eq_ofNat_of_zero_le ha.1
  obtain ⟨b, rfl⟩ := Int.eq_ofNat_of_zero_le hb.1
  have := splits_core (sok_of h.1) (fun v hv => wf_u8.1 (h.2.1.2 v hv)) (fun v hv => wf_u8.1 (h.2.2.1.2 v hv)) (a := a) (b := b) (by have := ha.2; omega) (by have := hb.2; omega) (mem := mem) (came := came)
  exact this
end Go.Proofs.YtmhkjafcfpgikaaGreat.E
