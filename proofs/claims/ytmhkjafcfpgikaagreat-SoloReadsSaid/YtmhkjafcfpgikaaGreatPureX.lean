/- Functions of the program as plain Lean, and what they come to. Conditions: none. -/
import Derived.Test.YtmhkjafcfpgikaaGreatEwD
import Derived.Test.YtmhkjafcfpgikaaGreatPureS
open Go Go.Ew
namespace Go.Proofs.YtmhkjafcfpgikaaGreat.E

set_option linter.unusedVariables false
set_option linter.unusedSimpArgs false
set_option maxRecDepth 100000
def copyS (mem : List Int) (i : Nat) : List Int := mem.take i ++ (List.replicate (65536 : Nat) (0 : Int)).drop i
theorem copy_set {mem : List Int} {i : Nat} (h1 : i < mem.length) (h2 : i < 65536) : (copyS mem i).set (0 + i) (mem.getD i 0) = copyS mem (i + 1) := by
  unfold copyS
  have hl : (mem.take i).length = i := by rw [List.length_take]; omega
  rw [Nat.zero_add, List.set_append_right _ _ (by omega), hl, Nat.sub_self]
  have hd : (List.replicate (65536 : Nat) (0 : Int)).drop i = 0 :: (List.replicate (65536 : Nat) (0 : Int)).drop (i + 1) := by
    rw [List.drop_eq_getElem_cons (by rw [List.length_replicate]; exact h2), List.getElem_replicate]
  rw [hd, List.set_cons_zero, List.take_succ_eq_append_getElem h1, List.append_assoc]
  congr 1
  rw [List.getD_eq_getElem?_getD, List.getElem?_eq_getElem h1]
  rfl
theorem copy_end (mem : List Int) : copyS mem (min mem.length 65536) = memS mem := by
  unfold copyS memS
  rw [List.take_zero, List.nil_append, Nat.zero_add]
theorem copy_loop (mem : List Int) (hl : mem.length ≤ 9223372036854775807) (a3 : Int) (up : Bool) (af : List Int) (ac : List A3) (e : Int) :
    iterU rd0step ((mem, a3, up, af, ac, e, ((65536 : Nat), (65536 : Nat)), (0 : Int), ()), ((List.replicate (65536 : Nat) (0 : Int), ()), ()), ()) = some ((a3, up, af, ac, e, ((65536 : Nat), (65536 : Nat)), ()), ((memS mem, ()), ()), ()) := by
  have st0 := iterU_range (step := rd0step) (fun i => ((mem, a3, up, af, ac, e, ((65536 : Nat), (65536 : Nat)), (i : Int), ()), ((copyS mem i, ()), ()), ())) ((a3, up, af, ac, e, ((65536 : Nat), (65536 : Nat)), ()), ((memS mem, ()), ()), ()) (min mem.length 65536) ?_ ?_ 0 (Nat.zero_le _)
  · have : copyS mem 0 = List.replicate (65536 : Nat) (0 : Int) := by unfold copyS; rw [List.take_zero, List.drop_zero, List.nil_append]
    rw [this] at st0
    exact st0
  · intro i hi
    have h1 : i < mem.length := by omega
    have h2 : i < 65536 := by omega
    have g : (0 : Int) ≤ (i : Int) ∧ (i : Int) < (mem.length : Int) := ⟨by omega, by omega⟩
    have g2 : (0 : Int) ≤ (i : Int) ∧ (i : Int) < ((65536 : Nat) : Int) := ⟨by omega, by omega⟩
    unfold rd0step law23_SoloReads.L0.step
    refine (if_pos (by rw [decide_eq_true g.2]; rfl)).trans ?_
    refine (if_pos (decide_eq_true g2.2)).trans ?_
    refine (if_pos g).trans ?_
    refine (if_pos g2).trans ?_
    have : IntKind.wrap .i64 ((i : Int) + 1) = ((i + 1 : Nat) : Int) := by rw [w64 (by omega)]; omega
    dsimp only
    rw [this, Int.toNat_natCast, copy_set h1 h2]
  · unfold rd0step law23_SoloReads.L0.step
    dsimp only
    rw [← copy_end]
    by_cases q : mem.length ≤ 65536
    · rw [Nat.min_eq_left q]
      exact if_neg (by simp)
    · rw [Nat.min_eq_right (by omega)]
      refine (if_pos (by simp [Prod.x7]; omega)).trans ?_
      exact if_neg (by simp [Prod.x7])
theorem runM_get {c : Nat → Int} {x : MC} (hx : x.l = []) {i n : Nat} (hi : i < n) : (runM n c x).l.getD i ((0 : Int), (0 : Int), (0 : Int)) = actS (wantS (runM i c x).s (c i % 32)).2.1 (runM i c x).m := by
  obtain ⟨k, rfl⟩ : ∃ k, n = (i + 1) + k := ⟨n - (i + 1), by omega⟩
  rw [runM_add, runM_l, runM_snoc]
  have hl : (runM i c x).l.length = i := by rw [run_len, hx]; simp
  show (((runM i c x).l ++ [actS _ _]) ++ _).getD i _ = _
  rw [List.append_assoc, List.getD_eq_getElem?_getD, List.getElem?_append_right (by omega), hl, Nat.sub_self]
  rfl
theorem acts_loop {x : MC} (h : mok x) (hx : x.l = []) {c : Nat → Int} (hc : ∀ i, byte (c i)) {n : Nat} (hn : n ≤ 20000) (a3 : Int) (up : Bool) (af : List Int) (e : Int) :
    iterU rd1step ((a3, up, af, (runM n c x).l, e, ((65536 : Nat), (65536 : Nat)), (0 : Int), ()), ((x.m, ()), ()), ()) = some (.inr ((a3, up, af, (runM n c x).l, e, ((65536 : Nat), (65536 : Nat)), ()), (((runM n c x).m, ()), ()), ())) := by
  have hlen : (runM n c x).l.length = n := by rw [run_len, hx]; simp
  refine iterU_range (step := rd1step) (fun i => ((a3, up, af, (runM n c x).l, e, ((65536 : Nat), (65536 : Nat)), (i : Int), ()), (((runM i c x).m, ()), ()), ())) _ n ?_ ?_ 0 (Nat.zero_le _)
  · intro i hi
    have hk := run_ok' hc h i
    have g : (0 : Int) ≤ (i : Int) ∧ (i : Int) < ((runM n c x).l.length : Int) := by rw [hlen]; exact ⟨by omega, by omega⟩
    obtain ⟨w1, w2⟩ := want_ok hk.s (mod32b (c i)).1 (mod32b (c i)).2
    have hg := runM_get (c := c) hx hi
    have hm : (runM (i + 1) c x).m = memA (wantS (runM i c x).s (c i % 32)).2.1 (runM i c x).m := by rw [runM_snoc]; rfl
    rw [hm]
    obtain ⟨a, ha⟩ : ∃ a, (wantS (runM i c x).s (c i % 32)).2.1 = a := ⟨_, rfl⟩
    rw [ha] at hg w2 ⊢
    have ab := bd w2.addr
    have this : IntKind.wrap .i64 ((i : Int) + 1) = ((i + 1 : Nat) : Int) := by rw [w64 (by omega)]; omega
    unfold rd1step law23_SoloReads.L1.step
    dsimp only
    rw [Int.toNat_natCast, hg, this, if_pos (decide_eq_true g.2), if_pos g]
    have rd : readK a → actS a (runM i c x).m = (a.1, a.2.1, (runM i c x).m.getD a.2.1.toNat 0) ∧ memA a (runM i c x).m = (runM i c x).m := fun q => by
      unfold actS dataS memA
      rw [if_pos q, if_pos q, if_neg (by unfold readK at q; omega)]
      exact ⟨rfl, rfl⟩
    have ab' : (0 : Int) ≤ a.2.1 ∧ a.2.1 < ((65536 : Nat) : Int) := ab
    rcases w2.kind with ⟨q, q0⟩ | q | q | q
    · have hno : ¬ readK a := by unfold readK; omega
      have e1 : actS a (runM i c x).m = a := by unfold actS; rw [if_neg hno]
      have e2 : memA a (runM i c x).m = (runM i c x).m := by unfold memA; rw [if_neg (by omega)]
      rw [e1, e2, q0]
      rfl
    · obtain ⟨e1, e2⟩ := rd (.inl q)
      rw [e1, e2]
      refine (if_pos (by dsimp only; rw [q]; rfl)).trans ?_
      refine (if_pos ab').trans ?_
      exact if_neg (by dsimp only; rw [Nat.zero_add]; simp)
    · obtain ⟨e1, e2⟩ := rd (.inr q)
      rw [e1, e2]
      refine (if_neg (by dsimp only; rw [q]; decide)).trans ?_
      refine (if_pos (by dsimp only; rw [q]; rfl)).trans ?_
      refine (if_pos ab').trans ?_
      exact if_neg (by dsimp only; rw [Nat.zero_add]; simp)
    · have hno : ¬ readK a := by unfold readK; omega
      have e1 : actS a (runM i c x).m = a := by unfold actS; rw [if_neg hno]
      have e2 : memA a (runM i c x).m = (runM i c x).m.set a.2.1.toNat a.2.2 := by unfold memA; rw [if_pos q]
      rw [e1, e2]
      refine (if_neg (by rw [q]; decide)).trans ?_
      refine (if_neg (by rw [q]; decide)).trans ?_
      refine (if_pos (by rw [q]; rfl)).trans ?_
      refine (if_pos ab').trans ?_
      rw [Nat.zero_add]
  · unfold rd1step law23_SoloReads.L1.step
    exact if_neg (by rw [decide_eq_true_eq]; dsimp only [Prod.x6]; omega)
theorem reads_core {s : St} (h : sok s) {mem came : List Int} (hml : mem.length ≤ 9223372036854775807) (hm : ∀ v ∈ mem, byte v) (hc : ∀ v ∈ came, byte v) {a : Int} (ha : word a) :
    law23_SoloReads.G solo_Run.F law23_shown.F law23_SoloReads.L0.F law23_SoloReads.L1.F s.c mem came a = some (true, ()) := by
  have a0 := ha.1
  have a1 := ha.2
  obtain ⟨n, hn⟩ := Int.eq_ofNat_of_zero_le (show 0 ≤ a % 2000 by omega)
  have hn2 : n < 2000 := by omega
  have et : IntKind.wrap .i64 (Int.tmod a 2000) = (n : Int) := by rw [tmodN a0, hn, w64 (by omega)]
  have hk : mok ⟨s, memS mem, []⟩ := ⟨h, memS_len mem, memS_byte hm⟩
  unfold law23_SoloReads.G
  rw [rd0_F_eq, rd1_F_eq, et]
  refine (bind_eq shown_true).trans ?_
  refine (bind_eq (run_spec h hm hc (n := n) (by omega))).trans ?_
  refine (bind_eq (copy_loop mem hml a true _ _ 0)).trans ?_
  refine (bind_eq (acts_loop hk rfl (cm_byte hc) (n := n) (by omega) a true _ 0)).trans ?_
  dsimp only [Sum.elim_inr]
  have hlen : (runM n (cmS came) ⟨s, memS mem, []⟩).l.length = n := by rw [run_len]; simp
  have hml2 := (run_ok' (cm_byte hc) hk n).len
  refine (if_pos rfl).trans ?_
  refine (if_pos rfl).trans ?_
  refine (if_pos (by rw [et, hlen]; simp)).trans ?_
  rw [List.drop_zero, List.take_of_length_le (Nat.le_of_eq hml2), sEq_self]
theorem soloReads_walk : LawOK Go.Proofs.Tryz.prog 6 law23_SoloReads.as := .of law23_SoloReads.ok fun x h => by
  obtain ⟨c, mem, came, n, u⟩ := x
  exact reads_core (sok_of h.1) h.2.1.1 (fun v hv => wf_u8.1 (h.2.1.2 v hv)) (fun v hv => wf_u8.1 (h.2.2.1.2 v hv)) (wf_u16.1 h.2.2.2.1)
end Go.Proofs.YtmhkjafcfpgikaaGreat.E
