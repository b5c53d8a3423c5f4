/- Functions of the program as plain Lean, and what they come to. Conditions: none. -/
import Derived.Test.YtmhkjafcfpgikaaGreatEwD
import Derived.Test.YtmhkjafcfpgikaaGreatPureO
import Derived.Test.YtmhkjafcfpgikaaGreatWalkL
open Go Go.Ew
namespace Go.Proofs.YtmhkjafcfpgikaaGreat.E
open Go.IntKind (wrap)
set_option linter.unusedVariables false
set_option linter.unusedSimpArgs false
set_option maxRecDepth 100000
abbrev rcpD := (((List Int) × (Nat × Nat) × Int × Unit) × (CB × CB × ((List Int) × Unit) × Unit) × Unit)
abbrev rcpX := (((Nat × Nat) × Unit) × (CB × CB × ((List Int) × Unit) × Unit) × Unit)
noncomputable def rcpstep (x : rcpD) : Option (rcpD ⊕ rcpX) := ref23_Run.L21_0.step x.1.1 x.1.2.1 x.1.2.2.1 x.2.1.1.1 x.2.1.1.2.1 x.2.1.1.2.2.1 x.2.1.1.2.2.2.1 x.2.1.1.2.2.2.2.1 x.2.1.1.x5 x.2.1.1.x6 x.2.1.1.x7 x.2.1.1.x8 x.2.1.1.x9 x.2.1.1.x10 x.2.1.1.x11 x.2.1.1.x12 x.2.1.1.x13 x.2.1.1.x14 x.2.1.1.x15 x.2.1.1.x16 x.2.1.1.x17 x.2.1.1.x18 x.2.1.2.1.1 x.2.1.2.1.2.1 x.2.1.2.1.2.2.1 x.2.1.2.1.2.2.2.1 x.2.1.2.1.2.2.2.2.1 x.2.1.2.1.x5 x.2.1.2.1.x6 x.2.1.2.1.x7 x.2.1.2.1.x8 x.2.1.2.1.x9 x.2.1.2.1.x10 x.2.1.2.1.x11 x.2.1.2.1.x12 x.2.1.2.1.x13 x.2.1.2.1.x14 x.2.1.2.1.x15 x.2.1.2.1.x16 x.2.1.2.1.x17 x.2.1.2.1.x18 x.2.1.2.2.1.1
theorem rcp_F_eq : ref23_Run.L21_0.F = iterU rcpstep := rfl
abbrev rrnD := (((List Int) × Int × Unit × Unit × (Nat × Nat) × Int × Unit) × (CB × CB × ((List Int) × Unit) × Unit) × ((List (Int × Int × Int)) × Unit))
abbrev rrnX := ((Unit × Unit × (Nat × Nat) × Unit) × (CB × CB × ((List Int) × Unit) × Unit) × ((List (Int × Int × Int)) × Unit))
noncomputable def rrnstep (x : rrnD) : Option (rrnD ⊕ rrnX) := ref23_Run.L0.step ref22_Want.F ref22_Done.F x.1.1 x.1.2.1 x.1.2.2.2.2.1 x.1.x5 x.2.1.1.1 x.2.1.1.2.1 x.2.1.1.2.2.1 x.2.1.1.2.2.2.1 x.2.1.1.2.2.2.2.1 x.2.1.1.x5 x.2.1.1.x6 x.2.1.1.x7 x.2.1.1.x8 x.2.1.1.x9 x.2.1.1.x10 x.2.1.1.x11 x.2.1.1.x12 x.2.1.1.x13 x.2.1.1.x14 x.2.1.1.x15 x.2.1.1.x16 x.2.1.1.x17 x.2.1.1.x18 x.2.1.2.1.1 x.2.1.2.1.2.1 x.2.1.2.1.2.2.1 x.2.1.2.1.2.2.2.1 x.2.1.2.1.2.2.2.2.1 x.2.1.2.1.x5 x.2.1.2.1.x6 x.2.1.2.1.x7 x.2.1.2.1.x8 x.2.1.2.1.x9 x.2.1.2.1.x10 x.2.1.2.1.x11 x.2.1.2.1.x12 x.2.1.2.1.x13 x.2.1.2.1.x14 x.2.1.2.1.x15 x.2.1.2.1.x16 x.2.1.2.1.x17 x.2.1.2.1.x18 x.2.1.2.2.1.1 x.2.2.1
theorem rrn_F_eq : ref23_Run.L0.F = iterU rrnstep := rfl
def copyS (mem : List Int) (i : Nat) : List Int := mem.take i ++ (List.replicate (65536 : Nat) (0 : Int)).drop i
theorem copy_set {mem : List Int} {i : Nat} (h1 : i < mem.length) (h2 : i < 65536) : (copyS mem i).set (0 + i) (mem.getD i 0) = copyS mem (i + 1) := by
  unfold copyS
  have hl : (mem.take i).length = i := by rw [List.length_take]; omega
  rw [Nat.zero_add, List.set_append_right _ _ (by omega), hl, Nat.sub_self]
  have hd : (List.replicate (65536 : Nat) (0 : Int)).drop i = 0 :: (List.replicate (65536 : Nat) (0 : Int)).drop (i + 1) := by
    rw [List.drop_eq_getElem_cons (by rw [List.length_replicate]; exact h2), List.getElem_replicate]
  rw [hd, List.set_cons_zero, List.take_succ_eq_append_getElem h1, List.append_assoc]
  congr 1
  rw [List.getD_eq_getElem?_getD, List.getElem?_eq_getElem h1]
  rfl
theorem copy_end (mem : List Int) : copyS mem (min mem.length 65536) = memS mem := by
  unfold copyS memS
  rw [List.take_zero, List.nil_append, Nat.zero_add]
theorem sEq_self (x : ByteArray) : sEq x x = true := by unfold sEq; simp
theorem rcopy_loop (mem : List Int) (hl : mem.length ≤ 9223372036854775807) (B0 B1 : CB) :
    iterU rcpstep ((mem, ((65536 : Nat), (65536 : Nat)), (0 : Int), ()), (B0, B1, (List.replicate (65536 : Nat) (0 : Int), ()), ()), ()) = some ((((65536 : Nat), (65536 : Nat)), ()), (B0, B1, (memS mem, ()), ()), ()) := by
  have st0 := iterU_range (step := rcpstep) (fun i => ((mem, ((65536 : Nat), (65536 : Nat)), (i : Int), ()), (B0, B1, (copyS mem i, ()), ()), ())) ((((65536 : Nat), (65536 : Nat)), ()), (B0, B1, (memS mem, ()), ()), ()) (min mem.length 65536) ?_ ?_ 0 (Nat.zero_le _)
  · have : copyS mem 0 = List.replicate (65536 : Nat) (0 : Int) := by unfold copyS; rw [List.take_zero, List.drop_zero, List.nil_append]
    rw [this] at st0
    exact st0
  · intro i hi
    have h1 : i < mem.length := by omega
    have h2 : i < 65536 := by omega
    have g : (0 : Int) ≤ (i : Int) ∧ (i : Int) < (mem.length : Int) := ⟨by omega, by omega⟩
    have g2 : (0 : Int) ≤ (i : Int) ∧ (i : Int) < ((65536 : Nat) : Int) := ⟨by omega, by omega⟩
    unfold rcpstep ref23_Run.L21_0.step
    refine (if_pos (by rw [decide_eq_true g.2]; rfl)).trans ?_
    refine (if_pos (decide_eq_true g2.2)).trans ?_
    refine (if_pos g).trans ?_
    refine (if_pos g2).trans ?_
    have : wrap .i64 ((i : Int) + 1) = ((i + 1 : Nat) : Int) := by rw [w64 (by omega)]; omega
    dsimp only
    rw [this, Int.toNat_natCast, copy_set h1 h2]
  · unfold rcpstep ref23_Run.L21_0.step
    dsimp only
    rw [← copy_end]
    by_cases q : mem.length ≤ 65536
    · rw [Nat.min_eq_left q]
      exact if_neg (by simp)
    · rw [Nat.min_eq_right (by omega)]
      refine (if_pos (by simp; omega)).trans ?_
      exact if_neg (by simp)
theorem rrunstep_eq {x : MC} (h : mok x) {came : List Int} (hc : ∀ v ∈ came, byte v) {i n : Nat} (hi : i < n) (hn : n ≤ 20000) (hl : x.l.length ≤ 20000) (z : CB) :
    rrnstep ((came, (n : Int), (), (), ((65536 : Nat), (65536 : Nat)), (i : Int), ()), (x.s.b, z, (x.m, ()), ()), x.l, ()) = some (.inl ((came, (n : Int), (), (), ((65536 : Nat), (65536 : Nat)), ((i + 1 : Nat) : Int), ()), ((stepM x (came.getD i 0)).s.b, z, ((stepM x (came.getD i 0)).m, ()), ()), (stepM x (came.getD i 0)).l, ())) := by
  obtain ⟨p, hp⟩ : ∃ p, came.getD i 0 = p := ⟨_, rfl⟩
  have bp : byte p := by
    rw [← hp]
    rcases Nat.lt_or_ge i came.length with g | g
    · exact hc _ (getD_mem g 0)
    · rw [List.getD_eq_getElem?_getD, List.getElem?_eq_none g]; exact byte0
  rw [hp]
  obtain ⟨w1, w2⟩ := want_ok h.s (mod32b p).1 (mod32b p).2
  have hw := rwant_spec h.s bp
  obtain ⟨s', hs'⟩ : ∃ s', (wantS x.s (p % 32)).1 = s' := ⟨_, rfl⟩
  obtain ⟨a, ha⟩ : ∃ a, (wantS x.s (p % 32)).2.1 = a := ⟨_, rfl⟩
  rw [hs', ha] at hw
  rw [hs'] at w1
  rw [ha] at w2
  have room : x.l.length + 1 ≤ 268435456 := by omega
  have ab : (0 : Int) ≤ a.2.1 ∧ a.2.1 < ((65536 : Nat) : Int) := bd w2.addr
  have ei : wrap .i64 ((i : Int) + 1) = ((i + 1 : Nat) : Int) := by rw [w64 (by omega)]; omega
  have hin : (i : Int) < (n : Int) := by omega
  have hd := rdone_spec (s := s') w1 (d := dataS a x.m) (p := p) (data_ok h.m) bp
  have fin : ∀ (d : Int) (m' : List Int) (ac : A3), d = dataS a x.m → m' = memA a x.m → ac = actS a x.m →
      (Option.bind (ref22_Done.F (s'.c, d, p, ())) fun y1 => some (Sum.inl (α := rrnD) (β := rrnX) ((came, (n : Int), (), (), ((65536 : Nat), (65536 : Nat)), wrap .i64 ((i : Int) + (1 : Int)), ()), ((ofC y1.1).b, z, (m', ()), ()), List.take (List.length x.l + (1 : Nat)) (List.take (List.length x.l) x.l ++ List.take (1 : Nat) (List.drop (0 : Nat) [ac])), ()))) =
      some (.inl ((came, (n : Int), (), (), ((65536 : Nat), (65536 : Nat)), ((i + 1 : Nat) : Int), ()), ((stepM x p).s.b, z, ((stepM x p).m, ()), ()), (stepM x p).l, ())) := by
    intro d m' ac e1 e2 e3
    subst e1 e2 e3
    refine (bind_eq hd).trans ?_
    rw [zz, ei]
    unfold stepM
    rw [hs', ha]
    rfl
  unfold rrnstep ref23_Run.L0.step
  refine (if_pos (decide_eq_true hin)).trans ?_
  have key : ∀ (K : CC × A3 × Int × Unit → Option (rrnD ⊕ rrnX)), K (s'.c, a, (wantS x.s (p % 32)).2.2, ()) = some (.inl ((came, (n : Int), (), (), ((65536 : Nat), (65536 : Nat)), ((i + 1 : Nat) : Int), ()), ((stepM x p).s.b, z, ((stepM x p).m, ()), ()), (stepM x p).l, ())) →
      (Option.bind (ref22_Want.F (x.s.c, p, ())) K) = some (.inl ((came, (n : Int), (), (), ((65536 : Nat), (65536 : Nat)), ((i + 1 : Nat) : Int), ()), ((stepM x p).s.b, z, ((stepM x p).m, ()), ()), (stepM x p).l, ())) := fun K hK => (bind_eq hw).trans hK
  have kinds : a.1 = 1 ∨ a.1 = 2 ∨ a.1 = 3 ∨ (a.1 = 0 ∧ a = (0, 0, 0)) := by
    rcases w2.kind with q | q | q | q
    · exact .inr (.inr (.inr q))
    · exact .inl q
    · exact .inr (.inl q)
    · exact .inr (.inr (.inl q))
  by_cases g : (i : Int) < (came.length : Int)
  · have hp' : came.getD (Int.toNat (i : Int)) 0 = p := hp
    refine (if_pos (decide_eq_true g)).trans ?_
    refine (if_pos (show (0 : Int) ≤ (i : Int) ∧ (i : Int) < (came.length : Int) from ⟨by omega, g⟩)).trans ?_
    dsimp only
    rw [hp']
    refine key _ ?_
    dsimp only
    rcases kinds with q | q | q | ⟨q, q0⟩
    · refine (if_neg (by rw [q]; decide)).trans ?_
      refine (if_pos ab).trans ?_
      refine (if_neg (by rw [q]; decide)).trans ?_
      refine (if_pos room).trans ?_
      rw [Nat.zero_add]
      exact fin (x.m.getD a.2.1.toNat 0) x.m (a.1, a.2.1, x.m.getD a.2.1.toNat 0) (by unfold dataS; rw [if_pos (.inl q)]) (by unfold memA; rw [if_neg (by omega)]) (by unfold actS dataS; rw [if_pos (.inl q), if_pos (.inl q)])
    · refine (if_pos (by rw [q]; rfl)).trans ?_
      refine (if_pos (by rw [q]; rfl)).trans ?_
      refine (if_pos ab).trans ?_
      refine (if_neg (by rw [q]; decide)).trans ?_
      refine (if_pos room).trans ?_
      rw [Nat.zero_add]
      exact fin (x.m.getD a.2.1.toNat 0) x.m (a.1, a.2.1, x.m.getD a.2.1.toNat 0) (by unfold dataS; rw [if_pos (.inr q)]) (by unfold memA; rw [if_neg (by omega)]) (by unfold actS dataS; rw [if_pos (.inr q), if_pos (.inr q)])
    · have hno : ¬ readK a := by unfold readK; omega
      refine (if_pos (by rw [q]; rfl)).trans ?_
      refine (if_neg (by rw [q]; decide)).trans ?_
      refine (if_pos (by rw [q]; rfl)).trans ?_
      refine (if_pos ab).trans ?_
      refine (if_pos room).trans ?_
      rw [Nat.zero_add]
      exact fin 0 (x.m.set a.2.1.toNat a.2.2) a (by unfold dataS; rw [if_neg hno]) (by unfold memA; rw [if_pos q]) (by unfold actS; rw [if_neg hno])
    · have hno : ¬ readK a := by unfold readK; omega
      refine (if_pos (by rw [q]; rfl)).trans ?_
      refine (if_neg (by rw [q]; decide)).trans ?_
      refine (if_neg (by rw [q]; decide)).trans ?_
      refine (if_pos room).trans ?_
      exact fin 0 x.m a (by unfold dataS; rw [if_neg hno]) (by unfold memA; rw [if_neg (by omega)]) (by unfold actS; rw [if_neg hno])
  · have hp' : p = 0 := by
      rw [← hp, List.getD_eq_getElem?_getD, List.getElem?_eq_none (by omega)]; rfl
    refine (if_neg (by rw [decide_eq_true_eq]; exact g)).trans ?_
    dsimp only
    have fin0 := fin
    have key0 := key
    rw [hp'] at fin0 key0
    rw [hp']
    refine key0 _ ?_
    dsimp only
    rcases kinds with q | q | q | ⟨q, q0⟩
    · refine (if_neg (by rw [q]; decide)).trans ?_
      refine (if_pos ab).trans ?_
      refine (if_neg (by rw [q]; decide)).trans ?_
      refine (if_pos room).trans ?_
      rw [Nat.zero_add]
      exact fin0 (x.m.getD a.2.1.toNat 0) x.m (a.1, a.2.1, x.m.getD a.2.1.toNat 0) (by unfold dataS; rw [if_pos (.inl q)]) (by unfold memA; rw [if_neg (by omega)]) (by unfold actS dataS; rw [if_pos (.inl q), if_pos (.inl q)])
    · refine (if_pos (by rw [q]; rfl)).trans ?_
      refine (if_pos (by rw [q]; rfl)).trans ?_
      refine (if_pos ab).trans ?_
      refine (if_neg (by rw [q]; decide)).trans ?_
      refine (if_pos room).trans ?_
      rw [Nat.zero_add]
      exact fin0 (x.m.getD a.2.1.toNat 0) x.m (a.1, a.2.1, x.m.getD a.2.1.toNat 0) (by unfold dataS; rw [if_pos (.inr q)]) (by unfold memA; rw [if_neg (by omega)]) (by unfold actS dataS; rw [if_pos (.inr q), if_pos (.inr q)])
    · have hno : ¬ readK a := by unfold readK; omega
      refine (if_pos (by rw [q]; rfl)).trans ?_
      refine (if_neg (by rw [q]; decide)).trans ?_
      refine (if_pos (by rw [q]; rfl)).trans ?_
      refine (if_pos ab).trans ?_
      refine (if_pos room).trans ?_
      rw [Nat.zero_add]
      exact fin0 0 (x.m.set a.2.1.toNat a.2.2) a (by unfold dataS; rw [if_neg hno]) (by unfold memA; rw [if_pos q]) (by unfold actS; rw [if_neg hno])
    · have hno : ¬ readK a := by unfold readK; omega
      refine (if_pos (by rw [q]; rfl)).trans ?_
      refine (if_neg (by rw [q]; decide)).trans ?_
      refine (if_neg (by rw [q]; decide)).trans ?_
      refine (if_pos room).trans ?_
      exact fin0 0 x.m a (by unfold dataS; rw [if_neg hno]) (by unfold memA; rw [if_neg (by omega)]) (by unfold actS; rw [if_neg hno])
theorem rrun_loop {x : MC} (h : mok x) (hx : x.l = []) {came : List Int} (hc : ∀ v ∈ came, byte v) {n : Nat} (hn : n ≤ 20000) :
    iterU rrnstep ((came, (n : Int), (), (), ((65536 : Nat), (65536 : Nat)), (0 : Int), ()), (x.s.b, Z19, (x.m, ()), ()), [], ()) = some (((), (), ((65536 : Nat), (65536 : Nat)), ()), ((runM n (cmS came) x).s.b, Z19, ((runM n (cmS came) x).m, ()), ()), (runM n (cmS came) x).l, ()) := by
  have st0 := iterU_range (step := rrnstep) (fun i => ((came, (n : Int), (), (), ((65536 : Nat), (65536 : Nat)), (i : Int), ()), ((runM i (cmS came) x).s.b, Z19, ((runM i (cmS came) x).m, ()), ()), (runM i (cmS came) x).l, ()))
    (((), (), ((65536 : Nat), (65536 : Nat)), ()), ((runM n (cmS came) x).s.b, Z19, ((runM n (cmS came) x).m, ()), ()), (runM n (cmS came) x).l, ()) n ?_ ?_ 0 (by omega)
  · have e : (runM 0 (cmS came) x).l = [] := hx
    rw [show ((0 : Nat) : Int) = 0 from rfl, e] at st0
    exact st0
  · intro i hi
    have hk := run_ok' (cm_byte hc) h i
    have hl : (runM i (cmS came) x).l.length ≤ 20000 := by rw [run_len, hx]; simp; omega
    rw [runM_snoc]
    exact rrunstep_eq hk hc hi hn hl Z19
  · unfold rrnstep ref23_Run.L0.step
    refine (if_neg (by rw [decide_eq_true_eq]; dsimp only [Prod.x5]; omega)).trans ?_
    dsimp only
    rw [List.take_length]
theorem rrun_spec {s : St} (h : sok s) {mem came : List Int} (hml : mem.length ≤ 9223372036854775807) (hm : ∀ v ∈ mem, byte v) (hc : ∀ v ∈ came, byte v) {n : Nat} (hn : n ≤ 20000) :
    ref23_Run.F (s.c, mem, came, (n : Int), ()) = some ((runM n (cmS came) ⟨s, memS mem, []⟩).s.c, (runM n (cmS came) ⟨s, memS mem, []⟩).m, (runM n (cmS came) ⟨s, memS mem, []⟩).l, 0, ()) := by
  have hk : mok ⟨s, memS mem, []⟩ := ⟨h, memS_len mem, memS_byte hm⟩
  show ref23_Run.G ref23_Run.L21_0.F ref23_Run.L0.F s.c mem came (n : Int) = _
  unfold ref23_Run.G
  rw [rcp_F_eq, rrn_F_eq]
  refine (if_pos (by rw [decide_eq_false (by omega)]; rfl)).trans ?_
  refine (if_neg (by rw [decide_eq_true_eq]; omega)).trans ?_
  refine (bind_eq (rcopy_loop mem hml s.b Z19)).trans ?_
  refine (bind_eq (rrun_loop hk rfl hc hn)).trans ?_
  have hk2 := run_ok' (cm_byte hc) hk n
  dsimp only
  rw [List.drop_zero, List.drop_zero, List.take_of_length_le (Nat.le_of_eq hk2.len), List.take_length]
  rfl
theorem st_eq (c : CC) : (c.1 == c.1 && (c.2.1 == c.2.1 && (c.2.2.1 == c.2.2.1 && (c.2.2.2.1 == c.2.2.2.1 && (c.2.2.2.2.1 == c.2.2.2.2.1 && (c.x5 == c.x5 && (c.x6 == c.x6 && (c.x7 == c.x7 && (c.x8 == c.x8 && (c.x9 == c.x9 && true))))))))) && (c.x10 == c.x10 && (c.x11 == c.x11 && (c.x12 == c.x12 && (c.x13 == c.x13 && (c.x14 == c.x14 && (c.x15 == c.x15 && (c.x16 == c.x16 && (c.x17 == c.x17 && (c.z18 == c.z18 && true)))))))))) = true := by simp
theorem runs_core {s : St} (h : sok s) {mem came : List Int} (hml : mem.length ≤ 9223372036854775807) (hm : ∀ v ∈ mem, byte v) (hc : ∀ v ∈ came, byte v) (n : Int) :
    law23_SoloRuns.G solo_Run.F law23_same.F law23_shown.F ref23_Run.F s.c mem came n = some (true, ()) := by
  have fin : ∀ (c : CC) (m : List Int) (l : List A3) (e : Int), l.length ≤ 100000 → solo_Run.F (s.c, mem, came, n, ()) = some (c, m, l, e, ()) → ref23_Run.F (s.c, mem, came, n, ()) = some (c, m, l, e, ()) → law23_SoloRuns.G solo_Run.F law23_same.F law23_shown.F ref23_Run.F s.c mem came n = some (true, ()) := by
    intro c m l e hl h1 h2
    unfold law23_SoloRuns.G
    refine (bind_eq shown_true).trans ?_
    refine (bind_eq h1).trans ?_
    refine (bind_eq h2).trans ?_
    refine (bind_eq (same_refl l hl)).trans ?_
    refine (if_pos rfl).trans ?_
    refine (if_pos (by dsimp only; rw [st_eq]; rfl)).trans ?_
    refine (if_pos (by dsimp only; rw [sEq_self]; rfl)).trans ?_
    refine (if_pos rfl).trans ?_
    simp
  by_cases g0 : n < 0
  · refine fin (0, 0, 0, 0, 0, 0, 0, 0, 0, 0, false, false, false, 0, 0, false, 0, 0, 0) [] [] 1 (by simp) ?_ ?_
    · show solo_Run.G solo_Run.L0.F s.c mem came n = _
      unfold solo_Run.G
      exact if_neg (by rw [decide_eq_true g0]; decide)
    · show ref23_Run.G ref23_Run.L21_0.F ref23_Run.L0.F s.c mem came n = _
      unfold ref23_Run.G
      exact if_neg (by rw [decide_eq_true g0]; decide)
  by_cases g1 : n > 20000
  · refine fin (0, 0, 0, 0, 0, 0, 0, 0, 0, 0, false, false, false, 0, 0, false, 0, 0, 0) [] [] 1 (by simp) ?_ ?_
    · show solo_Run.G solo_Run.L0.F s.c mem came n = _
      unfold solo_Run.G
      refine (if_pos (by rw [decide_eq_false g0]; rfl)).trans ?_
      exact if_pos (decide_eq_true g1)
    · show ref23_Run.G ref23_Run.L21_0.F ref23_Run.L0.F s.c mem came n = _
      unfold ref23_Run.G
      refine (if_pos (by rw [decide_eq_false g0]; rfl)).trans ?_
      exact if_pos (decide_eq_true g1)
  obtain ⟨k, rfl⟩ := Int.eq_ofNat_of_zero_le (show 0 ≤ n by omega)
  refine fin _ _ _ _ ?_ (run_spec h hm hc (n := k) (by omega)) (rrun_spec h hml hm hc (n := k) (by omega))
  rw [run_len]; simp; omega
theorem soloRuns_walk : LawOK Tryz.prog 3 law23_SoloRuns.as := .of law23_SoloRuns.ok fun x h => by
  obtain ⟨c, mem, came, n, u⟩ := x
  exact runs_core (sok_of h.1) h.2.1.1 (fun v hv => wf_u8.1 (h.2.1.2 v hv)) (fun v hv => wf_u8.1 (h.2.2.1.2 v hv)) n
end Go.Proofs.YtmhkjafcfpgikaaGreat.E
