/- Functions of the program as plain Lean, and what they come to. Conditions: none. -/
import Derived.Test.YtddeejpffdccpaaEwD
import Derived.Test.YtddeejpffdccpaaPureR
import Derived.Test.YtddeejpffdccpaaWalkLocks
open Go Go.Ew
namespace Go.Proofs.Ytddeejpffdccpaa.E

set_option linter.unusedVariables false
set_option linter.unusedSimpArgs false
set_option maxRecDepth 100000
abbrev c0D := (((List (Int × Int)) × Unit × Bool × Unit × Int × Unit) × ((Int × Int × Int × Int × Int × Int × Int × Int × Int × Int × Unit) × CB × Unit) × Unit)
abbrev c0X := (((Bool × Unit) × Unit × Unit) ⊕ ((Unit × Bool × Unit × Unit) × ((Int × Int × Int × Int × Int × Int × Int × Int × Int × Int × Unit) × CB × Unit) × Unit))
noncomputable def c0step (x : c0D) : Option (c0D ⊕ c0X) := law22_CpuLocks.L0.step cpu_Want.F cpu_Done.F x.1.1 x.1.2.2.1 x.1.2.2.2.2.1 x.2.1.1.1 x.2.1.1.2.1 x.2.1.1.2.2.1 x.2.1.1.2.2.2.1 x.2.1.1.2.2.2.2.1 x.2.1.1.x5 x.2.1.1.x6 x.2.1.1.x7 x.2.1.1.x8 x.2.1.1.x9 x.2.1.2.1.1 x.2.1.2.1.2.1 x.2.1.2.1.2.2.1 x.2.1.2.1.2.2.2.1 x.2.1.2.1.2.2.2.2.1 x.2.1.2.1.x5 x.2.1.2.1.x6 x.2.1.2.1.x7 x.2.1.2.1.x8 x.2.1.2.1.x9 x.2.1.2.1.x10 x.2.1.2.1.x11 x.2.1.2.1.x12 x.2.1.2.1.x13 x.2.1.2.1.x14 x.2.1.2.1.x15 x.2.1.2.1.x16 x.2.1.2.1.x17 x.2.1.2.1.x18
theorem L0_F_eq : law22_CpuLocks.L0.F = iterU c0step := rfl
def rbS (r : R10) : Int × Int × Int × Int × Int × Int × Int × Int × Int × Int × Unit := (r.1, r.2.1, r.2.2.1, r.2.2.2.1, r.2.2.2.2.1, r.2.2.2.2.2.1, r.2.2.2.2.2.2.1, r.2.2.2.2.2.2.2.1, r.2.2.2.2.2.2.2.2.1, r.2.2.2.2.2.2.2.2.2, ())
theorem putx_mode (s : St) (n v : Int) : (putx s n v).mode = s.mode := by
  unfold putx; split <;> rfl
theorem end_mode {s : St} (h : s.mode = 0) {k : Int} (hk : k ≠ 5) (x y : Nat) (p : Int) : (endS s k x y p).mode ≠ 3 := by
  have h' : s.mode ≠ 3 := by omega
  unfold endS
  rw [if_neg hk]
  repeat' apply ite_pred (Q := fun t : St => t.mode ≠ 3)
  all_goals first
    | exact h'
    | (show (2 : Int) ≠ 3; decide)
    | (show (1 : Int) ≠ 3; decide)
    | (show (putx _ _ _).mode ≠ 3; rw [putx_mode]; exact h')
theorem ill_fin : ∀ op : Fin 256, (T.formS (op.val : Int) false).1 = 5 → (op.val : Int) ≠ 203 := by decide +kernel
theorem ill_byte {op : Int} (h : byte op) (e : (T.formS op false).1 = 5) : op ≠ 203 := by
  have a := h.1
  have b := h.2
  obtain ⟨m, rfl⟩ := Int.eq_ofNat_of_zero_le a
  exact ill_fin ⟨m, by omega⟩ e
def lkS (r : R10) (op : Int) (ime : Bool) : St := { oneS (begunS r) op with mode := 3, ime := ime }
theorem lk_ok {r : R10} (h : rok r) {op : Int} (ho : byte op) (ime : Bool) : sok (lkS r op ime) := by
  have := one_ok (begun_ok h) ho
  exact ⟨this.r, this.op, this.step, this.lo, this.hi⟩
theorem done_ill {r : R10} (hr : rok r) {op : Int} (ho : byte op) (e : (T.formS op false).1 = 5) : doneS (begunS r) op 0 = lkS r op false := by
  rw [done0 (f := T.formS op false) rfl rfl (ill_byte ho e) rfl (by intro t; rw [e]; rfl), e]
  rfl
theorem done_leg {r : R10} (hr : rok r) {op : Int} (ho : byte op) (e : (T.formS op false).1 ≠ 5) : (doneS (begunS r) op 0).mode ≠ 3 := by
  rw [done_first rfl rfl]
  rcases tail_eq (t := (fetS (begunS r) op).m0) rfl (by show (1 : Int) ≤ 1; decide) with ⟨_, q, _⟩ | ⟨_, q, _⟩
  · rw [q]; show (0 : Int) ≠ 3; decide
  · rw [q]
    unfold endOf
    exact end_mode rfl e _ _ _
theorem want_lk {r : R10} (hr : rok r) {op : Int} (ho : byte op) (ime : Bool) {p : Int} (hp : byte p) : cpu_Want.F ((lkS r op ime).c, p, ()) = some ((lkS r op ime).c, (0, 0, 0), -1, ()) := by
  rw [want_spec (lk_ok hr ho ime) hp]
  unfold wantS
  rw [if_pos (.inl rfl)]
theorem done_lk {r : R10} (hr : rok r) {op : Int} (ho : byte op) (ime : Bool) {d p : Int} (hd : byte d) (hp : byte p) : cpu_Done.F ((lkS r op ime).c, d, p, ()) = some ((lkS r op ime).c, ()) := by
  rw [done_spec (lk_ok hr ho ime) hd hp]
  rfl
theorem locks_loop {r : R10} (hr : rok r) {op : Int} (ho : byte op) (ime : Bool) {l : List (Int × Int)} (hll : l.length ≤ 9223372036854775807) (hl : ∀ x ∈ l, byte x.1 ∧ byte x.2) (up : Bool) (rb) :
    iterU c0step ((l, (), up, (), (0 : Int), ()), (rb, (lkS r op ime).b, ()), ()) = some (.inr (((), up, (), ()), (rb, (lkS r op ime).b, ()), ())) := by
  refine iterU_range (fun i => ((l, (), up, (), (i : Int), ()), (rb, (lkS r op ime).b, ()), ())) _ l.length ?_ ?_ 0 (by omega)
  · intro i hi
    have b : byte (l.getD i ((0 : Int), (0 : Int))).1 ∧ byte (l.getD i ((0 : Int), (0 : Int))).2 := hl _ (getD_mem hi _)
    have hi' : (i : Int) < (l.length : Int) := by omega
    have rg : (0 : Int) ≤ (i : Int) ∧ (i : Int) < (l.length : Int) := ⟨by omega, hi'⟩
    unfold c0step law22_CpuLocks.L0.step
    refine (if_pos (decide_eq_true hi')).trans ?_
    refine (if_pos rg).trans ?_
    refine (bind_eq (want_lk hr ho ime (p := (l.getD (Int.toNat (i : Int)) ((0 : Int), (0 : Int))).2) b.2)).trans ?_
    refine (if_pos rfl).trans ?_
    refine (if_pos rfl).trans ?_
    refine (if_pos (by simp [St.c, St.b])).trans ?_
    refine (if_pos rg).trans ?_
    refine (if_pos rg).trans ?_
    refine (bind_eq (done_lk hr ho ime (d := (l.getD (Int.toNat (i : Int)) ((0 : Int), (0 : Int))).1) (p := (l.getD (Int.toNat (i : Int)) ((0 : Int), (0 : Int))).2) b.1 b.2)).trans ?_
    refine (if_neg (by simp [St.c, St.b])).trans ?_
    have : IntKind.wrap .i64 ((i : Int) + 1) = ((i + 1 : Nat) : Int) := by rw [w64 (by omega)]; omega
    show some (Sum.inl ((l, (), up, (), IntKind.wrap .i64 ((i : Int) + 1), ()), _, ())) = _
    rw [this]
  · unfold c0step law22_CpuLocks.L0.step
    exact if_neg (by rw [decide_eq_true_eq]; dsimp only; omega)
theorem locks_core {r : R10} (hr : rok r) {op : Int} (ho : byte op) (ime : Bool) {l : List (Int × Int)} (hll : l.length ≤ 9223372036854775807) (hl : ∀ x ∈ l, byte x.1 ∧ byte x.2) :
    law22_CpuLocks.G cpu_Want.F cpu_Done.F law22_shown.F opcode_Illegal.F law22_begun.F law22_CpuLocks.L0.F r op ime l = some (true, ()) := by
  rw [L0_F_eq]
  unfold law22_CpuLocks.G
  refine (bind_eq (show law22_shown.F () = some (true, ()) from rfl)).trans ?_
  refine (bind_eq (show law22_begun.F (r, ()) = some ((begunS r).c, ()) from rfl)).trans ?_
  have hw : cpu_Want.F ((begunS r).c, 0, ()) = some ((begunS r).c, (1, pcR r, 0), -1, ()) := by
    rw [want_spec (begun_ok hr) byte0]
    rw [show wantS (begunS r) ((0 : Int) % 32) = ((begunS r), (1, pcR (begunS r).r, 0), -1) from begun_want rfl rfl rfl rfl]
    rfl
  refine (bind_eq hw).trans ?_
  refine (bind_eq (done_spec (begun_ok hr) ho byte0)).trans ?_
  refine (bind_eq (show opcode_Illegal.F (op, ()) = some ((T.formS op false).1 == 5, ()) from bind_eq (dec_spec' ho))).trans ?_
  by_cases e : (T.formS op false).1 = 5
  · refine (if_neg (by simp [e])).trans ?_
    rw [done_ill hr ho e]
    refine (bind_eq (locks_loop hr ho ime hll hl true (rbS r))).trans ?_
    dsimp only [Sum.elim_inr]
    refine (if_pos rfl).trans ?_
    refine (if_pos rfl).trans ?_
    show some (((pcR r + 1) % 65536) == IntKind.wrap .u16 (pcR r + 1), ()) = _
    rw [u16m]; simp
  · refine (if_pos (by simp [e])).trans ?_
    refine (if_pos rfl).trans ?_
    have := done_leg hr ho e
    refine (if_pos (by show (((doneS (begunS r) op 0).mode != 3) == true) = true; simp [this])).trans ?_
    rfl
theorem cpuLocks_walk : LawOK Go.Proofs.Try.prog 6 law22_CpuLocks.as := .of law22_CpuLocks.ok fun x h => by
  obtain ⟨r, op, ime, l, u⟩ := x
  refine locks_core (rok_of h.1) (wf_u8.1 h.2.1) ime (l := l) ?_ fun v hv => ?_
  · exact h.2.2.2.1.1
  · have := h.2.2.2.1.2 v hv
    exact ⟨wf_u8.1 this.1, wf_u8.1 this.2⟩
end Go.Proofs.Ytddeejpffdccpaa.E

