/- Functions of the program as plain Lean, and what they come to. Conditions: none. -/
import Derived.Test.YtddeejpffdccpaaEwD
import Derived.Test.YtddeejpffdccpaaPureR
import Derived.Test.YtddeejpffdccpaaWalkTimes
open Go Go.Ew
namespace Go.Proofs.Ytddeejpffdccpaa.E

set_option linter.unusedVariables false
set_option linter.unusedSimpArgs false
set_option maxRecDepth 100000
abbrev TD := (((List Int) × Unit × Unit × Int × Int × Unit) × ((Int × Int × Int × Int × Int × Int × Int × Int × Int × Int × Unit) × CB × CB × Unit) × ((List (Int × Int × Int)) × Unit))
abbrev TX := (Unit × Unit × Int × Unit) × ((Int × Int × Int × Int × Int × Int × Int × Int × Int × Int × Unit) × CB × CB × Unit) × ((List (Int × Int × Int)) × Unit)
noncomputable def tstep (x : TD) : Option (TD ⊕ TX) := law22_CpuTimes.L14_0.step cpu_Want.F cpu_Done.F cpu_Busy.F x.1.1 x.1.2.2.2.1 x.1.2.2.2.2.1 x.2.1.1.1 x.2.1.1.2.1 x.2.1.1.2.2.1 x.2.1.1.2.2.2.1 x.2.1.1.2.2.2.2.1 x.2.1.1.x5 x.2.1.1.x6 x.2.1.1.x7 x.2.1.1.x8 x.2.1.1.x9 x.2.1.2.1.1 x.2.1.2.1.2.1 x.2.1.2.1.2.2.1 x.2.1.2.1.2.2.2.1 x.2.1.2.1.2.2.2.2.1 x.2.1.2.1.x5 x.2.1.2.1.x6 x.2.1.2.1.x7 x.2.1.2.1.x8 x.2.1.2.1.x9 x.2.1.2.1.x10 x.2.1.2.1.x11 x.2.1.2.1.x12 x.2.1.2.1.x13 x.2.1.2.1.x14 x.2.1.2.1.x15 x.2.1.2.1.x16 x.2.1.2.1.x17 x.2.1.2.1.x18 x.2.1.2.2.1.1 x.2.1.2.2.1.2.1 x.2.1.2.2.1.2.2.1 x.2.1.2.2.1.2.2.2.1 x.2.1.2.2.1.2.2.2.2.1 x.2.1.2.2.1.x5 x.2.1.2.2.1.x6 x.2.1.2.2.1.x7 x.2.1.2.2.1.x8 x.2.1.2.2.1.x9 x.2.1.2.2.1.x10 x.2.1.2.2.1.x11 x.2.1.2.2.1.x12 x.2.1.2.2.1.x13 x.2.1.2.2.1.x14 x.2.1.2.2.1.x15 x.2.1.2.2.1.x16 x.2.1.2.2.1.x17 x.2.1.2.2.1.x18 x.2.2.1
theorem tstep_F : law22_CpuTimes.L14_0.F = iterU tstep := rfl

def rbS (r : R10) : Int × Int × Int × Int × Int × Int × Int × Int × Int × Int × Unit := (r.1, r.2.1, r.2.2.1, r.2.2.2.1, r.2.2.2.2.1, r.2.2.2.2.2.1, r.2.2.2.2.2.2.1, r.2.2.2.2.2.2.2.1, r.2.2.2.2.2.2.2.2.1, r.2.2.2.2.2.2.2.2.2, ())
def outT (reads : List Int) (rb : Int × Int × Int × Int × Int × Int × Int × Int × Int × Int × Unit) (z : CB) (s2 : St) (k n : Int) (l : List A3) : Option (TD ⊕ TX) :=
  if busyS s2 = true then some (.inl ((reads, (), (), k, n, ()), (rb, s2.b, z, ()), l, ())) else some (.inr (((), (), n, ()), (rb, s2.b, z, ()), l, ()))
theorem fin_tail {s' : St} (h : sok s') {v : Int} (hv : byte v) {n : Int} (k : Int) (l : List A3) (hn : 0 ≤ n ∧ n < 200) (reads : List Int) (rb) (z : CB) (hd : sok (doneS s' v 0)) :
    (Option.bind (cpu_Done.F (s'.c, v, 0, ())) fun y1 => Option.bind (cpu_Busy.F y1) fun y2 => if (!y2.1) = true then some (Sum.inr (((), (), IntKind.wrap .i64 (n + 1), ()), (rb, (ofC y1.1).b, z, ()), l, ()))
      else some (Sum.inl ((reads, (), (), k, IntKind.wrap .i64 (n + 1), ()), (rb, (ofC y1.1).b, z, ()), l, ()))) = outT reads rb z (doneS s' v 0) k (n + 1) l := by
  refine (bind_eq (done_spec h hv byte0)).trans ?_
  refine (bind_eq (Busy_spec hd)).trans ?_
  unfold outT
  have e : IntKind.wrap .i64 (n + 1) = n + 1 := w64 (by omega)
  rw [e]
  cases hb : busyS (doneS s' v 0) with
  | true => rfl
  | false => rfl
theorem mem_byte {reads : List Int} (h : ∀ v ∈ reads, byte v) (k : Nat) : byte (reads.getD k 0) := by
  rcases Nat.lt_or_ge k reads.length with g | g
  · exact h _ (getD_mem g 0)
  · rw [List.getD_eq_getElem?_getD, List.getElem?_eq_none g]; exact byte0
theorem tstep_eq {s : St} (h : sok s) {reads : List Int} (hr : ∀ v ∈ reads, byte v) {k n : Int} (hk : 0 ≤ k ∧ k ≤ 100) (hn : 0 ≤ n ∧ n < 8) (rb) (z : CB) {l : List A3} (hl : l.length ≤ 100) {a : A3} {m : Int} (hw : wantS s 0 = (s, a, m))
    (hd : ∀ v, byte v → sok (doneS s v 0)) :
    ∃ v l', byte v ∧ l'.length ≤ l.length + 1 ∧ (a.1 = 1 ∨ a.1 = 2 → v = reads.getD k.toNat 0) ∧ tstep ((reads, (), (), k, n, ()), (rb, s.b, z, ()), l, ()) = outT reads rb z (doneS s v 0) (k + if a.1 = 1 ∨ a.1 = 2 then 1 else 0) (n + 1) l' := by
  have w := want_spec h byte0
  rw [show (0 : Int) % 32 = 0 from rfl, hw] at w
  have ek : IntKind.wrap .i64 (k + 1) = k + 1 := w64 (by omega)
  have hlk : k < (reads.length : Int) ∨ ¬ k < (reads.length : Int) := Decidable.em _
  have hn' : 0 ≤ n ∧ n < 200 := by omega
  have room : l.length + 1 ≤ 268435456 := by omega
  unfold tstep law22_CpuTimes.L14_0.step
  by_cases c : a.1 = 1 ∨ a.1 = 2
  · have ha0 : (a.1 != 0) = true := by simp; omega
    rcases hlk with q | q
    · refine ⟨reads.getD k.toNat 0, List.take (l.length + 1) (List.take l.length l ++ List.take 1 (List.drop 0 [(a.1, a.2.1, reads.getD k.toNat 0)])), mem_byte hr _, by simp, fun _ => rfl, ?_⟩
      rw [if_pos c]
      refine Eq.trans ?_ (congrArg (fun q => outT reads rb z _ q (n + 1) _) ek)
      refine (if_pos (decide_eq_true hn.2)).trans ?_
      refine (bind_eq w).trans ?_
      by_cases c1 : a.1 = 1
      · refine (if_neg (show ¬ ((a.1 == 1) == false) = true by simp [c1])).trans ?_
        refine (if_pos (decide_eq_true q)).trans ?_
        refine (if_pos ⟨hk.1, q⟩).trans ?_
        refine (if_pos ha0).trans ?_
        refine (if_pos room).trans ?_
        exact fin_tail h (mem_byte hr k.toNat) (IntKind.wrap .i64 (k + 1)) (List.take (l.length + 1) (List.take l.length l ++ List.take 1 (List.drop 0 [(a.1, a.2.1, reads.getD k.toNat 0)]))) hn' reads rb z (hd _ (mem_byte hr k.toNat))
      · refine (if_pos (show ((a.1 == 1) == false) = true by simp [c1])).trans ?_
        refine (if_pos (show (a.1 == 2) = true by simp; omega)).trans ?_
        refine (if_pos (decide_eq_true q)).trans ?_
        refine (if_pos ⟨hk.1, q⟩).trans ?_
        refine (if_pos ha0).trans ?_
        refine (if_pos room).trans ?_
        exact fin_tail h (mem_byte hr k.toNat) (IntKind.wrap .i64 (k + 1)) (List.take (l.length + 1) (List.take l.length l ++ List.take 1 (List.drop 0 [(a.1, a.2.1, reads.getD k.toNat 0)]))) hn' reads rb z (hd _ (mem_byte hr k.toNat))
    · have g0 : reads.getD k.toNat 0 = 0 := by rw [List.getD_eq_getElem?_getD, List.getElem?_eq_none (by omega)]; rfl
      refine ⟨0, List.take (l.length + 1) (List.take l.length l ++ List.take 1 (List.drop 0 [(a.1, a.2.1, (0 : Int))])), byte0, by simp, fun _ => g0.symm, ?_⟩
      rw [if_pos c]
      refine Eq.trans ?_ (congrArg (fun q => outT reads rb z _ q (n + 1) _) ek)
      refine (if_pos (decide_eq_true hn.2)).trans ?_
      refine (bind_eq w).trans ?_
      by_cases c1 : a.1 = 1
      · refine (if_neg (show ¬ ((a.1 == 1) == false) = true by simp [c1])).trans ?_
        refine (if_neg (show ¬ decide (k < (reads.length : Int)) = true by rw [decide_eq_true_eq]; exact q)).trans ?_
        refine (if_pos ha0).trans ?_
        refine (if_pos room).trans ?_
        exact fin_tail h byte0 (IntKind.wrap .i64 (k + 1)) (List.take (l.length + 1) (List.take l.length l ++ List.take 1 (List.drop 0 [(a.1, a.2.1, (0 : Int))]))) hn' reads rb z (hd _ byte0)
      · refine (if_pos (show ((a.1 == 1) == false) = true by simp [c1])).trans ?_
        refine (if_pos (show (a.1 == 2) = true by simp; omega)).trans ?_
        refine (if_neg (show ¬ decide (k < (reads.length : Int)) = true by rw [decide_eq_true_eq]; exact q)).trans ?_
        refine (if_pos ha0).trans ?_
        refine (if_pos room).trans ?_
        exact fin_tail h byte0 (IntKind.wrap .i64 (k + 1)) (List.take (l.length + 1) (List.take l.length l ++ List.take 1 (List.drop 0 [(a.1, a.2.1, (0 : Int))]))) hn' reads rb z (hd _ byte0)
  · by_cases c0 : a.1 = 0
    · refine ⟨0, List.take l.length l, byte0, by simp, fun z => absurd z c, ?_⟩
      rw [if_neg c, Int.add_zero]
      refine (if_pos (decide_eq_true hn.2)).trans ?_
      refine (bind_eq w).trans ?_
      refine (if_pos (show ((a.1 == 1) == false) = true by simp; omega)).trans ?_
      refine (if_neg (show ¬ (a.1 == 2) = true by simp; omega)).trans ?_
      refine (if_neg (show ¬ (a.1 != 0) = true by simp [c0])).trans ?_
      exact fin_tail h byte0 k (List.take l.length l) hn' reads rb z (hd _ byte0)
    · refine ⟨0, List.take (l.length + 1) (List.take l.length l ++ List.take 1 (List.drop 0 [a])), byte0, by simp, fun z => absurd z c, ?_⟩
      rw [if_neg c, Int.add_zero]
      refine (if_pos (decide_eq_true hn.2)).trans ?_
      refine (bind_eq w).trans ?_
      refine (if_pos (show ((a.1 == 1) == false) = true by simp; omega)).trans ?_
      refine (if_neg (show ¬ (a.1 == 2) = true by simp; omega)).trans ?_
      refine (if_pos (show (a.1 != 0) = true by simp [c0])).trans ?_
      refine (if_pos room).trans ?_
      exact fin_tail h byte0 k (List.take (l.length + 1) (List.take l.length l ++ List.take 1 (List.drop 0 [a]))) hn' reads rb z (hd _ byte0)

def asksB (f : T.F6) : Bool := (f.1 == 36 || f.1 == 37 || f.1 == 39 || f.1 == 40) && decide (f.2.1 < 4)
theorem asks_spec {op : Int} (h : byte op) (cb : Bool) : micro_Asks.F (op, cb, ()) = some (asksB (T.formS op cb), ()) := by
  have key : ∀ f : T.F6, (if (f.1 == (36 : Int)) = true then some (decide (f.2.1 < (4 : Int)), ()) else if (f.1 == (37 : Int)) = true then some (decide (f.2.1 < (4 : Int)), ()) else if (f.1 == (39 : Int)) = true then some (decide (f.2.1 < (4 : Int)), ()) else if (f.1 == (40 : Int)) = true then some (decide (f.2.1 < (4 : Int)), ()) else some (false, ())) = some (asksB f, ()) := by
    intro f
    unfold asksB
    by_cases a : f.1 = 36
    · simp [a]
    by_cases b : f.1 = 37
    · simp [b]
    by_cases c : f.1 = 39
    · simp [c]
    by_cases d : f.1 = 40
    · simp [d]
    simp [a, b, c, d]
  show micro_Asks.G opcode_Decode.F opcode_DecodeCB.F op cb = _
  unfold micro_Asks.G
  cases cb with
  | true =>
    refine (if_pos rfl).trans ?_
    refine (bind_eq (cb_spec' h)).trans ?_
    exact key _
  | false =>
    refine (if_neg (by decide)).trans ?_
    refine (bind_eq (dec_spec' h)).trans ?_
    exact key _
def wantT (f : T.F6) (t : Bool) : Int := if (asksB f && t) = true then f.2.2.2.2.2 else f.2.2.2.2.1
theorem tot_fin : ∀ op : Fin 256, ∀ t : Bool, ((T.formS (op.val : Int) false).1 = 6 ↔ (op.val : Int) = 203) ∧ (T.formS (op.val : Int) false).1 < 43 ∧ 43 ≤ (T.formS (op.val : Int) true).1 ∧
    ((op.val : Int) ≠ 203 → 1 + ((T.planS (T.formS (op.val : Int) false).1 (T.formS (op.val : Int) false).2.1 (T.formS (op.val : Int) false).2.2.1 t).length : Int) = wantT (T.formS (op.val : Int) false) t ∧ wantT (T.formS (op.val : Int) false) t ≤ 7) ∧
    2 + ((T.planS (T.formS (op.val : Int) true).1 (T.formS (op.val : Int) true).2.1 (T.formS (op.val : Int) true).2.2.1 t).length : Int) = wantT (T.formS (op.val : Int) true) t ∧ wantT (T.formS (op.val : Int) true) t ≤ 7 := by decide +kernel
theorem tot_byte {op : Int} (h : byte op) (t : Bool) : ((T.formS op false).1 = 6 ↔ op = 203) ∧ (T.formS op false).1 < 43 ∧ 43 ≤ (T.formS op true).1 ∧
    (op ≠ 203 → 1 + ((T.planS (T.formS op false).1 (T.formS op false).2.1 (T.formS op false).2.2.1 t).length : Int) = wantT (T.formS op false) t ∧ wantT (T.formS op false) t ≤ 7) ∧
    2 + ((T.planS (T.formS op true).1 (T.formS op true).2.1 (T.formS op true).2.2.1 t).length : Int) = wantT (T.formS op true) t ∧ wantT (T.formS op true) t ≤ 7 := by
  have a := h.1
  have b := h.2
  obtain ⟨m, rfl⟩ := Int.eq_ofNat_of_zero_le a
  exact tot_fin ⟨m, by omega⟩ t
theorem tot_eq {o1 o2 : Int} (h1 : byte o1) (h2 : byte o2) (r : R10) : totS r o1 o2 = (if o1 = 203 then wantT (T.formS o2 true) (holdS r (T.formS o2 true).2.1) else wantT (T.formS o1 false) (holdS r (T.formS o1 false).2.1)) ∧ totS r o1 o2 ≤ 7 := by
  unfold totS plenS
  by_cases e : o1 = 203
  · rw [if_pos e, if_pos e]
    have := (tot_byte h2 (holdS r (T.formS o2 true).2.1)).2.2.2.2
    exact ⟨this.1, by omega⟩
  · rw [if_neg e, if_neg e]
    have := (tot_byte h1 (holdS r (T.formS o1 false).2.1)).2.2.2.1 e
    exact ⟨this.1, by omega⟩
theorem at_lt {s0 s : St} {o1 o2 n k : Int} (h : At s0 o1 o2 n k s) (h7 : totS s0.r o1 o2 ≤ 7) : n ≤ 6 := by
  rcases h.here with ⟨a, _⟩ | ⟨a, _⟩ | ⟨n1, st, b, p1, p2⟩
  · omega
  · omega
  · have hl : lenS s = totS s0.r o1 o2 := len_tot h.fl (fun e => ⟨(p1 e).1, (p1 e).2.1⟩) p2
    have hb := (busy_fields b (by have := h.mode; omega)).2
    omega
theorem at_k {s0 s : St} {o1 o2 n k : Int} (h : At s0 o1 o2 n k s) (z : n = 0 ∨ n = 1 ∧ o1 = 203) (q : (n = 0 ∨ n = 1 ∧ o1 = 203) → k = n) : k = n := q z
theorem times_loop {r : R10} (hr : rok r) {reads : List Int} (hd : ∀ v ∈ reads, byte v) (rb) (z : CB) : ∃ s l, iterU tstep ((reads, (), (), (0 : Int), (0 : Int), ()), (rb, (begunS r).b, z, ()), [], ()) = some (((), (), totS (begunS r).r (reads.getD 0 0) (reads.getD 1 0), ()), (rb, s.b, z, ()), l, ()) ∧ fl0 s ∧ sok s := by
  have b1 := mem_byte hd 0
  have b2 := mem_byte hd 1
  have h7 := (tot_eq b1 b2 (begunS r).r).2
  have f0 : fl0 (begunS r) := (andn_ok hr.f).2
  have := iterU_inv (step := tstep) (fun x => ∃ (n k : Int) (s : St) (l : List A3), 0 ≤ k ∧ k ≤ n ∧ (l.length : Int) ≤ n ∧ At (begunS r) (reads.getD 0 0) (reads.getD 1 0) n k s ∧ x = ((reads, (), (), k, n, ()), (rb, s.b, z, ()), l, ()))
    (fun y => ∃ s l, y = (((), (), totS (begunS r).r (reads.getD 0 0) (reads.getD 1 0), ()), (rb, s.b, z, ()), l, ()) ∧ fl0 s ∧ sok s) (fun x => (8 - x.1.2.2.2.2.1).toNat) ?_
    ((reads, (), (), (0 : Int), (0 : Int), ()), (rb, (begunS r).b, z, ()), [], ()) ⟨0, 0, begunS r, [], by decide, by decide, by simp, ⟨begun_ok hr, rfl, rfl, .inl ⟨rfl, rfl, rfl⟩⟩, rfl⟩
  · obtain ⟨y, e, s, l, rfl, h⟩ := this
    exact ⟨s, l, e, h⟩
  · rintro x ⟨n, k, s, l, k0, kn, hl, ha, rfl⟩
    have n6 := at_lt ha h7
    obtain ⟨w1, w2⟩ := round (n := n) f0 rfl rfl rfl (by omega) b1 ha
    obtain ⟨a, m, hw⟩ : ∃ a m, wantS s 0 = (s, a, m) := ⟨(wantS s 0).2.1, (wantS s 0).2.2, Prod.ext w1 rfl⟩
    rw [hw] at w2
    obtain ⟨v, l', hv, hl', ho, he⟩ := tstep_eq ha.ok hd (k := k) (n := n) ⟨k0, by omega⟩ ⟨by omega, by omega⟩ rb z (l := l) (by omega) hw (fun v hv => done_ok ha.ok hv 0)
    have g0 := (w2 0 byte0)
    have kk : n = 0 ∨ n = 1 ∧ reads.getD 0 0 = 203 → a.1 = 1 ∧ k = n := by
      intro q
      have hb : byte (if n = 0 then reads.getD 0 0 else reads.getD 1 0) := by split <;> assumption
      exact (w2 (if n = 0 then reads.getD 0 0 else reads.getD 1 0) hb (fun e => by rw [if_pos e]) (fun e => by rw [if_neg (by omega)])).1 q
    have r := (w2 v hv (fun e => by
      obtain ⟨q1, q2⟩ := kk (.inl e)
      rw [ho (.inl q1), q2, e]; rfl) (fun e => by
      obtain ⟨q1, q2⟩ := kk (.inr e)
      rw [ho (.inl q1), q2, e.1]; rfl)).2 (k + if a.1 = 1 ∨ a.1 = 2 then 1 else 0) (fun e => by
      obtain ⟨q1, q2⟩ := kk (.inl e)
      rw [if_pos (.inl q1)]; omega)
    rw [he]
    unfold outT
    rcases r with ⟨r1, r2⟩ | ⟨r1, r2, r3⟩
    · left
      refine ⟨_, if_pos r1, ⟨n + 1, _, _, _, ?_, ?_, ?_, r2, rfl⟩, ?_⟩
      · split <;> omega
      · split <;> omega
      · omega
      · show (8 - (n + 1)).toNat < (8 - n).toNat
        omega
    · right
      refine ⟨_, if_neg (by rw [r1]; decide), doneS s v 0, l', ?_, r3, done_ok ha.ok hv 0⟩
      rw [r2]
theorem begun_spec (r : R10) : law22_begun.F (r, ()) = some ((begunS r).c, ()) := rfl
/-- behind the loop: what the form says -/
theorem tail_law {r : R10} (hr : rok r) {op : Int} (hop : byte op) (cb : Bool) {n F : Int} (hn : n = wantT (T.formS op cb) (holdS (begunS r).r (T.formS op cb).2.1)) (hF : F % 16 = 0) (hF0 : 0 ≤ F) :
    (Option.bind (micro_Asks.F (op, decide ((T.formS op cb).1 ≥ (43 : Int)), ())) fun y5 => if (y5.1 == true) = true then Option.bind (law22_begun.F (r, ())) fun y6 => Option.bind (regs_Holds.F ((ofC y6.1).r, (T.formS op cb).2.1, ())) fun y7 => if y7.1 = true then
      if (true == true) = true then if ((n == (T.formS op cb).2.2.2.2.2) == true) = true then some (Int.tmod F (16 : Int) == (0 : Int), ()) else some (false, ()) else some (false, ())
      else if (true == true) = true then if ((n == (T.formS op cb).2.2.2.2.1) == true) = true then some (Int.tmod F (16 : Int) == (0 : Int), ()) else some (false, ()) else some (false, ())
      else if (true == true) = true then if ((n == (T.formS op cb).2.2.2.2.1) == true) = true then some (Int.tmod F (16 : Int) == (0 : Int), ()) else some (false, ()) else some (false, ())) = some (true, ()) := by
  have e43 : decide ((T.formS op cb).1 ≥ (43 : Int)) = cb := by
    have := tot_byte hop true
    cases cb with
    | true => exact decide_eq_true this.2.2.1
    | false => exact decide_eq_false (by have := this.2.1; omega)
  rw [e43]
  refine (bind_eq (asks_spec hop cb)).trans ?_
  have tF : (Int.tmod F 16 == 0) = true := by rw [tmodN hF0, hF]; rfl
  rw [tF]
  unfold wantT at hn
  cases ha : asksB (T.formS op cb) with
  | false =>
    rw [ha] at hn
    have : n = (T.formS op cb).2.2.2.2.1 := hn
    refine (if_neg (by decide)).trans ?_
    refine (if_pos rfl).trans ?_
    exact if_pos (by simp [this])
  | true =>
    rw [ha] at hn
    refine (if_pos rfl).trans ?_
    refine (bind_eq (begun_spec r)).trans ?_
    refine (bind_eq (holds_spec (r := (begunS r).r) (begun_ok hr).r _)).trans ?_
    cases hh : holdS (begunS r).r (T.formS op cb).2.1 with
    | true =>
      rw [hh] at hn
      have : n = (T.formS op cb).2.2.2.2.2 := hn
      refine (if_pos rfl).trans ?_
      refine (if_pos rfl).trans ?_
      exact if_pos (by simp [this])
    | false =>
      rw [hh] at hn
      have : n = (T.formS op cb).2.2.2.2.1 := hn
      refine (if_neg (by decide)).trans ?_
      refine (if_pos rfl).trans ?_
      exact if_pos (by simp [this])
theorem getD_none {l : List Int} {k : Nat} (h : l.length ≤ k) : l.getD k 0 = 0 := by rw [List.getD_eq_getElem?_getD, List.getElem?_eq_none h]; rfl
theorem times_core {r : R10} (hr : rok r) {reads : List Int} (hd : ∀ v ∈ reads, byte v) : law22_CpuTimes.G opcode_Decode.F opcode_DecodeCB.F regs_Holds.F law22_shown.F micro_Asks.F law22_begun.F law22_CpuTimes.L14_0.F r reads = some (true, ()) := by
  have b1 := mem_byte hd 0
  have b2 := mem_byte hd 1
  obtain ⟨s, l, e, hf, ks⟩ := times_loop hr hd (rbS r) (0, 0, 0, 0, 0, 0, 0, 0, 0, 0, false, false, false, 0, 0, false, 0, 0, 0, ())
  have tq := (tot_eq b1 b2 (begunS r).r).1
  rw [tstep_F]
  unfold law22_CpuTimes.G
  refine (bind_eq (show law22_shown.F () = some (true, ()) from rfl)).trans ?_
  refine (bind_eq (begun_spec r)).trans ?_
  refine (bind_eq e).trans ?_
  have hF0 : 0 ≤ s.r.2.1 := ks.r.f.1
  by_cases g0 : (0 : Int) < (reads.length : Int)
  · refine (if_pos (decide_eq_true g0)).trans ?_
    refine (if_pos ⟨by decide, g0⟩).trans ?_
    refine (bind_eq (dec_spec' b1)).trans ?_
    by_cases c : reads.getD 0 0 = 203
    · refine (if_pos (show ((T.decS (reads.getD 0 0)).1 == 6) = true by rw [c]; rfl)).trans ?_
      rw [if_pos c] at tq
      by_cases g1 : (1 : Int) < (reads.length : Int)
      · refine (if_pos (decide_eq_true g1)).trans ?_
        refine (if_pos ⟨by decide, g1⟩).trans ?_
        refine (bind_eq (cb_spec' b2)).trans ?_
        exact tail_law hr b2 true tq hf hF0
      · refine (if_neg (by rw [decide_eq_true_eq]; exact g1)).trans ?_
        have e2 : reads.getD 1 0 = 0 := getD_none (by omega)
        refine (bind_eq (cb_spec' byte0)).trans ?_
        exact tail_law hr byte0 true (tq.trans (by rw [e2])) hf hF0
    · rw [if_neg c] at tq
      refine (if_neg (show ¬ ((T.decS (reads.getD 0 0)).1 == 6) = true by
        rw [beq_iff_eq]; exact fun z => c ((tot_byte b1 true).1.1 z))).trans ?_
      exact tail_law hr b1 false tq hf hF0
  · refine (if_neg (by rw [decide_eq_true_eq]; exact g0)).trans ?_
    have e1 : reads.getD 0 0 = 0 := getD_none (by omega)
    rw [if_neg (by rw [e1]; decide)] at tq
    refine (bind_eq (dec_spec' byte0)).trans ?_
    refine (if_neg (show ¬ ((T.decS 0).1 == 6) = true by decide)).trans ?_
    exact tail_law hr byte0 false (tq.trans (by rw [e1])) hf hF0
theorem cpuTimes_walk : LawOK Go.Proofs.Try.prog 7 law22_CpuTimes.as := .of law22_CpuTimes.ok fun x h => by
  obtain ⟨r, reads, u⟩ := x
  exact times_core (rok_of h.1) (fun v hv => wf_u8.1 (h.2.1.2 v hv))
end Go.Proofs.Ytddeejpffdccpaa.E

