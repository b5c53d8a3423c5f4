/- Functions of the program as plain Lean, and what they come to. Conditions: none. -/
import Derived.Test.YtddeejpffdccpaaGreatEwD
import Derived.Test.YtddeejpffdccpaaGreatPureS
open Go Go.Ew
namespace Go.Proofs.YtddeejpffdccpaaGreat.E
open Go.IntKind (wrap)
set_option linter.unusedVariables false
set_option linter.unusedSimpArgs false
set_option maxRecDepth 100000
abbrev qD := (((List Int) × Unit × Unit × Int × Int × Unit) × (CB × CB × Unit) × ((List (Int × Int × Int)) × Unit))
abbrev qX := ((Unit × Unit × Int × Unit) × (CB × CB × Unit) × ((List (Int × Int × Int)) × Unit))
noncomputable def qstep (x : qD) : Option (qD ⊕ qX) := law22_ran.L0.step cpu_Want.F cpu_Done.F cpu_Busy.F x.1.1 x.1.2.2.2.1 x.1.2.2.2.2.1 x.2.1.1.1 x.2.1.1.2.1 x.2.1.1.2.2.1 x.2.1.1.2.2.2.1 x.2.1.1.2.2.2.2.1 x.2.1.1.x5 x.2.1.1.x6 x.2.1.1.x7 x.2.1.1.x8 x.2.1.1.x9 x.2.1.1.x10 x.2.1.1.x11 x.2.1.1.x12 x.2.1.1.x13 x.2.1.1.x14 x.2.1.1.x15 x.2.1.1.x16 x.2.1.1.x17 x.2.1.1.x18 x.2.1.2.1.1 x.2.1.2.1.2.1 x.2.1.2.1.2.2.1 x.2.1.2.1.2.2.2.1 x.2.1.2.1.2.2.2.2.1 x.2.1.2.1.x5 x.2.1.2.1.x6 x.2.1.2.1.x7 x.2.1.2.1.x8 x.2.1.2.1.x9 x.2.1.2.1.x10 x.2.1.2.1.x11 x.2.1.2.1.x12 x.2.1.2.1.x13 x.2.1.2.1.x14 x.2.1.2.1.x15 x.2.1.2.1.x16 x.2.1.2.1.x17 x.2.1.2.1.x18 x.2.2.1
theorem q_F_eq : law22_ran.L0.F = iterU qstep := rfl
abbrev eD := ((Bool × (List (Int × Int × Int)) × Unit × Int × Unit) × ((Int × Int × Int × Int × Int × Int × Int × Int × Int × Int × (List Int) × Int × (List (Int × Int × Int)) × Unit) × Unit) × Unit)
abbrev eX := (((Bool × Unit) × Unit × Unit) ⊕ ((Bool × Unit) × Unit × Unit))
noncomputable def estep (x : eD) : Option (eD ⊕ eX) := law22_CpuWhole.L0.step x.1.1 x.1.2.1 x.1.2.2.2.1 x.2.1.1.1 x.2.1.1.2.1 x.2.1.1.2.2.1 x.2.1.1.2.2.2.1 x.2.1.1.2.2.2.2.1 x.2.1.1.x5 x.2.1.1.x6 x.2.1.1.x7 x.2.1.1.x8 x.2.1.1.x9 x.2.1.1.x10 x.2.1.1.x11 x.2.1.1.x12
theorem e_F_eq : law22_CpuWhole.L0.F = iterU estep := rfl
def stq (rd : List Int) (z : CB) (s : St) (k : Nat) (n : Int) (l : List A3) : qD := ((rd, (), (), (k : Int), n, ()), (s.b, z, ()), l, ())
def exq (z : CB) (s : St) (n : Int) (l : List A3) : qX := (((), (), n, ()), (s.b, z, ()), l, ())
def outQ (rd : List Int) (z : CB) (s2 : St) (k : Nat) (n : Int) (l : List A3) : Option (qD ⊕ qX) :=
 if busyS s2 = true then some (.inl (stq rd z s2 k n l)) else some (.inr (exq z s2 n l))
theorem appC (l : List A3) (a : A3) : List.take (l.length + 1) (List.take l.length l ++ List.take 1 (List.drop 0 [a])) = l ++ [a] := by
 simp only [List.drop_zero, List.take_length, List.take_nil]
 exact List.take_of_length_le (by simp)
theorem fin_tail {s' : St} (h : sok s') {v : Int} (hv : byte v) {n k : Int} {k' : Nat} (hk : k = (k' : Int)) (l l' : List A3) (hl : l = l') (hn : 0 ≤ n ∧ n < 200) (rd : List Int) (z : CB) (hd : sok (doneS s' v 0)) :
  (Option.bind (cpu_Done.F (s'.c, v, 0, ())) fun y1 => Option.bind (cpu_Busy.F y1) fun y2 => if (!y2.1) = true then some (Sum.inr (((), (), wrap .i64 (n + 1), ()), ((ofC y1.1).b, z, ()), l, ()))
   else some (Sum.inl ((rd, (), (), k, wrap .i64 (n + 1), ()), ((ofC y1.1).b, z, ()), l, ())) : Option (qD ⊕ qX)) = outQ rd z (doneS s' v 0) k' (n + 1) l' := by
 subst hk hl
 refine (bind_eq (done_spec h hv byte0)).trans ?_
 refine (bind_eq (Busy_spec hd)).trans ?_
 unfold outQ
 have e : wrap .i64 (n + 1) = n + 1 := w64 (by omega)
 rw [e]
 cases hb : busyS (doneS s' v 0) with
 | true => rfl
 | false => rfl
theorem qR {s : St} (h : sok s) {rd : List Int} (hr : ∀ v ∈ rd, byte v) {k : Nat} {n : Int} (hk : k ≤ 100) (hn : 0 ≤ n ∧ n < 8) (z : CB) {l : List A3} (hl : l.length ≤ 100) {a : A3} {m : Int} (hw : wantS s 0 = (s, a, m))
  (hd : ∀ v, byte v → sok (doneS s v 0)) (c : a.1 = 1 ∨ a.1 = 2) : qstep (stq rd z s k n l) = outQ rd z (doneS s (rd.getD k 0) 0) (k + 1) (n + 1) (l ++ [(a.1, a.2.1, rd.getD k 0)]) := by
 have w := want_spec h byte0
 rw [show (0 : Int) % 32 = 0 from rfl, hw] at w
 have ek : wrap .i64 ((k : Int) + 1) = ((k + 1 : Nat) : Int) := by rw [w64 (by omega)]; omega
 have hn' : 0 ≤ n ∧ n < 200 := by omega
 have room : l.length + 1 ≤ 268435456 := by omega
 have ha0 : (a.1 != 0) = true := by simp; omega
 unfold qstep law22_ran.L0.step
 refine (if_pos (decide_eq_true hn.2)).trans ?_
 refine (bind_eq w).trans ?_
 by_cases q : (k : Int) < (rd.length : Int)
 ·by_cases c1 : a.1 = 1
  ·refine (if_neg (show ¬ ((a.1 == 1) == false) = true by simp [c1])).trans ?_
   refine (if_pos (decide_eq_true q)).trans ?_
   refine (if_pos ⟨Int.natCast_nonneg k, q⟩).trans ?_
   refine (if_pos ha0).trans ?_
   refine (if_pos room).trans ?_
   exact fin_tail h (mem_byte hr k) ek _ _ (appC l (a.1, a.2.1, rd.getD k 0)) hn' rd z (hd _ (mem_byte hr k))
  ·refine (if_pos (show ((a.1 == 1) == false) = true by simp [c1])).trans ?_
   refine (if_pos (show (a.1 == 2) = true by simp; omega)).trans ?_
   refine (if_pos (decide_eq_true q)).trans ?_
   refine (if_pos ⟨Int.natCast_nonneg k, q⟩).trans ?_
   refine (if_pos ha0).trans ?_
   refine (if_pos room).trans ?_
   exact fin_tail h (mem_byte hr k) ek _ _ (appC l (a.1, a.2.1, rd.getD k 0)) hn' rd z (hd _ (mem_byte hr k))
 ·have g0 : rd.getD k 0 = 0 := by rw [List.getD_eq_getElem?_getD, List.getElem?_eq_none (by omega)]; rfl
  rw [g0]
  by_cases c1 : a.1 = 1
  ·refine (if_neg (show ¬ ((a.1 == 1) == false) = true by simp [c1])).trans ?_
   refine (if_neg (show ¬ decide ((k : Int) < (rd.length : Int)) = true by rw [decide_eq_true_eq]; exact q)).trans ?_
   refine (if_pos ha0).trans ?_
   refine (if_pos room).trans ?_
   exact fin_tail h byte0 ek _ _ (appC l (a.1, a.2.1, 0)) hn' rd z (hd _ byte0)
  ·refine (if_pos (show ((a.1 == 1) == false) = true by simp [c1])).trans ?_
   refine (if_pos (show (a.1 == 2) = true by simp; omega)).trans ?_
   refine (if_neg (show ¬ decide ((k : Int) < (rd.length : Int)) = true by rw [decide_eq_true_eq]; exact q)).trans ?_
   refine (if_pos ha0).trans ?_
   refine (if_pos room).trans ?_
   exact fin_tail h byte0 ek _ _ (appC l (a.1, a.2.1, 0)) hn' rd z (hd _ byte0)
theorem qI {s : St} (h : sok s) {rd : List Int} {k : Nat} {n : Int} (hn : 0 ≤ n ∧ n < 8) (z : CB) {l : List A3} {a : A3} {m : Int} (hw : wantS s 0 = (s, a, m))
  (hd : ∀ v, byte v → sok (doneS s v 0)) (c0 : a.1 = 0) : qstep (stq rd z s k n l) = outQ rd z (doneS s 0 0) k (n + 1) l := by
 have w := want_spec h byte0
 rw [show (0 : Int) % 32 = 0 from rfl, hw] at w
 have hn' : 0 ≤ n ∧ n < 200 := by omega
 unfold qstep law22_ran.L0.step
 refine (if_pos (decide_eq_true hn.2)).trans ?_
 refine (bind_eq w).trans ?_
 refine (if_pos (show ((a.1 == 1) == false) = true by simp; omega)).trans ?_
 refine (if_neg (show ¬ (a.1 == 2) = true by simp; omega)).trans ?_
 refine (if_neg (show ¬ (a.1 != 0) = true by simp [c0])).trans ?_
 exact fin_tail h byte0 rfl _ _ (List.take_length) hn' rd z (hd _ byte0)
theorem qW {s : St} (h : sok s) {rd : List Int} {k : Nat} {n : Int} (hn : 0 ≤ n ∧ n < 8) (z : CB) {l : List A3} (hl : l.length ≤ 100) {a : A3} {m : Int} (hw : wantS s 0 = (s, a, m))
  (hd : ∀ v, byte v → sok (doneS s v 0)) (c0 : a.1 = 3) : qstep (stq rd z s k n l) = outQ rd z (doneS s 0 0) k (n + 1) (l ++ [a]) := by
 have w := want_spec h byte0
 rw [show (0 : Int) % 32 = 0 from rfl, hw] at w
 have hn' : 0 ≤ n ∧ n < 200 := by omega
 have room : l.length + 1 ≤ 268435456 := by omega
 unfold qstep law22_ran.L0.step
 refine (if_pos (decide_eq_true hn.2)).trans ?_
 refine (bind_eq w).trans ?_
 refine (if_pos (show ((a.1 == 1) == false) = true by simp; omega)).trans ?_
 refine (if_neg (show ¬ (a.1 == 2) = true by simp; omega)).trans ?_
 refine (if_pos (show (a.1 != 0) = true by simp [c0])).trans ?_
 refine (if_pos room).trans ?_
 exact fin_tail h byte0 rfl _ _ (appC l a) hn' rd z (hd _ byte0)
noncomputable def finQ (rd : List Int) (z : CB) (s2 : St) (k : Nat) (n : Int) (l : List A3) : Option qX := if busyS s2 = true then iterU qstep (stq rd z s2 k n l) else some (exq z s2 n l)
theorem iter_out {rd : List Int} {z : CB} {s s2 : St} {k k2 : Nat} {n n2 : Int} {l l2 : List A3} (h : qstep (stq rd z s k n l) = outQ rd z s2 k2 n2 l2) : iterU qstep (stq rd z s k n l) = finQ rd z s2 k2 n2 l2 := by
 rw [iterU_eq, h]
 unfold outQ finQ
 by_cases c : busyS s2 = true
 ·rw [if_pos c, if_pos c]
 ·rw [if_neg c, if_neg c]
def baseS (t : St) : Int := if t.cb = true then 2 else 1
theorem len_base {t : St} (hnp : ¬ (t.op = 203 ∧ t.cb = false)) : lenS t = baseS t + (t.pl.length : Int) := by
 unfold lenS baseS
 rw [if_neg hnp]
theorem cyc_at {t : St} (hnp : ¬ (t.op = 203 ∧ t.cb = false)) {j : Nat} (hs : t.step = baseS t + j) (hj : j < t.pl.length) : (cycS t).1 = t.pl.getD j (0, 0, 0) := by
 unfold baseS at hs
 unfold cycS
 rw [if_neg hnp]
 by_cases c : t.cb = true
 ·rw [if_pos c] at hs
  rw [if_neg (by omega), if_pos c, if_pos (by omega)]
  have : (t.step - 1 - 1).toNat = j := by omega
  rw [this]
 ·rw [if_neg c] at hs
  rw [if_neg (fun z => c z.1), if_neg c, if_pos (by omega)]
  have : (t.step - 1 - 0).toNat = j := by omega
  rw [this]
theorem mov_pl (t : St) (m : M3) (v : Int) : (movS t m v).pl = t.pl := by
 unfold St.pl
 rw [show (movS t m v).f = t.f from rfl, hold_f (show (movS t m v).r.2.1 = t.r.2.1 from plR_f t _)]
theorem m0_eq {t : St} (h : t.mode = 0) : t.m0 = t := by
 cases t; simp only [St.m0] at *; subst h; rfl
theorem run_from {rd : List Int} (hr : ∀ v ∈ rd, byte v) (z : CB) : ∀ (rest : List M3) (t : St) (k : Nat) (n : Int) (l : List A3) (j : Nat), sok t → t.mode = 0 → ¬ (t.op = 203 ∧ t.cb = false) → t.step = baseS t + j → t.pl.drop j = rest → j ≤ t.pl.length →
  0 ≤ n → n + rest.length ≤ 8 → k + rest.length ≤ 50 → l.length + rest.length ≤ 50 → j + rest.length ≤ 50 →
  finQ rd z (tailS t 0) k n l = some (exq z (endOf (mics rd (t, k, l) rest).1 0) (n + rest.length) (mics rd (t, k, l) rest).2.2)
 | [], t, k, n, l, j, ht, hm, hnp, hs, hd, hj, n0, hn, hk, hl, hjj => by
  have lb := len_base hnp
  have b1 : 1 ≤ baseS t := by unfold baseS; split <;> decide
  have hjl : t.pl.length ≤ j := List.drop_eq_nil_iff.1 hd
  rcases tail_eq hm (by omega) with ⟨g, e, b⟩ | ⟨g, e, b⟩
  ·omega
  ·unfold finQ
   rw [if_neg (by rw [b]; decide), e]
   show _ = some (exq z (endOf t 0) (n + ((0 : Nat) : Int)) l)
   rw [Int.natCast_zero, Int.add_zero]
 | m :: rest, t, k, n, l, j, ht, hm, hnp, hs, hd, hj, n0, hn, hk, hl, hjj => by
  have lb := len_base hnp
  have b1 : 1 ≤ baseS t := by unfold baseS; split <;> decide
  have b2 : baseS t ≤ 2 := by unfold baseS; split <;> decide
  have hlen : j < t.pl.length := by
   rcases Nat.lt_or_ge j t.pl.length with q | q
   ·exact q
   ·rw [List.drop_eq_nil_of_le q] at hd; exact absurd hd (by simp)
  have hg : t.pl.getD j (0, 0, 0) = m := by
   have : t.pl[j]? = some m := by rw [← List.head?_drop, hd]; rfl
   rw [List.getD_eq_getElem?_getD, this]; rfl
  have hd2 : t.pl.drop (j + 1) = rest := by rw [← List.tail_drop, hd]; rfl
  simp only [List.length_cons] at hn hk hl hjj
  rcases tail_eq hm (by omega) with ⟨g, e, b⟩ | ⟨g, e, b⟩
  ·have hc : (cycS t).1 = m := (cyc_at hnp hs hlen).trans hg
   have q : ¬ (t.step = 1 ∧ (t.op = 203 ∨ t.cb = true)) := by
    rintro ⟨a, c⟩
    unfold baseS at hs
    by_cases cb : t.cb = true
    ·rw [if_pos cb] at hs; omega
    ·rcases c with c | c
     ·exact hnp ⟨c, by simpa using cb⟩
     ·exact cb c
   have hw : wantS t 0 = goS t := want_go hm b 0
   have hdn : ∀ v, doneS t v 0 = tailS (movS t m v) 0 := fun v => by
    rw [done_go hm b q v, hc, m0_eq (show (movS t m v).mode = 0 from hm)]
   have hst : ∀ v, (movS t m v).step = baseS (movS t m v) + ((j + 1 : Nat) : Int) := fun v => by
    show wrap .u8 (t.step + 1) = baseS t + _
    rw [w8 (by omega)]; omega
   have ih := fun v (hv : byte v) k' l' (c1 : k' + rest.length ≤ 50) (c2 : l'.length + rest.length ≤ 50) =>
    run_from hr z rest (movS t m v) k' (n + 1) l' (j + 1) (mov_ok ht m hv) hm hnp (hst v) (by rw [mov_pl]; exact hd2) (by rw [mov_pl]; omega) (by omega) (by omega) c1 c2 (by omega)
   have en : n + 1 + (rest.length : Int) = n + ((m :: rest).length : Int) := by simp only [List.length_cons]; omega
   unfold finQ
   rw [e, if_pos b]
   by_cases c1 : m.1 = 1
   ·have hgo : goS t = (t, (2, atS t m.2.1, 0), -1) := by unfold goS; rw [if_neg q, hc, if_pos c1]
    rw [iter_out (qR ht hr (by omega) ⟨n0, by omega⟩ z (l := l) (by omega) (hw.trans hgo) (fun v hv => done_ok ht hv 0) (.inr rfl)), hdn]
    rw [ih (rd.getD k 0) (mem_byte hr k) (k + 1) (l ++ [(2, atS t m.2.1, rd.getD k 0)]) (by omega) (by rw [List.length_append]; simp only [List.length_cons, List.length_nil]; omega)]
    rw [en]
    show _ = some (exq z (endOf (mics rd (mic rd (t, k, l) m) rest).1 0) _ (mics rd (mic rd (t, k, l) m) rest).2.2)
    rw [show mic rd (t, k, l) m = (movS t m (rd.getD k 0), k + 1, l ++ [(2, atS t m.2.1, rd.getD k 0)]) from if_pos c1]
   ·by_cases c2 : m.1 = 2
    ·have hgo : goS t = (t, (3, atS t m.2.1, valS t m.2.2), -1) := by unfold goS; rw [if_neg q, hc, if_neg c1, if_pos c2]
     rw [iter_out (qW ht ⟨n0, by omega⟩ z (l := l) (by omega) (hw.trans hgo) (fun v hv => done_ok ht hv 0) rfl), hdn]
     rw [ih 0 byte0 k (l ++ [(3, atS t m.2.1, valS t m.2.2)]) (by omega) (by rw [List.length_append]; simp only [List.length_cons, List.length_nil]; omega)]
     rw [en]
     show _ = some (exq z (endOf (mics rd (mic rd (t, k, l) m) rest).1 0) _ (mics rd (mic rd (t, k, l) m) rest).2.2)
     rw [show mic rd (t, k, l) m = (movS t m 0, k, l ++ [(3, atS t m.2.1, valS t m.2.2)]) from (if_neg c1).trans (if_pos c2)]
    ·have hgo : goS t = (t, (0, 0, 0), -1) := by unfold goS; rw [if_neg q, hc, if_neg c1, if_neg c2]
     rw [iter_out (qI ht ⟨n0, by omega⟩ z (l := l) (hw.trans hgo) (fun v hv => done_ok ht hv 0) rfl), hdn]
     rw [ih 0 byte0 k l (by omega) (by omega)]
     rw [en]
     show _ = some (exq z (endOf (mics rd (mic rd (t, k, l) m) rest).1 0) _ (mics rd (mic rd (t, k, l) m) rest).2.2)
     rw [show mic rd (t, k, l) m = (movS t m 0, k, l) from (if_neg c1).trans (if_neg c2)]
  ·omega
end Go.Proofs.YtddeejpffdccpaaGreat.E
