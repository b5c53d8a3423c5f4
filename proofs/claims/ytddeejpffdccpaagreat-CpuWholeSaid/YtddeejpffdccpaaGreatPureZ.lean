/- Functions of the program as plain Lean, and what they come to. Conditions: none. -/
import Derived.Test.YtddeejpffdccpaaGreatEwD
import Derived.Test.YtddeejpffdccpaaGreatPureY
open Go Go.Ew
namespace Go.Proofs.YtddeejpffdccpaaGreat.E
open Go.IntKind (wrap)
set_option linter.unusedVariables false
set_option linter.unusedSimpArgs false
set_option maxRecDepth 100000
theorem mics_f (rd : List Int) : ∀ (l : List M3) (p : RS), (mics rd p l).1.f = p.1.f
 | [], p => rfl
 | m :: l, p => by
  show (mics rd (mic rd p m) l).1.f = p.1.f
  rw [mics_f rd l]
  unfold mic
  split
  ·rfl
  ·split <;> rfl
theorem mics_len (rd : List Int) : ∀ (l : List M3) (p : RS), (mics rd p l).2.2.length ≤ p.2.2.length + l.length
 | [], p => Nat.le_refl _
 | m :: l, p => by
  show (mics rd (mic rd p m) l).2.2.length ≤ _
  refine Nat.le_trans (mics_len rd l _) ?_
  have : (mic rd p m).2.2.length ≤ p.2.2.length + 1 := by
   unfold mic
   split
   ·show (p.2.2 ++ [_]).length ≤ _; rw [List.length_append]; exact Nat.le_refl _
   ·split
    ·show (p.2.2 ++ [_]).length ≤ _; rw [List.length_append]; exact Nat.le_refl _
    ·exact Nat.le_succ _
  simp only [List.length_cons]
  omega
theorem plan5_fin : ∀ op : Fin 256, ∀ cb t : Bool, (T.planS (T.formS (op.val : Int) cb).1 (T.formS (op.val : Int) cb).2.1 (T.formS (op.val : Int) cb).2.2.1 t).length ≤ 5 := by decide +kernel
theorem pl5 {s : St} (h : sok s) : s.pl.length ≤ 5 := by
 have a := h.op.1
 have b := h.op.2
 obtain ⟨m, hm⟩ := Int.eq_ofNat_of_zero_le a
 have ff := plan5_fin ⟨m, by omega⟩ s.cb (holdS s.r s.f.2.1)
 rw [← hm] at ff
 exact ff
theorem from_plan {rd : List Int} (hr : ∀ v ∈ rd, byte v) (z : CB) {t : St} {k : Nat} {l : List A3} {n : Int} (ht : sok t) (hm : t.mode = 0) (hnp : ¬ (t.op = 203 ∧ t.cb = false)) (hs : t.step = baseS t) (hn : 0 ≤ n ∧ n ≤ 2) (hk : k ≤ 2) (hl : l.length ≤ 2) :
  ∃ s n', finQ rd z (tailS t 0) k n l = some (exq z s n' (wholeS rd ⟨t.r, k, l⟩ t.f.1 t.f.2.1.toNat t.f.2.2.1.toNat).l) ∧ s.r = (wholeS rd ⟨t.r, k, l⟩ t.f.1 t.f.2.1.toNat t.f.2.2.1.toNat).r ∧ (wholeS rd ⟨t.r, k, l⟩ t.f.1 t.f.2.1.toNat t.f.2.2.1.toNat).l.length ≤ 100 := by
 have p5 := pl5 ht
 have r := run_from hr z t.pl t k n l 0 ht hm hnp (by rw [hs]; simp) rfl (Nat.zero_le _) hn.1 (by omega) (by omega) (by omega) (by omega)
 obtain ⟨K, X, Y, u, v, w, hf, hk2⟩ := frm_of ht
 have ev := eqv_all rd (s := t) k l hf hk2
 have hpl : t.pl = T.planS K X Y (holdS t.r X) := by
  unfold St.pl
  rw [hf]
 have hX : t.f.2.1.toNat = X := by rw [hf]; exact Int.toNat_natCast X
 have hY : t.f.2.2.1.toNat = Y := by rw [hf]; exact Int.toNat_natCast Y
 have hK : t.f.1 = K := by rw [hf]
 unfold Eqv at ev
 rw [← hpl] at ev
 obtain ⟨e1, e2⟩ := ev
 have ml := mics_len rd t.pl (t, k, l)
 rw [e2] at ml r
 refine ⟨_, _, by rw [hK, hX, hY]; exact r, ?_, ?_⟩
 ·rw [hK, hX, hY, ← e1]
  unfold endOf
  rw [mics_f]
  show (endS _ t.f.1 t.f.2.1.toNat t.f.2.2.1.toNat 0).r = _
  rw [hK, hX, hY]
 ·rw [hK, hX, hY]
  have : (((t, k, l) : RS).2.2).length = l.length := rfl
  omega
theorem ran_loop {rd : List Int} (hd : ∀ v ∈ rd, byte v) {r : R10} (hr : rok r) (z : CB) : ∃ s n, iterU qstep (stq rd z (begunS r) 0 0 []) = some (exq z s n (runW rd (begunS r).r).l) ∧ s.r = (runW rd (begunS r).r).r ∧ (runW rd (begunS r).r).l.length ≤ 100 := by
 have h0 := begun_ok hr
 have hw := begun_want (s0 := begunS r) rfl rfl rfl rfl
 have b1 : byte (op1 rd) := mem_byte hd 0
 have b2 : byte (op2 rd) := mem_byte hd 1
 have h1 : sok (fetS (begunS r) (op1 rd)) := fet_ok h0 b1
 rw [iter_out (qR h0 hd (k := 0) (by decide) ⟨by decide, by decide⟩ z (l := []) (by simp) hw (fun v hv => done_ok h0 hv 0) (.inl rfl))]
 rw [show doneS (begunS r) (rd.getD 0 0) 0 = tailS (fetS (begunS r) (op1 rd)) 0 from (done_first rfl rfl _).trans (by rw [m0_eq (show (fetS (begunS r) (rd.getD 0 0)).mode = 0 from rfl)]; rfl)]
 by_cases c : op1 rd = 203
 ·have hl2 : lenS (fetS (begunS r) (op1 rd)) = 2 := by
   unfold lenS
   exact if_pos ⟨c, rfl⟩
  rcases tail_eq (t := fetS (begunS r) (op1 rd)) rfl (by show (1 : Int) ≤ 1; decide) with ⟨g, e, b⟩ | ⟨g, e, b⟩
  ·have hw1 : wantS (fetS (begunS r) (op1 rd)) 0 = (fetS (begunS r) (op1 rd), (1, pcR (fetS (begunS r) (op1 rd)).r, 0), -1) := by
    rw [want_go rfl b 0]
    unfold goS
    exact if_pos ⟨rfl, .inl c⟩
   have h2 : sok (scdS (fetS (begunS r) (op1 rd)) (op2 rd)) := scd_ok h1 b2
   unfold finQ
   rw [e, if_pos b]
   rw [iter_out (qR h1 hd (k := 1) (by decide) ⟨by decide, by decide⟩ z (l := [] ++ [(1, pcR (begunS r).r, rd.getD 0 0)]) (by simp) hw1 (fun v hv => done_ok h1 hv 0) (.inl rfl))]
   rw [show doneS (fetS (begunS r) (op1 rd)) (rd.getD 1 0) 0 = tailS (scdS (fetS (begunS r) (op1 rd)) (op2 rd)) 0 from (done_second rfl b ⟨rfl, .inl c⟩ _).trans (by rw [m0_eq (show (scdS (fetS (begunS r) (op1 rd)) (rd.getD 1 0)).mode = 0 from rfl)]; rfl)]
   have fp := from_plan hd z (t := scdS (fetS (begunS r) (op1 rd)) (op2 rd)) (k := 2) (l := ([] ++ [(1, pcR (begunS r).r, rd.getD 0 0)]) ++ [(1, pcR (fetS (begunS r) (op1 rd)).r, rd.getD 1 0)]) (n := 0 + 1 + 1) h2 rfl (by rintro ⟨_, q⟩; exact absurd (show true = false from q) (by decide)) rfl ⟨by decide, by decide⟩ (by decide) (by simp)
   have er : runW rd (begunS r).r = wholeS rd (nextW rd (nextW rd (w0 (begunS r).r) 1) 1) (T.formS (op2 rd) true).1 (T.formS (op2 rd) true).2.1.toNat (T.formS (op2 rd) true).2.2.1.toNat := if_pos c
   rw [er]
   exact fp
  ·exfalso
   have : (fetS (begunS r) (op1 rd)).step = 1 := rfl
   omega
 ·have fp := from_plan hd z (t := fetS (begunS r) (op1 rd)) (k := 1) (l := [] ++ [(1, pcR (begunS r).r, rd.getD 0 0)]) (n := 0 + 1) h1 rfl (fun q => c q.1) rfl ⟨by decide, by decide⟩ (by decide) (by simp)
  have er : runW rd (begunS r).r = wholeS rd (nextW rd (w0 (begunS r).r) 1) (T.formS (op1 rd) false).1 (T.formS (op1 rd) false).2.1.toNat (T.formS (op1 rd) false).2.2.1.toNat := if_neg c
  rw [er]
  exact fp
theorem ran_spec {rd : List Int} (hd : ∀ v ∈ rd, byte v) {r : R10} (hr : rok r) : ∃ (s : St) (n : Int), law22_ran.F ((begunS r).c, rd, ()) = some (s.c, (runW rd (begunS r).r).l, n, ()) ∧ s.r = (runW rd (begunS r).r).r ∧ (runW rd (begunS r).r).l.length ≤ 100 := by
 obtain ⟨s, n, e, h1, h2⟩ := ran_loop hd hr (0, 0, 0, 0, 0, 0, 0, 0, 0, 0, false, false, false, 0, 0, false, 0, 0, 0, ())
 refine ⟨s, n, ?_, h1, h2⟩
 unfold law22_ran.F law22_ran.C law22_ran.G
 rw [q_F_eq]
 refine (bind_eq e).trans ?_
 show some (s.c, List.take (runW rd (begunS r).r).l.length (List.drop 0 (runW rd (begunS r).r).l), n, ()) = _
 rw [List.drop_zero, List.take_length]
theorem same_loop {l : List A3} (hl : l.length ≤ 100) (x : WW) (hx : x.2 = l) : iterU estep ((true, l, (), (0 : Int), ()), ((x.1.1, x.1.2.1, x.1.2.2.1, x.1.2.2.2.1, x.1.2.2.2.2.1, x.1.2.2.2.2.2.1, x.1.2.2.2.2.2.2.1, x.1.2.2.2.2.2.2.2.1, x.1.2.2.2.2.2.2.2.2.1, x.1.2.2.2.2.2.2.2.2.2.1, x.1.2.2.2.2.2.2.2.2.2.2.1, x.1.2.2.2.2.2.2.2.2.2.2.2, x.2, ()), ()), ()) = some (.inr ((true, ()), (), ())) := by
 subst hx
 have st0 := iterU_range (step := estep) (fun i => ((true, x.2, (), (i : Int), ()), ((x.1.1, x.1.2.1, x.1.2.2.1, x.1.2.2.2.1, x.1.2.2.2.2.1, x.1.2.2.2.2.2.1, x.1.2.2.2.2.2.2.1, x.1.2.2.2.2.2.2.2.1, x.1.2.2.2.2.2.2.2.2.1, x.1.2.2.2.2.2.2.2.2.2.1, x.1.2.2.2.2.2.2.2.2.2.2.1, x.1.2.2.2.2.2.2.2.2.2.2.2, x.2, ()), ()), ())) (.inr ((true, ()), (), ())) x.2.length ?_ ?_ 0 (by omega)
 ·exact st0
 ·intro i hi
  have g : (0 : Int) ≤ (i : Int) ∧ (i : Int) < (x.2.length : Int) := ⟨by omega, by omega⟩
  unfold estep law22_CpuWhole.L0.step
  refine (if_pos (decide_eq_true g.2)).trans ?_
  refine (if_pos g).trans ?_
  refine (if_pos g).trans ?_
  refine (if_neg (by simp)).trans ?_
  have : wrap .i64 ((i : Int) + 1) = ((i + 1 : Nat) : Int) := by rw [w64 (by omega)]; omega
  dsimp only
  rw [this]
 ·unfold estep law22_CpuWhole.L0.step
  exact if_neg (by rw [decide_eq_true_eq]; dsimp only; omega)
theorem neg_true {b : Bool} (h : b = true) : ((!b) == false) = true := by rw [h]; rfl
theorem whole_core {rd : List Int} (hd : ∀ v ∈ rd, byte v) {r : R10} (hr : rok r) : law22_CpuWhole.F (r, rd, ()) = some (true, ()) := by
 obtain ⟨s, n, e, h1, h2⟩ := ran_spec hd hr
 unfold law22_CpuWhole.F law22_CpuWhole.C law22_CpuWhole.G
 rw [e_F_eq]
 refine (bind_eq (show law22_shown.F () = some (true, ()) from rfl)).trans ?_
 refine (bind_eq e).trans ?_
 refine (bind_eq (runs hd (begun_ok hr).r)).trans ?_
 have q : (s.r.1 == (runW rd (begunS r).r).r.1 && (s.r.2.1 == (runW rd (begunS r).r).r.2.1 && (s.r.2.2.1 == (runW rd (begunS r).r).r.2.2.1 && (s.r.2.2.2.1 == (runW rd (begunS r).r).r.2.2.2.1 && (s.r.2.2.2.2.1 == (runW rd (begunS r).r).r.2.2.2.2.1 && (s.r.2.2.2.2.2.1 == (runW rd (begunS r).r).r.2.2.2.2.2.1 && (s.r.2.2.2.2.2.2.1 == (runW rd (begunS r).r).r.2.2.2.2.2.2.1 && (s.r.2.2.2.2.2.2.2.1 == (runW rd (begunS r).r).r.2.2.2.2.2.2.2.1 && (s.r.2.2.2.2.2.2.2.2.1 == (runW rd (begunS r).r).r.2.2.2.2.2.2.2.2.1 && (s.r.2.2.2.2.2.2.2.2.2 == (runW rd (begunS r).r).r.2.2.2.2.2.2.2.2.2 && true)))))))))) = true := by rw [h1]; simp
 refine (if_pos (neg_true q)).trans ?_
 refine (if_neg (show ¬ (((runW rd (begunS r).r).l.length : Int) != ((runW rd (begunS r).r).l.length : Int)) = true by simp)).trans ?_
 refine (bind_eq (same_loop h2 ((runW rd (begunS r).r).w rd) rfl)).trans ?_
 rfl
theorem cpuWhole_walk : LawOK Tryz.prog 6 law22_CpuWhole.as := .of law22_CpuWhole.ok fun x h => by
 obtain ⟨r, rd, u⟩ := x
 exact whole_core (fun v hv => wf_u8.1 (h.2.1.2 v hv)) (rok_of h.1)
end Go.Proofs.YtddeejpffdccpaaGreat.E
