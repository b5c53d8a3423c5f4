/- Functions of the program as plain Lean, and what they come to. Conditions: none. -/
import Derived.Test.YtmhkjafcfpgikaaGreatEwD
import Derived.Test.YtmhkjafcfpgikaaGreatPureK
open Go Go.Ew
namespace Go.Proofs.YtmhkjafcfpgikaaGreat.E
set_option linter.unusedVariables false
set_option linter.unusedSimpArgs false
set_option maxRecDepth 100000
/-! an instruction, cycle by cycle, nothing pending -/
def fl0 (s : St) : Prop := s.r.2.1 % 16 = 0
theorem fls0 (f : FL) : flS f % 16 = 0 := by
  obtain ⟨a, b, c, d⟩ := f
  revert a b c d; decide
theorem putR_f (r : R10) (n : Nat) (v : Int) : (putR r n v).2.1 = r.2.1 := by
  unfold putR; split <;> rfl
theorem putP_f0 {r : R10} (n : Nat) (w : Int) (h : r.2.1 % 16 = 0) : (putP r n w).2.1 % 16 = 0 := by
  unfold putP
  split
  · exact h
  · exact h
  · exact h
  · exact h
  · show (w % 256 / 16 * 16) % 16 = 0
    omega
theorem putx_f (s : St) (n v : Int) : (putx s n v).r.2.1 = s.r.2.1 := by
  unfold putx; split
  · rfl
  · exact putR_f _ _ _
theorem ite_pred {α : Type} {Q : α → Prop} {c : Prop} [Decidable c] {a b : α} (h1 : Q a) (h2 : Q b) : Q (if c then a else b) := by split <;> assumption
theorem fl_with (s : St) (r : R10) (f : FL) : fl0 { s with r := withF r f } := fls0 f
theorem end_fl {s : St} (h : fl0 s) (k : Int) (x y : Nat) (p : Int) : fl0 (endS s k x y p) := by
  unfold endS
  repeat' apply ite_pred
  all_goals first
    | exact h
    | exact fl_with _ _ _
    | exact putP_f0 _ _ h
    | (show (putx _ _ _).r.2.1 % 16 = 0; rw [putx_f]; exact h)
    | (show (putR _ _ _).2.1 % 16 = 0; rw [putR_f]; exact h)
theorem putx_step (s : St) (n v : Int) : (putx s n v).step = s.step := by
  unfold putx; split <;> rfl
theorem end_step (s : St) (k : Int) (x y : Nat) (p : Int) : (endS s k x y p).step = s.step := by
  unfold endS
  repeat' apply ite_pred (Q := fun t : St => t.step = s.step)
  all_goals first
    | rfl
    | exact putx_step _ _ _
    | (show (putx _ _ _).step = _; exact putx_step _ _ _)
theorem busy_end (s : St) (p : Int) : busyS (endOf s p) = false := busy0 (by unfold endOf; rw [end_step]; rfl)
/-- behind a cycle: the instruction goes on, or ends -/
theorem tail_eq {t : St} (hm : t.mode = 0) (h1 : 1 ≤ t.step) : (t.step < lenS t ∧ tailS t 0 = t ∧ busyS t = true) ∨ (lenS t ≤ t.step ∧ tailS t 0 = endOf t 0 ∧ busyS (tailS t 0) = false) := by
  unfold tailS
  rw [cyc_len h1]
  by_cases g : t.step < lenS t
  · left
    refine ⟨g, if_pos (decide_eq_true g), ?_⟩
    unfold busyS
    rw [if_neg (by unfold waitS; rw [decide_eq_true_eq]; omega), if_neg (by omega), if_neg (by omega)]
    exact decide_eq_true g
  · right
    rw [if_neg (by rw [decide_eq_true_eq]; exact g)]
    exact ⟨by omega, rfl, busy_end _ _⟩
/-! numbers stay bytes and words -/
theorem put_ok' {s : St} (h : sok s) (n : Int) {v : Int} (hv : byte v) : sok (putx s n v) := by
  unfold putx; split
  · exact h
  · exact ⟨putR_ok h.r _ hv, h.op, h.step, h.lo, h.hi⟩
theorem r_ok {s : St} (h : sok s) {r : R10} (hr : rok r) : sok { s with r := r } := ⟨hr, h.op, h.step, h.lo, h.hi⟩
theorem mod8 (x : Int) : byte (x % 256) := ⟨by omega, by omega⟩
theorem do_ok {a v : Int} (ha : byte a) (hv : byte v) (op : Nat) (f : FL) : byte (doS op a v f).1 := by
  unfold doS
  repeat' apply ite_pred (Q := fun z : Int × FL => byte z.1)
  · exact mod8 _
  · exact mod8 _
  · exact mod8 _
  · exact mod8 _
  · exact ha
  · exact eachS_byte ha hv
theorem daa_ok (a : Int) (f : FL) : byte (daaS a f).1 := by
  unfold daaS
  split <;> exact mod8 _
theorem cpl_ok {a : Int} (h : byte a) : byte (255 - a) := ⟨by have := h.2; omega, by have := h.1; omega⟩
theorem alt_ok {s : St} (h : sok s) {x : Nat} (hx : x < 8) (k : Int) (y : Nat) : byte (altS s k x y).1 := by
  unfold altS
  repeat' apply ite_pred (Q := fun z : Int × FL => byte z.1)
  · exact mod8 _
  · exact mod8 _
  · exact shV_byte hx (opnd_ok h _) _
  · exact (putS_byte (opnd_ok h _) x hx _).1
  · exact (putS_byte (opnd_ok h _) x hx _).1
theorem end_ok {s : St} (h : sok s) {x : Nat} (hx : x < 8) (k : Int) (y : Nat) (p : Int) : sok (endS s k x y p) := by
  have hsp : word (spR s.r) := h.r.sp
  unfold endS
  refine ite_pred (Q := sok) (⟨h.r, h.op, h.step, h.lo, h.hi⟩) ?_
  refine ite_pred (Q := sok) (ite_pred (Q := sok) (⟨h.r, h.op, h.step, h.lo, h.hi⟩) (⟨h.r, h.op, h.step, h.lo, h.hi⟩)) ?_
  refine ite_pred (Q := sok) (⟨h.r, h.op, h.step, h.lo, h.hi⟩) ?_
  refine ite_pred (Q := sok) (⟨h.r, h.op, h.step, h.lo, h.hi⟩) ?_
  refine ite_pred (Q := sok) (⟨h.r, h.op, h.step, h.lo, h.hi⟩) ?_
  refine ite_pred (Q := sok) (put_ok' h _ (opnd_ok h _)) ?_
  refine ite_pred (Q := sok) (put_ok' h _ h.lo) ?_
  refine ite_pred (Q := sok) (r_ok h (setA_ok h.r h.lo)) ?_
  refine ite_pred (Q := sok) (r_ok h (setA_ok h.r h.lo)) ?_
  refine ite_pred (Q := sok) (r_ok h (setA_ok h.r h.lo)) ?_
  refine ite_pred (Q := sok) (r_ok h (setA_ok h.r h.lo)) ?_
  refine ite_pred (Q := sok) (r_ok h (putP_ok h.r _ (far_ok h))) ?_
  refine ite_pred (Q := sok) (r_ok h (setSP_ok h.r (pairx_ok h _))) ?_
  refine ite_pred (Q := sok) (r_ok h (withF_ok (putP_ok h.r _ (word_mod _)) _)) ?_
  refine ite_pred (Q := sok) (r_ok h (putP_ok h.r _ (far_ok h))) ?_
  refine ite_pred (Q := sok) (r_ok h (withF_ok (setA_ok h.r (do_ok h.r.a (opnd_ok h _) _ _)) _)) ?_
  refine ite_pred (Q := sok) (r_ok h (withF_ok (setA_ok h.r (do_ok h.r.a h.lo _ _)) _)) ?_
  refine ite_pred (Q := sok) ((fun t : sok (putx s x (altS s 25 x y).1) => r_ok t (withF_ok t.r _)) (put_ok' h _ (alt_ok h hx _ _))) ?_
  refine ite_pred (Q := sok) ((fun t : sok (putx s x (altS s 26 x y).1) => r_ok t (withF_ok t.r _)) (put_ok' h _ (alt_ok h hx _ _))) ?_
  refine ite_pred (Q := sok) (r_ok h (putP_ok h.r _ (word_mod _))) ?_
  refine ite_pred (Q := sok) (r_ok h (putP_ok h.r _ (word_mod _))) ?_
  refine ite_pred (Q := sok) (r_ok h (withF_ok (putP_ok h.r _ (word_mod _)) _)) ?_
  refine ite_pred (Q := sok) (r_ok h (withF_ok (setSP_ok h.r (word_mod _)) _)) ?_
  refine ite_pred (Q := sok) (r_ok h (withF_ok (setA_ok h.r (shV_byte hx h.r.a _)) _)) ?_
  refine ite_pred (Q := sok) (r_ok h (withF_ok (setA_ok h.r (daa_ok _ _)) _)) ?_
  refine ite_pred (Q := sok) (r_ok h (withF_ok (setA_ok h.r (cpl_ok h.r.a)) _)) ?_
  refine ite_pred (Q := sok) (r_ok h (withF_ok h.r _)) ?_
  refine ite_pred (Q := sok) (r_ok h (withF_ok h.r _)) ?_
  refine ite_pred (Q := sok) (ite_pred (Q := sok) (r_ok h (setPC_ok h.r (word_mod _))) (h)) ?_
  refine ite_pred (Q := sok) (ite_pred (Q := sok) (r_ok h (setPC_ok h.r (far_ok h))) (h)) ?_
  refine ite_pred (Q := sok) (r_ok h (setPC_ok h.r (pairx_ok h _))) ?_
  refine ite_pred (Q := sok) (ite_pred (Q := sok) (r_ok h (setPC_ok h.r (far_ok h))) (h)) ?_
  refine ite_pred (Q := sok) (ite_pred (Q := sok) (r_ok h (setPC_ok h.r (far_ok h))) (h)) ?_
  refine ite_pred (Q := sok) (⟨setPC_ok h.r (far_ok h), h.op, h.step, h.lo, h.hi⟩) ?_
  refine ite_pred (Q := sok) (r_ok h (setPC_ok h.r (word_mod _))) ?_
  refine ite_pred (Q := sok) ((fun t : sok (putx s y (altS s 43 x y).1) => r_ok t (withF_ok t.r _)) (put_ok' h _ (alt_ok h hx _ _))) ?_
  refine ite_pred (Q := sok) (r_ok h (withF_ok h.r _)) ?_
  refine ite_pred (Q := sok) (put_ok' h _ (alt_ok h hx _ _)) ?_
  refine ite_pred (Q := sok) (put_ok' h _ (alt_ok h hx _ _)) ?_
  exact h
theorem tail_ok {t : St} (h : sok t) (p : Int) : sok (tailS t p) := by
  unfold tailS
  split
  · exact h
  · have fk := fok_of h
    exact end_ok (s := t.z) ⟨h.r, h.op, byte0, h.lo, h.hi⟩ (by have := fk.x1; omega) _ _ _
theorem wrap8_byte (x : Int) : byte (IntKind.wrap .u8 x) := by show byte (x % 256); exact mod8 _
theorem cal_ok {s : St} (h : sok s) : sok (calS s) := by
  have l0 := h.lo.1
  have l1 := h.lo.2
  unfold calS
  split
  · exact ⟨h.r, h.op, ⟨by show (0 : Int) ≤ 2; decide, by show (2 : Int) ≤ 255; decide⟩, h.lo, h.hi⟩
  split
  · exact ⟨setSP_ok h.r (word_mod _), h.op, wrap8_byte _, h.lo, h.hi⟩
  split
  · refine ⟨setPC_ok h.r ?_, h.op, byte0, h.lo, h.hi⟩
    split
    · exact ⟨by omega, by omega⟩
    · exact ⟨by decide, by decide⟩
  · exact ⟨h.r, h.op, ⟨by show (0 : Int) ≤ 1; decide, by show (1 : Int) ≤ 255; decide⟩, h.lo, h.hi⟩
theorem done_ok {s : St} (h : sok s) {d : Int} (hd : byte d) (p : Int) : sok (doneS s d p) := by
  unfold doneS
  split
  · exact h
  split
  · exact cal_ok h
  · apply tail_ok
    apply m0_ok
    unfold nextS
    split
    · exact fet_ok h hd
    split
    · exact scd_ok h hd
    · exact mov_ok h _ hd
/-- what stays, cycle by cycle -/
structure Same (s t : St) : Prop where
  op : t.op = s.op
  cb : t.cb = s.cb
  fl : t.r.2.1 = s.r.2.1
theorem hold_f {r r' : R10} (h : r.2.1 = r'.2.1) (n : Int) : holdS r n = holdS r' n := by unfold holdS; rw [h]
theorem Same.len {s t : St} (h : Same s t) : lenS t = lenS s := by
  have hf : t.f = s.f := by unfold St.f; rw [h.op, h.cb]
  have hp : t.pl = s.pl := by unfold St.pl; rw [hf, hold_f h.fl]
  unfold lenS; rw [h.op, h.cb, hp]
theorem plR_f (s : St) (k : Int) : (plR s k).2.1 = s.r.2.1 := by
  unfold plR
  repeat' apply ite_pred (Q := fun r : R10 => r.2.1 = s.r.2.1)
  all_goals rfl
theorem go_s (s : St) : (goS s).1 = s := by
  unfold goS
  repeat' apply ite_pred (Q := fun z : St × A3 × Int => z.1 = s)
  all_goals rfl
theorem want_go {s : St} (hm : s.mode = 0) (hb : busyS s = true) (p : Int) : wantS s p = goS s := by
  unfold wantS
  rw [if_neg (by omega), if_neg (by rw [hb]; decide), if_neg (by omega)]
theorem done_go {s : St} (hm : s.mode = 0) (hb : busyS s = true) (q : ¬ (s.step = 1 ∧ (s.op = 203 ∨ s.cb = true))) (d : Int) : doneS s d 0 = tailS (movS s (cycS s).1 d).m0 0 := by
  unfold doneS nextS
  rw [if_neg (by unfold waitS; rw [decide_eq_true_eq]; omega), if_neg (by omega), if_neg (by rw [hb]; decide), if_neg q]
  rfl
theorem done_second {s : St} (hm : s.mode = 0) (hb : busyS s = true) (q : s.step = 1 ∧ (s.op = 203 ∨ s.cb = true)) (d : Int) : doneS s d 0 = tailS (scdS s d).m0 0 := by
  unfold doneS nextS
  rw [if_neg (by unfold waitS; rw [decide_eq_true_eq]; omega), if_neg (by omega), if_neg (by rw [hb]; decide), if_pos q]
  rfl
theorem done_first {s : St} (hm : s.mode = 0) (e : s.step = 0) (d : Int) : doneS s d 0 = tailS (fetS s d).m0 0 := by
  unfold doneS nextS
  rw [if_neg (by unfold waitS; rw [decide_eq_true_eq]; omega), if_neg (by omega), if_pos (busy0 e)]
  rfl
/-- how many cycles: by the opcode, the one behind the prefix, and the registers -/
def plenS (op : Int) (cb : Bool) (r : R10) : Int := (T.planS (T.formS op cb).1 (T.formS op cb).2.1 (T.formS op cb).2.2.1 (holdS r (T.formS op cb).2.1)).length
def totS (r : R10) (o1 o2 : Int) : Int := if o1 = 203 then 2 + plenS o2 true r else 1 + plenS o1 false r
/-- where an instruction from s0 stands behind n cycles, k bytes read -/
structure At (s0 : St) (o1 o2 : Int) (n k : Int) (s : St) : Prop where
  ok : sok s
  mode : s.mode = 0
  fl : s.r.2.1 = s0.r.2.1
  here : (n = 0 ∧ k = 0 ∧ s = s0) ∨ (n = 1 ∧ k = 1 ∧ o1 = 203 ∧ s.step = 1 ∧ s.op = 203 ∧ s.cb = false ∧ busyS s = true) ∨ (1 ≤ n ∧ s.step = n ∧ busyS s = true ∧ (o1 = 203 → s.op = o2 ∧ s.cb = true ∧ 2 ≤ n) ∧ (o1 ≠ 203 → s.op = o1 ∧ s.cb = false))
theorem len_tot {s0 s : St} {o1 o2 : Int} (hf : s.r.2.1 = s0.r.2.1) (h1 : o1 = 203 → s.op = o2 ∧ s.cb = true) (h2 : o1 ≠ 203 → s.op = o1 ∧ s.cb = false) : lenS s = totS s0.r o1 o2 := by
  unfold lenS totS plenS
  by_cases e : o1 = 203
  · obtain ⟨a, b⟩ := h1 e
    rw [if_pos e, if_neg (by rw [b]; simp), if_pos b]
    unfold St.pl St.f
    rw [a, b, hold_f hf]
  · obtain ⟨a, b⟩ := h2 e
    rw [if_neg e, if_neg (by rw [a]; exact fun z => e z.1), if_neg (by rw [b]; decide)]
    unfold St.pl St.f
    rw [a, b, hold_f hf]
theorem tail_at {s0 t : St} {o1 o2 n k : Int} (hk : sok t) (hm : t.mode = 0) (hf : t.r.2.1 = s0.r.2.1) (h0 : fl0 s0) (hn : 1 ≤ n) (hs : t.step = n)
    (h1 : o1 = 203 → t.op = o2 ∧ t.cb = true ∧ 2 ≤ n) (h2 : o1 ≠ 203 → t.op = o1 ∧ t.cb = false) :
    (busyS (tailS t 0) = true ∧ At s0 o1 o2 n k (tailS t 0)) ∨ (busyS (tailS t 0) = false ∧ totS s0.r o1 o2 ≤ n ∧ fl0 (tailS t 0)) := by
  have hl := len_tot hf (fun e => ⟨(h1 e).1, (h1 e).2.1⟩) h2
  rcases tail_eq hm (by omega) with ⟨g, e, b⟩ | ⟨g, e, b⟩
  · left
    rw [e]
    exact ⟨b, hk, hm, hf, .inr (.inr ⟨hn, hs, b, h1, h2⟩)⟩
  · right
    refine ⟨b, by omega, ?_⟩
    rw [e]
    exact end_fl (s := t.z) (by show t.r.2.1 % 16 = 0; rw [hf]; exact h0) _ _ _ _
theorem begun_want {s0 : St} (hm : s0.mode = 0) (hs : s0.step = 0) (hi : s0.ime = false) (ha : s0.arm = false) : wantS s0 0 = (s0, (1, pcR s0.r, 0), -1) := by
  rw [want0 hm hs]
  unfold begS
  rw [if_neg (by simp)]
  cases s0; simp_all
/-- a cycle: what it asks for; what it comes to, whatever is read -/
theorem round {s0 s : St} {o1 o2 n k : Int} (h0 : fl0 s0) (hi : s0.ime = false) (ha : s0.arm = false) (hz : s0.step = 0) (hn : n < 200) (ho1 : byte o1) (h : At s0 o1 o2 n k s) :
    (wantS s 0).1 = s ∧ ∀ v, byte v → (n = 0 → v = o1) → (n = 1 ∧ o1 = 203 → v = o2) →
    ((n = 0 ∨ n = 1 ∧ o1 = 203) → (wantS s 0).2.1.1 = 1 ∧ k = n) ∧ ∀ k', (n = 0 → k' = 1) →
    (busyS (doneS s v 0) = true ∧ At s0 o1 o2 (n + 1) k' (doneS s v 0)) ∨ (busyS (doneS s v 0) = false ∧ n + 1 = totS s0.r o1 o2 ∧ fl0 (doneS s v 0)) := by
  have t1 : 1 ≤ totS s0.r o1 o2 := by
    unfold totS plenS
    split <;> omega
  rcases h.here with ⟨rfl, rfl, rfl⟩ | ⟨rfl, rfl, e1, st, so, sc, b⟩ | ⟨n1, st, b, p1, p2⟩
  · have hw := begun_want h.mode hz hi ha
    refine ⟨by rw [hw], fun v hv v0 _ => ⟨fun _ => ⟨by rw [hw], rfl⟩, fun k' hk' => ?_⟩⟩
    have e0 := v0 rfl
    subst e0
    rw [done_first h.mode hz]
    have kt := m0_ok (fet_ok h.ok hv)
    have ft : (fetS s v).m0.r.2.1 = s.r.2.1 := by
      show (if s.bug = true then s.r else setPC s.r _).2.1 = _
      split <;> rfl
    by_cases e : v = 203
    · subst e
      rcases tail_eq (t := (fetS s 203).m0) rfl (by show (1 : Int) ≤ 1; decide) with ⟨g, e, b⟩ | ⟨g, e, b⟩
      · left
        rw [e]
        exact ⟨b, kt, rfl, ft, .inr (.inl ⟨rfl, hk' rfl, rfl, rfl, rfl, rfl, b⟩)⟩
      · exfalso
        have : lenS (fetS s 203).m0 = 2 := rfl
        have e2 : (fetS s 203).m0.step = 1 := rfl
        omega
    · rcases tail_at (t := (fetS s v).m0) (o1 := v) (o2 := o2) (n := 1) (k := k') kt rfl ft h0 (by decide) rfl (fun z => absurd z e) (fun _ => ⟨rfl, rfl⟩) with g | ⟨g1, g2, g3⟩
      · exact .inl g
      · exact .inr ⟨g1, by omega, g3⟩
  · have hw := want_go h.mode b 0
    have hg : goS s = (s, (1, pcR s.r, 0), -1) := by
      unfold goS
      rw [if_pos ⟨st, .inl so⟩]
    refine ⟨by rw [hw, hg], fun v hv _ v1 => ⟨fun _ => ⟨by rw [hw, hg], rfl⟩, fun k' hk' => ?_⟩⟩
    have e0 := v1 ⟨rfl, e1⟩
    subst e0
    rw [done_second h.mode b ⟨st, .inl so⟩]
    have kt := m0_ok (scd_ok h.ok hv)
    have t2 : 2 ≤ totS s0.r o1 v := by
      unfold totS plenS
      rw [if_pos e1]
      omega
    rcases tail_at (t := (scdS s v).m0) (o1 := o1) (o2 := v) (n := 2) (k := k') kt rfl h.fl h0 (by decide) rfl (fun _ => ⟨rfl, rfl, by decide⟩) (fun z => absurd e1 z) with g | ⟨g1, g2, g3⟩
    · exact .inl g
    · exact .inr ⟨g1, by omega, g3⟩
  · have hw := want_go h.mode b 0
    have q : ¬ (s.step = 1 ∧ (s.op = 203 ∨ s.cb = true)) := by
      rintro ⟨a, c⟩
      by_cases e : o1 = 203
      · have := (p1 e).2.2; omega
      · obtain ⟨d, f⟩ := p2 e
        rcases c with c | c
        · exact e (d ▸ c)
        · rw [f] at c; exact absurd c (by decide)
    refine ⟨by rw [hw, go_s], fun v hv _ _ => ⟨fun z => ?_, fun k' hk' => ?_⟩⟩
    · exfalso
      rcases z with z | ⟨z, e⟩
      · omega
      · have := (p1 e).2.2; omega
    rw [done_go h.mode b q]
    have kt := m0_ok (mov_ok h.ok (cycS s).1 hv)
    have hl : lenS s = totS s0.r o1 o2 := len_tot h.fl (fun e => ⟨(p1 e).1, (p1 e).2.1⟩) p2
    have hb := (busy_fields b (by have := h.mode; omega)).2
    have ft : (movS s (cycS s).1 v).m0.r.2.1 = s0.r.2.1 := (plR_f s _).trans h.fl
    have hst : (movS s (cycS s).1 v).m0.step = n + 1 := by
      show IntKind.wrap .u8 (s.step + 1) = _
      rw [w8 (by omega), st]
    rcases tail_at (t := (movS s (cycS s).1 v).m0) (o1 := o1) (o2 := o2) (n := n + 1) (k := k') kt rfl ft h0 (by omega) hst (fun e => ⟨(p1 e).1, (p1 e).2.1, by omega⟩) p2 with g | ⟨g1, g2, g3⟩
    · exact .inl g
    · exact .inr ⟨g1, by omega, g3⟩
end Go.Proofs.YtmhkjafcfpgikaaGreat.E
