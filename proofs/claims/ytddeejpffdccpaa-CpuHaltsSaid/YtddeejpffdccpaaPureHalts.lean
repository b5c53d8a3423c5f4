/- Functions of the program as plain Lean, and what they come to. Conditions: none. -/
import Derived.Test.YtddeejpffdccpaaEwD
import Derived.Test.YtddeejpffdccpaaPureK
import Derived.Test.YtddeejpffdccpaaWalkHalts
open Go Go.Ew
namespace Go.Proofs.Ytddeejpffdccpaa.E
set_option linter.unusedVariables false
set_option linter.unusedSimpArgs false
set_option maxRecDepth 100000
theorem begun_spec (r : R10) : law22_begun.F (r, ()) = some ((begunS r).c, ()) := rfl
def dS (r : R10) (ime : Bool) : St := { begunS r with ime := ime }
def hS (r : R10) (ime : Bool) : St := { oneS (dS r ime) 118 with mode := 1 }
def bS (r : R10) (ime : Bool) : St := { oneS (dS r ime) 118 with bug := true }
theorem d_ok {r : R10} (h : rok r) (ime : Bool) : sok (dS r ime) := ⟨(begun_ok h).r, (begun_ok h).op, byte0, byte0, byte0⟩
theorem h_ok {r : R10} (h : rok r) (ime : Bool) : sok (hS r ime) := by
  have := one_ok (d_ok h ime) (d := 118) ⟨by decide, by decide⟩
  exact ⟨this.r, this.op, this.step, this.lo, this.hi⟩
theorem b_ok {r : R10} (h : rok r) (ime : Bool) : sok (bS r ime) := by
  have := one_ok (d_ok h ime) (d := 118) ⟨by decide, by decide⟩
  exact ⟨this.r, this.op, this.step, this.lo, this.hi⟩
theorem want_begun {r : R10} (hr : rok r) : cpu_Want.F ((begunS r).c, 0, ()) = some ((begunS r).c, (1, pcR r, 0), -1, ()) := by
  have k1 := begun_ok hr
  have w1 := want_spec k1 (p := 0) byte0
  have e1 : begS (begunS r) ((0 : Int) % 32) = (begunS r, (1, pcR r, 0)) := by
    unfold begS
    rw [if_neg (fun z => by have := z.1; exact absurd (show false = true from this) (by decide))]
    rfl
  rw [want0 rfl rfl, e1] at w1
  exact w1
theorem done_d {r : R10} (hr : rok r) (ime : Bool) {p : Int} (hp : byte p) : cpu_Done.F ((dS r ime).c, 118, p, ()) = some ((if ime = false ∧ p % 32 ≠ 0 then bS r ime else hS r ime).c, ()) := by
  have d1 := done_spec (d_ok hr ime) (d := 118) ⟨by decide, by decide⟩ hp
  rw [done0 rfl rfl (by decide) (f := T.formS 118 false) rfl (by intro t; rfl)] at d1
  rw [d1]
  have : endS (oneS (dS r ime) 118) (T.formS 118 false).1 (T.formS 118 false).2.1.toNat (T.formS 118 false).2.2.1.toNat (p % 32) = if ime = false ∧ p % 32 ≠ 0 then bS r ime else hS r ime := by
    rfl
  rw [this]
theorem want_h0 {r : R10} (hr : rok r) (ime : Bool) {p : Int} (hp : byte p) (h0 : p % 32 = 0) : cpu_Want.F ((hS r ime).c, p, ()) = some ((hS r ime).c, (0, 0, 0), -1, ()) := by
  have w := want_spec (h_ok hr ime) hp
  rw [w]
  have : wantS (hS r ime) (p % 32) = (hS r ime, (0, 0, 0), -1) := by
    unfold wantS
    rw [if_pos (by show _; right; right; exact ⟨rfl, h0⟩)]
  rw [this]
theorem busy_h (r : R10) (ime : Bool) : busyS (hS r ime) = false := rfl
theorem want_h1 {r : R10} (hr : rok r) (ime : Bool) {p : Int} (hp : byte p) (h0 : p % 32 ≠ 0) : cpu_Want.F ((hS r ime).c, p, ()) = some ((begS (hS r ime) (p % 32)).1.c, (begS (hS r ime) (p % 32)).2, -1, ()) := by
  have w := want_spec (h_ok hr ime) hp
  rw [w]
  have : wantS (hS r ime) (p % 32) = ((begS (hS r ime) (p % 32)).1, (begS (hS r ime) (p % 32)).2, -1) := by
    unfold wantS
    rw [if_neg (by
      have a : (hS r ime).mode = 1 := rfl
      rw [a]; omega), if_pos (busy_h r ime)]
  rw [this]
theorem done_h {r : R10} (hr : rok r) (ime : Bool) {d p : Int} (hd : byte d) (hp : byte p) : cpu_Done.F ((hS r ime).c, d, p, ()) = some ((hS r ime).c, ()) := by
  rw [done_spec (h_ok hr ime) hd hp]
  rfl
abbrev HL := (Bool × Int × Int × Unit × Bool × Unit × Unit × Int × Unit × Int × Unit) × ((Int × Int × Int × Int × Int × Int × Int × Int × Int × Int × Unit) × CB × CB × CB × Unit) × Unit
def rbS (r : R10) : Int × Int × Int × Int × Int × Int × Int × Int × Int × Int × Unit := (r.1, r.2.1, r.2.2.1, r.2.2.2.1, r.2.2.2.2.1, r.2.2.2.2.2.1, r.2.2.2.2.2.2.1, r.2.2.2.2.2.2.2.1, r.2.2.2.2.2.2.2.2.1, r.2.2.2.2.2.2.2.2.2, ())
theorem halts_loop {r : R10} (hr : rok r) (ime : Bool) {n p : Int} (hn : byte n) (up : Bool) (q : Int) (bug : St) :
    law22_CpuHalts.L0.F ((ime, n, p, (), up, (), (), q, (), (0 : Int), ()), (rbS r, (hS r ime).b, (dS r ime).b, bug.b, ()), ()) = some (.inr ((ime, p, (), up, (), (), q, (), ()), (rbS r, (hS r ime).b, (dS r ime).b, bug.b, ()), ())) := by
  have n0 := hn.1
  have n1 := hn.2
  have tm : Int.tmod n 50 = n % 50 := tmodN n0
  let st : Nat → HL := fun i => ((ime, n, p, (), up, (), (), q, (), (i : Int), ()), (rbS r, (hS r ime).b, (dS r ime).b, bug.b, ()), ())
  refine iterU_range st _ (n % 50).toNat ?_ ?_ 0 (by omega)
  · intro i hi
    show law22_CpuHalts.L0.step cpu_Want.F cpu_Done.F ime n p up q (i : Int) _ _ _ _ _ _ _ _ _ _ _ _ _ _ _ _ _ _ _ _ _ _ _ _ _ _ _ _ _ _ _ _ _ _ _ _ _ _ _ _ _ _ _ _ _ _ _ _ _ _ _ _ _ _ _ _ _ _ _ _ _ _ _ _ _ _ _ = _
    unfold law22_CpuHalts.L0.step
    refine (if_pos (by rw [tm]; exact decide_eq_true (by omega))).trans ?_
    refine (bind_eq (want_h0 hr ime (p := 0) byte0 rfl)).trans ?_
    refine (if_pos rfl).trans ?_
    refine (if_neg (by simp [St.c, St.b, st])).trans ?_
    refine (bind_eq (done_h hr ime (d := 7) (p := 0) ⟨by decide, by decide⟩ byte0)).trans ?_
    have : IntKind.wrap .u8 ((i : Int) + 1) = ((i + 1 : Nat) : Int) := by rw [w8 (by omega)]; omega
    show some (Sum.inl ((ime, n, p, (), up, (), (), q, (), IntKind.wrap .u8 ((i : Int) + 1), ()), _, ())) = _
    rw [this]
    rfl
  · show law22_CpuHalts.L0.step cpu_Want.F cpu_Done.F ime n p up q (((n % 50).toNat : Nat) : Int) _ _ _ _ _ _ _ _ _ _ _ _ _ _ _ _ _ _ _ _ _ _ _ _ _ _ _ _ _ _ _ _ _ _ _ _ _ _ _ _ _ _ _ _ _ _ _ _ _ _ _ _ _ _ _ _ _ _ _ _ _ _ _ _ _ _ _ = _
    unfold law22_CpuHalts.L0.step
    exact if_neg (by rw [tm, decide_eq_true_eq]; omega)
theorem beg_t {r : R10} {q : Int} (h : q ≠ 0) : begS (hS r true) q = ({ hS r true with mode := 4, step := 0 }, (0, 0, 0)) := by
  unfold begS
  rw [if_pos ⟨rfl, h⟩]
theorem beg_f {r : R10} {q : Int} : begS (hS r false) q = ({ hS r false with mode := 0, step := 0 }, (1, pcR (hS r false).r, 0)) := by
  unfold begS
  rw [if_neg (fun z => by have := z.1; exact absurd (show false = true from this) (by decide))]
  rfl
theorem want_b {r : R10} (hr : rok r) : cpu_Want.F ((bS r false).c, 0, ()) = some ((bS r false).c, (1, pcR (bS r false).r, 0), -1, ()) := by
  have k1 := b_ok hr false
  have w1 := want_spec k1 (p := 0) byte0
  have e1 : begS (bS r false) ((0 : Int) % 32) = (bS r false, (1, pcR (bS r false).r, 0)) := by
    unfold begS
    rw [if_neg (fun z => by have := z.1; exact absurd (show false = true from this) (by decide))]
    rfl
  rw [want0 rfl rfl, e1] at w1
  exact w1
theorem done_b {r : R10} (hr : rok r) : cpu_Done.F ((bS r false).c, 0, 0, ()) = some ((oneS (bS r false) 0).c, ()) := by
  rw [done_spec (b_ok hr false) byte0 byte0, done0 rfl rfl (by decide) (f := T.formS 0 false) rfl (by intro t; rfl)]
  rfl
theorem mod3232 (p : Int) : p % 32 % 32 = p % 32 := by omega
theorem halts_core {r : R10} (hr : rok r) (ime : Bool) {n p : Int} (hn : byte n) (hp : byte p) : law22_CpuHalts.G cpu_Want.F cpu_Done.F law22_shown.F law22_begun.F law22_CpuHalts.L0.F r ime n p = some (true, ()) := by
  have tp : Int.tmod p 32 = p % 32 := tmodN hp.1
  unfold law22_CpuHalts.G
  refine (bind_eq (show law22_shown.F () = some (true, ()) from rfl)).trans ?_
  refine (bind_eq (begun_spec r)).trans ?_
  refine (bind_eq (want_begun hr)).trans ?_
  rw [tp]
  refine (bind_eq (done_d hr ime (p := p % 32) mod32_ok)).trans ?_
  refine (bind_eq (done_d hr ime (p := 0) byte0)).trans ?_
  rw [if_neg (show ¬ (ime = false ∧ (0 : Int) % 32 ≠ 0) by simp), mod3232]
  refine (bind_eq (halts_loop hr ime hn true (p % 32) _)).trans ?_
  dsimp only [Sum.elim_inr]
  refine (if_pos rfl).trans ?_
  refine (if_neg (by show ¬ (((pcR r + 1) % 65536) != IntKind.wrap .u16 (pcR r + 1)) = true; rw [u16m]; simp)).trans ?_
  by_cases h0 : p % 32 = 0
  · refine (bind_eq (want_h0 hr ime hp h0)).trans ?_
    rw [if_neg (show ¬ (ime = false ∧ p % 32 ≠ 0) by simp [h0])]
    refine (if_neg (by simp [St.c, St.b, hS, bS, *])).trans ?_
    refine (if_neg (by simp [St.c, St.b, hS, bS, *])).trans ?_
    refine (if_pos (by simp [St.c, St.b, hS, bS, *])).trans ?_
    refine (if_neg (by simp [St.c, St.b, hS, bS, *])).trans ?_
    refine (if_neg (by simp [St.c, St.b, hS, bS, *])).trans ?_
    refine (if_pos (by simp [St.c, St.b, hS, bS, *])).trans ?_
    refine (bind_eq (done_d hr ime (p := 0) byte0)).trans ?_
    rw [if_neg (show ¬ (ime = false ∧ (0 : Int) % 32 ≠ 0) by simp)]
    simp [St.c, St.b]
  · refine (bind_eq (want_h1 hr ime hp h0)).trans ?_
    cases ime
    · rw [beg_f, if_pos (show false = false ∧ p % 32 ≠ 0 from ⟨rfl, h0⟩)]
      refine (if_pos (by simp [St.c, St.b, hS, bS, *])).trans ?_
      refine (if_neg (by simp [St.c, St.b, hS, bS, *])).trans ?_
      refine (if_pos (by simp [St.c, St.b, hS, bS, *])).trans ?_
      refine (if_pos (by simp [St.c, St.b, hS, bS, *])).trans ?_
      refine (if_pos (by simp [St.c, St.b, hS, bS, *])).trans ?_
      refine (if_neg (by simp [St.c, St.b, hS, bS, *])).trans ?_
      refine (if_pos (by simp [St.c, St.b, hS, bS, *])).trans ?_
      refine (if_neg (by simp [St.c, St.b, hS, bS, *])).trans ?_
      refine (bind_eq (want_b hr)).trans ?_
      refine (bind_eq (done_b hr)).trans ?_
      refine (if_pos (by simp [St.c, St.b, hS, bS, *])).trans ?_
      refine (if_pos rfl).trans ?_
      refine (if_pos (by show (((1 : Int) == 1 && (((pcR r + 1) % 65536) == IntKind.wrap .u16 (pcR r + 1) && ((0 : Int) == 0 && true))) == true) = true; rw [u16m]; simp)).trans ?_
      refine (if_pos (by show ((((pcR r + 1) % 65536) == IntKind.wrap .u16 (pcR r + 1)) == true) = true; rw [u16m]; simp)).trans ?_
      rfl
    · rw [beg_t h0, if_neg (show ¬ (true = false ∧ p % 32 ≠ 0) by simp)]
      refine (if_pos (by simp [St.c, St.b, hS, bS, *])).trans ?_
      refine (if_pos (by simp [St.c, St.b, hS, bS, *])).trans ?_
      refine (if_pos (by simp [St.c, St.b, hS, bS, *])).trans ?_
      refine (if_pos (by simp [St.c, St.b, hS, bS, *])).trans ?_
      refine (if_pos (by simp [St.c, St.b, hS, bS, *])).trans ?_
      refine (if_neg (by simp [St.c, St.b, hS, bS, *])).trans ?_
      refine (if_neg (by simp [St.c, St.b, hS, bS, *])).trans ?_
      refine (if_pos (by simp [St.c, St.b, hS, bS, *])).trans ?_
      refine (if_pos (by simp [St.c, St.b, hS, bS, *])).trans ?_
      refine (if_pos (by simp [St.c, St.b, hS, bS, *])).trans ?_
      refine (bind_eq (done_d hr true (p := 0) byte0)).trans ?_
      rw [if_neg (show ¬ (true = false ∧ (0 : Int) % 32 ≠ 0) by simp)]
      simp [St.c, St.b]
theorem cpuHalts_walk : LawOK Go.Proofs.Try.prog 4 law22_CpuHalts.as := .of law22_CpuHalts.ok fun x h => by
  obtain ⟨r, ime, n, p, u⟩ := x
  exact halts_core (rok_of h.1) ime (wf_u8.1 h.2.2.1) (wf_u8.1 h.2.2.2.1)
end Go.Proofs.Ytddeejpffdccpaa.E
