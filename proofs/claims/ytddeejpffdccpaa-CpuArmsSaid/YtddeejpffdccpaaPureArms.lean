/- Functions of the program as plain Lean, and what they come to. Conditions: none. -/
import Derived.Test.YtddeejpffdccpaaEwD
import Derived.Test.YtddeejpffdccpaaPureK
import Derived.Test.YtddeejpffdccpaaWalkArms
open Go Go.Ew
namespace Go.Proofs.Ytddeejpffdccpaa.E
set_option linter.unusedVariables false
set_option linter.unusedSimpArgs false
set_option maxRecDepth 100000
theorem begun_spec (r : R10) : law22_begun.F (r, ()) = some ((begunS r).c, ()) := rfl
theorem cpuArms_core {r : R10} (hr : rok r) {p : Int} (hp : byte p) (h0 : p % 32 ≠ 0) : ∃ y2 y3 y4 y5 y6 y7 y8 : St, ∃ a2 a6 a8 : A3,
    cpu_Want.F ((begunS r).c, p, ()) = some (y2.c, a2, -1, ()) ∧ cpu_Done.F (y2.c, 251, p, ()) = some (y3.c, ()) ∧ cpu_Want.F (y3.c, p, ()) = some (y4.c, (1, pcR y3.r, 0), -1, ()) ∧ cpu_Done.F (y4.c, 0, p, ()) = some (y5.c, ()) ∧
    cpu_Want.F (y5.c, p, ()) = some (y6.c, (0, 0, 0), -1, ()) ∧ cpu_Done.F (y4.c, 243, p, ()) = some (y7.c, ()) ∧ cpu_Want.F (y7.c, p, ()) = some (y8.c, (1, pcR y7.r, 0), -1, ()) ∧ y3.ime = false ∧ y6.mode = 4 ∧ y8.ime = false ∧ y8.mode = 0 := by
  have k1 := begun_ok hr
  have e1 : begS (begunS r) (p % 32) = (begunS r, (1, pcR r, 0)) := by
    unfold begS
    rw [if_neg (fun z => by have := z.1; exact absurd (show false = true from this) (by decide))]
    rfl
  have w1 := want_spec k1 hp
  rw [want0 rfl rfl, e1] at w1
  have d1 := done_spec k1 (d := 251) ⟨by decide, by decide⟩ hp
  rw [done0 rfl rfl (by decide) (f := T.formS 251 false) rfl (by intro t; rfl)] at d1
  obtain ⟨y3, hy3⟩ : ∃ y3, endS (oneS (begunS r) 251) (T.formS 251 false).1 (T.formS 251 false).2.1.toNat (T.formS 251 false).2.2.1.toNat (p % 32) = y3 := ⟨_, rfl⟩
  have g3 : y3 = { oneS (begunS r) 251 with arm := true } := by rw [← hy3]; rfl
  rw [hy3] at d1
  have k3 : sok y3 := by
    rw [g3]
    have := one_ok k1 (d := 251) ⟨by decide, by decide⟩
    exact ⟨this.r, this.op, this.step, this.lo, this.hi⟩
  have w3 := want_spec k3 hp
  have e3 : begS y3 (p % 32) = ({ y3 with mode := 0, step := 0, ime := true, arm := false }, (1, pcR y3.r, 0)) := by
    unfold begS
    rw [if_neg (fun z => by have := z.1; rw [g3] at this; exact absurd (show false = true from this) (by decide))]
    rw [g3]; rfl
  rw [want0 (by rw [g3]; rfl) (by rw [g3]; rfl), e3] at w3
  obtain ⟨y4, hy4⟩ : ∃ y4 : St, { y3 with mode := 0, step := 0, ime := true, arm := false } = y4 := ⟨_, rfl⟩
  rw [hy4] at w3
  have k4 : sok y4 := by rw [← hy4]; exact ⟨k3.r, k3.op, byte0, k3.lo, k3.hi⟩
  have d5 := done_spec k4 (d := 0) byte0 hp
  rw [done0 (by rw [← hy4]) (by rw [← hy4]) (by decide) (f := T.formS 0 false) rfl (by intro t; rfl)] at d5
  obtain ⟨y5, hy5⟩ : ∃ y5, endS (oneS y4 0) (T.formS 0 false).1 (T.formS 0 false).2.1.toNat (T.formS 0 false).2.2.1.toNat (p % 32) = y5 := ⟨_, rfl⟩
  have g5 : y5 = oneS y4 0 := by rw [← hy5]; rfl
  rw [hy5] at d5
  have k5 : sok y5 := by rw [g5]; exact one_ok k4 byte0
  have w5 := want_spec k5 hp
  have e5 : begS y5 (p % 32) = ({ y5 with mode := 4, step := 0 }, (0, 0, 0)) := by
    unfold begS
    rw [if_pos ⟨by rw [g5]; show y4.ime = true; rw [← hy4], h0⟩]
  rw [want0 (by rw [g5]; rfl) (by rw [g5]; rfl), e5] at w5
  have d7 := done_spec k4 (d := 243) ⟨by decide, by decide⟩ hp
  rw [done0 (by rw [← hy4]) (by rw [← hy4]) (by decide) (f := T.formS 243 false) rfl (by intro t; rfl)] at d7
  obtain ⟨y7, hy7⟩ : ∃ y7, endS (oneS y4 243) (T.formS 243 false).1 (T.formS 243 false).2.1.toNat (T.formS 243 false).2.2.1.toNat (p % 32) = y7 := ⟨_, rfl⟩
  have g7 : y7 = { oneS y4 243 with ime := false, arm := false } := by rw [← hy7]; rfl
  rw [hy7] at d7
  have k7 : sok y7 := by
    rw [g7]
    have := one_ok k4 (d := 243) ⟨by decide, by decide⟩
    exact ⟨this.r, this.op, this.step, this.lo, this.hi⟩
  have w7 := want_spec k7 hp
  have e7 : begS y7 (p % 32) = ({ y7 with mode := 0, step := 0, ime := false, arm := false }, (1, pcR y7.r, 0)) := by
    unfold begS
    rw [if_neg (fun z => by have := z.1; rw [g7] at this; exact absurd (show false = true from this) (by decide))]
    rw [g7]; rfl
  rw [want0 (by rw [g7]; rfl) (by rw [g7]; rfl), e7] at w7
  refine ⟨begunS r, y3, y4, y5, _, y7, _, _, (0, 0, 0), (0, 0, 0), w1, d1, w3, d5, w5, d7, w7, by rw [g3]; rfl, rfl, rfl, rfl⟩
theorem cpuArms_walk : LawOK Go.Proofs.Try.prog 5 law22_CpuArms.as := .of law22_CpuArms.ok fun x h => by
  obtain ⟨r, p, u⟩ := x
  have hr := rok_of h.1
  have hp : byte p := wf_u8.1 h.2.1
  unfold law22_CpuArms.F law22_CpuArms.C law22_CpuArms.G
  dsimp only
  rw [show law22_shown.F () = some (true, ()) from rfl]
  dsimp only [Option.bind_some]
  rw [begun_spec]
  dsimp only [Option.bind_some]
  have t : Int.tmod p 32 = p % 32 := tmodN hp.1
  by_cases q : p % 32 = 0
  · rw [if_pos (by rw [t, q]; rfl)]
    obtain ⟨y2, y3, y4, y5, y6, y7, y8, a2, a6, a8, h2, h3, h4, h5, h6, h7, h8, f1, f2, f3, f4⟩ := cpuArms_core hr (p := 4) ⟨by decide, by decide⟩ (by decide)
    simp only [h2, h3, h4, h5, h6, h7, h8, Option.bind_some]
    simp [St.c, f1, f2, f3, f4]
  · rw [if_neg (by rw [t]; simpa using q)]
    obtain ⟨y2, y3, y4, y5, y6, y7, y8, a2, a6, a8, h2, h3, h4, h5, h6, h7, h8, f1, f2, f3, f4⟩ := cpuArms_core hr hp q
    simp only [h2, h3, h4, h5, h6, h7, h8, Option.bind_some]
    simp [St.c, f1, f2, f3, f4]
end Go.Proofs.Ytddeejpffdccpaa.E
