/- The law OpcodeEncodes of the program is true for every input, and its input reads behind the call as it read before. Conditions: none. -/
import Derived.Test.YtihngfbkkhneeaaRows
import Derived.Test.YtihngfbkkhneeaaOpcodeEncodesW
import Derived.Test.YtihngfbkkhneeaaCells
import Derived.WalkKit
import Derived.ProofKit
import Derived.OpenShut
import Derived.ShutString
import Derived.ChangeOld
import Derived.Below
import Derived.SizedLaws
namespace Go.Proofs.Ytihngfbkkhneeaa.opcodeEncodes
open Go.ChangeShapes Go.WideShapes Go.ChangeAt Go.RowKit
open Go.ChangeMaps (open_string shut_string)
set_option linter.unusedVariables false
theorem own : ownKnob Try.prog.godebug = none := by kernel_rfl
theorem laidOut : laidOutB Try.prog = true := by kernel_rfl
set_option maxRecDepth 100000 in
theorem lifted (os : Os) (started : os.Started) (H : Type) (enc : TypeId × Value → H) :
    ReturnsInHanded {} Try.checked os 9 .any (Rows.opcodeEncodesSpec.pre6 enc Try.prog Try.f9 Rows.opcodeEncodesRow.domain false) (Rows.opcodeEncodesSpec.post enc Try.prog Try.f9 false true false false) := by
  refine returnsInHanded_of_change_sized (C := Try.checked) own started (by kernel_rfl) Try.func9
    (ChangeSpec.witness6 (enc := enc) (C := Try.checked) false ⟨#[], #[.agg #[.int .i64 0, .int .i64 0, .int .i64 0, .int .i64 0, .int .i64 0, .int .i64 0]], []⟩ 8 (by kernel_rfl) (by kernel_rfl) (by kernel_rfl) (by kernel_rfl)) ?_
  intro W base args ds gs before hval0 hW hcnd hsz0 _
  have hsz : (DataW.weightsEach Try.prog (Try.f9.params.toList ++ Rows.opcodeEncodesSpec.plain.varTypes Try.prog) (ds ++ gs)).all (· ≤ reachBytes) = true := hsz0
  have hval : ∀ (j : Nat) t v, Try.f9.params[j]? = some t → args[j]? = some v → Value.okWide Try.prog W .any base t v := hval0
  have hW' := hW
  obtain ⟨p, q, hA0, hV, rfl, hfz, hnd⟩ := hW
  have hA : DataW.TrodAll enc Try.prog W 0 (fun _ => true) true Try.f9.params.toList args.toList ds p := hA0
  rw [Try.params9] at hA hval hsz
  obtain ⟨v0, vs0, d0, ds0, p0, q0, hargs, rfl, rfl, h0, r0⟩ := trodAll_cons hA
  obtain ⟨rfl, rfl, rfl⟩ := trodAll_nil r0
  obtain rfl : args = #[v0] := by cases args; simp_all
  obtain ⟨rfl, rfl⟩ := trodVars_none hV
  have k0 := h0
  have lt0 : ∀ x ∈ p0, x.block < W.heap.size := by obtain ⟨m, hm⟩ := k0; exact DataW.trod_lt m _ _ _ hm
  obtain ⟨cs0, rfl, hz0, hc0⟩ := E.open_cells Try.underlying24 (by kernel_rfl) (by kernel_rfl) (hval 0 24 v0 rfl rfl) h0
  obtain ⟨c0_0, c0_1, c0_2, c0_3, c0_4, c0_5, rfl⟩ := E.arr6 hz0
  obtain ⟨n0_0, y0_0, g0_0⟩ := hc0 0 _ _ rfl rfl
  obtain ⟨a0_0, e0_0, -, w0_0⟩ := DataW.trod_int Try.underlying3 g0_0
  simp only [List.cons.injEq, and_true] at e0_0
  subst e0_0
  obtain ⟨n0_1, y0_1, g0_1⟩ := hc0 1 _ _ rfl rfl
  obtain ⟨a0_1, e0_1, -, w0_1⟩ := DataW.trod_int Try.underlying3 g0_1
  simp only [List.cons.injEq, and_true] at e0_1
  subst e0_1
  obtain ⟨n0_2, y0_2, g0_2⟩ := hc0 2 _ _ rfl rfl
  obtain ⟨a0_2, e0_2, -, w0_2⟩ := DataW.trod_int Try.underlying3 g0_2
  simp only [List.cons.injEq, and_true] at e0_2
  subst e0_2
  obtain ⟨n0_3, y0_3, g0_3⟩ := hc0 3 _ _ rfl rfl
  obtain ⟨a0_3, e0_3, -, w0_3⟩ := DataW.trod_int Try.underlying3 g0_3
  simp only [List.cons.injEq, and_true] at e0_3
  subst e0_3
  obtain ⟨n0_4, y0_4, g0_4⟩ := hc0 4 _ _ rfl rfl
  obtain ⟨a0_4, e0_4, -, w0_4⟩ := DataW.trod_int Try.underlying3 g0_4
  simp only [List.cons.injEq, and_true] at e0_4
  subst e0_4
  obtain ⟨n0_5, y0_5, g0_5⟩ := hc0 5 _ _ rfl rfl
  obtain ⟨a0_5, e0_5, -, w0_5⟩ := DataW.trod_int Try.underlying3 g0_5
  simp only [List.cons.injEq, and_true] at e0_5
  subst e0_5
  clear hA0 hval0 hsz0 hsz
  refine (E.opcodeEncodes_walk a0_0 a0_1 a0_2 a0_3 a0_4 a0_5 W w0_0 w0_1 w0_2 w0_3 w0_4 w0_5).mono fun e W' ⟨he, bel⟩ => ?_
  subst he
  exact ⟨_, rfl, _, _, _, [], _, [], hW', trodAll_mk1 (shut_bool Try.underlying4 _), (trodAll_cons_mk (Below.trod laidOut (by kernel_rfl) (of_decide_eq_true (by kernel_rfl)) k0 bel lt0) trodAll_mk0), rfl, bel.frame _, fun h => by cases h⟩
theorem over : Rows.opcodeEncodesRow.holds Try.pinned (OpenSpec.ofChange Rows.opcodeEncodesSpec) :=
  OpenClaim.holds_of_wide 9 Try.f9 rfl rfl rfl rfl rfl rfl rfl ⟨rfl, rfl, rfl, rfl, rfl⟩ rfl rfl rfl rfl rfl (by kernel_rfl) Try.func9 (by kernel_rfl)
    (of_decide_eq_true (by kernel_rfl)) (by unfold Func.isWrapper; first | (rw [if_pos (by decide +kernel)]; kernel_rfl) | (rw [if_neg (by decide +kernel)]; exact ⟨rfl, rfl⟩))
    (fun os started H enc _ => lifted os started H enc)
theorem proved : Rows.OpcodeEncodesSaid := over
#print axioms proved
end Go.Proofs.Ytihngfbkkhneeaa.opcodeEncodes
namespace Go.Proofs.Ytihngfbkkhneeaa
/-- The row, under a short name, for the claim. -/
theorem opcodeEncodes_holds : Rows.OpcodeEncodesSaid := opcodeEncodes.proved
end Go.Proofs.Ytihngfbkkhneeaa
