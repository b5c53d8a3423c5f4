/- The document's question for a bit, at each place. Conditions: none. -/
import Derived.Test.YtihngfbkkhneeaaShown
namespace Go.Proofs.Ytihngfbkkhneeaa.E
open Go Go.Ev Go.RowKit
set_option linter.unusedVariables false
set_option linter.unusedSimpArgs false
set_option maxRecDepth 100000
noncomputable def tblB : FuncId → Option Func
  | 30 => some Go.Proofs.Try.f30
  | 31 => some Go.Proofs.Try.f31
  | _ => none
theorem tblB_ok : TblOK Go.Proofs.Try.prog tblB := by
  intro g fn h
  unfold tblB at h
  split at h
  · simp only [Option.some.injEq] at h; subst h; exact ⟨Go.Proofs.Try.func30, by kernel_rfl⟩
  · simp only [Option.some.injEq] at h; subst h; exact ⟨Go.Proofs.Try.func31, by kernel_rfl⟩
  · simp at h

/-- bit n of v, as it is reckoned -/
def bitF (v : Int) (n : Nat) : Bool := v.toNat.testBit n
theorem wrap_small {n : Int} (h0 : 0 ≤ n) (h : n < 65536) : IntKind.i64.wrap n = n := by
  have e : (n % (2 ^ 64 : Int)) = n := Int.emod_eq_of_lt h0 (by omega)
  simp only [IntKind.wrap, IntKind.bits, IntKind.signed, e]
  rw [if_neg]
  simp; omega
noncomputable def bitE (v n : Int) : Option AV := evCall Go.Proofs.Try.prog tblB (fun _ _ _ (_ : KA AV) => none) 300 3 30 [u8A v, i64A n] [] (fun v _ => some v)
theorem bitE_0 (v : Int) : bitE v 0 = some (boolA ((IntKind.i64.wrap ((IntKind.i64.wrap v).tdiv 1)).tmod 2 == 1)) := by kernel_rfl
theorem bitE_1 (v : Int) : bitE v 1 = some (boolA ((IntKind.i64.wrap ((IntKind.i64.wrap v).tdiv (IntKind.i64.wrap 1 * 2))).tmod 2 == 1)) := by kernel_rfl
theorem bitE_2 (v : Int) : bitE v 2 = some (boolA ((IntKind.i64.wrap ((IntKind.i64.wrap v).tdiv (IntKind.i64.wrap (IntKind.i64.wrap 1 * 2) * 2))).tmod 2 == 1)) := by kernel_rfl
theorem bitE_3 (v : Int) : bitE v 3 = some (boolA ((IntKind.i64.wrap ((IntKind.i64.wrap v).tdiv (IntKind.i64.wrap (IntKind.i64.wrap (IntKind.i64.wrap 1 * 2) * 2) * 2))).tmod 2 == 1)) := by kernel_rfl
theorem bitE_4 (v : Int) : bitE v 4 = some (boolA ((IntKind.i64.wrap ((IntKind.i64.wrap v).tdiv (IntKind.i64.wrap (IntKind.i64.wrap (IntKind.i64.wrap (IntKind.i64.wrap 1 * 2) * 2) * 2) * 2))).tmod 2 == 1)) := by kernel_rfl
theorem bitE_5 (v : Int) : bitE v 5 = some (boolA ((IntKind.i64.wrap ((IntKind.i64.wrap v).tdiv (IntKind.i64.wrap (IntKind.i64.wrap (IntKind.i64.wrap (IntKind.i64.wrap (IntKind.i64.wrap 1 * 2) * 2) * 2) * 2) * 2))).tmod 2 == 1)) := by kernel_rfl
theorem bitE_6 (v : Int) : bitE v 6 = some (boolA ((IntKind.i64.wrap ((IntKind.i64.wrap v).tdiv (IntKind.i64.wrap (IntKind.i64.wrap (IntKind.i64.wrap (IntKind.i64.wrap (IntKind.i64.wrap (IntKind.i64.wrap 1 * 2) * 2) * 2) * 2) * 2) * 2))).tmod 2 == 1)) := by kernel_rfl
theorem bitE_7 (v : Int) : bitE v 7 = some (boolA ((IntKind.i64.wrap ((IntKind.i64.wrap v).tdiv (IntKind.i64.wrap (IntKind.i64.wrap (IntKind.i64.wrap (IntKind.i64.wrap (IntKind.i64.wrap (IntKind.i64.wrap (IntKind.i64.wrap 1 * 2) * 2) * 2) * 2) * 2) * 2) * 2))).tmod 2 == 1)) := by kernel_rfl
theorem bitv {v : Nat} (hv : v < 256) (n : Nat) (hn : n < 8) : ((IntKind.i64.wrap ((IntKind.i64.wrap (v : Int)).tdiv (2 ^ n : Nat))).tmod 2 == 1) = bitF v n := by
  have h1 : IntKind.i64.wrap (v : Int) = v := wrap_small (by omega) (by omega)
  rw [h1]
  have h2 : ((v : Int).tdiv ((2 ^ n : Nat) : Int)) = ((v / 2 ^ n : Nat) : Int) := by rw [Int.tdiv_eq_ediv_of_nonneg (by omega)]; rfl
  rw [h2]
  have h3 : v / 2 ^ n ≤ v := Nat.div_le_self _ _
  unfold bitF
  rw [Int.toNat_natCast, Nat.testBit_eq_decide_div_mod_eq]
  generalize v / 2 ^ n = q at h3
  have h5 : IntKind.i64.wrap (q : Int) = (q : Int) := wrap_small (by omega) (by omega)
  have h4 : ((q : Nat) : Int).tmod 2 = ((q % 2 : Nat) : Int) := by rw [Int.tmod_eq_emod_of_nonneg (by omega)]; rfl
  rw [h5, h4]
  by_cases h : q % 2 = 1
  · simp [h]
  · simp only [h, decide_false, beq_eq_false_iff_ne]; omega
theorem bit_ok {v n : Nat} (hv : v < 256) (hn : n < 8) (w : World) : PureGoes Go.Proofs.Try.prog w 30 [u8A (v : Int), i64A (n : Int)] (boolA (bitF v n)) := by
  refine pure_of_evalK (orc := fun _ _ _ _ => none) tblB_ok (fun _ => callOK_none) (n := 300) (d := 3) rfl ?_ w
  show bitE v n = _
  have hb := bitv hv n hn
  match n, hn with
  | 0, _ =>
    have e : bitE v ((0 : Nat) : Int) = bitE v 0 := rfl
    rw [e, bitE_0, ← hb]; rfl
  | 1, _ =>
    have e : bitE v ((1 : Nat) : Int) = bitE v 1 := rfl
    rw [e, bitE_1, ← hb]; rfl
  | 2, _ =>
    have e : bitE v ((2 : Nat) : Int) = bitE v 2 := rfl
    rw [e, bitE_2, ← hb]; rfl
  | 3, _ =>
    have e : bitE v ((3 : Nat) : Int) = bitE v 3 := rfl
    rw [e, bitE_3, ← hb]; rfl
  | 4, _ =>
    have e : bitE v ((4 : Nat) : Int) = bitE v 4 := rfl
    rw [e, bitE_4, ← hb]; rfl
  | 5, _ =>
    have e : bitE v ((5 : Nat) : Int) = bitE v 5 := rfl
    rw [e, bitE_5, ← hb]; rfl
  | 6, _ =>
    have e : bitE v ((6 : Nat) : Int) = bitE v 6 := rfl
    rw [e, bitE_6, ← hb]; rfl
  | 7, _ =>
    have e : bitE v ((7 : Nat) : Int) = bitE v 7 := rfl
    rw [e, bitE_7, ← hb]; rfl
/-- the question for a bit is known, too -/
noncomputable def knB {R : Type} (g : FuncId) (args : List AV) (k : KA R) : Option R :=
  if g = 30 then (match args with
    | [.one (.c (.v (.int .u8 (.ofNat v)))), .one (.c (.v (.int .i64 (.ofNat n))))] => if v < 256 ∧ n < 8 then k (boolA (v.testBit n)) [] else none
    | _ => none)
  else knS g args k
theorem knB_ok {R : Type} : KnownOK Go.Proofs.Try.prog (knB (R := R)) := by
  intro g args k r h
  unfold knB at h
  split at h
  · rename_i e; subst e
    split at h
    · split at h
      · rename_i hc
        exact ⟨_, _, h, fun w => bit_ok hc.1 hc.2 w⟩
      · simp at h
    · simp at h
  · exact knS_ok g args k r h

end Go.Proofs.Ytihngfbkkhneeaa.E
