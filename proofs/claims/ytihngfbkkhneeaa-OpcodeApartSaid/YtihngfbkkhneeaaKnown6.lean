/- Decode and its kin, asked of the tables, as known calls. Conditions: none. -/
import Derived.Test.YtihngfbkkhneeaaIll
namespace Go.Proofs.Ytihngfbkkhneeaa.E
open Go Go.Ev Go.RowKit
set_option linter.unusedVariables false
set_option linter.unusedSimpArgs false
set_option maxRecDepth 100000

abbrev Q6 := Int × Int × Int × Int × Int × Int
def fA (q : Q6) : AV := .one (.agg [.v (.int .i64 q.1), .v (.int .i64 q.2.1), .v (.int .i64 q.2.2.1), .v (.int .i64 q.2.2.2.1), .v (.int .i64 q.2.2.2.2.1), .v (.int .i64 q.2.2.2.2.2)])
noncomputable def decQ (tab : List (List Int)) (o : Int) : Option Q6 := if 0 ≤ o ∧ o < 256 then (match nth tab o.toNat with | some [k, x, y, b, c, t] => some (k, x, y, b, c, t) | _ => none) else none
def illQ (o : Int) : Option Bool := if 0 ≤ o ∧ o < 256 then some (illF o.toNat) else none
noncomputable def knA (DF DCF : Int → Option Q6) (IF : Int → Option Bool) {R : Type} (g : FuncId) (args : List AV) (k : KA R) : Option R :=
  if g = 12 then (match args with | [.one (.c (.v (.int .u8 o)))] => asks (DF o) (0, 0, 0, 0, 0, 0) fun q => k (fA q) [] | _ => none)
  else if g = 14 then (match args with | [.one (.c (.v (.int .u8 o)))] => asks (DCF o) (0, 0, 0, 0, 0, 0) fun q => k (fA q) [] | _ => none)
  else if g = 16 then (match args with | [.one (.c (.v (.int .u8 o)))] => asks (IF o) false fun q => k (boolA q) [] | _ => none)
  else knS g args k
theorem decQ_ok {tab : List (List Int)} {g : FuncId} (ht : ∀ {m : Nat}, m < 256 → ∃ l, nth tab m = some l ∧ ∀ w, PureGoes Go.Proofs.Try.prog w g [u8A (m : Int)] (formA l)) {o : Int} {q : Q6} (h : decQ tab o = some q) (w : World) : PureGoes Go.Proofs.Try.prog w g [u8A o] (fA q) := by
  unfold decQ at h
  split at h
  · rename_i hc
    obtain ⟨l, hl, hgo⟩ := ht (m := o.toNat) (by omega)
    rw [hl] at h
    split at h
    · rename_i k x y b c t e
      simp only [Option.some.injEq] at e h
      subst e h
      have hw := hgo w
      rw [show ((o.toNat : Nat) : Int) = o by omega] at hw
      exact hw
    · simp at h
  · simp at h
theorem knA_ok {R : Type} : KnownOK Go.Proofs.Try.prog (knA (decQ decTab) (decQ cbTab) illQ (R := R)) := by
  intro g args k r h
  unfold knA at h
  split at h
  · rename_i e; subst e
    split at h
    · unfold asks at h
      split at h
      · rename_i hs
        obtain ⟨q, hq⟩ := Option.isSome_iff_exists.1 hs
        rw [hq] at h
        exact ⟨_, _, h, decQ_ok dec_ok hq⟩
      · simp at h
    · simp at h
  split at h
  · rename_i e; subst e
    split at h
    · unfold asks at h
      split at h
      · rename_i hs
        obtain ⟨q, hq⟩ := Option.isSome_iff_exists.1 hs
        rw [hq] at h
        exact ⟨_, _, h, decQ_ok cb_ok hq⟩
      · simp at h
    · simp at h
  split at h
  · rename_i e; subst e
    split at h
    · rename_i o
      unfold asks at h
      split at h
      · rename_i hs
        obtain ⟨q, hq⟩ := Option.isSome_iff_exists.1 hs
        rw [hq] at h
        refine ⟨_, _, h, fun w => ?_⟩
        unfold illQ at hq
        split at hq
        · rename_i hc
          simp only [Option.some.injEq] at hq
          subst hq
          have hw := ill_ok (m := o.toNat) (by omega) w
          rw [show ((o.toNat : Nat) : Int) = o by omega] at hw
          exact hw
        · simp at hq
      · simp at h
    · simp at h
  · exact knS_ok g args k r h

end Go.Proofs.Ytihngfbkkhneeaa.E
