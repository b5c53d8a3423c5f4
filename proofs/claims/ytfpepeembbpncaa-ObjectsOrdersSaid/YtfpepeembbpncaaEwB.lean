/- The wider evaluator is right: operations, open orders, loops and calls. Conditions: none. -/
import Derived.Orders
import Derived.Test.YtfpepeembbpncaaEwA
namespace Go.Ew
set_option linter.unusedVariables false
set_option linter.unusedSimpArgs false
set_option linter.constructorNameAsVariable false

section
open Go.RowKit
section
variable {P : Program} {S : Stay} {w : World} {ρ : Rho} {h : List Blk}
/-! ### Equality and reckoning -/
def OfT (P : Program) (S : Stay) (ρ : Rho) (t : TypeId) (l : List Sc) (V : Value) : Prop :=
 (isAgg? P t = some true ∧ ∃ L, LR (Sc.R S ρ) l L ∧ V = .agg L.toArray) ∨ (isAgg? P t = some false ∧ ∃ s, l = [s] ∧ s.R S ρ V)

theorem run_part_of {t : TypeId} {l : List Sc} {L : List Value} {off sz : Nat} {ag : Bool} (ha : isAgg? P t = some ag) (hs : size? P t = some sz) (h1 : ag = false → sz = 1) (hle : off + sz ≤ l.length) (hL : LR (Sc.R S ρ) l L) :
  ∃ V, (part t L.toArray off).run P w = .ok V w ∧ OfT P S ρ t ((l.drop off).take sz) V := by
 have hlen := hL.length
 unfold part
 rw [run_bind_ok (run_isAgg ha)]
 cases ag with
 | true =>
  refine ⟨.agg ((L.drop off).take sz).toArray, ?_, .inl ⟨ha, _, (hL.drop off).take sz, rfl⟩⟩
  simp only [if_true]
  rw [run_bind_ok (run_sizeOf hs)]
  simp only [run_pure, List.extract_toArray, List.extract_eq_take_drop]
  congr 4
  omega
 | false =>
  obtain rfl := h1 rfl
  have hlt : off < l.length := by omega
  have hg : l[off]? = some l[off] := List.getElem?_eq_getElem hlt
  obtain ⟨V, hV, r⟩ := hL.get hg
  refine ⟨V, ?_, .inr ⟨ha, l[off], ?_, r⟩⟩
  ·simp [hV, run_pure]
  ·rw [List.drop_eq_getElem_cons hlt]; rfl

theorem agg_of_struct {t : TypeId} {fs : Array Field} {l : List Sc} {X : Value} (hu : P.underlying t = some (.struct fs)) (hX : OfT P S ρ t l X) : ∃ L, LR (Sc.R S ρ) l L ∧ X = .agg L.toArray := by
 rcases hX with ⟨_, h⟩ | ⟨ha, _⟩
 ·exact h
 ·simp [isAgg?, hu] at ha
theorem one_of {t : TypeId} {x : Sc} {X : Value} (ha : isAgg? P t = some false) (hX : OfT P S ρ t [x] X) : x.R S ρ X := by
 rcases hX with ⟨h, _⟩ | ⟨_, s, e, r⟩
 ·rw [ha] at h; simp at h
 ·simp at e; subst e; exact r

theorem run_fields {D d : Nat} {l m : List Sc} {L M : List Value} (hL : LR (Sc.R S ρ) l L) (hM : LR (Sc.R S ρ) m M)
  (ih : ∀ (t : TypeId) (l m : List Sc) (b : Bool) (X Y : Value), eqv P d t l m = some b → OfT P S ρ t l X → OfT P S ρ t m Y → (Op.equalIn D t X Y).run P w = .ok b w) :
  ∀ (fields : List Field) (b : Bool), eqGo P (eqv P d) l m fields = some b →
  (forIn (m := Sem) fields ((none, ()) : Option Bool × Unit) fun f _ =>
         if f.name ≠ "_" then do
          let x ← part f.type L.toArray f.offset
          let y ← part f.type M.toArray f.offset
          let z ← Op.equalIn D f.type x y
          if (!z) = true then pure (ForInStep.done (some false, ()))
           else pure (ForInStep.yield (none, ()))
         else pure (ForInStep.yield (none, ()))).run P w = .ok (if b then (none, ()) else (some false, ())) w
 | [], b, he => by simp [eqGo] at he; subst he; simp [run_pure]
 | f :: fs, b, he => by
  simp only [eqGo] at he
  split at he
  ·simp at he
  ·rename_i hne
   split at he
   ·rename_i ag sz ha hs
    split at he
    ·rename_i hc
     obtain ⟨h1, h2, h3⟩ := hc
     split at he
     ·rename_i a c ea ec
      simp at he; subst he
      obtain ⟨X, hx, rX⟩ := run_part_of (w := w) ha hs h1 h2 hL
      obtain ⟨Y, hy, rY⟩ := run_part_of (w := w) ha hs h1 h3 hM
      have hz := ih _ _ _ _ _ _ ea rX rY
      rw [List.forIn_cons, run_bind']
      simp only [ne_eq, hne, not_false_eq_true, if_true]
      rw [run_bind_ok hx, run_bind_ok hy, run_bind_ok hz]
      cases a with
      | true =>
       simp only [Bool.not_true, Bool.false_eq_true, if_false, run_pure, Bool.true_and]
       exact run_fields hL hM ih fs c ec
      | false => simp [run_pure]
     ·simp at he
    ·simp at he
   ·simp at he

theorem eqv_ok : ∀ (d D : Nat) (t : TypeId) (l m : List Sc) (b : Bool) (X Y : Value), d ≤ D → eqv P d t l m = some b → OfT P S ρ t l X → OfT P S ρ t m Y → (Op.equalIn D t X Y).run P w = .ok b w
 | 0, D, t, l, m, b, X, Y, _, he, _, _ => by simp [eqv] at he
 | d + 1, D + 1, t, l, m, b, X, Y, hd, he, hX, hY => by
  unfold eqv at he
  unfold Op.equalIn
  split at he
  ·rename_i k hu
   have ha : isAgg? P t = some false := by simp [isAgg?, hu]
   rw [run_bind_ok (run_underlying hu)]
   split at he
   ·split at he
    ·rename_i e
     simp at he; subst he; subst e
     obtain ⟨rfl, _⟩ := one_of ha hX
     obtain ⟨rfl, _⟩ := one_of ha hY
     simp [run_pure]
    ·simp at he
   ·simp at he
  ·rename_i hu
   have ha : isAgg? P t = some false := by simp [isAgg?, hu]
   rw [run_bind_ok (run_underlying hu)]
   split at he
   ·simp at he; subst he
    obtain ⟨rfl, _⟩ := one_of ha hX
    obtain ⟨rfl, _⟩ := one_of ha hY
    simp [run_pure]
   ·simp at he
  ·rename_i hu
   have ha : isAgg? P t = some false := by simp [isAgg?, hu]
   rw [run_bind_ok (run_underlying hu)]
   split at he
   ·simp at he; subst he
    obtain ⟨rfl, _⟩ := one_of ha hX
    obtain ⟨rfl, _⟩ := one_of ha hY
    simp [run_pure]
   ·simp at he
  ·rename_i fields hu
   rw [run_bind_ok (run_underlying hu)]
   obtain ⟨L, hL, rfl⟩ := agg_of_struct hu hX
   obtain ⟨M, hM, rfl⟩ := agg_of_struct hu hY
   split at he
   ·simp at he
   ·rename_i hst
    simp only []
    rw [run_bind_ok (show (program).run P w = .ok P w from rfl), if_neg hst]
    have := run_fields (w := w) (D := D) (d := d) hL hM (fun t l m b X Y h1 h2 h3 => eqv_ok d D t l m b X Y (by omega) h1 h2 h3) fields.toList b he
    simp only [Array.forIn_toList] at this
    rw [run_bind_ok this]
    cases b <;> rfl
  ·simp at he
 | d + 1, 0, t, l, m, b, X, Y, hd, he, hX, hY => by omega

theorem bothAgg_R {x y : AV} {l m : List Sc} {X Y : Value} (h : bothAgg x y = some (l, m)) (hX : x.R S ρ X) (hY : y.R S ρ Y) : ∃ L M, LR (Sc.R S ρ) l L ∧ X = .agg L.toArray ∧ LR (Sc.R S ρ) m M ∧ Y = .agg M.toArray := by
 unfold bothAgg at h
 split at h
 ·simp at h
  obtain ⟨rfl, rfl⟩ := h
  obtain ⟨L, hL, rfl⟩ := hX
  obtain ⟨M, hM, rfl⟩ := hY
  exact ⟨L, M, hL, rfl, hM, rfl⟩
 ·simp at h

theorem eqv_struct {d : Nat} {t : TypeId} {l m : List Sc} {b : Bool} {L M : List Value} (he : eqv P d t l m = some b) (hL : LR (Sc.R S ρ) l L) (hM : LR (Sc.R S ρ) m M) (hd : d ≤ Op.maxDepth) (hag : isAgg? P t = some true) :
  (Op.equal t (.agg L.toArray) (.agg M.toArray)).run P w = .ok b w :=
 eqv_ok d Op.maxDepth t l m b _ _ hd he (.inl ⟨hag, L, hL, rfl⟩) (.inl ⟨hag, M, hM, rfl⟩)

theorem run_eqGuard_agg {op : BinOp} {t : TypeId} {x y : Operand} {L M : List Value} (hg : P.eqGuardType P.depth t = false) : (eqGuard op t x y (.agg L.toArray) (.agg M.toArray)).run P w = .ok () w := by
 unfold eqGuard
 cases op <;> simp [run_bind', run_pure, program, Sem.run, hg, pure, Sem.bind, bind]

theorem evNil_ok {t : TypeId} {x y : AV} {X Y : Value} (he : evNil P t x y = true) (hX : x.R S ρ X) (hY : y.R S ρ Y) :
  (Op.equal t X Y).run P w = .ok false w ∧ ∀ op ox oy, (eqGuard op t ox oy X Y).run P w = .ok () w ∧ (∀ r, r = binOp op t X Y → (op = .eql → r = (do pure (.bool (← Op.equal t X Y)))) ∧ (op = .neq → r = (do pure (.bool (!(← Op.equal t X Y)))))) := by
 unfold evNil at he
 have ptr : ∀ (a : Addr) {e : TypeId}, P.underlying t = some (.pointer e) → X = .pointer (some a) → Y = .pointer none →
   (Op.equal t X Y).run P w = .ok false w ∧ ∀ op ox oy, (eqGuard op t ox oy X Y).run P w = .ok () w ∧ (∀ r, r = binOp op t X Y → (op = .eql → r = (do pure (.bool (← Op.equal t X Y)))) ∧ (op = .neq → r = (do pure (.bool (!(← Op.equal t X Y)))))) := by
  rintro a e hu rfl rfl
  refine ⟨?_, fun op ox oy => ⟨?_, ?_⟩⟩
  ·show (Op.equalIn (9999 + 1) _ _ _).run P w = _
   unfold Op.equalIn
   rw [run_bind_ok (run_underlying hu)]; rfl
  ·unfold eqGuard; cases op <;> rfl
  ·rintro r rfl; exact ⟨fun e => by subst e; rfl, fun e => by subst e; rfl⟩
 split at he
 ·rename_i c0 _ _ _ hu
  obtain ⟨o, tb, _, _, _, hV⟩ := hX
  obtain ⟨rfl, _⟩ := hY
  rcases hV with ⟨b, c, rfl, rfl, _, _, hc⟩ | ⟨A, rfl, _, hc⟩
  ·refine ⟨?_, fun op ox oy => ⟨?_, ?_⟩⟩
   ·show (Op.equalIn (9999 + 1) _ _ _).run P w = _
    unfold Op.equalIn
    rw [run_bind_ok (run_underlying hu)]; rfl
   ·unfold eqGuard; cases op <;> rfl
   ·rintro r rfl; exact ⟨fun e => by subst e; rfl, fun e => by subst e; rfl⟩
  ·have := hc _ rfl; omega
 ·rename_i hu
  obtain ⟨b, tb, _, rfl⟩ := hX
  obtain ⟨rfl, _⟩ := hY
  exact ptr _ hu rfl rfl
 ·rename_i hu
  obtain ⟨b, tb, _, _, rfl⟩ := hX
  obtain ⟨rfl, _⟩ := hY
  exact ptr _ hu rfl rfl
 ·rename_i hu
  obtain ⟨b, o, rfl, _⟩ := hX
  obtain ⟨rfl, _⟩ := hY
  exact ptr _ hu rfl rfl
 ·rename_i hu
  obtain ⟨L, _, rfl⟩ := hX
  obtain ⟨rfl, _⟩ := hY
  refine ⟨?_, fun op ox oy => ⟨?_, ?_⟩⟩
  ·show (Op.equalIn (9999 + 1) _ _ _).run P w = _
   unfold Op.equalIn
   rw [run_bind_ok (run_underlying hu)]; rfl
  ·unfold eqGuard; cases op <;> rfl
  ·rintro r rfl; exact ⟨fun e => by subst e; rfl, fun e => by subst e; rfl⟩
 ·rename_i hu
  obtain ⟨A, c, rfl, _, hx⟩ := hX
  obtain ⟨rfl, _⟩ := hY
  obtain ⟨b, o, rfl, _⟩ := hx 0 _ rfl
  refine ⟨?_, fun op ox oy => ⟨?_, ?_⟩⟩
  ·show (Op.equalIn (9999 + 1) _ _ _).run P w = _
   unfold Op.equalIn
   rw [run_bind_ok (run_underlying hu)]; rfl
  ·unfold eqGuard; cases op <;> rfl
  ·rintro r rfl; exact ⟨fun e => by subst e; rfl, fun e => by subst e; rfl⟩
 ·simp at he

theorem evVid_ok {t : TypeId} {x y : AV} {z : Option VidT} {X Y : Value} (he : evVid P t x y = some z) (hX : x.R S ρ X) (hY : y.R S ρ Y) :
  (Op.equal t X Y).run P w = .ok (Option.isNone z) w ∧ ∀ op ox oy, (eqGuard op t ox oy X Y).run P w = .ok () w ∧ (∀ r, r = binOp op t X Y → (op = .eql → r = (do pure (.bool (← Op.equal t X Y)))) ∧ (op = .neq → r = (do pure (.bool (!(← Op.equal t X Y)))))) := by
 unfold evVid at he
 split at he
 ·rename_i z' _ hu
  simp only [Option.some.injEq] at he; subst he
  obtain ⟨rfl, _⟩ := hY
  cases z' with
  | none =>
   have e : X = .pointer none := hX
   subst e
   refine ⟨?_, fun op ox oy => ⟨?_, ?_⟩⟩
   ·show (Op.equalIn (9999 + 1) _ _ _).run P w = _
    unfold Op.equalIn
    rw [run_bind_ok (run_underlying hu)]; rfl
   ·unfold eqGuard; cases op <;> rfl
   ·rintro r rfl; exact ⟨fun e => by subst e; rfl, fun e => by subst e; rfl⟩
  | some y =>
   obtain ⟨b, o, rfl, _⟩ := hX
   refine ⟨?_, fun op ox oy => ⟨?_, ?_⟩⟩
   ·show (Op.equalIn (9999 + 1) _ _ _).run P w = _
    unfold Op.equalIn
    rw [run_bind_ok (run_underlying hu)]; rfl
   ·unfold eqGuard; cases op <;> rfl
   ·rintro r rfl; exact ⟨fun e => by subst e; rfl, fun e => by subst e; rfl⟩
 ·simp at he
theorem evBin_ok {op : BinOp} {t : TypeId} {ox oy : Operand} {x y v : AV} (hu : evBin P op t ox oy x y = some v) {X Y : Value} (hX : x.R S ρ X) (hY : y.R S ρ Y) :
  ∃ V, (do eqGuard op t ox oy X Y; binOp op t X Y : Sem Value).run P w = .ok V w ∧ v.R S ρ V := by
 unfold evBin at hu
 split at hu
 ·rename_i a b ha hb
  split at hu
  ·rename_i V hV
   obtain rfl := AV.val?_R ha hX
   obtain rfl := AV.val?_R hb hY
   exact ⟨V, pureRun_ok _ hV w, AV.of?_R hu⟩
  ·simp at hu
 ·simp at hu

theorem evBin3_ok {op : BinOp} {t : TypeId} {ox oy : Operand} {x y v : AV} (hu : evBin3 P op t ox oy x y = some v) {X Y : Value} (hX : x.R S ρ X) (hY : y.R S ρ Y) :
  ∃ V, (do eqGuard op t ox oy X Y; binOp op t X Y : Sem Value).run P w = .ok V w ∧ v.R S ρ V := by
 unfold evBin3 at hu
 split at hu
 ·split at hu
  ·rename_i l m hb
   split at hu
   ·rename_i hg
    split at hu
    ·rename_i b he
     simp at hu; subst hu
     obtain ⟨L, M, hL, rfl, hM, rfl⟩ := bothAgg_R hb hX hY
     refine ⟨.bool b, ?_, ⟨rfl, rfl⟩⟩
     rw [run_bind_ok (run_eqGuard_agg hg.2)]
     show (do pure (Value.bool (← Op.equal t _ _)) : Sem Value).run P w = _
     rw [run_bind_ok (eqv_struct he hL hM (by decide) hg.1)]; rfl
    ·simp at hu
   ·simp at hu
  ·split at hu
   ·rename_i z hz
    simp at hu; subst hu
    obtain ⟨h1, h2⟩ := evVid_ok (w := w) hz hX hY
    obtain ⟨h3, h4⟩ := h2 .eql ox oy
    refine ⟨.bool (Option.isNone z), ?_, ⟨rfl, rfl⟩⟩
    rw [run_bind_ok h3, (h4 _ rfl).1 rfl, run_bind_ok h1]; rfl
   split at hu
   ·rename_i hn
    simp at hu; subst hu
    obtain ⟨h1, h2⟩ := evNil_ok (w := w) hn hX hY
    obtain ⟨h3, h4⟩ := h2 .eql ox oy
    refine ⟨.bool false, ?_, ⟨rfl, rfl⟩⟩
    rw [run_bind_ok h3, (h4 _ rfl).1 rfl, run_bind_ok h1]; rfl
   ·exact evBin_ok hu hX hY
 ·split at hu
  ·rename_i l m hb
   split at hu
   ·rename_i hg
    split at hu
    ·rename_i b he
     simp at hu; subst hu
     obtain ⟨L, M, hL, rfl, hM, rfl⟩ := bothAgg_R hb hX hY
     refine ⟨.bool !b, ?_, ⟨rfl, rfl⟩⟩
     rw [run_bind_ok (run_eqGuard_agg hg.2)]
     show (do pure (Value.bool (!(← Op.equal t _ _))) : Sem Value).run P w = _
     rw [run_bind_ok (eqv_struct he hL hM (by decide) hg.1)]; rfl
    ·simp at hu
   ·simp at hu
  ·split at hu
   ·rename_i z hz
    simp at hu; subst hu
    obtain ⟨h1, h2⟩ := evVid_ok (w := w) hz hX hY
    obtain ⟨h3, h4⟩ := h2 .neq ox oy
    refine ⟨.bool (Option.isSome z), ?_, ⟨rfl, rfl⟩⟩
    rw [run_bind_ok h3, (h4 _ rfl).2 rfl, run_bind_ok h1]; cases z <;> rfl
   split at hu
   ·rename_i hn
    simp at hu; subst hu
    obtain ⟨h1, h2⟩ := evNil_ok (w := w) hn hX hY
    obtain ⟨h3, h4⟩ := h2 .neq ox oy
    refine ⟨.bool true, ?_, ⟨rfl, rfl⟩⟩
    rw [run_bind_ok h3, (h4 _ rfl).2 rfl, run_bind_ok h1]; rfl
   ·exact evBin_ok hu hX hY
 ·exact evBin_ok hu hX hY

theorem asI_R {x : AV} {k : IntKind} {n : Int} (h : asI x = some (k, n)) {X : Value} (r : x.R S ρ X) : X = .int k n := by
 unfold asI at h
 split at h
 ·simp at h; obtain ⟨rfl, rfl⟩ := h; exact r.1
 ·simp at h

theorem evInt_ok {op : BinOp} {t : TypeId} {ox oy : Operand} {k k' : IntKind} {a b : Int} {v : AV} (h : evInt op k a k' b = some v) :
  ∃ V, (do eqGuard op t ox oy (.int k a) (.int k' b); binOp op t (.int k a) (.int k' b) : Sem Value).run P w = .ok V w ∧ v.R S ρ V := by
 have hg : (eqGuard op t ox oy (.int k a) (.int k' b)).run P w = .ok () w := by unfold eqGuard; cases op <;> rfl
 rw [run_bind_ok hg]
 cases op <;> simp only [evInt, ivA, bvA] at h <;> (split at h) <;> (try simp at h) <;> (subst h) <;> rename_i hc
 case quo => obtain ⟨rfl, hb⟩ := hc; exact ⟨_, by simp [binOp, Op.intDiv, hb, run_pure], rfl, rfl⟩
 case rem => obtain ⟨rfl, hb⟩ := hc; exact ⟨_, by simp [binOp, Op.intDiv, hb, run_pure], rfl, rfl⟩
 case shl => exact ⟨_, by simp [binOp, Op.shift, hc, run_pure], rfl, rfl⟩
 case shr => exact ⟨_, by simp [binOp, Op.shift, hc, run_pure], rfl, rfl⟩
 case and => subst hc; exact ⟨_, by simp [binOp, Op.intBits, bits, run_pure], rfl, rfl⟩
 case or => subst hc; exact ⟨_, by simp [binOp, Op.intBits, bits, run_pure], rfl, rfl⟩
 case xor => subst hc; exact ⟨_, by simp [binOp, Op.intBits, bits, run_pure], rfl, rfl⟩
 case andNot => subst hc; exact ⟨_, by simp [binOp, Op.intBits, bits, run_pure], rfl, rfl⟩
 all_goals (subst hc; exact ⟨_, by simp only [binOp, Op.intArith, Op.intCmp, ne_eq, not_true_eq_false, if_false]; exact run_pure _, rfl, rfl⟩)

theorem asStr_R {x : AV} {s : ByteArray} (h : asStr x = some s) {X : Value} (r : x.R S ρ X) : X = .string s := by
 unfold asStr at h
 split at h
 ·simp at h; subst h; exact r.1
 ·simp at h
theorem evStr_ok {op : BinOp} {t : TypeId} {ox oy : Operand} {a b : ByteArray} {v : AV} (h : evStr op a b = some v) :
  ∃ V, (do eqGuard op t ox oy (.string a) (.string b); binOp op t (.string a) (.string b) : Sem Value).run P w = .ok V w ∧ v.R S ρ V := by
 have hg : (eqGuard op t ox oy (.string a) (.string b)).run P w = .ok () w := by unfold eqGuard; cases op <;> rfl
 rw [run_bind_ok hg]
 unfold evStr at h
 cases op <;> simp only [bvA] at h
 case add =>
  split at h
  ·rename_i hs
   simp only [Option.some.injEq] at h; subst h
   refine ⟨.string (a ++ b), ?_, rfl, rfl⟩
   have : ¬ ((a.size + b.size : Nat) : Int) > IntKind.i64.max := by simp [IntKind.max, IntKind.bits, IntKind.signed]; omega
   simp only [binOp, Op.stringOp]
   rw [if_neg this]; exact run_pure _
  ·simp at h
 all_goals first
  | (simp at h; done)
  | (simp only [Option.some.injEq] at h; subst h; exact ⟨_, by simp only [binOp, Op.stringOp]; exact run_pure _, rfl, rfl⟩)
theorem evBin4_ok {op : BinOp} {t : TypeId} {ox oy : Operand} {x y v : AV} (hu : evBin4 P op t ox oy x y = some v) {X Y : Value} (hX : x.R S ρ X) (hY : y.R S ρ Y) :
  ∃ V, (do eqGuard op t ox oy X Y; binOp op t X Y : Sem Value).run P w = .ok V w ∧ v.R S ρ V := by
 unfold evBin4 at hu
 split at hu
 ·rename_i a b ha hb
  rw [asStr_R ha hX, asStr_R hb hY]
  exact evStr_ok hu
 ·split at hu
  ·rename_i len b hb
   split at hu
   ·rename_i hl
    simp only [bvA, Option.some.injEq] at hu; subst hu
    unfold evRnil at hb
    split at hb
    ·rename_i hu2 _
     obtain ⟨o, tb, _, _, _, hV⟩ := hX
     obtain ⟨rfl, _⟩ := hY
     rcases hV with ⟨bb, c, _, rfl, _, _, _⟩ | ⟨A, _, h0, _⟩
     ·split at hb
      ·simp only [Option.some.injEq, Prod.mk.injEq] at hb
       obtain ⟨rfl, rfl⟩ := hb
       refine ⟨.bool false, ?_, ⟨rfl, rfl⟩⟩
       rw [run_bind_ok (show (eqGuard _ t ox oy _ _).run P w = .ok () w by unfold eqGuard; rfl)]
       show (do pure (Value.bool (← Op.equal t _ _)) : Sem Value).run P w = _
       rw [run_bind_ok (show (Op.equal t _ _).run P w = .ok false w from by
        show (Op.equalIn (9999 + 1) _ _ _).run P w = _
        unfold Op.equalIn
        rw [run_bind_ok (run_underlying hu2)]; rfl)]; rfl
      ·simp only [Option.some.injEq, Prod.mk.injEq] at hb
       obtain ⟨rfl, rfl⟩ := hb
       refine ⟨.bool true, ?_, ⟨rfl, rfl⟩⟩
       rw [run_bind_ok (show (eqGuard _ t ox oy _ _).run P w = .ok () w by unfold eqGuard; rfl)]
       show (do pure (Value.bool (!(← Op.equal t _ _))) : Sem Value).run P w = _
       rw [run_bind_ok (show (Op.equal t _ _).run P w = .ok false w from by
        show (Op.equalIn (9999 + 1) _ _ _).run P w = _
        unfold Op.equalIn
        rw [run_bind_ok (run_underlying hu2)]; rfl)]; rfl
      ·simp at hb
     ·split at hb <;> simp at hb <;> omega
    ·simp at hb
   ·simp at hu
  ·exact evBin3_ok hu hX hY
theorem evBin2_ok {op : BinOp} {t : TypeId} {ox oy : Operand} {x y v : AV} (hu : evBin2 P op t ox oy x y = some v) {X Y : Value} (hX : x.R S ρ X) (hY : y.R S ρ Y) :
  ∃ V, (do eqGuard op t ox oy X Y; binOp op t X Y : Sem Value).run P w = .ok V w ∧ v.R S ρ V := by
 unfold evBin2 at hu
 split at hu
 ·rename_i k a k' b ha hb
  rw [asI_R ha hX, asI_R hb hY]
  exact evInt_ok hu
 ·exact evBin4_ok hu hX hY
end
end

section
open Go.RowKit
section
variable {P : Program} {S : Stay} {w : World} {ρ : Rho} {h : List Blk}
/-! ### make, copy, bytes as text -/
theorem wrap_small {n : Int} (h0 : 0 ≤ n) (h1 : n ≤ 268435456) : IntKind.i64.wrap n = n := by
 have e : IntKind.i64.wrap n = if (true && decide (n % 18446744073709551616 ≥ 9223372036854775808)) = true then n % 18446744073709551616 - 18446744073709551616 else n % 18446744073709551616 := rfl
 have h2 : n % 18446744073709551616 = n := by omega
 rw [e, h2, if_neg]
 simp; omega
theorem zeros_R {g : Tag} {Z : Array Value} (hZ : LR (Sc.R S ρ) (g.enc g.d) Z.toList) : ∀ (c : Nat), LR (Sc.R S ρ) (flat g (List.replicate c g.d)) ((List.range (c * g.sz)).map fun i => Z[i % Z.size]!)
 | 0 => by simp [flat]; trivial
 | c + 1 => by
  have hs : Z.size = g.sz := by have := hZ.length; rw [g.enc_length] at this; simpa using this.symm
  have hp := g.sz_pos
  have e1 : flat g (List.replicate (c + 1) g.d) = flat g (List.replicate c g.d) ++ g.enc g.d := by
   rw [List.replicate_succ', flat_append]; simp [flat]
  have e2 : (c + 1) * g.sz = c * g.sz + g.sz := by rw [Nat.add_mul, Nat.one_mul]
  rw [e1, e2, List.range_add, List.map_append]
  refine (zeros_R hZ c).append ?_
  have e3 : (List.map (fun x => c * g.sz + x) (List.range g.sz)).map (fun i => Z[i % Z.size]!) = Z.toList := by
   apply List.ext_getElem?
   intro i
   rw [List.map_map]
   rcases Nat.lt_or_ge i g.sz with hi | hi
   ·have hm : (c * g.sz + i) % Z.size = i := by
     rw [hs, Nat.add_comm, Nat.add_mul_mod_self_right, Nat.mod_eq_of_lt hi]
    have hi' : i < Z.size := by omega
    simp [List.getElem?_range hi, hm, Array.getElem?_eq_getElem hi', getElem!_pos Z i hi']
   ·rw [List.getElem?_eq_none (by simp; omega), List.getElem?_eq_none (by simp; omega)]
  rw [e3]; exact hZ

theorem evMakeSlice_ok {R : Type} {m : Nat} {t : TypeId} {ln cp : AV} {k : KA R} {r : R} (he : evMakeSlice P t ln cp h k = some r) :
  ∃ v h', k v h' = some r ∧ Ext m h h' ∧ h.length ≤ h'.length ∧ ∀ {S : Stay} {w : World} {ρ : Rho}, Rel S ρ h w → ∀ {A B : Value}, ln.R S ρ A → cp.R S ρ B →
   ∃ V ρ' w', (Instr.makeSlice t A B).run P w = .ok V w' ∧ v.R S ρ' V ∧ Rel S ρ' h' w' ∧ Frx S S ρ ρ' w w' := by
 unfold evMakeSlice at he
 split at he
 ·rename_i elem l c hu
  split at he
  ·rename_i info z g hi hz hg
   split at he
   ·rename_i hc
    obtain ⟨hz0, hsz, hb⟩ := hc
    split at he
    ·rename_i hlc
     obtain ⟨h0, h1, h2⟩ := hlc
     refine ⟨_, _, he, Ext.append _ _ _, by simp, fun {S w ρ} hr {A B} hA hB => ?_⟩
     obtain ⟨rfl, _⟩ := hA
     obtain ⟨rfl, _⟩ := hB
     obtain ⟨Z, hZ, hZl⟩ := run_zeroL (w := w) hz
     have hs : size? P elem = some info.size := by simp [size?, hi]
     have rZ : LR (Sc.R S ρ) (g.enc g.d) Z.cells.toList := by
      have := allZ_R (S := S) (ρ := ρ) hz0
      rw [hZl]
      simpa [flat] using this
     have hden : LR (Sc.R S ρ) (den [.r g c.toNat (List.replicate c.toNat g.d)]) ((List.range (c.toNat * g.sz)).map fun i => Z.cells[i % Z.cells.size]!) := by
      have := zeros_R rZ c.toNat
      simpa [den, Seg.den] using this
     obtain ⟨hr', hf, hidx⟩ := hr.alloc hden (segsOK_r.2 ⟨by simp, segsOK_nil⟩) [] elem
     have hlen : (((List.range (c.toNat * g.sz)).map fun i => Z.cells[i % Z.cells.size]!) ++ []).length = c.toNat * g.sz := by simp
     refine ⟨.slice (some ⟨w.heap.size, 0, none⟩) l.toNat c.toNat, _, _, ?_, ⟨_, _, hidx, by simp [ext_row]; omega, fun d e => by simp at e; simp [ext_row]; omega, .inl ⟨w.heap.size, c.toNat, rfl, by simp, by omega, ?_, fun d e => by simpa using e⟩⟩, hr', hf⟩
     ·unfold Instr.makeSlice
      rw [run_bind_ok (run_underlying hu)]
      simp only []
      rw [run_bind_ok (show (asInt (.int .i64 l)).run P w = .ok l w from rfl), run_bind_ok (show (asInt (.int .i64 c)).run P w = .ok c w from rfl), run_bind_ok (run_typeInfo hi)]
      simp only [wrap_small h0 (by omega), wrap_small (by omega : 0 ≤ c) h2]
      have hbig : ∀ n : Int, 0 ≤ n → n ≤ 268435456 → (decide (n < 0) || decide ((info.bytes : Int) * n > 2 ^ 48)) = false := by
       intro n hn0 hn1
       simp only [Bool.or_eq_false_iff, decide_eq_false_iff_not]
       refine ⟨by omega, ?_⟩
       have h9 : (info.bytes : Int) * n ≤ 65536 * 268435456 := Int.mul_le_mul (by omega) hn1 hn0 (by omega)
       have : (65536 * 268435456 : Int) ≤ 2 ^ 48 := by decide
       omega
      rw [if_neg]
      ·have hask : ∀ (b : Nat) (w : World), (askRoom b).run P w = .ok () w := by
        intro b w; unfold askRoom; split <;> rfl
       rw [run_bind_ok (hask _ _), run_bind_ok (run_sizeOf hs)]
       have hsz2 : c.toNat * info.size = c.toNat * g.sz := by rw [hsz]
       by_cases e0 : c.toNat * info.size = 0
       ·rw [if_pos e0, run_bind_ok (show (pure #[] : Sem (Array Value)).run P w = .ok #[] w from rfl)]
        have : (Array.range (c.toNat * info.size)).map (fun i => (#[] : Array Value)[i % (#[] : Array Value).size]!) = ((List.range (c.toNat * g.sz)).map fun i => Z.cells[i % Z.cells.size]!).toArray := by rw [← hsz2, e0]; simp
        rw [this]
        simp [newRow, newObj, run_bind', Sem.run, run_pure]
       ·rw [if_neg e0, run_bind_ok hZ, run_bind_ok (show (pure Z.cells : Sem (Array Value)).run P w = .ok Z.cells w from rfl)]
        have : (Array.range (c.toNat * info.size)).map (fun i => Z.cells[i % Z.cells.size]!) = ((List.range (c.toNat * g.sz)).map fun i => Z.cells[i % Z.cells.size]!).toArray := by
         rw [hsz2]; apply Array.toList_inj.1; simp
        rw [this]
        simp [newRow, newObj, run_bind', Sem.run, run_pure]
      ·simp only [hbig c (by omega) h2, Bool.false_or]
       simp; omega
     ·show 0 + (0 + c.toNat) * g.sz ≤ (((List.range (c.toNat * g.sz)).map fun i => Z.cells[i % Z.cells.size]!) ++ []).length
      rw [hlen, Nat.zero_add, Nat.zero_add]; exact Nat.le_refl _
    ·simp at he
   ·simp at he
  ·simp at he
 ·simp at he

theorem evCopy_ok {R : Type} {m : Nat} {tys : Array TypeId} {ty : TypeId} {s x : AV} {k : KA R} {r : R} (he : evCopy P tys s x h k = some r) :
  ∃ v h', k v h' = some r ∧ Ext m h h' ∧ h.length ≤ h'.length ∧ ∀ {S : Stay} {w : World} {ρ : Rho}, Rel S ρ h w → ∀ {A X : Value}, s.R S ρ A → x.R S ρ X →
   ∃ V ρ' w', (Builtin.copy_ tys ty #[A, X]).run P w = .ok V w' ∧ v.R S ρ' V ∧ Rel S ρ' h' w' ∧ Frx S S ρ ρ' w w' := by
 unfold evCopy at he
 simp only [nth_eq] at he
 split at he
 ·rename_i ts ht0
  split at he
  ·rename_i elem hu
   split at he
   ·rename_i sz g hsz hg
    split at he
    ·rename_i hgs
     subst hgs
     split at he
     ·rename_i n new hx
      split at he
      ·rename_i i base es st len cap
       split at he
       ·rename_i b hbi
        split at he
        ·rename_i hcc
         obtain ⟨hlive, hro, rfl⟩ := hcc
         split at he
         ·rename_i g' n' l0 hrow
          split at he
          ·rename_i l hcast
           obtain ⟨e0, e1⟩ := castL_ok hcast
           subst e0; subst l
           simp only at he
           refine ⟨_, _, he, Ext.set _ hbi hro, by simp, fun {S w ρ} hr {A X} hS hX => ?_⟩
           obtain ⟨hnl, hl, hrows⟩ := rowsOf_ok hx hr hX
           obtain ⟨N, rN, hNs, hN⟩ := hrows (min n len) (Nat.min_le_left _ _)
           have run : ∀ (base : Option Addr) (c : Nat) (w' : World), (match base with
             | some a => (storeCells a N.toList).run P w = .ok () w'
             | none => w' = w) → (Builtin.copy_ tys ty #[.slice base len c, X]).run P w = .ok (.int .i64 ((min n len : Nat) : Int)) w' := by
            intro base c w' hst
            unfold Builtin.copy_
            simp only [ht0, List.getElem?_toArray, List.getElem?_cons_zero, List.getElem?_cons_succ]
            rw [run_bind_ok (run_underlying hu)]
            simp only []
            rw [run_bind_ok hl]
            have e : Nat.min n len = min n len := rfl
            rw [e, run_bind_ok (run_sizeOf hsz), run_bind_ok (hN w rfl)]
            cases base with
            | some a => simp only [] at hst ⊢; rw [run_bind_ok hst]; rfl
            | none => simp only [] at hst ⊢; subst hst; rfl
           obtain ⟨o, tn, hn, hle, hcap, hV⟩ := hS
           rcases hV with ⟨nb, c', rfl, rfl, hc1, hc2, hc3⟩ | ⟨A', rfl, h0, hc3⟩
           ·obtain ⟨p1, p2, p3⟩ := row_tot hr hbi hlive hn hrow
            have hmin : min n len ≤ len := Nat.min_le_right _ _
            have hmin2 : min n len ≤ n := Nat.min_le_left _ _
            obtain ⟨A1, M, B, rest, q0, q1, q2, q3, q4, q5, q6, q7⟩ := setRow_write hr hbi hlive hn hrow (l0.take st ++ new.take (min n len) ++ l0.drop (st + min n len)) (by
             simp only [List.length_append, List.length_take, List.length_drop, hnl]; omega)
            have e2 : l0 = l0.take st ++ (l0.drop st).take (min n len) ++ l0.drop (st + min n len) := by
             conv => lhs; rw [← List.take_append_drop st l0, ← List.take_append_drop (min n len) (l0.drop st)]
             simp [List.drop_drop]
            have q2' := q2
            rw [e2, flat_append, flat_append, List.append_assoc] at q2'
            obtain ⟨M1, MB, eM, hM1, hMB, hM1l⟩ := q2'.split
            obtain ⟨M2, M3, eM2, hM2, hM3, hM2l⟩ := hMB.split
            subst eM2; subst eM
            rw [flat_length, List.length_take, Nat.min_eq_left (by omega)] at hM1l
            rw [flat_length, List.length_take, List.length_drop, Nat.min_eq_left (by omega)] at hM2l
            have hNN : LR (Sc.R S ρ) (flat g' (l0.take st ++ new.take (min n len) ++ l0.drop (st + min n len))) (M1 ++ N.toList ++ M3) := by
             rw [flat_append, flat_append]; exact (hM1.append rN).append hM3
            obtain ⟨k1, k2, k3⟩ := q7 _ hNN
            have hNl : N.toList.length = M2.length := by rw [hM2l]; simpa using hNs
            obtain ⟨w', j1, j2, j3⟩ := write_ok (P := P) hr hbi hlive hn (A := A1 ++ M1) (M := M2) (B := M3 ++ B) (rest := rest) (N := N.toList) (segs := setRow b.segs base g' n' (l0.take st ++ new.take (min n len) ++ l0.drop (st + min n len)))
             (by rw [q3]; simp only [List.append_assoc]) (by rw [← q4]; simp only [List.append_assoc]) hNl (LR_plain rN) (by simpa only [List.append_assoc] using k1) k2 k3
            have hoff : (A1 ++ M1).length = base + st * g'.sz := by rw [List.length_append, q1, hM1l]
            rw [hoff] at j1
            exact ⟨_, ρ, w', run _ _ w' j1, ⟨rfl, rfl⟩, j2, j3⟩
           ·subst h0
            have hm0 : min n 0 = 0 := Nat.min_zero n
            rw [hm0] at hNs
            have hN0 : N = #[] := Array.eq_empty_of_size_eq_zero (by simpa using hNs)
            subst hN0
            have hsame : setRow b.segs base g' n' (l0.take st ++ new.take (min n 0) ++ l0.drop (st + min n 0)) = b.segs := by
             have : l0.take st ++ new.take (min n 0) ++ l0.drop (st + min n 0) = l0 := by simp
             rw [this]; exact setRow_self (r := ⟨g', n', l0⟩) hrow
            refine ⟨_, ρ, w, run A' 0 w (by cases A' with
             | none => rfl
             | some a => rfl), ⟨rfl, rfl⟩, ?_, Frm.refl _ _ _ _⟩
            rw [hsame, set_self (by simpa using hbi)]; exact hr
          ·simp at he
         ·simp at he
        ·simp at he
       ·simp at he
      ·simp at he
     ·simp at he
    ·simp at he
   ·simp at he
  ·simp at he
 ·simp at he

theorem run_text : ∀ (l : List Int) (L : List Value) (acc : ByteArray), LR (Sc.R S ρ) (flat ⟨.i .u8, []⟩ l) L →
  (forIn (m := Sem) L acc fun c (s : ByteArray) => match c with
   | .int .u8 n => pure (ForInStep.yield (s.push (UInt8.ofNat n.toNat)))
   | _ => stuck "bytesToString: byte expected").run P w = .ok ⟨acc.data ++ (l.map fun n => UInt8.ofNat n.toNat).toArray⟩ w
 | [], [], acc, _ => by simp [run_pure]
 | n :: l, V :: L, acc, h => by
  have h1 : V = .int .u8 n := h.1.1
  subst h1
  rw [List.forIn_cons, run_bind_ok (show (pure (ForInStep.yield (acc.push (UInt8.ofNat n.toNat))) : Sem _).run P w = .ok _ w from rfl)]
  simp only []
  rw [run_text l L _ h.2]
  congr 1
  simp [ByteArray.push]
 | [], _ :: _, acc, h => h.elim
 | _ :: _, [], acc, h => h.elim
theorem evConvertO_ok {R : Type} {sl : List AV} {k : KA R} {r : R} {s d : TypeId} {x : Operand} (he : evConvertO P sl h k s d x = some r) :
  ∃ a v, getA sl x = some a ∧ k v h = some r ∧ ((∀ e, P.underlying s ≠ some (.slice e)) → ∀ {S : Stay} {w : World} {ρ : Rho} {X : Value}, a.R S ρ X → ∃ V, (convert s d X).run P w = .ok V w ∧ v.R S ρ V) ∧
   ∀ {S : Stay} {w : World} {ρ : Rho}, Rel S ρ h w → ∀ {X : Value}, a.R S ρ X → ∃ V, (convert s d X).run P w = .ok V w ∧ v.R S ρ V := by
 unfold evConvertO at he
 split at he
 ·rename_i a ha
  split at he
  ·rename_i e hus
   split at he
   ·rename_i n l hud hue hrows
    split at he
    ·rename_i hns
     refine ⟨a, _, ha, he, fun hno => (hno e hus).elim, fun {S w ρ} hr {X} hX => ?_⟩
     obtain ⟨hnl, hl, hro⟩ := rowsOf_ok hrows hr hX
     obtain ⟨N, rN, hNs, hN⟩ := hro n (Nat.le_refl _)
     rw [List.take_of_length_le (by omega)] at rN
     refine ⟨.string (bytesOf l), ?_, ⟨rfl, rfl⟩⟩
     have hcell : ∀ (A : Option Addr) (c : Nat), X = .slice A n c → (convert s d X).run P w = .ok (.string (bytesOf l)) w := by
      rintro A c rfl
      have hb : (Conv.bytesToString (.slice A n c)).run P w = .ok (.string (bytesOf l)) w := by
       unfold Conv.bytesToString
       cases A with
       | none =>
        have := hN w rfl
        simp only [Builtin.firstCells, run_pure, Result.ok.injEq, and_true] at this
        subst this
        obtain rfl : l = [] := by
         have := rN.length
         rw [flat_length] at this
         simp [Tag.sz] at this
         exact this
        rfl
       | some a =>
        simp only []
        have h1 : (loadCells a n).run P w = .ok N w := by simpa [Builtin.firstCells, Tag.sz] using hN w rfl
        rw [run_bind_ok h1]
        have h2 := run_text (P := P) (w := w) l N.toList ByteArray.empty rN
        rw [run_bind_ok (a := (⟨ByteArray.empty.data ++ (l.map fun n => UInt8.ofNat n.toNat).toArray⟩ : ByteArray)) (w' := w)]
        ·have : (⟨ByteArray.empty.data ++ (l.map fun n => UInt8.ofNat n.toNat).toArray⟩ : ByteArray) = bytesOf l := by unfold bytesOf; congr 1; simp
         rw [this]; rfl
        ·rw [← h2, ← Array.forIn_toList]
         congr 1
      unfold convert
      rw [run_bind_ok (run_underlying hus), run_bind_ok (run_underlying hud)]
      cases A with
      | none => simp only []; rw [run_bind_ok (run_underlying hue)]; exact hb
      | some A => simp only []; rw [run_bind_ok (run_underlying hue)]; exact hb
     unfold rowsOf at hrows
     simp only [nth_eq] at hrows
     split at hrows
     ·simp at hrows; obtain ⟨rfl, rfl⟩ := hrows
      exact hcell _ _ hX.1
     ·split at hrows
      ·split at hrows
       ·split at hrows
        ·split at hrows
         ·split at hrows
          ·simp only [Option.some.injEq, Prod.mk.injEq] at hrows
           obtain ⟨rfl, _⟩ := hrows
           obtain ⟨o, tn, hn, hle, hcap, hV⟩ := hX
           rcases hV with ⟨nb, c', rfl, e1, _⟩ | ⟨A', e1, rfl, _⟩
           ·exact hcell _ _ e1
           ·exact hcell _ _ e1
          ·simp at hrows
         ·simp at hrows
        ·simp at hrows
       ·simp at hrows
      ·simp at hrows
     ·split at hrows
      ·rename_i l' hl'
       obtain ⟨e0, e1⟩ := castL_ok hl'
       simp only [Option.some.injEq, Prod.mk.injEq] at hrows
       obtain ⟨A, c, e2, _⟩ := hX
       have : l'.length = n := hrows.1
       subst e0; subst l'
       simp only at this
       rw [this] at e2
       exact hcell A c e2
      ·simp at hrows
     ·simp [notStr] at hns
     ·simp at hrows
    ·simp at he
   ·simp at he
  ·rename_i hno
   split at he
   ·rename_i v hv
    split at he
    ·rename_i V hV
     split at he
     ·rename_i u hu
      have key : ∀ {S : Stay} {w : World} {ρ : Rho} {X : Value}, a.R S ρ X → ∃ V, (convert s d X).run P w = .ok V w ∧ u.R S ρ V := by
       intro S w ρ X hX
       obtain rfl := AV.val?_R hv hX
       exact ⟨V, pureRun_ok _ hV w, AV.of?_R hu⟩
      exact ⟨a, u, ha, he, fun _ => key, fun {S w ρ} _ {X} hX => key hX⟩
     ·simp at he
    ·simp at he
   ·simp at he
 ·simp at he
end
end

section
open Go.RowKit
/-! ### The evaluator is right: operations -/
def callable (P : Program) (g : FuncId) : Prop := ∃ fn, P.funcs[g]? = some fn ∧ (fn.name == "runtime.NumGoroutine") = false ∧ fn.body.isNone = false
def CallGoes (P : Program) (g : FuncId) (args : List AV) (h : List Blk) (rv : AV) (h' : List Blk) : Prop :=
 callable P g ∧ ∀ (S : Stay) (ρ : Rho) (w : World) (A : List Value), Rel S ρ h w → LR (AV.R S ρ) args A →
  Calls P g A.toArray w fun e w' => ∃ S' ρ' V, e = .returned V ∧ rv.R S' ρ' V ∧ Rel S' ρ' h' w' ∧ Frx S S' ρ ρ' w w'
def CallOK (P : Program) {R : Type} (call : FuncId → List AV → List Blk → KA R → Option R) : Prop :=
 ∀ g args h k r, call g args h k = some r → ∃ rv h', k rv h' = some r ∧ Ext h.length h h' ∧ h.length ≤ h'.length ∧ CallGoes P g args h rv h'

section
variable {P : Program} {S : Stay} {w : World} {ρ : Rho} {h : List Blk} {R : Type}

theorem wp_value {o : Oper} {a : Act} {V : Value} {w' : World} {next : Act → World → Prop} {Q : Exit → Act → World → Prop}
  (hrun : (execOp a.eval o).run P w = .ok (.value V) w') (hn : next (a.put o.dst V) w') : o.wp P a w next Q := by
 unfold Oper.wp; rw [hrun]; exact hn
theorem wp_skip' {o : Oper} {a : Act} {w' : World} {next : Act → World → Prop} {Q : Exit → Act → World → Prop}
  (hrun : (execOp a.eval o).run P w = .ok .skip w') (hn : next (a.put o.dst undef) w') : o.wp P a w next Q := by
 unfold Oper.wp; rw [hrun]; exact hn
theorem run_v {s : Sem Value} {V : Value} {w' : World} (hs : s.run P w = .ok V w') : (do pure (Next.value (← s)) : Sem Next).run P w = .ok (.value V) w' := by
 rw [run_bind_ok hs]; rfl

def OpGoes (P : Program) (o : Oper) (a : Act) (S : Stay) (ρ : Rho) (w : World) (av : AV) (h' : List Blk) : Prop :=
 ∀ (next : Act → World → Prop) (Q : Exit → Act → World → Prop), (∀ V S' ρ' w', av.R S' ρ' V → Rel S' ρ' h' w' → Frx S S' ρ ρ' w w' → next (a.put o.dst V) w') → o.wp P a w next Q

theorem goes_value {o : Oper} {a : Act} {av : AV} {V : Value} (hr : Rel S ρ h w) (hrun : (execOp a.eval o).run P w = .ok (.value V) w) (r : av.R S ρ V) : OpGoes P o a S ρ w av h :=
 fun _ _ hn => wp_value hrun (hn V S ρ w r hr (Frm.refl _ _ _ _))
theorem goes_world {o : Oper} {a : Act} {av : AV} {V : Value} {h' : List Blk} {ρ' : Rho} {w' : World} (hrun : (execOp a.eval o).run P w = .ok (.value V) w') (r : av.R S ρ' V) (hr : Rel S ρ' h' w') (hf : Frx S S ρ ρ' w w') : OpGoes P o a S ρ w av h' :=
 fun _ _ hn => wp_value hrun (hn V S ρ' w' r hr hf)

def OpR (S : Stay) (ρ : Rho) (sl : List AV) (xs : List Operand) (a : Act) : Prop := ∀ x ∈ xs, ∀ v, getA sl x = some v → v.R S ρ (a.eval x)
theorem SlR.op {sl : List AV} {a : Act} (hs : SlR S ρ sl a) (xs : List Operand) : OpR S ρ sl xs a := fun _ _ _ hv => getA_R hs hv
theorem getAs_op {sl : List AV} {a : Act} : ∀ {l : List Operand} {m : List AV}, OpR S ρ sl l a → getAs sl l = some m → LR (AV.R S ρ) m (l.map a.eval)
 | [], m, _, h => by simp [getAs] at h; subst h; trivial
 | x :: l, m, hs, h => by
  simp only [getAs] at h
  split at h
  ·rename_i v hv
   split at h
   ·rename_i m' hm'
    simp at h; subst h
    exact ⟨hs x (by simp) v hv, getAs_op (fun y hy => hs y (by simp [hy])) hm'⟩
   ·simp at h
  ·simp at h
theorem getPs_op {sl : List AV} {a : Act} : ∀ {l : List (Nat × Operand)} {m : List (Nat × AV)}, OpR S ρ sl (l.map (·.2)) a → getPs sl l = some m → PsR S ρ m (l.map fun (i, x) => (i, a.eval x))
 | [], m, _, h => by simp [getPs] at h; subst h; trivial
 | (i, x) :: l, m, hs, h => by
  simp only [getPs] at h
  split at h
  ·rename_i v hv
   split at h
   ·rename_i m' hm'
    simp at h; subst h
    exact ⟨⟨rfl, hs x (by simp) v hv⟩, getPs_op (fun y hy => hs y (by simp only [List.map_cons, List.mem_cons]; exact .inr hy)) hm'⟩
   ·simp at h
  ·simp at h
theorem optA_op {sl : List AV} {a : Act} {o : Option Operand} (hs : OpR S ρ sl o.toList a) {v : Option AV} (h : optA sl o = some v) : OptR S ρ v (o.map a.eval) := by
 cases o with
 | none => simp [optA] at h; subst h; trivial
 | some x =>
  simp only [optA] at h
  split at h
  ·rename_i u hu
   simp at h; subst h
   exact hs x (by simp) u hu
  ·simp at h

theorem caps_AV : ∀ {caps : List (Nat × Nat)} {L : List Value}, LR (PR ρ) caps L → LR (AV.R S ρ) (caps.map fun x => .one (.c (.p x.1 x.2))) L
 | [], [], _ => trivial
 | [], _ :: _, h => h.elim
 | _ :: _, [], h => h.elim
 | x :: caps, V :: L, h => ⟨h.1, caps_AV h.2⟩

theorem avals?_R : ∀ {l : List AV} {m L : List Value}, avals? l = some m → LR (AV.R S ρ) l L → L = m
 | [], m, L, h, r => by cases L with
  | nil => simp [avals?] at h; exact h.symm
  | cons _ _ => exact r.elim
 | s :: l, m, L, h, r => by
  cases L with
  | nil => exact r.elim
  | cons V L =>
   simp only [avals?] at h
   split at h
   ·rename_i x hx
    split at h
    ·rename_i m' hm'
     simp at h; subst h
     rw [AV.val?_R hx r.1, avals?_R hm' r.2]
    ·simp at h
   ·simp at h

theorem evBuiltin_ok {b : Builtin} {tys : Array TypeId} {ty : TypeId} {consts : Array Bool} {args : List AV} {k : KA R} {r : R} (he : evBuiltin P b tys ty consts args h k = some r) :
  ∃ v h', k v h' = some r ∧ Ext h.length h h' ∧ h.length ≤ h'.length ∧ ∀ {S : Stay} {w : World} {ρ : Rho}, Rel S ρ h w → ∀ {A : List Value}, LR (AV.R S ρ) args A →
   ∃ V ρ' w', (builtin b tys ty consts A.toArray).run P w = .ok (.value V) w' ∧ v.R S ρ' V ∧ Rel S ρ' h' w' ∧ Frx S S ρ ρ' w w' := by
 unfold evBuiltin at he
 split at he
 ·rename_i s x
  obtain ⟨v, h', hk, hx, hle, hgo⟩ := evAppend_ok (ty := ty) he
  refine ⟨v, h', hk, hx, hle, fun {S w ρ} hr {A} hA => ?_⟩
  match A, hA with
  | [B, X], hA =>
   obtain ⟨V, ρ', w', hrun, rV, hr', hf⟩ := hgo hr hA.1 hA.2.1
   exact ⟨V, ρ', w', run_v hrun, rV, hr', hf⟩
  | [], hA => exact hA.elim
  | [_], hA => exact hA.2.elim
  | _ :: _ :: _ :: _, hA => exact hA.2.2.elim
 ·rename_i s x
  obtain ⟨v, h', hk, hx, hle, hgo⟩ := evCopy_ok (ty := ty) he
  refine ⟨v, h', hk, hx, hle, fun {S w ρ} hr {A} hA => ?_⟩
  match A, hA with
  | [B, X], hA =>
   obtain ⟨V, ρ', w', hrun, rV, hr', hf⟩ := hgo hr hA.1 hA.2.1
   exact ⟨V, ρ', w', run_v hrun, rV, hr', hf⟩
  | [], hA => exact hA.elim
  | [_], hA => exact hA.2.elim
  | _ :: _ :: _ :: _, hA => exact hA.2.2.elim
 ·rename_i i base es st len cap
  split at he
  ·rename_i t ht
   split at he
   ·rename_i e hu
    refine ⟨_, h, he, Ext.refl _ _, Nat.le_refl _, fun {S w ρ} hr {A} hA => ?_⟩
    match A, hA with
    | [B], hA =>
     have key : ∀ (A : Option Addr) (c : Nat), B = .slice A len c → (builtin .len tys ty consts [B].toArray).run P w = .ok (.value (.int .i64 len)) w := by
      rintro A c rfl
      refine run_v ?_
      unfold Builtin.len_
      simp only [ht, List.getElem?_toArray, List.getElem?_cons_zero]
      rw [run_bind_ok (run_underlying hu)]; rfl
     obtain ⟨o, tn, _, _, _, hV⟩ := hA.1
     rcases hV with ⟨b, c, _, e1, _⟩ | ⟨A', e1, rfl, _⟩
     ·exact ⟨.int .i64 len, ρ, w, key _ _ e1, ⟨rfl, rfl⟩, hr, Frm.refl _ _ _ _⟩
     ·exact ⟨.int .i64 _, ρ, w, key _ _ e1, ⟨rfl, rfl⟩, hr, Frm.refl _ _ _ _⟩
    | [], hA => exact hA.elim
    | _ :: _ :: _, hA => exact hA.2.elim
   ·simp at he
  ·simp at he
 ·rename_i g l
  split at he
  ·rename_i t ht
   split at he
   ·rename_i e hu
    refine ⟨_, h, he, Ext.refl _ _, Nat.le_refl _, fun {S w ρ} hr {A} hA => ?_⟩
    match A, hA with
    | [B], hA =>
     obtain ⟨A', c, rfl, _⟩ := hA.1
     refine ⟨.int .i64 l.length, ρ, w, ?_, ⟨rfl, rfl⟩, hr, Frm.refl _ _ _ _⟩
     refine run_v ?_
     unfold Builtin.len_
     simp only [ht, List.getElem?_toArray, List.getElem?_cons_zero]
     rw [run_bind_ok (run_underlying hu)]; rfl
    | [], hA => exact hA.elim
    | _ :: _ :: _, hA => exact hA.2.elim
   ·simp at he
  ·simp at he
 ·rename_i i x i' y
  refine ⟨_, h, he, Ext.refl _ _, Nat.le_refl _, fun {S w ρ} hr {A} hA => ?_⟩
  match A, hA with
  | [B, X], hA =>
   obtain ⟨rfl, _⟩ := hA.1
   obtain ⟨rfl, _⟩ := hA.2.1
   exact ⟨.int i (if y < x then y else x), ρ, w, run_v rfl, ⟨rfl, rfl⟩, hr, Frm.refl _ _ _ _⟩
  | [], hA => exact hA.elim
  | [_], hA => exact hA.2.elim
  | _ :: _ :: _ :: _, hA => exact hA.2.2.elim
 ·rename_i i x i' y
  refine ⟨_, h, he, Ext.refl _ _, Nat.le_refl _, fun {S w ρ} hr {A} hA => ?_⟩
  match A, hA with
  | [B, X], hA =>
   obtain ⟨rfl, _⟩ := hA.1
   obtain ⟨rfl, _⟩ := hA.2.1
   exact ⟨.int i (if y > x then y else x), ρ, w, run_v rfl, ⟨rfl, rfl⟩, hr, Frm.refl _ _ _ _⟩
  | [], hA => exact hA.elim
  | [_], hA => exact hA.2.elim
  | _ :: _ :: _ :: _, hA => exact hA.2.2.elim
 ·split at he
  ·rename_i vs hvs
   split at he
   ·rename_i nx hnx
    split at he
    ·rename_i v hv
     unfold nextVal at hv
     split at hv
     ·rename_i V
      refine ⟨v, h, he, Ext.refl _ _, Nat.le_refl _, fun {S w ρ} hr {A} hA => ?_⟩
      obtain rfl := avals?_R hvs hA
      exact ⟨V, ρ, w, pureRun_ok _ hnx w, AV.of?_R hv, hr, Frm.refl _ _ _ _⟩
     ·simp at hv
    ·simp at he
   ·simp at he
  ·simp at he

theorem frzA_ok {x v v' : AV} {h1 : List Blk} (he : frzA h x v = some (v', h1)) : Ext h.length h h1 ∧ h1.length = h.length ∧ ∀ {S : Stay} {ρ : Rho} {w : World}, Rel S ρ h w → ∀ {V : Value}, v.R S ρ V → ∃ S', Rel S' ρ h1 w ∧ Frx S S' ρ ρ w w ∧ v'.R S' ρ V := by
 unfold frzA at he
 simp only [nth_eq, setN_eq] at he
 split at he
 ·rename_i i base _ _ _ _ j
  split at he
  ·rename_i b c hb hc
   split at he
   ·split at he
    ·rename_i hcond
     split at he
     ·rename_i cs hcs
      split at he
      ·rename_i y hy
       simp only [Option.some.injEq, Prod.mk.injEq] at he
       obtain ⟨rfl, rfl⟩ := he
       refine ⟨Ext.set _ hc hcond.2, by simp, fun {S ρ w} hr {V} hV => ?_⟩
       obtain ⟨n, t, hn, rfl⟩ := hV
       obtain ⟨S', hS, hSn, hr', hf⟩ := hr.freeze hc hcond.1 hn
       obtain ⟨L, rest, hL, ho, htot, hokk, hext⟩ := hr.blkAt hc hcond.1 hn
       simp only [Blk.cells, cellsOf_ok hcs, den_cells] at hL
       refine ⟨S', hr', hf, n, 0, rfl, vid_at.2 ⟨L, (enc_R.1 (dec_R hy hL)).le hS, fun q U hq => ?_⟩⟩
       unfold scell
       rw [hSn, ho]
       simp only [List.getElem?_toArray, Nat.zero_add]
       exact get_prefix hq
      ·simp at he
     ·simp at he
    ·simp at he
   ·simp at he
  ·simp at he
 ·simp at he
theorem evOp_ok {call : FuncId → List AV → List Blk → KA R → Option R} (hc : CallOK P call) {o : Oper} {sl : List AV} {k : KA R} {r : R}
  (he : evOp P call o sl h k = some r) : ∃ av h', k av h' = some r ∧ Ext h.length h h' ∧ h.length ≤ h'.length ∧ ∀ {S : Stay} {ρ : Rho} {w : World} {a : Act}, Rel S ρ h w → OpR S ρ sl o.op.operands.toList a → OpGoes P o a S ρ w av h' := by
 unfold evOp at he
 split at he
 ·
  rename_i x hop
  unfold evMoveO at he
  split at he
  ·rename_i v hv
   exact ⟨v, h, he, Ext.refl _ _, Nat.le_refl _, fun {S ρ w a} hr hs => goes_value hr (by simp only [execOp, hop]; rfl) (hs _ (by simp [hop, Op.operands, Call.operands]) _ hv)⟩
  ·simp at he
 ·
  rename_i x hop
  unfold evAssignO at he
  split at he
  ·rename_i v hv
   exact ⟨v, h, he, Ext.refl _ _, Nat.le_refl _, fun {S ρ w a} hr hs => goes_value hr (by simp only [execOp, hop]; rfl) (hs _ (by simp [hop, Op.operands, Call.operands]) _ hv)⟩
  ·simp at he
 ·
  rename_i c x y hop
  unfold evPickO at he
  split at he
  ·rename_i t vx vy hc' hx hy
   have hrun : ∀ {S : Stay} {ρ : Rho} {w : World} {a : Act}, OpR S ρ sl o.op.operands.toList a → ∀ b, t = b → (execOp a.eval o).run P w = .ok (.value (if b then a.eval x else a.eval y)) w := by
    intro S ρ w a hs b hb
    obtain ⟨e, _⟩ := hs _ (by simp [hop, Op.operands, Call.operands]) _ hc'
    simp only [execOp, hop, e]; rw [run_bind_ok (show (asBool _).run P w = .ok t w from rfl), hb]; rfl
   split at he
   ·rename_i ht
    exact ⟨vx, h, he, Ext.refl _ _, Nat.le_refl _, fun {S ρ w a} hr hs => goes_value hr (hrun hs true ht) (hs _ (by simp [hop, Op.operands, Call.operands]) _ hx)⟩
   ·rename_i ht
    exact ⟨vy, h, he, Ext.refl _ _, Nat.le_refl _, fun {S ρ w a} hr hs => goes_value hr (hrun hs false (by simpa using ht)) (hs _ (by simp [hop, Op.operands, Call.operands]) _ hy)⟩
  ·simp at he
 ·
  rename_i t hop
  unfold evAllocO at he
  split at he
  ·rename_i L hL
   split at he
   ·rename_i z hz
    refine ⟨_, _, he, Ext.append _ _ _, by simp, fun {S ρ w a} hr hs => ?_⟩
    obtain ⟨Z, hZ, hZl⟩ := run_zeroL (w := w) hL
    obtain ⟨hok, rZ⟩ := zSegs_R hz
    obtain ⟨X, ρ', w', hrun, rX, hr', hf⟩ := evNew_ok (P := P) (t := t) hr hok (V := Z) (by rw [hZl]; exact rZ)
    refine goes_world (V := .pointer (some X)) ?_ rX hr' hf
    simp only [execOp, hop]
    refine run_v ?_
    unfold Instr.alloc
    rw [run_bind_ok hZ]
    simp only []
    rw [run_bind_ok hrun]; rfl
   ·simp at he
  ·simp at he
 ·
  rename_i t x hop
  unfold evBoxO at he
  have key : ∀ (v : AV) (segs : List Seg), segsOK segs → (∀ {S : Stay} {ρ : Rho} {V : Value}, v.R S ρ V → LR (Sc.R S ρ) (den segs) V.cells.toList) → getA sl x = some v → evNew t segs h k = some r →
    ∃ av h', k av h' = some r ∧ Ext h.length h h' ∧ h.length ≤ h'.length ∧ ∀ {S : Stay} {ρ : Rho} {w : World} {a : Act}, Rel S ρ h w → OpR S ρ sl o.op.operands.toList a → OpGoes P o a S ρ w av h' := by
   intro v segs hok hR hv he
   refine ⟨_, _, he, Ext.append _ _ _, by simp, fun {S ρ w a} hr hs => ?_⟩
   obtain ⟨X, ρ', w', hrun, rX, hr', hf⟩ := evNew_ok (P := P) (t := t) hr hok (hR (hs _ (by simp [hop, Op.operands, Call.operands]) _ hv))
   refine goes_world (V := .pointer (some X)) ?_ rX hr' hf
   simp only [execOp, hop]
   refine run_v ?_
   unfold Instr.box
   rw [run_bind_ok hrun]; rfl
  split at he
  ·rename_i s hv
   exact key _ _ (segsOK_c.2 segsOK_nil) (fun {S ρ V} r => by rw [cells_plain (Sc.R_plain r)]; exact ⟨r, trivial⟩) hv he
  ·rename_i cs hv
   split at he
   ·rename_i z hz
    obtain ⟨hok, hR⟩ := toSegs_R hz
    exact key _ _ hok (fun {S ρ V} r => by obtain ⟨L, hL, rfl⟩ := r; exact hR hL) hv he
   ·simp at he
  ·rename_i g n l hv
   by_cases hl : l.length = n
   ·exact key _ _ (segsOK_r.2 ⟨hl, segsOK_nil⟩) (fun {S ρ V} r => by obtain ⟨_, L, hL, rfl⟩ := r; simpa [den, Seg.den, Value.cells] using hL) hv he
   ·refine ⟨_, _, he, Ext.append _ _ _, by simp, fun {S ρ w a} hr hs => ?_⟩
    exact (hl (hs _ (by simp [hop, Op.operands, Call.operands]) _ hv).1).elim
  ·simp at he
 ·
  rename_i t parts hop
  unfold evBuildO at he
  split at he
  ·rename_i ps hps
   split at he
   ·rename_i v hv
    refine ⟨v, h, he, Ext.refl _ _, Nat.le_refl _, fun {S ρ w a} hr hs => ?_⟩
    have hp := getPs_op (fun y hy => hs y (by simp only [hop, Op.operands]; simpa using hy)) hps
    obtain ⟨V, hrun, rV⟩ := evBuild_ok (P := P) (w := w) hv (vs := parts.map fun (i, x) => (i, a.eval x)) (by simpa using hp)
    refine goes_value hr ?_ rV
    simp only [execOp, hop]
    exact run_v hrun
   ·simp at he
  ·simp at he
 ·
  rename_i t x hop
  unfold evLoadO at he
  split at he
  ·rename_i v hv
   obtain ⟨u, hk, hgo⟩ := evLoad_ok he
   refine ⟨u, h, hk, Ext.refl _ _, Nat.le_refl _, fun {S ρ w a} hr hs => ?_⟩
   obtain ⟨V, hrun, rV⟩ := hgo hr (hs _ (by simp [hop, Op.operands, Call.operands]) _ hv)
   refine goes_value hr ?_ rV
   simp only [execOp, hop]
   exact run_v hrun
  ·simp at he
 ·
  rename_i t x y hop
  unfold evStoreO at he
  split at he
  ·rename_i vx vy hx hy
   split at he
   ·rename_i b' h1 hfz
    obtain ⟨hxt1, hl1, hgo1⟩ := frzA_ok hfz
    split at he
    ·rename_i h' hst
     obtain ⟨i0, b0, b1, _, _, hset, _⟩ := evStore_set hst
     refine ⟨undefA, h', he, fun i x hi hx hr => (show Ext h1.length h1 h' from evStore_ext hst) i x (by omega) (hxt1 i x hi hx hr) hr, by rw [hset]; simp; omega, fun {S ρ w a} hr hs => ?_⟩
     obtain ⟨S1, hr1, hf1, rB⟩ := hgo1 hr (hs _ (by simp [hop, Op.operands, Call.operands]) _ hy)
     obtain ⟨w', hrun, hr', hf⟩ := evStore_ok hr1 hst ((hs _ (by simp [hop, Op.operands, Call.operands]) _ hx).of hf1.sle fun _ _ e => e) rB
     refine fun next Q hn => wp_skip' (w' := w') ?_ (hn undef S1 ρ w' (undefA_R S1 ρ) hr' (Frx.trans hf1 hf))
     simp only [execOp, hop]
     rw [run_bind_ok hrun]; rfl
    ·simp at he
   split at he
   ·rename_i h' hst
    obtain ⟨i0, b0, b1, _, _, hset, _⟩ := evStore_set hst
    refine ⟨undefA, h', he, evStore_ext hst, by rw [hset]; simp, fun {S ρ w a} hr hs => ?_⟩
    obtain ⟨w', hrun, hr', hf⟩ := evStore_ok hr hst (hs _ (by simp [hop, Op.operands, Call.operands]) _ hx) (hs _ (by simp [hop, Op.operands, Call.operands]) _ hy)
    refine fun next Q hn => wp_skip' (w' := w') ?_ (hn undef S ρ w' (undefA_R S ρ) hr' hf)
    simp only [execOp, hop]
    rw [run_bind_ok hrun]; rfl
   ·simp at he
  ·simp at he
 ·
  rename_i x hop
  unfold evNilCheckO at he
  have key : ∀ (v : AV), getA sl x = some v → k v h = some r → (∀ {S : Stay} {ρ : Rho} {V : Value}, v.R S ρ V → ∃ a, V = .pointer (some a)) →
    ∃ av h', k av h' = some r ∧ Ext h.length h h' ∧ h.length ≤ h'.length ∧ ∀ {S : Stay} {ρ : Rho} {w : World} {a : Act}, Rel S ρ h w → OpR S ρ sl o.op.operands.toList a → OpGoes P o a S ρ w av h' := by
   intro v hv he hp
   refine ⟨_, h, he, Ext.refl _ _, Nat.le_refl _, fun {S ρ w a} hr hs => ?_⟩
   have rV := hs _ (by simp [hop, Op.operands, Call.operands]) _ hv
   refine goes_value (V := a.eval x) hr ?_ rV
   obtain ⟨p, e⟩ := hp rV
   simp only [execOp, hop, e]; rfl
  split at he
  ·rename_i i off hv
   exact key _ hv he fun {S ρ V} r => by obtain ⟨b, tb, hb, e⟩ := r; exact ⟨_, e⟩
  ·rename_i i base es idx off bd hv
   exact key _ hv he fun {S ρ V} r => by obtain ⟨b, tb, hb, _, e⟩ := r; exact ⟨_, e⟩
  ·rename_i g y off hv
   exact key _ hv he fun {S ρ V} r => by obtain ⟨b, tb, e, _⟩ := r; exact ⟨_, e⟩
  ·rename_i x hv
   split at he
   ·rename_i hs
    exact key _ hv he fun {S ρ V} r => by
     cases x with
     | none => simp at hs
     | some y => obtain ⟨b, tb, e, _⟩ := r; exact ⟨_, e⟩
   ·simp at he
  ·simp at he
 ·
  rename_i op t x y yt hop
  unfold evBinOpO at he
  split at he
  ·rename_i vx vy hx hy
   obtain ⟨u, hu, he⟩ := evBin2K_some P he
   ·refine ⟨u, h, he, Ext.refl _ _, Nat.le_refl _, fun {S ρ w a} hr hs => ?_⟩
    obtain ⟨V, hrun, rV⟩ := evBin2_ok (w := w) hu (hs _ (by simp [hop, Op.operands, Call.operands]) _ hx) (hs _ (by simp [hop, Op.operands, Call.operands]) _ hy)
    refine goes_value (V := V) hr ?_ rV
    simp only [execOp, hop]
    exact run_v hrun
  ·simp at he
 ·
  rename_i op t x hop
  unfold evUnOpO at he
  split at he
  ·rename_i vx hx
   split at he
   ·rename_i kk n ha
    refine ⟨_, h, he, Ext.refl _ _, Nat.le_refl _, fun {S ρ w a} hr hs => ?_⟩
    have ex := asI_R ha (hs _ (by simp [hop, Op.operands, Call.operands]) _ hx)
    refine goes_value (V := .int kk (bits .xor kk (if kk.signed = true then -1 else kk.max) n)) hr ?_ ⟨rfl, rfl⟩
    simp only [execOp, hop, ex]
    exact run_v (by simp [Op.unary, Op.intBits, bits, run_pure])
   ·rename_i kk n ha
    refine ⟨_, h, he, Ext.refl _ _, Nat.le_refl _, fun {S ρ w a} hr hs => ?_⟩
    have ex := asI_R ha (hs _ (by simp [hop, Op.operands, Call.operands]) _ hx)
    refine goes_value (V := .int kk (kk.wrap (0 - n))) hr ?_ ⟨rfl, rfl⟩
    simp only [execOp, hop, ex]
    exact run_v (by simp [Op.unary, Op.intArith, run_pure])
   ·
    split at he
    ·rename_i X hX
     split at he
     ·rename_i V hV
      split at he
      ·rename_i u hu
       refine ⟨u, h, he, Ext.refl _ _, Nat.le_refl _, fun {S ρ w a} hr hs => ?_⟩
       have ex := AV.val?_R hX (hs _ (by simp [hop, Op.operands, Call.operands]) _ hx)
       refine goes_value (V := V) hr ?_ (AV.of?_R hu)
       simp only [execOp, hop, ex]
       exact run_v (pureRun_ok _ hV w)
      ·simp at he
     ·simp at he
    ·simp at he
  ·simp at he
 ·
  rename_i s d x hop
  obtain ⟨vx, u, hx, hk, _, hgo⟩ := evConvertO_ok he
  refine ⟨u, h, hk, Ext.refl _ _, Nat.le_refl _, fun {S ρ w a} hr hs => ?_⟩
  obtain ⟨V, hrun, rV⟩ := hgo hr (hs _ (by simp [hop, Op.operands, Call.operands]) _ hx)
  refine goes_value (V := V) hr ?_ rV
  simp only [execOp, hop]
  exact run_v hrun
 ·
  rename_i s x f hop
  unfold evFieldAddrO at he
  split at he
  ·rename_i v hv
   split at he
   ·rename_i u hu
    refine ⟨u, h, he, Ext.refl _ _, Nat.le_refl _, fun {S ρ w a} hr hs => ?_⟩
    obtain ⟨V, hrun, rV⟩ := evFieldAddr_ok (w := w) hu (hs _ (by simp [hop, Op.operands, Call.operands]) _ hv)
    refine goes_value hr ?_ rV
    simp only [execOp, hop]
    exact run_v hrun
   ·simp at he
  ·simp at he
 ·
  rename_i s x f hop
  unfold evFieldO at he
  split at he
  ·rename_i v hv
   split at he
   ·rename_i u hu
    refine ⟨u, h, he, Ext.refl _ _, Nat.le_refl _, fun {S ρ w a} hr hs => ?_⟩
    obtain ⟨V, hrun, rV⟩ := evField_ok (w := w) hu (hs _ (by simp [hop, Op.operands, Call.operands]) _ hv)
    refine goes_value hr ?_ rV
    simp only [execOp, hop]
    exact run_v hrun
   ·simp at he
  ·simp at he
 ·
  rename_i t x i hop
  unfold evIndexAddrO at he
  split at he
  ·rename_i vx vi hx hi
   obtain ⟨u, hk, hgo⟩ := evIndexAddr_ok he
   refine ⟨u, h, hk, Ext.refl _ _, Nat.le_refl _, fun {S ρ w a} hr hs => ?_⟩
   obtain ⟨V, hrun, rV⟩ := hgo (w := w) (hs _ (by simp [hop, Op.operands, Call.operands]) _ hx) (hs _ (by simp [hop, Op.operands, Call.operands]) _ hi)
   refine goes_value hr ?_ rV
   simp only [execOp, hop]
   exact run_v hrun
  ·simp at he
 ·
  rename_i t x i hop
  unfold evIndexO at he
  split at he
  ·rename_i vx vi hx hi
   obtain ⟨u, hk, hgo⟩ := evIndex_ok he
   refine ⟨u, h, hk, Ext.refl _ _, Nat.le_refl _, fun {S ρ w a} hr hs => ?_⟩
   obtain ⟨V, hrun, rV⟩ := hgo (w := w) (hs _ (by simp [hop, Op.operands, Call.operands]) _ hx) (hs _ (by simp [hop, Op.operands, Call.operands]) _ hi)
   refine goes_value hr ?_ rV
   simp only [execOp, hop]
   exact run_v hrun
  ·simp at he
 ·
  rename_i x i hop
  unfold evExtractO at he
  split at he
  ·rename_i v hv
   split at he
   ·rename_i u hu
    refine ⟨u, h, he, Ext.refl _ _, Nat.le_refl _, fun {S ρ w a} hr hs => ?_⟩
    obtain ⟨V, hrun, rV⟩ := evExtract_ok (P := P) (w := w) hu (hs _ (by simp [hop, Op.operands, Call.operands]) _ hv)
    refine goes_value hr ?_ rV
    simp only [execOp, hop]
    exact run_v hrun
   ·simp at he
  ·simp at he
 ·
  rename_i g first caps hop
  unfold evMakeFuncO at he
  split at he
  ·rename_i hf
   split at he
   ·rename_i l hl
    split at he
    ·rename_i cs hcs
     refine ⟨_, h, he, Ext.refl _ _, Nat.le_refl _, fun {S ρ w a} hr hs => ?_⟩
     have rL := capsOf_R hcs (getAs_op (fun y hy => hs y (by simp only [hop, Op.operands, Call.operands]; first | simpa using hy | (simp; right; simpa using hy))) hl)
     refine goes_value (V := .func (.func g) #[] (caps.map a.eval)) hr ?_ ⟨_, rL, by congr 1; apply Array.toList_inj.1; simp⟩
     have hf' : first = #[] := Array.eq_empty_of_size_eq_zero hf
     have he0 : (#[] : Array Operand).map a.eval = #[] := by simp
     simp only [execOp, hop, hf', he0]
     exact run_v rfl
    ·simp at he
   ·simp at he
  ·simp at he
 ·
  rename_i f args tys hop
  unfold evCallO at he
  split at he
  ·rename_i g caps l hf hl
   obtain ⟨rv, h', hk, hx, hle, ⟨fn, hfn, hname, hbody⟩, hspec⟩ := hc _ _ _ _ _ he
   refine ⟨rv, h', hk, hx, hle, fun {S ρ w a} hr hs => ?_⟩
   obtain ⟨L, hL, e⟩ := hs _ (by simp [hop, Op.operands, Call.operands]) _ hf
   have rA : LR (AV.R S ρ) (l ++ caps.map fun x => .one (.c (.p x.1 x.2))) (args.toList.map a.eval ++ L) := (getAs_op (fun y hy => hs y (by simp only [hop, Op.operands, Call.operands]; first | simpa using hy | (simp; right; simpa using hy))) hl).append (caps_AV hL)
   have hcall := hspec S ρ w _ hr rA
   have hrun : (execOp a.eval o).run P w = .ok (.enter g (args.toList.map a.eval ++ L).toArray) w := by
    simp only [execOp, hop]
    have hres : (resolve a.eval { callee := .value f, args, argTypes := tys } o.type).run P w = .ok { target := .fn (.func g) L.toArray, args := #[] ++ args.map a.eval } w := by
     simp only [resolve, e]; rfl
    rw [run_bind_ok hres]
    simp only [invoke, callFunc]
    rw [run_bind_ok (show (program).run P w = .ok P w from rfl)]
    simp only [hfn, hname, hbody, Bool.false_eq_true, if_false]
    rw [run_pure]
    congr 2
    apply Array.toList_inj.1
    simp
   intro next Q hn
   unfold Oper.wp
   rw [hrun]
   refine hcall.mono ?_
   rintro e' w' ⟨S', ρ', V, rfl, rV, hr', hf'⟩
   exact hn V S' ρ' w' rV hr' hf'
  ·simp at he
 ·
  rename_i x name args tys hop
  unfold evInvokeO at he
  split at he
  ·rename_i t v l hx hl
   split at he
   ·rename_i g rv0 hm
    split at he
    ·rename_i a0 ha0
     obtain ⟨rv, h', hk, hxt, hle, ⟨fn, hfn, hname, hbody⟩, hspec⟩ := hc _ _ _ _ _ he
     refine ⟨rv, h', hk, hxt, hle, fun {S ρ w a} hr hs => ?_⟩
     obtain ⟨e, _⟩ := hs _ (by simp [hop, Op.operands, Call.operands]) _ hx
     have rA : LR (AV.R S ρ) (a0 :: l) (rv0 :: args.toList.map a.eval) := ⟨AV.of?_R ha0, getAs_op (fun y hy => hs y (by simp only [hop, Op.operands, Call.operands]; first | simpa using hy | (simp; right; simpa using hy))) hl⟩
     have hcall := hspec S ρ w _ hr rA
     have hrun : (execOp a.eval o).run P w = .ok (.enter g (rv0 :: args.toList.map a.eval).toArray) w := by
      simp only [execOp, hop]
      have hres : (resolve a.eval { callee := .invoke x name, args, argTypes := tys } o.type).run P w = .ok { target := .fn (.method name) #[], args := #[.iface t v] ++ args.map a.eval } w := by
       simp only [resolve, e]; rfl
      rw [run_bind_ok hres]
      have e0 : (#[Value.iface t v] ++ args.map a.eval)[0]? = some (.iface t v) := by
       rw [Array.getElem?_append_left (by simp)]; rfl
      have e1 : (#[Value.iface t v] ++ args.map a.eval).extract 1 (#[Value.iface t v] ++ args.map a.eval).size = args.map a.eval := by
       generalize args.map a.eval = A
       obtain ⟨l⟩ := A
       apply Array.toList_inj.1
       rw [Array.toList_extract]
       simp [List.extract]
      simp only [invoke, e0, e1, callMethod]
      rw [run_bind_ok (show (program).run P w = .ok P w from rfl), run_bind_ok (pureRun_ok _ hm w)]
      simp only [callFunc]
      rw [run_bind_ok (show (program).run P w = .ok P w from rfl)]
      simp only [hfn, hname, hbody, Bool.false_eq_true, if_false]
      rw [run_pure]
      congr 2
      apply Array.toList_inj.1
      simp
     intro next Q hn
     unfold Oper.wp
     rw [hrun]
     refine hcall.mono ?_
     rintro e' w' ⟨S', ρ', V, rfl, rV, hr', hf'⟩
     exact hn V S' ρ' w' rV hr' hf'
    ·simp at he
   ·simp at he
  ·simp at he
 ·
  rename_i t x hop
  unfold evIfaceO at he
  split at he
  ·rename_i a0 ha0
   split at he
   ·rename_i v hv
    split at he
    ·simp at he
    ·rename_i u hne hu
     refine ⟨_, h, he, Ext.refl _ _, Nat.le_refl _, fun {S ρ w a} hr hs => ?_⟩
     have ex := AV.val?_R hv (hs _ (by simp [hop, Op.operands, Call.operands]) _ ha0)
     refine goes_value (V := .iface t v) hr ?_ ⟨rfl, rfl⟩
     simp only [execOp, hop, ex]
     refine run_v ?_
     unfold Instr.makeInterface
     rw [run_bind_ok (run_underlying hu)]
     cases u <;> first | rfl | exact (hne _ rfl).elim
    ·simp at he
   ·simp at he
  ·simp at he
 ·
  rename_i b args tys hop
  unfold evBuiltinO at he
  split at he
  ·rename_i l hl
   obtain ⟨v, h', hk, hx, hle, hgo⟩ := evBuiltin_ok he
   refine ⟨v, h', hk, hx, hle, fun {S ρ w a} hr hs => ?_⟩
   obtain ⟨V, ρ', w', hrun, rV, hr', hf⟩ := hgo hr (getAs_op (fun y hy => hs y (by simp only [hop, Op.operands, Call.operands]; first | simpa using hy | (simp; right; simpa using hy))) hl)
   refine goes_world (V := V) (w' := w') ?_ rV hr' hf
   simp only [execOp, hop]
   have hres : (resolve a.eval { callee := .builtin b, args, argTypes := tys } o.type).run P w = .ok { target := .builtin b tys o.type (args.map fun | .const _ => true | _ => false), args := args.map a.eval } w := rfl
   rw [run_bind_ok hres]
   simp only [invoke]
   have e : args.map a.eval = (args.toList.map a.eval).toArray := by apply Array.toList_inj.1; simp
   rw [e]; exact hrun
  ·simp at he
 ·
  rename_i t len parts hop
  unfold evBuildSliceO at he
  split at he
  ·rename_i ps hps
   obtain ⟨v, h', hk, hx, hle, hgo⟩ := evBuildSlice_ok he
   refine ⟨v, h', hk, hx, hle, fun {S ρ w a} hr hs => ?_⟩
   have hp := getPs_op (fun y hy => hs y (by simp only [hop, Op.operands]; simpa using hy)) hps
   obtain ⟨V, ρ', w', hrun, rV, hr', hf⟩ := hgo hr (vs := parts.map fun (i, x) => (i, a.eval x)) (by simpa using hp)
   refine goes_world (V := V) (w' := w') ?_ rV hr' hf
   simp only [execOp, hop]
   exact run_v hrun
  ·simp at he
 ·
  rename_i t l c hop
  unfold evMakeSliceO at he
  split at he
  ·rename_i vl vc hl hc'
   obtain ⟨v, h', hk, hx, hle, hgo⟩ := evMakeSlice_ok he
   refine ⟨v, h', hk, hx, hle, fun {S ρ w a} hr hs => ?_⟩
   obtain ⟨V, ρ', w', hrun, rV, hr', hf⟩ := hgo hr (hs _ (by simp [hop, Op.operands, Call.operands]) _ hl) (hs _ (by simp [hop, Op.operands, Call.operands]) _ hc')
   refine goes_world (V := V) (w' := w') ?_ rV hr' hf
   simp only [execOp, hop]
   exact run_v hrun
  ·simp at he
 ·
  rename_i t x lo hi hop
  unfold evSliceO at he
  split at he
  ·rename_i vx vl vh hx hlo hhi
   obtain ⟨u, hk, hgo⟩ := evSlice_ok he
   refine ⟨u, h, hk, Ext.refl _ _, Nat.le_refl _, fun {S ρ w a} hr hs => ?_⟩
   obtain ⟨V, hrun, rV⟩ := hgo hr (hs _ (by simp [hop, Op.operands, Call.operands]) _ hx) (optA_op (fun y hy => hs y (by simp only [hop, Op.operands]; simp only [Array.toList_append, List.mem_append, Option.toList_toArray]; exact .inl (.inl (.inr hy)))) hlo) (optA_op (fun y hy => hs y (by simp only [hop, Op.operands]; simp only [Array.toList_append, List.mem_append, Option.toList_toArray]; exact .inl (.inr hy))) hhi)
   refine goes_value hr ?_ rV
   simp only [execOp, hop]
   exact run_v hrun
  ·simp at he
 ·
  rename_i t x lo hi mx hop
  unfold evSlice3O at he
  split at he
  ·rename_i vx vl vh vm hx hlo hhi hmx
   obtain ⟨u, hk, hgo⟩ := evSlice3_ok he
   refine ⟨u, h, hk, Ext.refl _ _, Nat.le_refl _, fun {S ρ w a} hr hs => ?_⟩
   obtain ⟨V, hrun, rV⟩ := hgo hr (hs _ (by simp [hop, Op.operands, Call.operands]) _ hx) (optA_op (fun y hy => hs y (by simp only [hop, Op.operands]; simp only [Array.toList_append, List.mem_append, Option.toList_toArray]; exact .inl (.inl (.inr hy)))) hlo) (optA_op (fun y hy => hs y (by simp only [hop, Op.operands]; simp only [Array.toList_append, List.mem_append, Option.toList_toArray]; exact .inl (.inr hy))) hhi) (optA_op (fun y hy => hs y (by simp only [hop, Op.operands]; simp only [Array.toList_append, List.mem_append, Option.toList_toArray]; exact .inr hy)) hmx)
   refine goes_value hr ?_ rV
   simp only [execOp, hop]
   exact run_v hrun
  ·simp at he
 ·simp at he
end
end

section
open Go.RowKit
section
variable {P : Program} {w : World} {h : List Blk} {R : Type}
theorem evBuiltin_pure {b : Builtin} (hb : b = .len ∨ b = .min ∨ b = .max) {tys : Array TypeId} {ty : TypeId} {consts : Array Bool} {args : List AV} {k : KA R} {r : R} (he : evBuiltin P b tys ty consts args h k = some r) :
  ∃ v, k v h = some r ∧ ∀ {S : Stay} {w : World} {ρ : Rho} {A : List Value}, LR (AV.R S ρ) args A → ∃ V, (builtin b tys ty consts A.toArray).run P w = .ok (.value V) w ∧ v.R S ρ V := by
 unfold evBuiltin at he
 split at he
 ·simp at hb
 ·simp at hb
 ·rename_i i base es st len cap
  split at he
  ·rename_i t ht
   split at he
   ·rename_i e hu
    refine ⟨_, he, fun {S w ρ A} hA => ?_⟩
    match A, hA with
    | [B], hA =>
     have key : ∀ (A : Option Addr) (c : Nat), B = .slice A len c → (builtin .len tys ty consts [B].toArray).run P w = .ok (.value (.int .i64 len)) w := by
      rintro A c rfl
      refine run_v ?_
      unfold Builtin.len_
      simp only [ht, List.getElem?_toArray, List.getElem?_cons_zero]
      rw [run_bind_ok (run_underlying hu)]; rfl
     obtain ⟨o, tn, _, _, _, hV⟩ := hA.1
     rcases hV with ⟨b, c, _, e1, _⟩ | ⟨A', e1, rfl, _⟩
     ·exact ⟨.int .i64 len, key _ _ e1, ⟨rfl, rfl⟩⟩
     ·exact ⟨.int .i64 _, key _ _ e1, ⟨rfl, rfl⟩⟩
    | [], hA => exact hA.elim
    | _ :: _ :: _, hA => exact hA.2.elim
   ·simp at he
  ·simp at he
 ·rename_i g l
  split at he
  ·rename_i t ht
   split at he
   ·rename_i e hu
    refine ⟨_, he, fun {S w ρ A} hA => ?_⟩
    match A, hA with
    | [B], hA =>
     obtain ⟨A', c, rfl, _⟩ := hA.1
     refine ⟨.int .i64 l.length, ?_, ⟨rfl, rfl⟩⟩
     refine run_v ?_
     unfold Builtin.len_
     simp only [ht, List.getElem?_toArray, List.getElem?_cons_zero]
     rw [run_bind_ok (run_underlying hu)]; rfl
    | [], hA => exact hA.elim
    | _ :: _ :: _, hA => exact hA.2.elim
   ·simp at he
  ·simp at he
 ·rename_i i x i' y
  refine ⟨_, he, fun {S w ρ A} hA => ?_⟩
  match A, hA with
  | [B, X], hA =>
   obtain ⟨rfl, _⟩ := hA.1
   obtain ⟨rfl, _⟩ := hA.2.1
   exact ⟨.int i (if y < x then y else x), run_v rfl, ⟨rfl, rfl⟩⟩
  | [], hA => exact hA.elim
  | [_], hA => exact hA.2.elim
  | _ :: _ :: _ :: _, hA => exact hA.2.2.elim
 ·rename_i i x i' y
  refine ⟨_, he, fun {S w ρ A} hA => ?_⟩
  match A, hA with
  | [B, X], hA =>
   obtain ⟨rfl, _⟩ := hA.1
   obtain ⟨rfl, _⟩ := hA.2.1
   exact ⟨.int i (if y > x then y else x), run_v rfl, ⟨rfl, rfl⟩⟩
  | [], hA => exact hA.elim
  | [_], hA => exact hA.2.elim
  | _ :: _ :: _ :: _, hA => exact hA.2.2.elim
 ·split at he
  ·rename_i vs hvs
   split at he
   ·rename_i nx hnx
    split at he
    ·rename_i v hv
     unfold nextVal at hv
     split at hv
     ·rename_i V
      refine ⟨v, he, fun {S w ρ A} hA => ?_⟩
      obtain rfl := avals?_R hvs hA
      exact ⟨V, pureRun_ok _ hnx w, AV.of?_R hv⟩
     ·simp at hv
    ·simp at he
   ·simp at he
  ·simp at he
theorem evOp_pure {call : FuncId → List AV → List Blk → KA R → Option R} {o : Oper} {sl : List AV} {k : KA R} {r : R} (hp : pureOp P o.op = true)
  (he : evOp P call o sl h k = some r) : ∃ av, k av h = some r ∧ ∀ {S : Stay} {ρ : Rho} {w : World} {a : Act}, OpR S ρ sl o.op.operands.toList a → ∃ V, (execOp a.eval o).run P w = .ok (.value V) w ∧ av.R S ρ V := by
 unfold evOp at he
 split at he
 ·
  rename_i x hop
  unfold evMoveO at he
  split at he
  ·rename_i v hv
   exact ⟨v, he, fun {S ρ w a} hs => ⟨_, (by simp only [execOp, hop]; rfl), (hs _ (by simp [hop, Op.operands, Call.operands]) _ hv)⟩⟩
  ·simp at he
 ·
  rename_i x hop
  unfold evAssignO at he
  split at he
  ·rename_i v hv
   exact ⟨v, he, fun {S ρ w a} hs => ⟨_, (by simp only [execOp, hop]; rfl), (hs _ (by simp [hop, Op.operands, Call.operands]) _ hv)⟩⟩
  ·simp at he
 ·
  rename_i c x y hop
  unfold evPickO at he
  split at he
  ·rename_i t vx vy hc' hx hy
   have hrun : ∀ {S : Stay} {ρ : Rho} {w : World} {a : Act}, OpR S ρ sl o.op.operands.toList a → ∀ b, t = b → (execOp a.eval o).run P w = .ok (.value (if b then a.eval x else a.eval y)) w := by
    intro S ρ w a hs b hb
    obtain ⟨e, _⟩ := hs _ (by simp [hop, Op.operands, Call.operands]) _ hc'
    simp only [execOp, hop, e]; rw [run_bind_ok (show (asBool _).run P w = .ok t w from rfl), hb]; rfl
   split at he
   ·rename_i ht
    exact ⟨vx, he, fun {S ρ w a} hs => ⟨_, (hrun hs true ht), (hs _ (by simp [hop, Op.operands, Call.operands]) _ hx)⟩⟩
   ·rename_i ht
    exact ⟨vy, he, fun {S ρ w a} hs => ⟨_, (hrun hs false (by simpa using ht)), (hs _ (by simp [hop, Op.operands, Call.operands]) _ hy)⟩⟩
  ·simp at he
 ·
  rename_i hop
  simp [pureOp, hop] at hp
 ·
  rename_i hop
  simp [pureOp, hop] at hp
 ·
  rename_i t parts hop
  unfold evBuildO at he
  split at he
  ·rename_i ps hps
   split at he
   ·rename_i v hv
    refine ⟨v, he, fun {S ρ w a} hs => ?_⟩
    have hp := getPs_op (fun y hy => hs y (by simp only [hop, Op.operands]; simpa using hy)) hps
    obtain ⟨V, hrun, rV⟩ := evBuild_ok (P := P) (w := w) hv (vs := parts.map fun (i, x) => (i, a.eval x)) (by simpa using hp)
    refine ⟨_, ?_, rV⟩
    simp only [execOp, hop]
    exact run_v hrun
   ·simp at he
  ·simp at he
 ·
  rename_i hop
  simp [pureOp, hop] at hp
 ·
  rename_i hop
  simp [pureOp, hop] at hp
 ·
  rename_i x hop
  unfold evNilCheckO at he
  have key : ∀ (v : AV), getA sl x = some v → k v h = some r → (∀ {S : Stay} {ρ : Rho} {V : Value}, v.R S ρ V → ∃ a, V = .pointer (some a)) →
    ∃ av, k av h = some r ∧ ∀ {S : Stay} {ρ : Rho} {w : World} {a : Act}, OpR S ρ sl o.op.operands.toList a → ∃ V, (execOp a.eval o).run P w = .ok (.value V) w ∧ av.R S ρ V := by
   intro v hv he hp
   refine ⟨_, he, fun {S ρ w a} hs => ?_⟩
   have rV := hs _ (by simp [hop, Op.operands, Call.operands]) _ hv
   refine ⟨a.eval x, ?_, rV⟩
   obtain ⟨p, e⟩ := hp rV
   simp only [execOp, hop, e]; rfl
  split at he
  ·rename_i i off hv
   exact key _ hv he fun {S ρ V} r => by obtain ⟨b, tb, hb, e⟩ := r; exact ⟨_, e⟩
  ·rename_i base es idx off bd hv
   exact key _ hv he fun {S ρ V} r => by obtain ⟨b, tb, hb, _, e⟩ := r; exact ⟨_, e⟩
  ·rename_i g y off hv
   exact key _ hv he fun {S ρ V} r => by obtain ⟨b, tb, e, _⟩ := r; exact ⟨_, e⟩
  ·rename_i x hv
   split at he
   ·rename_i hs
    exact key _ hv he fun {S ρ V} r => by
     cases x with
     | none => simp at hs
     | some y => obtain ⟨b, tb, e, _⟩ := r; exact ⟨_, e⟩
   ·simp at he
  ·simp at he
 ·
  rename_i op t x y yt hop
  unfold evBinOpO at he
  split at he
  ·rename_i vx vy hx hy
   obtain ⟨u, hu, he⟩ := evBin2K_some P he
   ·refine ⟨u, he, fun {S ρ w a} hs => ?_⟩
    obtain ⟨V, hrun, rV⟩ := evBin2_ok (w := w) hu (hs _ (by simp [hop, Op.operands, Call.operands]) _ hx) (hs _ (by simp [hop, Op.operands, Call.operands]) _ hy)
    refine ⟨V, ?_, rV⟩
    simp only [execOp, hop]
    exact run_v hrun
  ·simp at he
 ·
  rename_i op t x hop
  unfold evUnOpO at he
  split at he
  ·rename_i vx hx
   split at he
   ·rename_i kk n ha
    refine ⟨_, he, fun {S ρ w a} hs => ?_⟩
    have ex := asI_R ha (hs _ (by simp [hop, Op.operands, Call.operands]) _ hx)
    refine ⟨.int kk (bits .xor kk (if kk.signed = true then -1 else kk.max) n), ?_, ⟨rfl, rfl⟩⟩
    simp only [execOp, hop, ex]
    exact run_v (by simp [Op.unary, Op.intBits, bits, run_pure])
   ·rename_i kk n ha
    refine ⟨_, he, fun {S ρ w a} hs => ?_⟩
    have ex := asI_R ha (hs _ (by simp [hop, Op.operands, Call.operands]) _ hx)
    refine ⟨.int kk (kk.wrap (0 - n)), ?_, ⟨rfl, rfl⟩⟩
    simp only [execOp, hop, ex]
    exact run_v (by simp [Op.unary, Op.intArith, run_pure])
   ·
    split at he
    ·rename_i X hX
     split at he
     ·rename_i V hV
      split at he
      ·rename_i u hu
       refine ⟨u, he, fun {S ρ w a} hs => ?_⟩
       have ex := AV.val?_R hX (hs _ (by simp [hop, Op.operands, Call.operands]) _ hx)
       refine ⟨V, ?_, (AV.of?_R hu)⟩
       simp only [execOp, hop, ex]
       exact run_v (pureRun_ok _ hV w)
      ·simp at he
     ·simp at he
    ·simp at he
  ·simp at he
 ·
  rename_i s d x hop
  obtain ⟨vx, u, hx, hk, hgo, _⟩ := evConvertO_ok he
  refine ⟨u, hk, fun {S ρ w a} hs => ?_⟩
  have hno : ∀ e, P.underlying s ≠ some (.slice e) := by
   intro e he
   simp only [pureOp, hop, he] at hp
   simp at hp
  obtain ⟨V, hrun, rV⟩ := hgo hno (w := w) (hs _ (by simp [hop, Op.operands, Call.operands]) _ hx)
  refine ⟨V, ?_, rV⟩
  simp only [execOp, hop]
  exact run_v hrun
 ·
  rename_i s x f hop
  unfold evFieldAddrO at he
  split at he
  ·rename_i v hv
   split at he
   ·rename_i u hu
    refine ⟨u, he, fun {S ρ w a} hs => ?_⟩
    obtain ⟨V, hrun, rV⟩ := evFieldAddr_ok (w := w) hu (hs _ (by simp [hop, Op.operands, Call.operands]) _ hv)
    refine ⟨_, ?_, rV⟩
    simp only [execOp, hop]
    exact run_v hrun
   ·simp at he
  ·simp at he
 ·
  rename_i s x f hop
  unfold evFieldO at he
  split at he
  ·rename_i v hv
   split at he
   ·rename_i u hu
    refine ⟨u, he, fun {S ρ w a} hs => ?_⟩
    obtain ⟨V, hrun, rV⟩ := evField_ok (w := w) hu (hs _ (by simp [hop, Op.operands, Call.operands]) _ hv)
    refine ⟨_, ?_, rV⟩
    simp only [execOp, hop]
    exact run_v hrun
   ·simp at he
  ·simp at he
 ·
  rename_i t x i hop
  unfold evIndexAddrO at he
  split at he
  ·rename_i vx vi hx hi
   obtain ⟨u, hk, hgo⟩ := evIndexAddr_ok he
   refine ⟨u, hk, fun {S ρ w a} hs => ?_⟩
   obtain ⟨V, hrun, rV⟩ := hgo (w := w) (hs _ (by simp [hop, Op.operands, Call.operands]) _ hx) (hs _ (by simp [hop, Op.operands, Call.operands]) _ hi)
   refine ⟨_, ?_, rV⟩
   simp only [execOp, hop]
   exact run_v hrun
  ·simp at he
 ·
  rename_i t x i hop
  unfold evIndexO at he
  split at he
  ·rename_i vx vi hx hi
   obtain ⟨u, hk, hgo⟩ := evIndex_ok he
   refine ⟨u, hk, fun {S ρ w a} hs => ?_⟩
   obtain ⟨V, hrun, rV⟩ := hgo (w := w) (hs _ (by simp [hop, Op.operands, Call.operands]) _ hx) (hs _ (by simp [hop, Op.operands, Call.operands]) _ hi)
   refine ⟨_, ?_, rV⟩
   simp only [execOp, hop]
   exact run_v hrun
  ·simp at he
 ·
  rename_i x i hop
  unfold evExtractO at he
  split at he
  ·rename_i v hv
   split at he
   ·rename_i u hu
    refine ⟨u, he, fun {S ρ w a} hs => ?_⟩
    obtain ⟨V, hrun, rV⟩ := evExtract_ok (P := P) (w := w) hu (hs _ (by simp [hop, Op.operands, Call.operands]) _ hv)
    refine ⟨_, ?_, rV⟩
    simp only [execOp, hop]
    exact run_v hrun
   ·simp at he
  ·simp at he
 ·
  rename_i g first caps hop
  unfold evMakeFuncO at he
  split at he
  ·rename_i hf
   split at he
   ·rename_i l hl
    split at he
    ·rename_i cs hcs
     refine ⟨_, he, fun {S ρ w a} hs => ?_⟩
     have rL := capsOf_R hcs (getAs_op (fun y hy => hs y (by simp only [hop, Op.operands, Call.operands]; first | simpa using hy | (simp; right; simpa using hy))) hl)
     refine ⟨.func (.func g) #[] (caps.map a.eval), ?_, ⟨_, rL, by congr 1; apply Array.toList_inj.1; simp⟩⟩
     have hf' : first = #[] := Array.eq_empty_of_size_eq_zero hf
     have he0 : (#[] : Array Operand).map a.eval = #[] := by simp
     simp only [execOp, hop, hf', he0]
     exact run_v rfl
    ·simp at he
   ·simp at he
  ·simp at he
 ·
  rename_i hop
  simp [pureOp, hop] at hp
 ·
  rename_i hop
  simp [pureOp, hop] at hp
 ·
  rename_i hop
  simp [pureOp, hop] at hp
 ·
  rename_i b args tys hop
  have hb : b = .len ∨ b = .min ∨ b = .max := by
   simp only [pureOp, hop] at hp
   cases b <;> simp at hp <;> simp
  unfold evBuiltinO at he
  split at he
  ·rename_i l hl
   obtain ⟨v, hk, hgo⟩ := evBuiltin_pure hb he
   refine ⟨v, hk, fun {S ρ w a} hs => ?_⟩
   obtain ⟨V, hrun, rV⟩ := hgo (w := w) (getAs_op (fun y hy => hs y (by simp only [hop, Op.operands, Call.operands]; first | simpa using hy | (simp; right; simpa using hy))) hl)
   refine ⟨V, ?_, rV⟩
   simp only [execOp, hop]
   have hres : (resolve a.eval { callee := .builtin b, args, argTypes := tys } o.type).run P w = .ok { target := .builtin b tys o.type (args.map fun | .const _ => true | _ => false), args := args.map a.eval } w := rfl
   rw [run_bind_ok hres]
   simp only [invoke]
   have e : args.map a.eval = (args.toList.map a.eval).toArray := by apply Array.toList_inj.1; simp
   rw [e]; exact hrun
  ·simp at he
 ·
  rename_i hop
  simp [pureOp, hop] at hp
 ·
  rename_i hop
  simp [pureOp, hop] at hp
 ·
  rename_i t x lo hi hop
  have ht : P.underlying t = some .string := by
   simp only [pureOp, hop] at hp
   split at hp
   ·rename_i e; exact e
   ·simp at hp
  unfold evSliceO at he
  split at he
  ·rename_i vx vl vh hx hlo hhi
   obtain ⟨u, hk, hgo⟩ := evSlice_str ht he
   refine ⟨u, hk, fun {S ρ w a} hs => ?_⟩
   obtain ⟨V, hrun, rV⟩ := hgo (w := w) (hs _ (by simp [hop, Op.operands, Call.operands]) _ hx) (optA_op (fun y hy => hs y (by simp only [hop, Op.operands]; simp only [Array.toList_append, List.mem_append, Option.toList_toArray]; exact .inl (.inl (.inr hy)))) hlo) (optA_op (fun y hy => hs y (by simp only [hop, Op.operands]; simp only [Array.toList_append, List.mem_append, Option.toList_toArray]; exact .inl (.inr hy))) hhi)
   refine ⟨V, ?_, rV⟩
   simp only [execOp, hop]
   exact run_v hrun
  ·simp at he
 ·
  rename_i hop
  simp [pureOp, hop] at hp
 ·simp at he
end
end

section
open Go.RowKit
section
variable {P : Program} {R : Type}

theorem Rel.ro {S : Stay} {ρ : Rho} {h : List Blk} {w : World} (hr : Rel S ρ h w) : Rel S ρ (roH h) w := by
 have key : ∀ (i : Nat) (b : Blk), (roH h)[i]? = some b → ∃ b0, h[i]? = some b0 ∧ b = { b0 with ro := true } := by
  intro i b hb
  simp only [roH, List.getElem?_map, Option.map_eq_some_iff] at hb
  obtain ⟨b0, h0, e⟩ := hb
  exact ⟨b0, h0, e.symm⟩
 refine ⟨by simp [roH, hr.len], ?_, ?_, ?_, ?_, hr.base⟩
 ·intro i j bi bj n t u hi hj li lj hni hnj
  obtain ⟨b1, h1, rfl⟩ := key i bi hi
  obtain ⟨b2, h2, rfl⟩ := key j bj hj
  exact hr.inj i j b1 b2 n t u h1 h2 li lj hni hnj
 ·intro i b n t hb hn
  obtain ⟨b0, h0, rfl⟩ := key i b hb
  exact hr.blk i b0 n t h0 hn
 ·intro i b t hb hn hl
  obtain ⟨b0, h0, rfl⟩ := key i b hb
  exact hr.vir i b0 t h0 hn hl
 ·intro n o hn
  obtain ⟨h1, h2⟩ := hr.sig n o hn
  refine ⟨h1, fun i b t hb hi => ?_⟩
  obtain ⟨b0, h0, rfl⟩ := key i b hb
  exact h2 i b0 t h0 hi
theorem get_left {α : Type} {ρ t : List α} {i : Nat} {x : α} (hi : i < ρ.length) (h : (ρ ++ t)[i]? = some x) : ρ[i]? = some x := by
 rw [List.getElem?_append_left hi] at h; exact h
theorem caps_within {ρ t : Rho} : ∀ {caps : List (Nat × Nat)} {L : List Value}, (caps.all fun x => decide (x.1 < ρ.length)) = true → LR (PR (ρ ++ t)) caps L → LR (PR ρ) caps L
 | [], [], _, _ => trivial
 | [], _ :: _, _, h => h.elim
 | _ :: _, [], _, h => h.elim
 | x :: caps, V :: L, hw, h => by
  simp only [List.all_cons, Bool.and_eq_true, decide_eq_true_eq] at hw
  obtain ⟨b, u, h1, h2⟩ := h.1
  exact ⟨⟨b, u, get_left hw.1 h1, h2⟩, caps_within (by simpa using hw.2) h.2⟩
theorem Sc.R_within {S : Stay} {ρ t : Rho} {s : Sc} {V : Value} (hw : s.within ρ.length = true) (h : s.R S (ρ ++ t) V) : s.R S ρ V := by
 cases s with
 | v x => exact h
 | p i off => simp [Sc.within] at hw; obtain ⟨b, u, h1, h2⟩ := h; exact ⟨b, u, get_left hw h1, h2⟩
 | f g caps => obtain ⟨L, h1, h2⟩ := h; exact ⟨L, caps_within hw h1, h2⟩
 | q i base es idx off bd => simp [Sc.within] at hw; obtain ⟨b, u, h1, h2⟩ := h; exact ⟨b, u, get_left hw h1, h2⟩
 | r i base es st len cap => simp [Sc.within] at hw; obtain ⟨o, u, h1, h2⟩ := h; exact ⟨o, u, get_left hw h1, h2⟩
 | im t l => exact h
 | ip t x off => exact h
 | o x => exact h
theorem LR_within {S : Stay} {ρ t : Rho} : ∀ {l : List Sc} {L : List Value}, l.all (Sc.within ρ.length) = true → LR (Sc.R S (ρ ++ t)) l L → LR (Sc.R S ρ) l L
 | [], [], _, _ => trivial
 | [], _ :: _, _, h => h.elim
 | _ :: _, [], _, h => h.elim
 | x :: l, V :: L, hw, h => by
  simp only [List.all_cons, Bool.and_eq_true] at hw
  exact ⟨Sc.R_within hw.1 h.1, LR_within hw.2 h.2⟩
theorem within_flat {n : Nat} {t : Tag} {l : List t.T} : (flat t l).all (Sc.within n) = true := by
 rw [List.all_eq_true]
 intro s hs
 have := flat_still hs
 cases s <;> simp [Sc.still] at this <;> rfl
theorem Cp.R_within {S : Stay} {ρ t : Rho} {s : Cp} {V : Value} (hw : s.within ρ.length = true) (h : s.R S (ρ ++ t) V) : s.R S ρ V := by
 cases s with
 | c x => exact Sc.R_within hw h
 | agg l => obtain ⟨L, h1, h2⟩ := h; exact ⟨L, LR_within hw h1, h2⟩
 | arr g n l => obtain ⟨hn, L, h1, h2⟩ := h; exact ⟨hn, L, LR_within within_flat h1, h2⟩
theorem CLR_within {S : Stay} {ρ t : Rho} : ∀ {l : List Cp} {L : List Value}, l.all (Cp.within ρ.length) = true → LR (Cp.R S (ρ ++ t)) l L → LR (Cp.R S ρ) l L
 | [], [], _, _ => trivial
 | [], _ :: _, _, h => h.elim
 | _ :: _, [], _, h => h.elim
 | x :: l, V :: L, hw, h => by
  simp only [List.all_cons, Bool.and_eq_true] at hw
  exact ⟨Cp.R_within hw.1 h.1, CLR_within hw.2 h.2⟩
theorem AV.R_within {S : Stay} {ρ t : Rho} {s : AV} {V : Value} (hw : s.within ρ.length = true) (h : s.R S (ρ ++ t) V) : s.R S ρ V := by
 cases s with
 | one x => exact Cp.R_within hw h
 | tup l => obtain ⟨L, h1, h2⟩ := h; exact ⟨L, CLR_within hw h1, h2⟩
 | top => trivial
theorem within_of_R {S : Stay} {ρ : Rho} {s : Sc} {V : Value} (h : s.R S ρ V) : s.within ρ.length = true := by
 cases s with
 | v x => rfl
 | p i off => obtain ⟨b, u, h1, _⟩ := h; simp [Sc.within, lt_of_get h1]
 | f g caps =>
  obtain ⟨L, h1, hh⟩ := h
  clear hh
  simp only [Sc.within]
  induction caps generalizing L with
  | nil => rfl
  | cons x caps ih => cases L with
   | nil => exact h1.elim
   | cons V L =>
    obtain ⟨b, u, h2, _⟩ := h1.1
    simp only [List.all_cons, Bool.and_eq_true, decide_eq_true_eq]
    exact ⟨lt_of_get h2, ih L h1.2⟩
 | q i base es idx off bd => obtain ⟨b, u, h1, _⟩ := h; simp [Sc.within, lt_of_get h1]
 | r i base es st len cap => obtain ⟨o, u, h1, _⟩ := h; simp [Sc.within, lt_of_get h1]
 | im t l => rfl
 | ip t x off => rfl
 | o x => rfl
theorem within_of_LR {S : Stay} {ρ : Rho} : ∀ {l : List Sc} {L : List Value}, LR (Sc.R S ρ) l L → l.all (Sc.within ρ.length) = true
 | [], _, _ => rfl
 | _ :: _, [], h => h.elim
 | x :: l, V :: L, h => by simp only [List.all_cons, Bool.and_eq_true]; exact ⟨within_of_R h.1, within_of_LR h.2⟩

theorem Rel.looked {S S' : Stay} {ρ ρ' : Rho} {h h1 : List Blk} {w w' : World} (hr : Rel S ρ h w) (hr' : Rel S' ρ' h1 w') (hx : Ext (roH h).length (roH h) h1) (hf : Frx S S' ρ ρ' w w') : Rel S' ρ h w' ∧ Frx S S' ρ ρ w w' := by
 obtain ⟨t, rfl⟩ := Frx.pre hf
 have hf' : Frx S S' ρ ρ w w' := ⟨hf.os, hf.tape, hf.output, hf.size, rfl, id, fun _ h => .inl h, hf.block, hf.sle, hf.sgr⟩
 have stay : ∀ (i : Nat) (b : Blk), h[i]? = some b → h1[i]? = some { b with ro := true } := by
  intro i b hb
  have h2 : (roH h)[i]? = some { b with ro := true } := by simp [roH, hb]
  exact hx i _ (lt_of_get h2) h2 rfl
 refine ⟨⟨hr.len, hr.inj, ?_, hr.vir, ?_, fun n hn => Nat.lt_of_lt_of_le (hr.base n hn) hf.size⟩, hf'⟩
 ·intro i b n u hb hn hl
  obtain ⟨L, rest, hL, ho⟩ := hr'.blk i _ n u (stay i b hb) (get_prefix hn) hl
  obtain ⟨L0, rest0, hL0, _⟩ := hr.blk i b n u hb hn hl
  exact ⟨L, rest, LR_within (within_of_LR hL0) hL, ho⟩
 ·intro n o hn
  obtain ⟨h2, h3⟩ := hr'.sig n o hn
  refine ⟨h2, fun i b u hb hi => ?_⟩
  have h5 := h3 i _ u (stay i b hb) (get_prefix hi)
  exact h5

theorem Seg.within_den {n : Nat} {g : Seg} (h : g.within n = true) : g.den.all (Sc.within n) = true := by
 cases g with
 | c s => simpa [Seg.den, Seg.within] using h
 | r t m l => exact within_flat
theorem den_within {n : Nat} : ∀ {l : List Seg}, l.all (Seg.within n) = true → (den l).all (Sc.within n) = true
 | [], _ => rfl
 | g :: l, h => by
  simp only [List.all_cons, Bool.and_eq_true] at h
  have e : den (g :: l) = g.den ++ den l := by simp [den]
  rw [e, List.all_append, Bool.and_eq_true]
  exact ⟨Seg.within_den h.1, den_within h.2⟩
theorem Rel.lookIn {S : Stay} {ρ : Rho} {h E : List Blk} {w : World} (hr : Rel S ρ (h ++ E) w) (hw : (h.all fun b => b.live && b.segs.all (Seg.within h.length)) = true) : Rel S (ρ.take h.length) h w := by
 have hl : (ρ.take h.length).length = h.length := by
  rw [List.length_take, hr.len, List.length_append]; omega
 have lo : ∀ {i : Nat} {x : Option Nat × Rg}, (ρ.take h.length)[i]? = some x → i < h.length ∧ ρ[i]? = some x := fun {i x} hx => by
  have hi := lt_of_get hx
  rw [hl] at hi
  rw [List.getElem?_take_of_lt hi] at hx; exact ⟨hi, hx⟩
 have up : ∀ {i : Nat} {b : Blk}, h[i]? = some b → (h ++ E)[i]? = some b := fun hb => by rw [List.getElem?_append_left (lt_of_get hb)]; exact hb
 refine ⟨hl, fun i j bi bj n t u hi hj li lj hni hnj => hr.inj i j bi bj n t u (up hi) (up hj) li lj (lo hni).2 (lo hnj).2, ?_, fun i b t hb hn => hr.vir i b t (up hb) (lo hn).2, fun n o hn => ⟨(hr.sig n o hn).1, fun i b t hb hi => (hr.sig n o hn).2 i b t (up hb) (lo hi).2⟩, fun n hn => ?_⟩
 ·intro i b n t hb hn hlv
  obtain ⟨L, rest, hL, h2⟩ := hr.blk i b n t (up hb) (lo hn).2 hlv
  refine ⟨L, rest, ?_, h2⟩
  have e : ρ = ρ.take h.length ++ ρ.drop h.length := (List.take_append_drop _ _).symm
  rw [e] at hL
  rw [List.all_eq_true] at hw
  have hb' := hw b (List.mem_of_getElem? hb)
  simp only [Bool.and_eq_true] at hb'
  exact LR_within (by rw [hl]; exact den_within hb'.2) hL
 ·obtain ⟨i, t, hi⟩ := nums_get hn
  exact hr.base n (mem_nums (lo hi).2)
theorem Rel.lookOut {S S' : Stay} {ρ : Rho} {h E : List Blk} {w w' : World} (hr : Rel S ρ (h ++ E) w) (hlv : ∀ b ∈ h, b.live = true) (hr' : Rel S' (ρ.take h.length) h w') (hf : Frx S S' (ρ.take h.length) (ρ.take h.length) w w') :
  Rel S' ρ (h ++ E) w' ∧ Frx S S' ρ ρ w w' := by
 have hl : (ρ.take h.length).length = h.length := hr'.len
 have sub : ∀ n, n ∈ nums (ρ.take h.length) → n ∈ nums ρ := fun n hn => by
  obtain ⟨i, t, hi⟩ := nums_get hn
  have hlt := lt_of_get hi
  rw [hl] at hlt
  rw [List.getElem?_take_of_lt hlt] at hi
  exact mem_nums hi
 have ext : ∀ (i : Nat) x, (ρ.take h.length)[i]? = some x → ρ[i]? = some x := fun i x hx => by
  have hlt := lt_of_get hx
  rw [hl] at hlt
  rw [List.getElem?_take_of_lt hlt] at hx
  exact hx
 have clash : ∀ (i n : Nat) (b : Blk) (t : Rg), h.length ≤ i → (h ++ E)[i]? = some b → ρ[i]? = some (some n, t) → b.live = true → n ∉ nums (ρ.take h.length) := by
  intro i n b t hi hb hn hbl hmem
  obtain ⟨j, u, hj⟩ := nums_get hmem
  have hjl := lt_of_get hj
  rw [hl] at hjl
  have hbj : h[j]? = some h[j] := List.getElem?_eq_getElem hjl
  have := hr.inj j i h[j] b n u t (by rw [List.getElem?_append_left hjl]; exact hbj) hb (hlv _ (List.getElem_mem hjl)) hbl (ext j _ hj) hn
  omega
 refine ⟨⟨hr.len, hr.inj, ?_, hr.vir, ?_, fun n hn => Nat.lt_of_lt_of_le (hr.base n hn) hf.size⟩, ⟨hf.os, hf.tape, hf.output, hf.size, rfl, id, fun _ h => .inl h, fun k hk hk2 => hf.block k hk fun q => hk2 (sub k q), hf.sle, fun n o hn => ?_⟩⟩
 ·intro i b n t hb hn hbl
  rcases Nat.lt_or_ge i h.length with hi | hi
  ·rw [List.getElem?_append_left hi] at hb
   have hn' : (ρ.take h.length)[i]? = some (some n, t) := by rw [List.getElem?_take_of_lt hi]; exact hn
   exact ((hr'.blk i b n t hb hn').of (Stay.le.refl _) ext) hbl
  ·have hno := clash i n b t hi hb hn hbl
   rw [hf.block n (hr.base n (mem_nums hn)) hno]
   exact ((hr.blk i b n t hb hn).of hf.sle fun _ _ e => e) hbl
 ·intro n o hn
  refine ⟨(hr'.sig n o hn).1, fun i b t hb hi => ?_⟩
  cases hbl : b.live with
  | false => rfl
  | true =>
   rcases Nat.lt_or_ge i h.length with hil | hil
   ·rw [List.getElem?_append_left hil] at hb
    have hi' : (ρ.take h.length)[i]? = some (some n, t) := by rw [List.getElem?_take_of_lt hil]; exact hi
    rw [(hr'.sig n o hn).2 i b t hb hi'] at hbl; simp at hbl
   ·rcases hf.sgr n o hn with q | q | q
    ·rw [(hr.sig n o q).2 i b t hb hi] at hbl; simp at hbl
    ·exact (clash i n b t hil hb hi hbl q).elim
    ·have := hr.base n (mem_nums hi); omega
 ·rcases hf.sgr n o hn with q | q | q
  ·exact .inl q
  ·exact .inr (.inl (sub n q))
  ·exact .inr (.inr q)

/-! ### Blocks that are not made yet -/
def gapB : Blk := { segs := [], elem := 0, live := false }
def gapR : Option Nat × Rg := (none, ⟨0, fun _ => 0⟩)
theorem set_ne {α : Type} {l : List α} {g i : Nat} {x : α} (h : g ≠ i) : (l.set g x)[i]? = l[i]? := by rw [List.getElem?_set, if_neg h]
theorem set_eq {α : Type} {l : List α} {g : Nat} {x y : α} (h : l[g]? = some y) : (l.set g x)[g]? = some x := by rw [List.getElem?_set, if_pos rfl, if_pos (lt_of_get h)]
theorem gap_get {ρ : Rho} {g i : Nat} {x : Option Nat × Rg} (hg : ρ[g]? = some gapR) {n : Nat} {t : Rg} (h : ρ[i]? = some (some n, t)) : (ρ.set g x)[i]? = some (some n, t) := by
 rw [set_ne (fun e => by subst e; rw [hg] at h; simp [gapR] at h)]; exact h
theorem PR.fill {ρ : Rho} {g : Nat} {x : Option Nat × Rg} (hg : ρ[g]? = some gapR) {y : Nat × Nat} {V : Value} (h : PR ρ y V) : PR (ρ.set g x) y V := by
 obtain ⟨b, t, h1, h2⟩ := h
 exact ⟨b, t, gap_get hg h1, h2⟩
theorem Sc.R.fill {S : Stay} {ρ : Rho} {g : Nat} {x : Option Nat × Rg} (hg : ρ[g]? = some gapR) {s : Sc} {V : Value} (h : s.R S ρ V) : s.R S (ρ.set g x) V := by
 cases s with
 | v y => exact h
 | p i off => exact PR.fill hg h
 | f fn caps => obtain ⟨L, h1, h2⟩ := h; exact ⟨L, h1.mono fun _ _ => PR.fill hg, h2⟩
 | q i base es idx off bd => obtain ⟨b, t, h1, h2⟩ := h; exact ⟨b, t, gap_get hg h1, h2⟩
 | r i base es st len cap =>
  obtain ⟨o, t, h1, h2, h3, h4⟩ := h
  by_cases e : g = i
  ·subst e
   rw [hg] at h1
   simp only [gapR, Option.some.injEq, Prod.mk.injEq] at h1
   obtain ⟨rfl, rfl⟩ := h1
   rcases h4 with ⟨b, c, e1, _⟩ | ⟨A, e1, e2, e3⟩
   ·simp at e1
   ·refine ⟨x.1, x.2, by rw [set_eq hg], ?_, fun d hd => ?_, .inr ⟨A, e1, e2, e3⟩⟩
    ·simp only at h2; omega
    ·have := e3 d hd; simp only at h2; omega
  ·exact ⟨o, t, by rw [set_ne e]; exact h1, h2, h3, h4⟩
 | im t l => exact h
 | ip t y off => exact h
 | o x => exact h
theorem Cp.R.fill {S : Stay} {ρ : Rho} {g : Nat} {x : Option Nat × Rg} (hg : ρ[g]? = some gapR) {s : Cp} {V : Value} (h : s.R S ρ V) : s.R S (ρ.set g x) V := by
 cases s with
 | c s => exact Sc.R.fill hg h
 | agg l => obtain ⟨L, h1, h2⟩ := h; exact ⟨L, h1.mono fun _ _ => Sc.R.fill hg, h2⟩
 | arr t n l => obtain ⟨hn, L, h1, h2⟩ := h; exact ⟨hn, L, h1.mono fun _ _ => Sc.R.fill hg, h2⟩
theorem AV.R.fill {S : Stay} {ρ : Rho} {g : Nat} {x : Option Nat × Rg} (hg : ρ[g]? = some gapR) {s : AV} {V : Value} (h : s.R S ρ V) : s.R S (ρ.set g x) V := by
 cases s with
 | one s => exact Cp.R.fill hg h
 | tup l => obtain ⟨L, h1, h2⟩ := h; exact ⟨L, h1.mono fun _ _ => Cp.R.fill hg, h2⟩
 | top => trivial
theorem SlR.fill {S : Stay} {ρ : Rho} {g : Nat} {x : Option Nat × Rg} (hg : ρ[g]? = some gapR) {sl : List AV} {a : Act} (h : SlR S ρ sl a) : SlR S (ρ.set g x) sl a := LR.mono h fun _ _ => AV.R.fill hg
theorem Rel.gap {S : Stay} {ρ : Rho} {h : List Blk} {w : World} (hr : Rel S ρ h w) : Rel S (ρ ++ [gapR]) (h ++ [gapB]) w ∧ Frx S S ρ (ρ ++ [gapR]) w w := by
 have lo : ∀ {i n : Nat} {t : Rg}, (ρ ++ [gapR])[i]? = some (some n, t) → ρ[i]? = some (some n, t) := fun {i n t} hx => by
  rcases get_snoc hx with ⟨_, h2⟩ | ⟨_, h2⟩
  ·exact h2
  ·simp [gapR] at h2
 have lb : ∀ {i : Nat} {b : Blk}, (h ++ [gapB])[i]? = some b → b.live = true → h[i]? = some b := fun {i b} hx hl => by
  rcases get_snoc hx with ⟨_, h2⟩ | ⟨_, h2⟩
  ·exact h2
  ·subst h2; simp [gapB] at hl
 refine ⟨⟨by simp [hr.len], ?_, ?_, ?_, ?_, ?_⟩, frx_of rfl rfl rfl (Nat.le_refl _) (fun n hn => by simp [nums, gapR] at hn) fun _ _ _ => rfl⟩
 ·intro i j bi bj n t u hi hj li lj hni hnj
  exact hr.inj i j bi bj n t u (lb hi li) (lb hj lj) li lj (lo hni) (lo hnj)
 ·intro i b n t hb hn hl
  exact ((hr.blk i b n t (lb hb hl) (lo hn)).of (Stay.le.refl S) fun _ _ => get_prefix) hl
 ·intro i b t hb hn hl
  have h1 := lb hb hl
  rw [List.getElem?_append_left (hr.len ▸ lt_of_get h1)] at hn
  exact hr.vir i b t h1 hn hl
 ·intro n o hn
  obtain ⟨h1, h2⟩ := hr.sig n o hn
  refine ⟨h1, fun i b t hb hi => ?_⟩
  cases hl : b.live with
  | false => rfl
  | true => rw [← hl]; exact h2 i b t (lb hb hl) (lo hi)
 ·intro n hn
  obtain ⟨i, t, hi⟩ := nums_get hn
  exact hr.base n (mem_nums (lo hi))
theorem Rel.fill {S : Stay} {ρ : Rho} {h : List Blk} {w : World} (hr : Rel S ρ h w) {g : Nat} (hg : ρ[g]? = some gapR) (hb : h[g]? = some gapB) {segs : List Seg} {L : List Value} (hL : ∀ (S : Stay) (ρ : Rho), LR (Sc.R S ρ) (den segs) L) (hok : segsOK segs) (t : TypeId) :
  Rel S (ρ.set g (some w.heap.size, ⟨L.length, extOf segs⟩)) (h.set g { segs := segs, elem := t }) { w with heap := w.heap.push (.cells L.toArray t) } := by
 have old : ∀ k, k < w.heap.size → (w.heap.push (.cells L.toArray t))[k]? = w.heap[k]? := fun k hk => by
  rw [Array.getElem?_push]; rw [if_neg (by omega)]
 have lo : ∀ {i n : Nat} {u : Rg}, (ρ.set g (some w.heap.size, ⟨L.length, extOf segs⟩))[i]? = some (some n, u) → (i = g ∧ n = w.heap.size ∧ u = ⟨L.length, extOf segs⟩) ∨ (i ≠ g ∧ ρ[i]? = some (some n, u)) := fun {i n u} hx => by
  by_cases e : g = i
  ·subst e
   rw [set_eq hg] at hx
   simp only [Option.some.injEq, Prod.mk.injEq] at hx
   exact .inl ⟨rfl, hx.1.symm, hx.2.symm⟩
  ·rw [set_ne e] at hx
   exact .inr ⟨fun q => e q.symm, hx⟩
 have lb : ∀ {i : Nat} {b : Blk}, i ≠ g → (h.set g { segs := segs, elem := t })[i]? = some b → h[i]? = some b := fun {i b} e hx => by
  rw [set_ne (fun q => e q.symm)] at hx; exact hx
 refine ⟨by simp [hr.len], ?_, ?_, ?_, ?_, ?_⟩
 ·intro i j bi bj n ti tj hi hj li lj hni hnj
  rcases lo hni with ⟨h1, h2, _⟩ | ⟨h1, h2⟩ <;> rcases lo hnj with ⟨h3, h4, _⟩ | ⟨h3, h4⟩
  ·rw [h1, h3]
  ·have := hr.base n (mem_nums h4); omega
  ·have := hr.base n (mem_nums h2); omega
  ·exact hr.inj i j bi bj n ti tj (lb h1 hi) (lb h3 hj) li lj h2 h4
 ·intro i b n u hb' hn hl
  rcases lo hn with ⟨rfl, rfl, rfl⟩ | ⟨h1, h2⟩
  ·rw [set_eq hb] at hb'
   simp only [Option.some.injEq] at hb'
   subst hb'
   exact ⟨L, [], hL _ _, by simp, by simp, hok, fun k r hk => by simp only [extOf]; rw [hk]⟩
  ·obtain ⟨M, rest, hM, ho, hs⟩ := hr.blk i b n u (lb h1 hb') h2 hl
   refine ⟨M, rest, hM.mono fun _ _ => Sc.R.fill hg, ?_, hs⟩
   simp only
   rw [old n (hr.base n (mem_nums h2))]; exact ho
 ·intro i b u hb' hn hl
  by_cases e : g = i
  ·subst e; rw [set_eq hg] at hn; simp at hn
  ·rw [set_ne e] at hn hb'
   exact hr.vir i b u hb' hn hl
 ·intro n o hn
  obtain ⟨h1, h2⟩ := hr.sig n o hn
  have hlt : n < w.heap.size := by
   rcases Nat.lt_or_ge n w.heap.size with h | h
   ·exact h
   ·rw [Array.getElem?_eq_none h] at h1; simp at h1
  refine ⟨by simp only; rw [old n hlt]; exact h1, fun i b u hb' hi => ?_⟩
  rcases lo hi with ⟨_, h4, _⟩ | ⟨h3, h4⟩
  ·omega
  ·exact h2 i b u (lb h3 hb') h4
 ·intro n hn
  obtain ⟨i, u, hi⟩ := nums_get hn
  rcases lo hi with ⟨_, h4, _⟩ | ⟨h3, h4⟩
  ·subst h4; simp
  ·have := hr.base n (mem_nums h4); simp; omega
theorem Frx.fill {S0 S : Stay} {ρ0 ρ : Rho} {ws w : World} (hf : Frx S0 S ρ0 ρ ws w) {g : Nat} (hg : ρ[g]? = some gapR) (hm : ρ0.length ≤ g) (r : Rg) (o : Obj) : Frx S0 S ρ0 (ρ.set g (some w.heap.size, r)) ws { w with heap := w.heap.push o } := by
 refine ⟨hf.os, hf.tape, hf.output, by have := hf.size; simp; omega, ?_, fun q => by have := hf.len q; simpa using this, ?_, ?_, hf.sle, hf.sgr⟩
 ·rw [← Frm.pre hf]
  apply List.ext_getElem?
  intro i
  by_cases hi : i < ρ0.length
  ·rw [List.getElem?_take_of_lt hi, List.getElem?_take_of_lt hi, set_ne (by omega)]
  ·rw [List.getElem?_eq_none (by rw [List.length_take]; omega), List.getElem?_eq_none (by rw [List.length_take]; omega)]
 ·intro n hn
  obtain ⟨i, u, hi⟩ := nums_get hn
  by_cases e : g = i
  ·subst e
   rw [set_eq hg] at hi
   simp only [Option.some.injEq, Prod.mk.injEq] at hi
   have := hf.size
   exact .inr (by omega)
  ·rw [set_ne e] at hi
   exact hf.news n (mem_nums hi)
 ·intro k hk hn
  rw [← hf.block k hk hn]
  simp only
  rw [Array.getElem?_push, if_neg (by have := hf.size; omega)]
def NewAt (P : Program) (o : Oper) (h h' : List Blk) (v : AV) : Prop :=
 ∃ (segs : List Seg) (t : TypeId) (L : List Value), h' = h ++ [{ segs := segs, elem := t }] ∧ v = .one (.c (.p h.length 0)) ∧ segsOK segs ∧ (∀ (S : Stay) (ρ : Rho), LR (Sc.R S ρ) (den segs) L) ∧
  ∀ (w : World) (a : Act) (next : Act → World → Prop) (Q : Exit → Act → World → Prop), next (a.put o.dst (.pointer (some ⟨w.heap.size, 0, none⟩))) { w with heap := w.heap.push (.cells L.toArray t) } → o.wp P a w next Q
def Step (P : Program) (W : List Nat) (Z : Option Tmp) (ops : Array Oper) (o : Oper) (sl : List AV) (h h' : List Blk) (v : AV) : Prop :=
 h.length ≤ h'.length ∧ ∃ b, wantedA ops sl o = some b ∧ (b = false → v = undefA ∧ h' = h) ∧ (b = true →
  (pureIn P W o.op = true → h' = h ∧ ∀ (S : Stay) (ρ : Rho) (w : World) (a : Act) (cur : List Blk), (∀ q ∈ W, cur[q]? = h[q]?) → Rel S ρ cur w → OpR S ρ sl o.op.operands.toList a →
   ∀ (next : Act → World → Prop) (Q : Exit → Act → World → Prop), (∀ V S' w', v.R S' ρ V → Rel S' ρ cur w' → Frx S S' ρ ρ w w' → next (a.put o.dst V) w') → o.wp P a w next Q) ∧
  (pureIn P W o.op = false → lookZ Z o = true → h' = h ∧ ∀ (S : Stay) (ρ : Rho) (w : World) (a : Act) (E : List Blk), (E = [] ∨ (ops.any fun p => isAlloc p.op) = true) → Rel S ρ (h ++ E) w → OpR S ρ sl o.op.operands.toList a →
   ∀ (next : Act → World → Prop) (Q : Exit → Act → World → Prop), (∀ V S' w', v.R S' ρ V → Rel S' ρ (h ++ E) w' → Frx S S' ρ ρ w w' → next (a.put o.dst V) w') → o.wp P a w next Q) ∧
  (pureIn P W o.op = false → lookZ Z o = false → (∀ q ∈ W, h'[q]? = h[q]?) ∧ (isAlloc o.op = true → ∃ e, h' = h ++ e) ∧ (bare o = true → W = [] ∧ NewAt P o h h' v) ∧ ∀ (S : Stay) (ρ : Rho) (w : World) (a : Act), Rel S ρ h w → OpR S ρ sl o.op.operands.toList a → OpGoes P o a S ρ w v h'))

theorem pureIn_of {W : List Nat} {op : Op} (h : pureOp P op = true) : pureIn P W op = true := by simp [pureIn, h]
theorem evLoad_val {t : TypeId} {x : AV} {i : Nat} (hx : (∃ off, x = .one (.c (.p i off))) ∨ (∃ base es idx off bd, x = .one (.c (.q i base es idx off bd))) ∨ ∃ g y off, x = .one (.c (.ip g y off))) {h : List Blk} {k : KA R} {r : R} (he : evLoad P t x h k = some r) :
  ∃ v, k v h = some r ∧ ∀ cur : List Blk, ((∀ g y off, x ≠ .one (.c (.ip g y off))) → cur[i]? = h[i]?) → evLoad P t x cur (fun v _ => some v) = some v := by
 rcases hx with ⟨off, rfl⟩ | ⟨base, es, idx, off, bd, rfl⟩ | ⟨g, y, off, rfl⟩
 ·unfold evLoad at he
  simp only [nth_eq] at he
  split at he
  ·rename_i b hb
   split at he
   ·rename_i hl
    split at he
    ·rename_i ha
     split at he
     ·rename_i n a0 r0 hn hc
      split at he
      ·rename_i m1 r1 hc1
       split at he
       ·rename_i cs hcs
        exact ⟨_, he, fun cur e => by have e := e (by simp); unfold evLoad; simp only [nth_eq, e, hb, hl, if_true, ha, hn, hc, hc1, hcs]⟩
       ·rename_i hcs
        split at he
        ·rename_i g n' l hcut
         exact ⟨_, he, fun cur e => by have e := e (by simp); unfold evLoad; simp only [nth_eq, e, hb, hl, if_true, ha, hn, hc, hc1, hcs]⟩
        ·simp at he
      ·simp at he
     ·simp at he
    ·rename_i ha
     split at he
     ·rename_i s hs
      exact ⟨_, he, fun cur e => by have e := e (by simp); unfold evLoad; simp only [nth_eq, e, hb, hl, if_true, ha, hs]⟩
     ·simp at he
    ·simp at he
   ·simp at he
  ·simp at he
 ·unfold evLoad at he
  simp only [nth_eq] at he
  split at he
  ·rename_i b hb
   split at he
   ·rename_i hl
    split at he
    ·rename_i g n l hrow
     split at he
     ·rename_i hc
      split at he
      ·rename_i a ha
       exact ⟨_, he, fun cur e => by have e := e (by simp); unfold evLoad; simp only [nth_eq, e, hb, hl, if_true, hrow, hc, and_self, ha]⟩
      ·simp at he
     ·simp at he
    ·simp at he
   ·simp at he
  ·simp at he
 ·unfold evLoad at he
  simp only [nth_eq] at he
  split at he
  ·rename_i a ha
   exact ⟨_, he, fun cur e => by unfold evLoad; simp only [ha]⟩
  ·simp at he
theorem evLoadW_ok {W : List Nat} {o : Oper} {sl : List AV} {h : List Blk} {k : KA R} {r : R} (he : evLoadW P W o.op sl h k = some r) :
  ∃ v, k v h = some r ∧ ∀ (S : Stay) (ρ : Rho) (w : World) (a : Act) (cur : List Blk), (∀ q ∈ W, cur[q]? = h[q]?) → Rel S ρ cur w → OpR S ρ sl o.op.operands.toList a → ∃ V, (execOp a.eval o).run P w = .ok (.value V) w ∧ v.R S ρ V := by
 unfold evLoadW at he
 split at he
 ·rename_i t x hop
  have key : ∀ (y : AV) (i : Nat), getA sl x = some y → ((∃ off, y = .one (.c (.p i off))) ∨ (∃ base es idx off bd, y = .one (.c (.q i base es idx off bd))) ∨ ∃ g z off, y = .one (.c (.ip g z off))) → ((∀ g z off, y ≠ .one (.c (.ip g z off))) → W.elem i = true) → evLoad P t y h k = some r →
    ∃ v, k v h = some r ∧ ∀ (S : Stay) (ρ : Rho) (w : World) (a : Act) (cur : List Blk), (∀ q ∈ W, cur[q]? = h[q]?) → Rel S ρ cur w → OpR S ρ sl o.op.operands.toList a → ∃ V, (execOp a.eval o).run P w = .ok (.value V) w ∧ v.R S ρ V := by
   intro y i hx hy hW he
   obtain ⟨v, hk, hv⟩ := evLoad_val hy he
   refine ⟨v, hk, fun S ρ w a cur hcur hr ho => ?_⟩
   obtain ⟨v', hv', hgo⟩ := evLoad_ok (hv cur fun hne => hcur i (List.elem_iff.1 (hW hne)))
   simp only [Option.some.injEq] at hv'
   subst hv'
   obtain ⟨V, hrun, rV⟩ := hgo hr (ho x (by simp [hop, Op.operands]) _ hx)
   exact ⟨V, by simp only [execOp, hop]; exact run_v hrun, rV⟩
  split at he
  ·rename_i i off hx
   split at he
   ·rename_i hW
    exact key _ i hx (.inl ⟨off, rfl⟩) (fun _ => hW) he
   ·simp at he
  ·rename_i i base es idx off bd hx
   split at he
   ·rename_i hW
    exact key _ i hx (.inr (.inl ⟨base, es, idx, off, bd, rfl⟩)) (fun _ => hW) he
   ·simp at he
  ·rename_i g y off hx
   exact key _ 0 hx (.inr (.inr ⟨g, y, off, rfl⟩)) (fun hne => (hne _ _ _ rfl).elim) he
  ·simp at he
 ·rename_i t x lo hi hop
  split at he
  ·rename_i vx vl vh hx hlo hhi
   split at he
   ·rename_i hsi
    obtain ⟨v, hk, hv⟩ := evSlice_val hsi he
    refine ⟨v, hk, fun S ρ w a cur hcur hr hs => ?_⟩
    obtain ⟨v', hv', hgo⟩ := evSlice_ok (hv cur hcur)
    simp only [Option.some.injEq] at hv'
    subst hv'
    obtain ⟨V, hrun, rV⟩ := hgo hr (hs _ (by simp [hop, Op.operands, Call.operands]) _ hx) (optA_op (fun y hy => hs y (by simp only [hop, Op.operands]; simp only [Array.toList_append, List.mem_append, Option.toList_toArray]; exact .inl (.inl (.inr hy)))) hlo) (optA_op (fun y hy => hs y (by simp only [hop, Op.operands]; simp only [Array.toList_append, List.mem_append, Option.toList_toArray]; exact .inl (.inr hy))) hhi)
    exact ⟨V, by simp only [execOp, hop]; exact run_v hrun, rV⟩
   ·simp at he
  ·simp at he
 ·simp at he
theorem frzA_set {h : List Blk} {x v v' : AV} {h1 : List Blk} (he : frzA h x v = some (v', h1)) : ∃ i base es idx off bd j, x = .one (.c (.q i base es idx off bd)) ∧ v = .one (.c (.p j 0)) ∧ ∃ c, h1 = h.set j c := by
 unfold frzA at he
 simp only [nth_eq, setN_eq] at he
 split at he
 ·split at he
  ·split at he
   ·split at he
    ·split at he
     ·split at he
      ·simp only [Option.some.injEq, Prod.mk.injEq] at he
       exact ⟨_, _, _, _, _, _, _, rfl, rfl, _, he.2.symm⟩
      ·simp at he
     ·simp at he
    ·simp at he
   ·simp at he
  ·simp at he
 ·simp at he
theorem evOp_storeW {W : List Nat} {call : FuncId → List AV → List Blk → KA R → Option R} {o : Oper} {sl : List AV} {h : List Blk} {k : KA R} {r : R} (hs : storesOut W o.op sl = true) (he : evOp P call o sl h k = some r) :
  ∃ v h1, k v h1 = some r ∧ Ext h.length h h1 ∧ h.length ≤ h1.length ∧ (∀ q ∈ W, h1[q]? = h[q]?) ∧ ∀ {S : Stay} {ρ : Rho} {w : World} {a : Act}, Rel S ρ h w → OpR S ρ sl o.op.operands.toList a → OpGoes P o a S ρ w v h1 := by
 unfold storesOut at hs
 split at hs
 ·rename_i t x y hop
  have he1 : evStoreO P sl h k t x y = some r := by unfold evOp at he; simpa only [hop] using he
  unfold evStoreO at he1
  split at he1
  ·rename_i a b ha hb
   split at he1
   ·rename_i b1 hz1 hfz
    split at he1
    ·rename_i h' hh
     have he2 : evOp P (fun _ _ _ (_ : KA (AV × List Blk)) => none) o sl h (fun v h => some (v, h)) = some (undefA, h') := by
      unfold evOp; simp only [hop]
      unfold evStoreO; simp only [ha, hb, hfz, hh]
     obtain ⟨v, h1, hk, hxt, hle, hgo⟩ := evOp_ok (fun _ _ _ _ _ he => by simp at he) he2
     simp only [Option.some.injEq, Prod.mk.injEq] at hk
     obtain ⟨rfl, rfl⟩ := hk
     refine ⟨_, _, he1, hxt, hle, fun q hq => ?_, fun hr ho => hgo hr ho⟩
     obtain ⟨i, b0, b', _, _, rfl, hx⟩ := evStore_set hh
     obtain ⟨i2, base, es, idx, off, bd, j, rfl, rfl, c', rfl⟩ := frzA_set hfz
     simp only [ha, hb, Bool.and_eq_true, Bool.not_eq_true'] at hs
     have n1 : i2 ≠ q := by
      rintro rfl
      have := hs.1
      rw [List.elem_iff.2 hq] at this; simp at this
     have n2 : j ≠ q := by
      rintro rfl
      have := hs.2
      rw [List.elem_iff.2 hq] at this; simp at this
     rcases hx with h3 | ⟨off3, h3⟩ | ⟨base3, es3, idx3, off3, bd3, h3⟩
     ·simp at h3
     ·simp at h3
     ·simp only [AV.one.injEq, Cp.c.injEq, Sc.q.injEq] at h3
      obtain ⟨rfl, _⟩ := h3
      rw [List.getElem?_set, if_neg n1, List.getElem?_set, if_neg n2]
    ·simp at he1
   rename_i hfz
   split at he1
   ·rename_i h' hh
    have he2 : evOp P (fun _ _ _ (_ : KA (AV × List Blk)) => none) o sl h (fun v h => some (v, h)) = some (undefA, h') := by
     unfold evOp; simp only [hop]
     unfold evStoreO; simp only [ha, hb, hfz, hh]
    obtain ⟨v, h1, hk, hxt, hle, hgo⟩ := evOp_ok (fun _ _ _ _ _ he => by simp at he) he2
    simp only [Option.some.injEq, Prod.mk.injEq] at hk
    obtain ⟨rfl, rfl⟩ := hk
    refine ⟨_, _, he1, hxt, hle, fun q hq => ?_, fun hr ho => hgo hr ho⟩
    obtain ⟨i, b0, b', _, _, rfl, hx⟩ := evStore_set hh
    rw [List.getElem?_set, if_neg]
    rintro rfl
    simp only [ha] at hs
    rcases hx with rfl | ⟨off, rfl⟩ | ⟨base, es, idx, off, bd, rfl⟩
    all_goals
     simp only [Bool.not_eq_true', Bool.and_eq_true] at hs
     try replace hs := hs.1
     rw [List.elem_iff.2 hq] at hs
     simp at hs
   ·simp at he1
  ·simp at he1
 ·simp at hs
theorem Rel.flags {S : Stay} {ρ : Rho} {h h' : List Blk} {w : World} (hr : Rel S ρ h w) (hl : h'.length = h.length) (key : ∀ (i : Nat) (b : Blk), h'[i]? = some b → ∃ b0, h[i]? = some b0 ∧ b.segs = b0.segs ∧ b.elem = b0.elem ∧ b.live = b0.live) : Rel S ρ h' w := by
 refine ⟨by rw [hr.len, hl], ?_, ?_, ?_, ?_, hr.base⟩
 ·intro i j bi bj n t u hi hj li lj hni hnj
  obtain ⟨b1, h1, _, _, e1⟩ := key i bi hi
  obtain ⟨b2, h2, _, _, e2⟩ := key j bj hj
  exact hr.inj i j b1 b2 n t u h1 h2 (e1 ▸ li) (e2 ▸ lj) hni hnj
 ·intro i b n t hb hn hlv
  obtain ⟨b0, h0, e1, e2, e3⟩ := key i b hb
  have := hr.blk i b0 n t h0 hn (e3 ▸ hlv)
  simp only [Blk.cells] at this ⊢
  rw [e1, e2]; exact this
 ·intro i b t hb hn hlv
  obtain ⟨b0, h0, e1, e2, e3⟩ := key i b hb
  rw [e1]
  exact hr.vir i b0 t h0 hn (e3 ▸ hlv)
 ·intro n o hn
  obtain ⟨h1, h2⟩ := hr.sig n o hn
  refine ⟨h1, fun i b t hb hi => ?_⟩
  obtain ⟨b0, h0, e1, e2, e3⟩ := key i b hb
  rw [e3]; exact h2 i b0 t h0 hi
theorem roFrom_get {W : List Nat} : ∀ (n : Nat) (h : List Blk) (i : Nat), (roFrom W n h)[i]? = (h[i]?).map fun b => if W.elem (n + i) = true then { b with ro := true } else b
 | n, [], i => by simp [roFrom]
 | n, b :: h, 0 => by simp [roFrom]
 | n, b :: h, i + 1 => by
  simp only [roFrom, List.getElem?_cons_succ]
  rw [roFrom_get (n + 1) h i]
  congr 2; funext b; rw [show n + 1 + i = n + (i + 1) by omega]
theorem roFrom_len {W : List Nat} : ∀ (n : Nat) (h : List Blk), (roFrom W n h).length = h.length
 | n, [] => rfl
 | n, b :: h => by simp [roFrom, roFrom_len (n + 1) h]
theorem backW_get {W : List Nat} : ∀ (n : Nat) (h0 h : List Blk) (i : Nat), h0.length ≤ h.length → (backW W n h0 h)[i]? = if W.elem (n + i) = true ∧ i < h0.length then h0[i]? else h[i]?
 | n, [], h, i, _ => by simp [backW]
 | n, b0 :: h0, [], i, hl => by simp at hl
 | n, b0 :: h0, b :: h, 0, _ => by
  simp only [backW, List.getElem?_cons_zero, Nat.add_zero, List.length_cons, Nat.zero_lt_succ, and_true]
  by_cases e : W.elem n = true
  ·rw [if_pos e, if_pos e]
  ·rw [if_neg e, if_neg e]
 | n, b0 :: h0, b :: h, i + 1, hl => by
  simp only [backW, List.getElem?_cons_succ]
  rw [backW_get (n + 1) h0 h i (by simpa using hl)]
  rw [show n + 1 + i = n + (i + 1) by omega]
  simp only [List.length_cons, Nat.add_lt_add_iff_right]
theorem backW_len {W : List Nat} : ∀ (n : Nat) (h0 h : List Blk), h0.length ≤ h.length → (backW W n h0 h).length = h.length
 | n, [], h, _ => rfl
 | n, b0 :: h0, [], hl => by simp at hl
 | n, b0 :: h0, b :: h, hl => by simp [backW, backW_len (n + 1) h0 h (by simpa using hl)]
theorem evOp_roW {call : FuncId → List AV → List Blk → KA R → Option R} (hc : CallOK P call) {W : List Nat} {o : Oper} {sl : List AV} {h : List Blk} {k : KA R} {r : R} (he : evOp P call o sl (roFrom W 0 h) (fun v h' => k v (backW W 0 h h')) = some r) :
  ∃ v h2, k v h2 = some r ∧ Ext h.length h h2 ∧ h.length ≤ h2.length ∧ (∀ q ∈ W, q < h.length → h2[q]? = h[q]?) ∧ ∀ {S : Stay} {ρ : Rho} {w : World} {a : Act}, Rel S ρ h w → OpR S ρ sl o.op.operands.toList a → OpGoes P o a S ρ w v h2 := by
 obtain ⟨v, h1, hk, hx, hle, hgo⟩ := evOp_ok hc he
 rw [roFrom_len] at hx hle
 have hget : ∀ i b, i < h.length → W.elem i = true → h[i]? = some b → h1[i]? = some { b with ro := true } := fun i b hi hW hb => by
  refine hx i _ hi ?_ rfl
  rw [roFrom_get, hb, Option.map_some, Nat.zero_add, if_pos hW]
 refine ⟨v, backW W 0 h h1, hk, ?_, by rw [backW_len _ _ _ hle]; exact hle, ?_, ?_⟩
 ·intro i b hi hb hro
  rw [backW_get _ _ _ _ hle]
  by_cases e : W.elem (0 + i) = true ∧ i < h.length
  ·rw [if_pos e]; exact hb
  ·rw [if_neg e]
   refine hx i b hi ?_ hro
   rw [roFrom_get, hb]
   have : ¬ W.elem (0 + i) = true := fun q => e ⟨q, hi⟩
   rw [Option.map_some, if_neg this]
 ·intro q hq hlt
  rw [backW_get _ _ _ _ hle, if_pos ⟨by rw [Nat.zero_add]; exact List.elem_iff.2 hq, hlt⟩]
 ·intro S ρ w a hr ho next Q hn
  have hr1 : Rel S ρ (roFrom W 0 h) w := hr.flags (roFrom_len _ _) fun i b hb => by
   rw [roFrom_get, Option.map_eq_some_iff] at hb
   obtain ⟨b0, h0, rfl⟩ := hb
   refine ⟨b0, h0, ?_⟩
   split <;> exact ⟨rfl, rfl, rfl⟩
  refine hgo hr1 ho next Q fun V S' ρ' w' rV hr' hf => hn V S' ρ' w' rV ?_ hf
  refine hr'.flags (backW_len _ _ _ hle) fun i b hb => ?_
  rw [backW_get _ _ _ _ hle] at hb
  by_cases e : W.elem (0 + i) = true ∧ i < h.length
  ·rw [if_pos e] at hb
   exact ⟨_, hget i b e.2 (by have := e.1; rwa [Nat.zero_add] at this) hb, rfl, rfl, rfl⟩
  ·rw [if_neg e] at hb
   exact ⟨b, hb, rfl, rfl, rfl⟩
theorem sharp_eq {ops : Array Oper} {sl : List AV} {o : Oper} {b : Bool} (h : wantedA ops sl o = some b) : sharp ops sl o b = sl := by
 unfold wantedA at h
 unfold sharp
 split at h
 ·rename_i hg; try simp only [hg]
 ·rename_i j want hg
  try simp only [hg]
  split at h
  ·rename_i oj hoj
   try simp only [hoj]
   split at h
   ·rename_i d hd
    try simp only [hd]
    split at h
    ·rename_i c hc
     try simp only [hc]
     simp only [Option.some.injEq] at h
     subst h
     have e : ((c == want) == want) = c := by cases c <;> cases want <;> rfl
     rw [e, setN_eq]
     apply List.ext_getElem?
     intro i
     rw [List.getElem?_set]
     rw [nth_eq] at hc
     by_cases q : d = i
     ·subst q
      rw [if_pos rfl, if_pos (lt_of_get hc)]; exact hc.symm
     ·rw [if_neg q]
    ·rename_i tl hc
     try simp only [hc]
    ·simp at h
   ·simp at h
  ·simp at h
theorem evOp_alloc {call : FuncId → List AV → List Blk → KA R → Option R} (hc : CallOK P (R := AV × List Blk) fun _ _ _ _ => none) {o : Oper} (ha : isAlloc o.op = true) {sl : List AV} {h : List Blk} {k : KA R} {r : R} (he : evOp P call o sl h k = some r) :
  ∃ v e, k v (h ++ e) = some r ∧ Ext h.length h (h ++ e) ∧ h.length ≤ (h ++ e).length ∧ NewAt P o h (h ++ e) v ∧ ∀ {S : Stay} {ρ : Rho} {w : World} {a : Act}, Rel S ρ h w → OpR S ρ sl o.op.operands.toList a → OpGoes P o a S ρ w v (h ++ e) := by
 unfold isAlloc at ha
 split at ha
 ·rename_i t hop
  have he1 : evAllocO P sl h k t = some r := by unfold evOp at he; simpa only [hop] using he
  unfold evAllocO at he1
  split at he1
  ·rename_i L hL
   split at he1
   ·rename_i z hz
    have he2 : evOp P (fun _ _ _ (_ : KA (AV × List Blk)) => none) o sl h (fun v h' => some (v, h')) = some (.one (.c (.p h.length 0)), h ++ [{ segs := z, elem := t }]) := by
     unfold evOp
     simp only [hop, evAllocO, hL, hz, evNew]
    obtain ⟨av, h', hk, hx, hle, hgo⟩ := evOp_ok hc he2
    simp only [Option.some.injEq, Prod.mk.injEq] at hk
    obtain ⟨rfl, rfl⟩ := hk
    refine ⟨_, _, he1, hx, hle, ?_, hgo⟩
    obtain ⟨hok, rZ⟩ := zSegs_R hz
    refine ⟨z, t, L, rfl, rfl, hok, fun S ρ => rZ, fun w a next Q hn => ?_⟩
    obtain ⟨Z, hZ, hZl⟩ := run_zeroL (w := w) hL
    have hZc : Z.cells = L.toArray := by rw [← hZl]
    refine wp_value (V := .pointer (some ⟨w.heap.size, 0, none⟩)) (w' := { w with heap := w.heap.push (.cells L.toArray t) }) ?_ hn
    simp only [execOp, hop]
    refine run_v ?_
    unfold Instr.alloc
    rw [run_bind_ok hZ]
    simp only []
    rw [run_bind_ok (show (newVar t Z).run P w = .ok ⟨w.heap.size, 0, none⟩ { w with heap := w.heap.push (.cells L.toArray t) } by rw [← hZc]; rfl)]; rfl
   ·simp at he1
  ·simp at he1
 ·simp at ha
theorem storesOut_alloc {W : List Nat} {op : Op} {sl : List AV} (h : storesOut W op sl = true) (ha : isAlloc op = true) : False := by
 unfold isAlloc at ha
 split at ha
 ·simp [storesOut] at h
 ·simp at ha
theorem bare_alloc {o : Oper} (h : bare o = true) : isAlloc o.op = true := by unfold bare at h; simp only [Bool.and_eq_true] at h; exact h.1
theorem none_ok {R : Type} : CallOK P (R := R) fun _ _ _ _ => none := fun g args h k r he => by simp at he
theorem evDraw_trace {call : FuncId → List AV → List Blk → KA R → Option R} (hc : CallOK P call) (W : List Nat) (Z : Option Tmp) {ops : Array Oper} :
  ∀ (rest : List Oper) {sl : List AV} {h : List Blk} {k : List AV → List Blk → Option R} {r : R}, evDraw P W Z call ops rest sl h k = some r →
   ∃ (val : Nat → AV) (hp : Nat → List Blk) (slx : Nat → List AV), slx 0 = sl ∧ hp 0 = h ∧ k (slx rest.length) (hp rest.length) = some r ∧ Ext h.length h (hp rest.length) ∧ h.length ≤ (hp rest.length).length ∧
    ∀ i o, rest[i]? = some o → slx (i + 1) = putA (slx i) o.dst (val i) ∧ Step P W Z ops o (slx i) (hp i) (hp (i + 1)) (val i)
 | [], sl, h, k, r, he => ⟨fun _ => undefA, fun _ => h, fun _ => sl, rfl, rfl, he, Ext.refl _ _, Nat.le_refl _, fun i o ho => by simp at ho⟩
 | o :: rest, sl, h, k, r, he => by
  have glue : ∀ (v : AV) (h1 : List Blk), Ext h.length h h1 → h.length ≤ h1.length → Step P W Z ops o sl h h1 v → evDraw P W Z call ops rest (putA sl o.dst v) h1 k = some r →
    ∃ (val : Nat → AV) (hp : Nat → List Blk) (slx : Nat → List AV), slx 0 = sl ∧ hp 0 = h ∧ k (slx (o :: rest).length) (hp (o :: rest).length) = some r ∧ Ext h.length h (hp (o :: rest).length) ∧ h.length ≤ (hp (o :: rest).length).length ∧
    ∀ i o', (o :: rest)[i]? = some o' → slx (i + 1) = putA (slx i) o'.dst (val i) ∧ Step P W Z ops o' (slx i) (hp i) (hp (i + 1)) (val i) := by
   intro v h1 hx hle hst hk
   obtain ⟨val, hp, slx, e1, e2, e3, e4, e4l, e5⟩ := evDraw_trace hc W Z rest hk
   refine ⟨fun i => match i with | 0 => v | i + 1 => val i, fun i => match i with | 0 => h | i + 1 => hp i, fun i => match i with | 0 => sl | i + 1 => slx i, rfl, rfl, e3, hx.trans (fun i b hi hb hr => e4 i b (Nat.lt_of_lt_of_le hi hle) hb hr), Nat.le_trans hle e4l, ?_⟩
   intro i o' ho'
   cases i with
   | zero => simp at ho'; subst ho'; simp only [e1, e2]; exact ⟨trivial, hst⟩
   | succ i => exact e5 i o' (by simpa using ho')
  simp only [evDraw] at he
  split at he
  ·rename_i b hb
   split at he
   ·rename_i hbt
    subst hbt
    rw [sharp_eq hb] at he
    split at he
    ·rename_i hpu
     obtain ⟨v, hk, hgo⟩ := evOp_pure hpu he
     exact glue v h (Ext.refl _ _) (Nat.le_refl _) ⟨Nat.le_refl _, true, hb, by simp, fun _ => ⟨fun _ => ⟨rfl, fun S ρ w a cur _ hr ho next Q hn => by obtain ⟨V, hrun, rV⟩ := hgo ho; exact wp_value hrun (hn V S w rV hr (Frm.refl _ _ _ _))⟩, by simp [pureIn_of hpu], by simp [pureIn_of hpu]⟩⟩ hk
    ·rename_i hpu0
     split at he
     ·rename_i hpu
      split at he
      ·split at he
       ·rename_i hpl
        obtain ⟨v, h1, hk, hx, hle, hgo⟩ := evOp_ok hc he
        split at hk
        ·rename_i hwi
         refine glue v h (Ext.refl _ _) (Nat.le_refl _) ⟨Nat.le_refl _, true, hb, by simp, fun _ => ⟨fun _ => ⟨rfl, fun S ρ w a cur _ hr ho next Q hn => ?_⟩, by simp [hpu], by simp [hpu]⟩⟩ hk
         have hr1 : Rel S ρ ([] ++ cur) w := hr
         have hr0 : Rel S (ρ.take 0) [] w := hr1.lookIn rfl
         have hop : OpR S (ρ.take 0) sl o.op.operands.toList a := fun x hx v hv => by
          have h1 := ho x hx v hv
          have h2 := List.all_eq_true.1 hpl x hx
          rw [hv] at h2
          have e : ρ = ρ.take 0 ++ ρ.drop 0 := (List.take_append_drop _ _).symm
          rw [e] at h1
          exact AV.R_within (by rw [hr0.len]; exact h2) h1
         refine hgo hr0 hop next Q fun V S' ρ' w' rV hr' hf => ?_
         obtain ⟨h2, h3⟩ := hr0.looked hr' hx hf
         obtain ⟨t, rfl⟩ := Frx.pre hf
         obtain ⟨h4, h5⟩ := hr1.lookOut (fun b hb => by simp at hb) h2 h3
         refine hn V S' w' ?_ h4 h5
         have r1 : v.R S' (ρ.take 0) V := AV.R_within (by rw [hr0.len]; exact hwi) rV
         have r2 := AV.R.ext (ρ.drop 0) r1
         rw [List.take_append_drop] at r2
         exact r2
        ·simp at hk
       ·simp at he
      ·obtain ⟨v, hk, hgo⟩ := evLoadW_ok he
       exact glue v h (Ext.refl _ _) (Nat.le_refl _) ⟨Nat.le_refl _, true, hb, by simp, fun _ => ⟨fun _ => ⟨rfl, fun S ρ w a cur hcur hr ho next Q hn => by obtain ⟨V, hrun, rV⟩ := hgo S ρ w a cur hcur hr ho; exact wp_value hrun (hn V S w rV hr (Frm.refl _ _ _ _))⟩, by simp [hpu], by simp [hpu]⟩⟩ hk
     ·rename_i hpu
      have hpu' : pureIn P W o.op = false := by simpa using hpu
      split at he
      ·rename_i hlo
       split at he
       ·rename_i hli
        obtain ⟨v, h1, hk, hx, hle, hgo⟩ := evOp_ok hc he
        split at hk
        ·rename_i hwi
         refine glue v h (Ext.refl _ _) (Nat.le_refl _) ⟨Nat.le_refl _, true, hb, by simp, fun _ => ⟨by simp [hpu'], fun _ _ => ⟨rfl, fun S ρ w a E hE hr ho next Q hn => ?_⟩, by simp [hlo]⟩⟩ hk
         rcases hE with rfl | hE
         ·rw [List.append_nil] at hr
          refine hgo hr.ro ho next Q fun V S' ρ' w' rV hr' hf => ?_
          obtain ⟨h2, h3⟩ := hr.looked hr' hx hf
          obtain ⟨t, rfl⟩ := Frx.pre hf
          exact hn V S' w' (AV.R_within (by rw [hr.len]; exact hwi) rV) (by rw [List.append_nil]; exact h2) h3
         ·unfold lookIn at hli
          rw [hE] at hli
          simp only [Bool.not_true, Bool.false_or, Bool.and_eq_true] at hli
          have hr0 := hr.lookIn hli.2
          have hlv : ∀ b ∈ h, b.live = true := fun b hb => by
           have := List.all_eq_true.1 hli.2 b hb
           simp only [Bool.and_eq_true] at this
           exact this.1
          have hop : OpR S (ρ.take h.length) sl o.op.operands.toList a := fun x hx v hv => by
           have h1 := ho x hx v hv
           have h2 := List.all_eq_true.1 hli.1 x hx
           rw [hv] at h2
           have e : ρ = ρ.take h.length ++ ρ.drop h.length := (List.take_append_drop _ _).symm
           rw [e] at h1
           exact AV.R_within (by rw [hr0.len]; exact h2) h1
          refine hgo hr0.ro hop next Q fun V S' ρ' w' rV hr' hf => ?_
          obtain ⟨h2, h3⟩ := hr0.looked hr' hx hf
          obtain ⟨t, rfl⟩ := Frx.pre hf
          obtain ⟨h4, h5⟩ := hr.lookOut hlv h2 h3
          refine hn V S' w' ?_ h4 h5
          have r1 : v.R S' (ρ.take h.length) V := AV.R_within (by rw [hr0.len]; exact hwi) rV
          have r2 := AV.R.ext (ρ.drop h.length) r1
          rw [List.take_append_drop] at r2
          exact r2
        ·simp at hk
       ·simp at he
      ·rename_i hlo
       have hlo' : lookZ Z o = false := by simpa using hlo
       split at he
       ·rename_i hcond
        by_cases hW : W.isEmpty = true
        ·obtain rfl : W = [] := by simpa using hW
         by_cases hia : isAlloc o.op = true
         ·obtain ⟨v, e, hk, hx, hle, hnew, hgo⟩ := evOp_alloc none_ok hia he
          exact glue v (h ++ e) hx hle ⟨hle, true, hb, by simp, fun _ => ⟨by simp [hpu'], by simp [hlo'], fun _ _ => ⟨by simp, fun _ => ⟨e, rfl⟩, fun _ => ⟨rfl, hnew⟩, fun S ρ w a hr ho => hgo hr ho⟩⟩⟩ hk
         ·obtain ⟨v, h1, hk, hx, hle, hgo⟩ := evOp_ok hc he
          exact glue v h1 hx hle ⟨hle, true, hb, by simp, fun _ => ⟨by simp [hpu'], by simp [hlo'], fun _ _ => ⟨by simp, fun hia' => (hia hia').elim, fun hba => (hia (bare_alloc hba)).elim, fun S ρ w a hr ho => hgo hr ho⟩⟩⟩ hk
        ·obtain ⟨v, h1, hk, hx, hle, hag, hgo⟩ := evOp_storeW (hcond.resolve_left hW) he
         exact glue v h1 hx hle ⟨hle, true, hb, by simp, fun _ => ⟨by simp [hpu'], by simp [hlo'], fun _ _ => ⟨hag, fun hia => (storesOut_alloc (hcond.resolve_left hW) hia).elim, fun hba => (storesOut_alloc (hcond.resolve_left hW) (bare_alloc hba)).elim, fun S ρ w a hr ho => hgo hr ho⟩⟩⟩ hk
       ·split at he
        ·simp at he
        ·rename_i hno
         obtain ⟨hia, hal⟩ := not_or.1 hno
         have hWl : ∀ q ∈ W, q < h.length := fun q hq => by
          have h1 : (W.all fun q => Nat.blt q h.length) = true := by
           cases hq' : (W.all fun q => Nat.blt q h.length) with
           | true => rfl
           | false => exact (hal hq').elim
          have := List.all_eq_true.1 h1 q hq
          rwa [Nat.blt_eq] at this
         obtain ⟨v, h1, hk, hx, hle, hag, hgo⟩ := evOp_roW (k := fun v h' => evDraw P W Z call ops rest (putA sl o.dst v) h' k) hc he
         exact glue v h1 hx hle ⟨hle, true, hb, by simp, fun _ => ⟨by simp [hpu'], by simp [hlo'], fun _ _ => ⟨fun q hq => hag q hq (hWl q hq), fun h' => (hia h').elim, fun hba => (hia (bare_alloc hba)).elim, fun S ρ w a hr ho => hgo hr ho⟩⟩⟩ hk
   ·rename_i hbf
    have : b = false := by simpa using hbf
    subst this
    rw [sharp_eq hb] at he
    exact glue undefA h (Ext.refl _ _) (Nat.le_refl _) ⟨Nat.le_refl _, false, hb, fun _ => ⟨rfl, rfl⟩, by simp⟩ he
  ·simp at he
end
end

section
open Go.RowKit
section
variable {P : Program}

def li (listed : Array Bool) (j : Nat) : Prop := listed.getD j false = true
instance (listed : Array Bool) (j : Nat) : Decidable (li listed j) := by unfold li; infer_instance
theorem getD_bool {listed : Array Bool} {j : Nat} (hj : j < listed.size) (d : Bool) : listed.getD j d = listed.getD j false := by
 simp [Array.getD_eq_getD_getElem?, Array.getElem?_eq_getElem hj]
theorem li_set {listed : Array Bool} {i : Nat} (hi : i < listed.size) (j : Nat) : li (listed.setIfInBounds i true) j ↔ (j = i ∨ li listed j) := by
 unfold li
 simp only [Array.getD_eq_getD_getElem?, Array.getElem?_setIfInBounds]
 by_cases e : i = j
 ·subst e; simp [hi]
 ·simp [e]; intro e'; exact (e e'.symm).elim
def unl : List Bool → Nat
 | [] => 0
 | b :: l => (if b then 0 else 1) + unl l
theorem unl_set : ∀ (l : List Bool) (i : Nat), l[i]? = some false → unl (l.set i true) + 1 = unl l
 | [], i, h => by simp at h
 | b :: l, 0, h => by simp at h; subst h; simp [unl]; omega
 | b :: l, i + 1, h => by
  simp at h
  have := unl_set l i h
  simp only [List.set_cons_succ, unl]; omega
theorem unl_zero : ∀ (l : List Bool), unl l = 0 → ∀ b ∈ l, b = true
 | [], _, b, hb => by simp at hb
 | c :: l, h, b, hb => by
  simp only [unl] at h
  rcases List.mem_cons.1 hb with rfl | hb
  ·cases b <;> simp at h ⊢
  ·exact unl_zero l (by omega) b hb

def closed (l : List Oper) (listed : Array Bool) : Prop := ∀ j o, l[j]? = some o → li listed j → ∀ e ∈ o.after, Region.binds .any e = true → li listed e.on

theorem reaches_li {l : List Oper} {listed : Array Bool} (hcl : closed l listed) : ∀ (d i j : Nat), reaches l d i j = true → (∀ o, l[i]? = some o → ∀ e ∈ o.after, Region.binds .any e = true → li listed e.on) → li listed j
 | 0, i, j, h, _ => by simp [reaches] at h
 | d + 1, i, j, h, hi => by
  simp only [reaches] at h
  split at h
  ·rename_i o ho
   rw [Array.any_eq_true'] at h
   obtain ⟨e, he, hb⟩ := h
   simp only [Bool.and_eq_true, Bool.or_eq_true, beq_iff_eq] at hb
   have h1 := hi o ho e he hb.1
   rcases hb.2 with rfl | h2
   ·exact h1
   ·exact reaches_li hcl d e.on j h2 fun o' ho' e' he' hb' => hcl e.on o' ho' h1 e' he' hb'
  ·simp at h

structure DrawOK (P : Program) (W : List Nat) (Z : Option Tmp) (l : List Oper) : Prop where
 back : ∀ (i : Nat) (o : Oper), l[i]? = some o → ∀ e ∈ o.after, Region.binds .any e = true → e.on < i
 looks : ∀ (i : Nat) (o : Oper) (j : Nat) (p : Oper) (d : Tmp), l[i]? = some o → l[j]? = some p → p.dst = some d → d ∈ lookTmps l.toArray o → (j < i ∧ reaches l l.length i j = true) ∨ (i < j ∧ reaches l l.length j i = true)
 dsts : ∀ (i : Nat) (o : Oper) (j : Nat) (p : Oper) (d : Tmp), l[i]? = some o → l[j]? = some p → p.dst = some d → o.dst = some d → j = i
 loud : ∀ (i : Nat) (o : Oper) (j : Nat) (p : Oper), l[i]? = some o → l[j]? = some p → j < i → pureIn P W o.op = false → pureIn P W p.op = false → (lookZ Z o = false ∨ lookZ Z p = false) → (bare o = true → lookZ Z p = false) → (bare o = true → bare p = false) → reaches l l.length i j = true

theorem drawOK_of {W : List Nat} {Z : Option Tmp} {l : List Oper} (h : drawB P W Z l = true) : DrawOK P W Z l := by
 have key : ∀ i o, l[i]? = some o → (∀ e ∈ o.after, Region.binds .any e = true → e.on < i) ∧
   ∀ j p, l[j]? = some p → (∀ d, p.dst = some d → ((d ∈ lookTmps l.toArray o → (j < i ∧ reaches l l.length i j = true) ∨ (i < j ∧ reaches l l.length j i = true)) ∧ (o.dst = some d → j = i))) ∧
    (j < i → pureIn P W o.op = false → pureIn P W p.op = false → (lookZ Z o = false ∨ lookZ Z p = false) → (bare o = true → lookZ Z p = false) → (bare o = true → bare p = false) → reaches l l.length i j = true) := by
  intro i o ho
  unfold drawB at h
  rw [List.all_eq_true] at h
  have h1 := h i (List.mem_range.2 (lt_of_get ho))
  simp only [ho, Bool.and_eq_true] at h1
  obtain ⟨⟨h2, _⟩, h3⟩ := h1
  refine ⟨?_, fun j p hp => ?_⟩
  ·intro e he hb
   rw [Array.all_eq_true'] at h2
   have := h2 e he
   simp [hb] at this; exact this
  ·rw [List.all_eq_true] at h3
   have h4 := h3 j (List.mem_range.2 (lt_of_get hp))
   simp only [hp, Bool.and_eq_true] at h4
   refine ⟨fun d hd => ?_, fun hji hpo hpp hll hal hba => ?_⟩
   ·have h5 := h4.1
    simp only [hd, Bool.and_eq_true, Bool.or_eq_true, Bool.not_eq_true', decide_eq_true_eq, bne_iff_ne, ne_eq] at h5
    refine ⟨fun hm => ?_, fun ho' => ?_⟩
    ·rcases h5.1 with (h6 | h6) | h6
     ·simp at h6; exact (h6 hm).elim
     ·exact .inl h6
     ·exact .inr h6
    ·rcases h5.2 with h6 | h6
     ·exact h6
     ·exact (h6 ho').elim
   ·have h5 := h4.2
    simp only [Bool.or_eq_true, decide_eq_true_eq, Bool.and_eq_true, hpo, hpp, Bool.false_eq_true, or_false] at h5
    rcases h5 with (((h6 | h6) | h6) | h6) | h6
    ·omega
    ·rcases hll with h7 | h7 <;> rw [h7] at h6 <;> simp at h6
    ·rw [hal h6.1] at h6; simp at h6
    ·rw [hba h6.1] at h6; simp at h6
    ·exact h6
 exact ⟨fun i o ho => (key i o ho).1, fun i o j p d ho hp hd => (((key i o ho).2 j p hp).1 d hd).1, fun i o j p d ho hp hd => (((key i o ho).2 j p hp).1 d hd).2, fun i o j p ho hp => ((key i o ho).2 j p hp).2⟩

def Eff (P : Program) (W : List Nat) (Z : Option Tmp) (l : List Oper) (j : Nat) : Prop := ∃ o, l[j]? = some o ∧ pureIn P W o.op = false ∧ lookZ Z o = false

variable {W : List Nat} {Z : Option Tmp} {l : List Oper} {val : Nat → AV} {hp : Nat → List Blk} {slx : Nat → List AV}

structure Lex (P : Program) (W : List Nat) (Z : Option Tmp) (l : List Oper) (val : Nat → AV) (hp : Nat → List Blk) (slx : Nat → List AV) : Prop where
 sl : ∀ i o, l[i]? = some o → slx (i + 1) = putA (slx i) o.dst (val i)
 step : ∀ i o, l[i]? = some o → Step P W Z l.toArray o (slx i) (hp i) (hp (i + 1)) (val i)

theorem putA_length (sl : List AV) (d : Option Tmp) (v : AV) : (putA sl d v).length = sl.length := by cases d <;> simp [putA, setN_eq]
theorem putA_get (sl : List AV) (d : Option Tmp) (v : AV) (t : Nat) : (putA sl d v)[t]? = if d = some t ∧ t < sl.length then some v else sl[t]? := by
 cases d with
 | none => simp [putA]
 | some d =>
  simp only [putA, setN_eq, List.getElem?_set, Option.some.injEq]
  by_cases e : d = t
  ·subst e
   by_cases h : d < sl.length
   ·simp [h]
   ·simp [h, List.getElem?_eq_none (Nat.le_of_not_lt h)]
  ·simp [e]

theorem Lex.length (hx : Lex P W Z l val hp slx) : ∀ i, i ≤ l.length → (slx i).length = (slx 0).length
 | 0, _ => rfl
 | i + 1, h => by
  have ho : l[i]? = some l[i] := List.getElem?_eq_getElem (by omega)
  rw [hx.sl i _ ho, putA_length, hx.length i (by omega)]
theorem Lex.wrote (hx : Lex P W Z l val hp slx) (hd : DrawOK P W Z l) : ∀ i, i ≤ l.length → ∀ j o t, l[j]? = some o → o.dst = some t → j < i → t < (slx 0).length → (slx i)[t]? = some (val j)
 | 0, _, j, o, t, _, _, hj, _ => by omega
 | i + 1, h, j, o, t, ho, ht, hj, hlt => by
  have hi : l[i]? = some l[i] := List.getElem?_eq_getElem (by omega)
  rw [hx.sl i _ hi, putA_get, hx.length i (by omega)]
  by_cases e : j = i
  ·subst e; rw [hi] at ho; simp at ho; subst ho; simp [ht, hlt]
  ·rw [if_neg (fun hc => e (hd.dsts i _ j o t hi ho ht hc.1))]
   exact hx.wrote hd i (by omega) j o t ho ht (by omega) hlt
theorem Lex.kept (hx : Lex P W Z l val hp slx) : ∀ i, i ≤ l.length → ∀ t, (∀ j o, l[j]? = some o → j < i → o.dst ≠ some t) → (slx i)[t]? = (slx 0)[t]?
 | 0, _, t, _ => rfl
 | i + 1, h, t, hn => by
  have hi : l[i]? = some l[i] := List.getElem?_eq_getElem (by omega)
  rw [hx.sl i _ hi, putA_get, if_neg (fun hc => hn i _ hi (by omega) hc.1)]
  exact hx.kept i (by omega) t fun j o ho hj => hn j o ho (by omega)
theorem Lex.still (hx : Lex P W Z l val hp slx) {i : Nat} (hi : i < l.length) (hn : ¬ Eff P W Z l i) : hp (i + 1) = hp i := by
 have ho : l[i]? = some l[i] := List.getElem?_eq_getElem hi
 obtain ⟨_, b, _, hf, ht⟩ := hx.step i _ ho
 cases b with
 | false => exact (hf rfl).2
 | true =>
  obtain ⟨h1, h2, h3⟩ := ht rfl
  by_cases hp1 : pureIn P W l[i].op = true
  ·exact (h1 hp1).1
  ·have hp1' : pureIn P W l[i].op = false := by simpa using hp1
   by_cases hl1 : lookZ Z l[i] = true
   ·exact (h2 hp1' hl1).1
   ·exact (hn ⟨_, ho, hp1', by simpa using hl1⟩).elim
theorem Lex.stills (hx : Lex P W Z l val hp slx) {i : Nat} : ∀ x, i ≤ x → x ≤ l.length → (∀ y, i ≤ y → y < x → ¬ Eff P W Z l y) → hp x = hp i
 | x, hix, hxl, hn => by
  induction x with
  | zero => obtain rfl : i = 0 := by omega
            rfl
  | succ x ih =>
   by_cases e : i = x + 1
   ·rw [e]
   ·rw [hx.still (i := x) (by omega) (hn x (by omega) (by omega)), ih (by omega) (by omega) fun y h1 h2 => hn y h1 (by omega)]

theorem Lex.keeps (hx : Lex P W Z l val hp slx) : ∀ i, i ≤ l.length → ∀ q ∈ W, (hp i)[q]? = (hp 0)[q]?
 | 0, _, _, _ => rfl
 | i + 1, h, q, hq => by
  have ho : l[i]? = some l[i] := List.getElem?_eq_getElem (by omega)
  rw [← hx.keeps i (by omega) q hq]
  by_cases he : Eff P W Z l i
  ·obtain ⟨_, b, _, hf, ht⟩ := hx.step i _ ho
   cases b with
   | false => rw [(hf rfl).2]
   | true =>
    obtain ⟨o, h1, h2, h3⟩ := he
    rw [ho] at h1; simp only [Option.some.injEq] at h1; subst h1
    exact ((ht rfl).2.2 h2 h3).1 q hq
  ·rw [hx.still (by omega) he]
theorem Lex.grown (hx : Lex P W Z l val hp slx) {i : Nat} : ∀ x, i ≤ x → x ≤ l.length → (∀ y, i ≤ y → y < x → Eff P W Z l y → ∃ o, l[y]? = some o ∧ isAlloc o.op = true) → ∃ E, hp x = hp i ++ E
 | x, hix, hxl, hn => by
  induction x with
  | zero => obtain rfl : i = 0 := by omega
            exact ⟨[], by simp⟩
  | succ x ih =>
   by_cases e : i = x + 1
   ·exact ⟨[], by rw [e]; simp⟩
   ·obtain ⟨E, hE⟩ := ih (by omega) (by omega) fun y h1 h2 => hn y h1 (by omega)
    by_cases he : Eff P W Z l x
    ·obtain ⟨o, ho, hal⟩ := hn x (by omega) (by omega) he
     obtain ⟨o', ho', hq2, hq3⟩ := he
     rw [ho] at ho'; simp only [Option.some.injEq] at ho'; subst ho'
     obtain ⟨_, b, _, hf, ht⟩ := hx.step x o ho
     cases b with
     | false => exact ⟨E, by rw [(hf rfl).2, hE]⟩
     | true =>
      obtain ⟨e2, he2⟩ := ((ht rfl).2.2 hq2 hq3).2.1 hal
      exact ⟨E ++ e2, by rw [he2, hE, List.append_assoc]⟩
    ·exact ⟨E, by rw [hx.still (by omega) he, hE]⟩
/-! ### Blocks that are made in any order -/
def bareAt (l : List Oper) (j : Nat) : Prop := ∃ o, l[j]? = some o ∧ bare o = true
theorem bare_eff {j : Nat} (h : bareAt l j) : Eff P W Z l j := by
 obtain ⟨o, ho, hb⟩ := h
 have ha := bare_alloc hb
 refine ⟨o, ho, ?_, ?_⟩
 ·unfold isAlloc at ha
  split at ha
  ·rename_i t hop
   rw [hop]; rfl
  ·simp at ha
 ·unfold isAlloc at ha
  split at ha
  ·rename_i t hop
   unfold lookZ
   rw [hop]; rfl
  ·simp at ha
theorem Lex.new (hx : Lex P W Z l val hp slx) {j : Nat} {o : Oper} (ho : l[j]? = some o) (hb : bare o = true) : W = [] ∧ NewAt P o (hp j) (hp (j + 1)) (val j) := by
 obtain ⟨_, b, hw, hf, ht⟩ := hx.step j o ho
 have hg : o.guard = none := by
  unfold bare at hb; simp only [Bool.and_eq_true] at hb
  exact Option.isNone_iff_eq_none.1 hb.2
 have : b = true := by
  unfold wantedA at hw
  rw [hg] at hw
  simpa using hw.symm
 obtain ⟨p, hp1, hp2, hp3⟩ := bare_eff (P := P) (W := W) (Z := Z) ⟨o, ho, hb⟩
 rw [ho] at hp1; simp only [Option.some.injEq] at hp1; subst hp1
 exact ((ht this).2.2 hp2 hp3).2.2.1 hb
theorem Lex.mono (hx : Lex P W Z l val hp slx) : ∀ i, i ≤ l.length → (hp 0).length ≤ (hp i).length
 | 0, _ => Nat.le_refl _
 | i + 1, h => Nat.le_trans (hx.mono i (by omega)) (hx.step i l[i] (List.getElem?_eq_getElem (by omega))).1
theorem Lex.mono2 (hx : Lex P W Z l val hp slx) {a : Nat} : ∀ b, a ≤ b → b ≤ l.length → (hp a).length ≤ (hp b).length
 | 0, h, _ => by obtain rfl : a = 0 := by omega
                 exact Nat.le_refl _
 | b + 1, h, hl => by
  by_cases e : a = b + 1
  ·rw [e]; exact Nat.le_refl _
  ·exact Nat.le_trans (hx.mono2 b (by omega) (by omega)) (hx.step b l[b] (List.getElem?_eq_getElem (by omega))).1
theorem Lex.lt (hx : Lex P W Z l val hp slx) {a b : Nat} (ha : bareAt l a) (h : a < b) (hb : b ≤ l.length) : (hp a).length < (hp b).length := by
 obtain ⟨o, ho, hbo⟩ := ha
 obtain ⟨_, segs, t, L, e, _⟩ := hx.new ho hbo
 have := hx.mono2 (a := a + 1) b (by omega) hb
 rw [e] at this
 simp at this; omega
open Classical in
noncomputable def maskA (P : Program) (W : List Nat) (Z : Option Tmp) (l : List Oper) (hp : Nat → List Blk) (listed : Array Bool) : Nat → List Blk
 | 0 => hp 0
 | x + 1 => if bareAt l x then (if li listed x then maskA P W Z l hp listed x ++ (hp (x + 1)).drop (hp x).length else maskA P W Z l hp listed x ++ [gapB])
   else if Eff P W Z l x then hp (x + 1) else maskA P W Z l hp listed x
section
variable {listed : Array Bool}
theorem mask_bare (hx : Lex P W Z l val hp slx) {x : Nat} (h : bareAt l x) (hl : li listed x) : ∃ b, hp (x + 1) = hp x ++ [b] ∧ maskA P W Z l hp listed (x + 1) = maskA P W Z l hp listed x ++ [b] := by
 obtain ⟨o, ho, hb⟩ := h
 obtain ⟨_, segs, t, L, e, _⟩ := hx.new ho hb
 refine ⟨_, e, ?_⟩
 simp only [maskA]
 rw [if_pos ⟨o, ho, hb⟩, if_pos hl, e, List.drop_left]
theorem mask_gap {x : Nat} (h : bareAt l x) (hl : ¬ li listed x) : maskA P W Z l hp listed (x + 1) = maskA P W Z l hp listed x ++ [gapB] := by
 simp only [maskA]; rw [if_pos h, if_neg hl]
theorem mask_eff {x : Nat} (h : ¬ bareAt l x) (he : Eff P W Z l x) : maskA P W Z l hp listed (x + 1) = hp (x + 1) := by
 simp only [maskA]; rw [if_neg h, if_pos he]
theorem mask_no {x : Nat} (he : ¬ Eff P W Z l x) : maskA P W Z l hp listed (x + 1) = maskA P W Z l hp listed x := by
 simp only [maskA]; rw [if_neg (fun h => he (bare_eff h)), if_neg he]
theorem mask_len (hx : Lex P W Z l val hp slx) : ∀ x, x ≤ l.length → (maskA P W Z l hp listed x).length = (hp x).length
 | 0, _ => rfl
 | x + 1, h => by
  have ih := mask_len hx x (by omega)
  by_cases hb : bareAt l x
  ·by_cases hl : li listed x
   ·obtain ⟨b, e1, e2⟩ := mask_bare (listed := listed) hx hb hl
    rw [e1, e2]; simp [ih]
   ·obtain ⟨o, ho, hbo⟩ := hb
    obtain ⟨_, segs, t, L, e, _⟩ := hx.new ho hbo
    rw [mask_gap ⟨o, ho, hbo⟩ hl, e]; simp [ih]
  ·by_cases he : Eff P W Z l x
   ·rw [mask_eff hb he]
   ·rw [mask_no he, hx.still (by omega) he, ih]
theorem mask_full (hx : Lex P W Z l val hp slx) : ∀ x, x ≤ l.length → (∀ j, j < x → bareAt l j → li listed j) → maskA P W Z l hp listed x = hp x
 | 0, _, _ => rfl
 | x + 1, h, hl => by
  have ih := mask_full hx x (by omega) fun j hj => hl j (by omega)
  by_cases hb : bareAt l x
  ·obtain ⟨b, e1, e2⟩ := mask_bare (listed := listed) hx hb (hl x (by omega) hb)
   rw [e1, e2, ih]
  ·by_cases he : Eff P W Z l x
   ·rw [mask_eff hb he]
   ·rw [mask_no he, hx.still (by omega) he, ih]
theorem mask_same {listed' : Array Bool} : ∀ x, (∀ j, j < x → bareAt l j → (li listed j ↔ li listed' j)) → maskA P W Z l hp listed x = maskA P W Z l hp listed' x
 | 0, _ => rfl
 | x + 1, h => by
  have ih := mask_same (listed' := listed') x fun j hj => h j (by omega)
  simp only [maskA]
  rw [ih]
  by_cases hb : bareAt l x
  ·have := h x (by omega) hb
   by_cases hl : li listed x
   ·rw [if_pos hb, if_pos hb, if_pos hl, if_pos (this.1 hl)]
   ·rw [if_pos hb, if_pos hb, if_neg hl, if_neg fun q => hl (this.2 q)]
  ·rw [if_neg hb, if_neg hb]
theorem mask_from (hx : Lex P W Z l val hp slx) {i : Nat} (hi : ∀ j, j < i → bareAt l j → li listed j) : ∀ x, i ≤ x → x ≤ l.length → (∀ j, i ≤ j → j < x → Eff P W Z l j → bareAt l j) → ∃ E, maskA P W Z l hp listed x = hp i ++ E
 | 0, h, hl, _ => by
  obtain rfl : i = 0 := by omega
  exact ⟨[], by simp [maskA]⟩
 | x + 1, h, hl, hb => by
  by_cases e : i = x + 1
  ·subst e
   exact ⟨[], by rw [mask_full hx _ hl hi]; simp⟩
  ·obtain ⟨E, hE⟩ := mask_from hx hi x (by omega) (by omega) fun j h1 h2 => hb j h1 (by omega)
   by_cases he : Eff P W Z l x
   ·have hbx := hb x (by omega) (by omega) he
    by_cases hlx : li listed x
    ·obtain ⟨b, _, e2⟩ := mask_bare (listed := listed) hx hbx hlx
     exact ⟨E ++ [b], by rw [e2, hE, List.append_assoc]⟩
    ·exact ⟨E ++ [gapB], by rw [mask_gap hbx hlx, hE, List.append_assoc]⟩
   ·exact ⟨E, by rw [mask_no he, hE]⟩
theorem mask_set (hx : Lex P W Z l val hp slx) (hsz : listed.size = l.length) {i : Nat} {b : Blk} (hb : bareAt l i) (hi : ¬ li listed i) (he : hp (i + 1) = hp i ++ [b]) : ∀ x, i < x → x ≤ l.length → (∀ j, i < j → j < x → Eff P W Z l j → bareAt l j) →
  (maskA P W Z l hp listed x)[(hp i).length]? = some gapB ∧ maskA P W Z l hp (listed.setIfInBounds i true) x = (maskA P W Z l hp listed x).set (hp i).length b
 | 0, h, _, _ => by omega
 | x + 1, h, hl, hn => by
  have hset := fun j => li_set (listed := listed) (i := i) (by have := lt_of_get hb.choose_spec.1; omega) j
  by_cases e : i = x
  ·subst e
   have hm := mask_len (listed := listed) hx i (by omega)
   have e1 : maskA P W Z l hp (listed.setIfInBounds i true) i = maskA P W Z l hp listed i := (mask_same i fun j hj _ => by rw [hset]; exact ⟨.inr, fun q => q.resolve_left (by omega)⟩).symm
   obtain ⟨b', e2, e3⟩ := mask_bare (listed := listed.setIfInBounds i true) hx hb ((hset i).2 (.inl rfl))
   have : b' = b := by
    rw [he] at e2
    have := List.append_cancel_left e2
    simpa using this.symm
   subst this
   rw [e3, e1, mask_gap hb hi, ← hm]
   refine ⟨by simp, ?_⟩
   rw [List.set_append_right _ _ (Nat.le_refl _)]; simp
  ·obtain ⟨h1, h2⟩ := mask_set hx hsz hb hi he x (by omega) (by omega) fun j q1 q2 => hn j q1 (by omega)
   have hlt := lt_of_get h1
   by_cases hex : Eff P W Z l x
   ·have hbx := hn x (by omega) (by omega) hex
    by_cases hlx : li listed x
    ·obtain ⟨b1, q1, q2⟩ := mask_bare (listed := listed) hx hbx hlx
     obtain ⟨b2, q3, q4⟩ := mask_bare (listed := listed.setIfInBounds i true) hx hbx ((hset x).2 (.inr hlx))
     have : b2 = b1 := by
      rw [q1] at q3
      have := List.append_cancel_left q3
      simpa using this.symm
     subst this
     rw [q4, q2, h2]
     exact ⟨by rw [List.getElem?_append_left hlt]; exact h1, by rw [List.set_append_left _ _ hlt]⟩
    ·rw [mask_gap hbx hlx, mask_gap hbx (fun q => hlx (((hset x).1 q).resolve_left (by omega))), h2]
     exact ⟨by rw [List.getElem?_append_left hlt]; exact h1, by rw [List.set_append_left _ _ hlt]⟩
   ·rw [mask_no hex, mask_no hex]
    exact ⟨h1, h2⟩
end
structure Inv (P : Program) (W : List Nat) (Z : Option Tmp) (l : List Oper) (val : Nat → AV) (hp : Nat → List Blk) (slx : Nat → List AV) (S0 : Stay) (ρ0 : Rho) (ws : World) (d0 : List Deferred) (listed : Array Bool) (a : Act) (w : World) : Prop where
 size : listed.size = l.length
 closed : closed l listed
 ex : ∃ (S : Stay) (ρ : Rho) (sl : List AV) (cur : List Blk), Rel S ρ cur w ∧ SlR S ρ sl a ∧ a.defers = d0 ∧ Frx S0 S ρ0 ρ ws w ∧ sl.length = (slx 0).length ∧
  (∀ j o t, l[j]? = some o → o.dst = some t → li listed j → t < (slx 0).length → sl[t]? = some (val j)) ∧
  (∀ t, (∀ j o, l[j]? = some o → li listed j → o.dst ≠ some t) → sl[t]? = (slx 0)[t]?) ∧
  (∃ x, x ≤ l.length ∧ (∀ j, j < x → Eff P W Z l j → li listed j ∨ bareAt l j) ∧ (∀ j, x ≤ j → Eff P W Z l j → ¬ li listed j) ∧ cur = maskA P W Z l hp listed x ∧ ∀ j, j < x → bareAt l j → ¬ li listed j → ρ[(hp j).length]? = some gapR) ∧
  (∀ q ∈ W, cur[q]? = (hp 0)[q]?)
end
end

section
open Go.RowKit
section
variable {P : Program} {W : List Nat} {Z : Option Tmp} {l : List Oper} {val : Nat → AV} {hp : Nat → List Blk} {slx : Nat → List AV} {S0 : Stay} {ρ0 : Rho} {ws : World} {d0 : List Deferred} {listed : Array Bool} {a : Act} {w : World}

theorem agree (hd : DrawOK P W Z l) (hx : Lex P W Z l val hp slx) (hcl : closed l listed) {i : Nat} {o : Oper} (ho : l[i]? = some o) (hun : ¬ li listed i) (hre : ∀ e ∈ o.after, Region.binds .any e = true → li listed e.on)
  {sl : List AV} (hlen : sl.length = (slx 0).length) (h1 : ∀ j o t, l[j]? = some o → o.dst = some t → li listed j → t < (slx 0).length → sl[t]? = some (val j))
  (h2 : ∀ t, (∀ j o, l[j]? = some o → li listed j → o.dst ≠ some t) → sl[t]? = (slx 0)[t]?) {t : Nat} (ht : t ∈ lookTmps l.toArray o) : sl[t]? = (slx i)[t]? := by
 have hil := lt_of_get ho
 have hlx := hx.length i (by omega)
 rcases Nat.lt_or_ge t (slx 0).length with hlt | hge
 ·by_cases hw : ∃ (j : Nat) (p : Oper), l[j]? = some p ∧ p.dst = some t
  ·obtain ⟨j, p, hj, hpd⟩ := hw
   rcases hd.looks i o j p t ho hj hpd ht with ⟨hji, hr⟩ | ⟨hij, hr⟩
   ·have hl := reaches_li hcl _ i j hr fun o' ho' => by rw [ho] at ho'; simp at ho'; subst ho'; exact hre
    rw [h1 j p t hj hpd hl hlt, hx.wrote hd i (by omega) j p t hj hpd hji hlt]
   ·have hnl : ¬ li listed j := fun hl => hun (reaches_li hcl _ j i hr fun o' ho' => hcl j o' ho' hl)
    have huniq : ∀ k q, l[k]? = some q → q.dst = some t → k = j := fun k q hk hq => hd.dsts j p k q t hj hk hq hpd
    rw [h2 t fun k q hk hl hq => hnl (huniq k q hk hq ▸ hl), hx.kept i (by omega) t fun k q hk hki hq => by have := huniq k q hk hq; omega]
  ·have hno : ∀ (j : Nat) (p : Oper), l[j]? = some p → p.dst ≠ some t := fun j p hj hpd => hw ⟨j, p, hj, hpd⟩
   rw [h2 t fun k q hk _ => hno k q hk, hx.kept i (by omega) t fun k q hk _ => hno k q hk]
 ·rw [List.getElem?_eq_none (by omega), List.getElem?_eq_none (by omega)]

theorem inv_put (hd : DrawOK P W Z l) (hcl : closed l listed) (hsz : listed.size = l.length) {i : Nat} {o : Oper} (ho : l[i]? = some o) (hun : ¬ li listed i) (hre : ∀ e ∈ o.after, Region.binds .any e = true → li listed e.on)
  {S : Stay} {ρ : Rho} {sl : List AV} {cur : List Blk} {V : Value} (hr : Rel S ρ cur w) (hs : SlR S ρ sl a) (hV : (val i).R S ρ V) (hdf : a.defers = d0) (hf : Frx S0 S ρ0 ρ ws w) (hlen : sl.length = (slx 0).length)
  (h1 : ∀ j o t, l[j]? = some o → o.dst = some t → li listed j → t < (slx 0).length → sl[t]? = some (val j))
  (h2 : ∀ t, (∀ j o, l[j]? = some o → li listed j → o.dst ≠ some t) → sl[t]? = (slx 0)[t]?)
  (h3 : ∃ x, x ≤ l.length ∧ (∀ j, j < x → Eff P W Z l j → li (listed.setIfInBounds i true) j ∨ bareAt l j) ∧ (∀ j, x ≤ j → Eff P W Z l j → ¬ li (listed.setIfInBounds i true) j) ∧ cur = maskA P W Z l hp (listed.setIfInBounds i true) x ∧ ∀ j, j < x → bareAt l j → ¬ li (listed.setIfInBounds i true) j → ρ[(hp j).length]? = some gapR) (h4 : ∀ q ∈ W, cur[q]? = (hp 0)[q]?) :
  Inv P W Z l val hp slx S0 ρ0 ws d0 (listed.setIfInBounds i true) (a.put o.dst V) w := by
 have hil := lt_of_get ho
 have hset := fun j => li_set (listed := listed) (i := i) (by omega) j
 refine ⟨by simp [hsz], ?_, S, ρ, putA sl o.dst (val i), cur, hr, putA_R hs o.dst hV, by rw [put_defers]; exact hdf, hf, by rw [putA_length]; exact hlen, ?_, ?_, h3, h4⟩
 ·intro j p hj hl e he hb
  rw [hset] at hl ⊢
  rcases hl with rfl | hl
  ·rw [ho] at hj; simp at hj; subst hj; exact .inr (hre e he hb)
  ·exact .inr (hcl j p hj hl e he hb)
 ·intro j p t hj hpd hl hlt
  rw [putA_get]
  rw [hset] at hl
  by_cases e : j = i
  ·subst e; rw [ho] at hj; simp at hj; subst hj; rw [if_pos ⟨hpd, by omega⟩]
  ·rw [if_neg fun hc => e (hd.dsts i o j p t ho hj hpd hc.1)]
   exact h1 j p t hj hpd (hl.resolve_left e) hlt
 ·intro t hn
  rw [putA_get, if_neg fun hc => hn i o ho ((hset i).2 (.inl rfl)) hc.1]
  exact h2 t fun j p hj hl => hn j p hj ((hset j).2 (.inr hl))

theorem inv_op (hd : DrawOK P W Z l) (hm0 : ρ0.length ≤ (hp 0).length) (hx : Lex P W Z l val hp slx) (hinv : Inv P W Z l val hp slx S0 ρ0 ws d0 listed a w) {i : Nat} {o : Oper} (ho : l[i]? = some o) (hun : ¬ li listed i) (hre : ∀ e ∈ o.after, Region.binds .any e = true → li listed e.on)
  {Q : Exit → Act → World → Prop} {K : Act → World → Prop} (hK : ∀ a' w', Inv P W Z l val hp slx S0 ρ0 ws d0 (listed.setIfInBounds i true) a' w' → K a' w') : wpOp P l.toArray Q i K a w := by
 obtain ⟨hsz, hcl, S, ρ, sl, cur, hr, hs, hdf, hf, hlen, h1, h2, h3, h4⟩ := hinv
 have hil := lt_of_get ho
 have hset := fun j => li_set (listed := listed) (i := i) (by omega) j
 have hag : ∀ t, t ∈ lookTmps l.toArray o → sl[t]? = (slx i)[t]? := fun t ht => agree hd hx hcl ho hun hre hlen h1 h2 ht
 have hop : OpR S ρ (slx i) o.op.operands.toList a := by
  intro x hxm v hv
  cases x with
  | tmp t =>
   have hm : t ∈ lookTmps l.toArray o := by
    unfold lookTmps
    exact List.mem_append_left _ (List.mem_filterMap.2 ⟨.tmp t, hxm, rfl⟩)
   refine getA_R (x := .tmp t) hs ?_
   simp only [getA, nth_eq] at hv ⊢
   rw [hag t hm]; exact hv
  | const c => exact getA_R hs (by simpa [getA] using hv)
  | func g => exact getA_R hs (by simpa [getA] using hv)
  | global g => simp [getA] at hv
 obtain ⟨_, b, hb, hbf, hbt⟩ := hx.step i o ho
 have hwant : Region.wanted o (yielded l.toArray a.tmps) = b := by
  refine wantedA_ok hs ?_
  rw [← hb]
  unfold wantedA
  split
  ·rfl
  ·rename_i j want hg
   split
   ·rename_i oj hoj
    split
    ·rename_i d hdd
     have hm : d ∈ lookTmps l.toArray o := by
      unfold lookTmps
      refine List.mem_append_right _ ?_
      simp [hg]
      rw [← List.getElem?_toArray, hoj]; exact hdd
     rw [nth_eq, nth_eq, hag d hm]
    ·rfl
   ·rfl
 obtain ⟨x, hxl, hA, hB, hcu, hgap⟩ := h3
 have ree : ∀ {j : Nat}, reaches l l.length i j = true → li listed j := fun h => reaches_li hcl _ i _ h fun o' ho' => by rw [ho] at ho'; simp at ho'; subst ho'; exact hre
 have rel : ∀ {j : Nat}, li listed j → reaches l l.length j i = true → False := fun hl h => hun (reaches_li hcl _ _ i h fun o' ho' => hcl _ o' ho' hl)
 have ahead : (∀ j, i < j → Eff P W Z l j → li listed j → bareAt l j) → ∀ j, i < j → j < x → Eff P W Z l j → bareAt l j := fun h j h1 h2 he => by
  rcases hA j h2 he with q | q
  ·exact h j h1 he q
  ·exact q
 have hcurE : (∀ j, j < i → Eff P W Z l j → li listed j) → (∀ j, i < j → Eff P W Z l j → li listed j → bareAt l j) → (Eff P W Z l i → bareAt l i) → ∃ E, cur = hp i ++ E ∧ (x ≤ i → E = []) := fun g1 g2 g3 => by
  rcases Nat.lt_or_ge i x with hix | hix
  ·obtain ⟨E, hE⟩ := mask_from (listed := listed) hx (i := i) (fun j hj hb => g1 j hj (bare_eff hb)) x (by omega) hxl fun j h1 h2 he => by
    by_cases e : i = j
    ·subst e; exact g3 he
    ·exact ahead g2 j (by omega) h2 he
   exact ⟨E, by rw [hcu, hE], fun h => by omega⟩
  ·refine ⟨[], ?_, fun _ => rfl⟩
   rw [hcu, mask_full hx x hxl fun j hj hb => g1 j (by omega) (bare_eff hb), List.append_nil]
   exact (hx.stills i hix (by omega) fun y h1 h2 he => hB y h1 he (g1 y h2 he)).symm
 have hcur : Eff P W Z l i → ¬ bareAt l i → cur = hp i := fun he hnb => by
  obtain ⟨p, hp1, hp2, hp3⟩ := id he
  rw [ho] at hp1; simp only [Option.some.injEq] at hp1; subst hp1
  have hbf : bare o = false := by
   cases q : bare o with
   | false => rfl
   | true => exact (hnb ⟨o, ho, q⟩).elim
  have g1 : ∀ j, j < i → Eff P W Z l j → li listed j := fun j hj ⟨q, q1, q2, q3⟩ => ree (hd.loud i o j q ho q1 hj hp2 q2 (.inl hp3) (fun _ => q3) (fun h => by rw [hbf] at h; simp at h))
  have g2 : ∀ j, i < j → Eff P W Z l j → li listed j → bareAt l j := fun j hj ⟨q, q1, q2, q3⟩ hl => (rel hl (hd.loud j q i o q1 ho hj q2 hp2 (.inl q3) (fun _ => hp3) (fun _ => hbf))).elim
  have hxi : x ≤ i := by
   rcases Nat.lt_or_ge i x with h | h
   ·rcases hA i h he with q | q
    ·exact (hun q).elim
    ·exact (hnb q).elim
   ·exact h
  rw [hcu, mask_full hx x hxl fun j hj hb => g1 j (by omega) (bare_eff hb)]
  exact (hx.stills i hxi (by omega) fun y h1 h2 he => hB y h1 he (g1 y h2 he)).symm
 have hsame : ¬ Eff P W Z l i → ∀ {ρ' : Rho}, (∀ (q : Nat) (y : Option Nat × Rg), ρ[q]? = some y → ρ'[q]? = some y) → ∃ x, x ≤ l.length ∧ (∀ j, j < x → Eff P W Z l j → li (listed.setIfInBounds i true) j ∨ bareAt l j) ∧ (∀ j, x ≤ j → Eff P W Z l j → ¬ li (listed.setIfInBounds i true) j) ∧ cur = maskA P W Z l hp (listed.setIfInBounds i true) x ∧ ∀ j, j < x → bareAt l j → ¬ li (listed.setIfInBounds i true) j → ρ'[(hp j).length]? = some gapR := by
  intro hne ρ' hρ
  refine ⟨x, hxl, fun j hj he => (hA j hj he).imp (fun q => (hset j).2 (.inr q)) id, fun j hj he hl => ?_, ?_, fun j hj hb hl => hρ _ _ (hgap j hj hb fun q => hl ((hset j).2 (.inr q)))⟩
  ·rcases (hset j).1 hl with rfl | q
   ·exact hne he
   ·exact hB j hj he q
  ·rw [hcu]
   refine mask_same x fun j hj hb => ?_
   rw [hset]
   exact ⟨.inr, fun q => q.resolve_left fun e => hne (e ▸ bare_eff hb)⟩
 have hnext : Eff P W Z l i → ¬ bareAt l i → ∀ {ρ' : Rho}, ∃ x, x ≤ l.length ∧ (∀ j, j < x → Eff P W Z l j → li (listed.setIfInBounds i true) j ∨ bareAt l j) ∧ (∀ j, x ≤ j → Eff P W Z l j → ¬ li (listed.setIfInBounds i true) j) ∧ hp (i + 1) = maskA P W Z l hp (listed.setIfInBounds i true) x ∧ ∀ j, j < x → bareAt l j → ¬ li (listed.setIfInBounds i true) j → ρ'[(hp j).length]? = some gapR := by
  intro he hnb ρ'
  obtain ⟨p, hp1, hp2, hp3⟩ := id he
  rw [ho] at hp1; simp only [Option.some.injEq] at hp1; subst hp1
  have hbf : bare o = false := by
   cases q : bare o with
   | false => rfl
   | true => exact (hnb ⟨o, ho, q⟩).elim
  have g1 : ∀ j, j < i → Eff P W Z l j → li listed j := fun j hj ⟨q, q1, q2, q3⟩ => ree (hd.loud i o j q ho q1 hj hp2 q2 (.inl hp3) (fun _ => q3) (fun h => by rw [hbf] at h; simp at h))
  refine ⟨i + 1, by omega, fun j hj hej => .inl ((hset j).2 ?_), fun j hj hej hl => ?_, (mask_eff hnb he).symm, fun j hj hb hl => (hl ((hset j).2 ?_)).elim⟩
  ·by_cases e : j = i
   ·exact .inl e
   ·exact .inr (g1 j (by omega) hej)
  ·have hl' := ((hset j).1 hl).resolve_left (by omega)
   obtain ⟨q, q1, q2, q3⟩ := hej
   exact rel hl' (hd.loud j q i o q1 ho (by omega) q2 hp2 (.inl q3) (fun _ => hp3) (fun _ => hbf))
  ·by_cases e : j = i
   ·exact .inl e
   ·exact .inr (g1 j (by omega) (bare_eff hb))
 have hoa : l.toArray[i]? = some o := by simpa using ho
 unfold wpOp
 simp only [hoa]
 rw [hwant]
 cases b with
 | false =>
  simp only [Bool.false_eq_true, if_false]
  obtain ⟨hv, hh⟩ := hbf rfl
  refine hK _ _ (inv_put hd hcl hsz ho hun hre hr hs (by rw [hv]; exact undefA_R S ρ) hdf hf hlen h1 h2 ?_ h4)
  by_cases he : Eff P W Z l i
  ·have hnb : ¬ bareAt l i := fun hb => by
    obtain ⟨o', ho', hbo⟩ := hb
    rw [ho] at ho'; simp only [Option.some.injEq] at ho'; subst ho'
    obtain ⟨_, segs, t, L, e, _⟩ := hx.new ho hbo
    rw [hh] at e
    have := congrArg List.length e
    simp at this
   have := hnext he hnb (ρ' := ρ)
   rw [hh] at this
   rw [hcur he hnb]; exact this
  ·exact hsame he fun _ _ h => h
 | true =>
  simp only [if_true]
  left
  obtain ⟨g1, g2, g3⟩ := hbt rfl
  by_cases hpu : pureIn P W o.op = true
  ·obtain ⟨_, hgo⟩ := g1 hpu
   refine hgo S ρ w a cur (fun q hq => (h4 q hq).trans (hx.keeps i (by omega) q hq).symm) hr hop K Q fun V S' w' rV hr' hf' => hK _ _ ?_
   exact inv_put hd hcl hsz ho hun hre hr' (Frx.rel hf' hs) rV hdf (Frx.trans hf hf') hlen h1 h2 (hsame (fun ⟨p, hp1, hp2, _⟩ => by rw [ho] at hp1; simp at hp1; subst hp1; rw [hpu] at hp2; simp at hp2) fun _ _ h => h) h4
  ·have hpu' : pureIn P W o.op = false := by simpa using hpu
   by_cases hlo : lookZ Z o = true
   ·obtain ⟨_, hgo⟩ := g2 hpu' hlo
    have hne : ¬ Eff P W Z l i := fun ⟨p, hp1, _, hp3⟩ => by rw [ho] at hp1; simp at hp1; subst hp1; rw [hlo] at hp3; simp at hp3
    have hnb : bare o = false := by
     cases q : bare o with
     | false => rfl
     | true => exact (hne (bare_eff ⟨o, ho, q⟩)).elim
    have g1 : ∀ j, j < i → Eff P W Z l j → li listed j := fun j hj ⟨q, q1, q2, q3⟩ => ree (hd.loud i o j q ho q1 hj hpu' q2 (.inr q3) (fun _ => q3) (fun h => by rw [hnb] at h; simp at h))
    have hall : ∀ j, i < j → Eff P W Z l j → li listed j → bareAt l j := fun j hj ⟨p, hp1, hp2, hp3⟩ hl => by
     refine ⟨p, hp1, ?_⟩
     cases hal : bare p with
     | true => rfl
     | false => exact (rel hl (hd.loud j p i o hp1 ho hj hp2 hpu' (.inl hp3) (fun h => by rw [hal] at h; simp at h) (fun _ => hnb))).elim
    obtain ⟨E, hE, hc⟩ : ∃ E : List Blk, (E = [] ∨ (l.toArray.any fun p => isAlloc p.op) = true) ∧ cur = hp i ++ E := by
     obtain ⟨E, h5, h6⟩ := hcurE g1 hall fun he => (hne he).elim
     refine ⟨E, ?_, h5⟩
     by_cases hany' : (l.toArray.any fun p => isAlloc p.op) = true
     ·exact .inr hany'
     ·left
      have hnone : ∀ j, ¬ bareAt l j := fun j ⟨p, hp1, hp2⟩ => hany' (by
       simp only [List.any_toArray, List.any_eq_true]
       exact ⟨p, List.mem_of_getElem? hp1, bare_alloc hp2⟩)
      rcases Nat.lt_or_ge i x with hix | hix
      ·have e1 : cur = hp i := by
        rw [hcu, mask_full hx x hxl fun j _ hb => (hnone j hb).elim]
        exact hx.stills x (by omega) hxl fun y h1 h2 he => by
         by_cases e : i = y
         ·subst e; exact hne he
         ·exact hnone y (ahead hall y (by omega) h2 he)
       rw [h5] at e1
       have := congrArg List.length e1
       simp only [List.length_append] at this
       exact List.eq_nil_of_length_eq_zero (by omega)
      ·exact h6 hix
    refine hgo S ρ w a E hE (hc ▸ hr) hop K Q fun V S' w' rV hr' hf' => hK _ _ ?_
    exact inv_put hd hcl hsz ho hun hre (hc.symm ▸ hr') (Frx.rel hf' hs) rV hdf (Frx.trans hf hf') hlen h1 h2 (hsame hne fun _ _ h => h) h4
   ·have hlo' : lookZ Z o = false := by simpa using hlo
    have he : Eff P W Z l i := ⟨o, ho, hpu', hlo'⟩
    by_cases hb : bare o = true
    ·
     obtain ⟨hW, segs, ty, L, e1, e2, hok, hL, hrun⟩ := hx.new ho hb
     have hba : bareAt l i := ⟨o, ho, hb⟩
     have g1 : ∀ j, j < i → Eff P W Z l j → ¬ bareAt l j → li listed j := fun j hj ⟨q, q1, q2, q3⟩ hnb => ree (hd.loud i o j q ho q1 hj hpu' q2 (.inl hlo') (fun _ => q3) (fun _ => by
      cases h : bare q with
      | false => rfl
      | true => exact (hnb ⟨q, q1, h⟩).elim))
     have g2 : ∀ j, i < j → Eff P W Z l j → li listed j → bareAt l j := fun j hj ⟨q, q1, q2, q3⟩ hl => by
      refine ⟨q, q1, ?_⟩
      cases h : bare q with
      | true => rfl
      | false => exact (rel hl (hd.loud j q i o q1 ho hj q2 hpu' (.inl q3) (fun h' => by rw [h] at h'; simp at h') (fun h' => by rw [h] at h'; simp at h'))).elim
     have far : ∀ d y, y + d = i + 1 → x ≤ y → (∀ j, x ≤ j → j < y → Eff P W Z l j → bareAt l j) → (∃ ρ', Rel S ρ' (maskA P W Z l hp listed y) w ∧ Frx S S ρ ρ' w w ∧ ∀ j, j < y → bareAt l j → ¬ li listed j → ρ'[(hp j).length]? = some gapR) →
       ∃ ρ', Rel S ρ' (maskA P W Z l hp listed (i + 1)) w ∧ Frx S S ρ ρ' w w ∧ ∀ j, j < i + 1 → bareAt l j → ¬ li listed j → ρ'[(hp j).length]? = some gapR := by
      intro d
      induction d with
      | zero => intro y hy _ _ h; obtain rfl : y = i + 1 := by omega
                exact h
      | succ d ih =>
       intro y hy hxy hbt ⟨ρ', q1, q2, q3⟩
       have hby : Eff P W Z l y → bareAt l y := fun hey => by
        by_cases hb' : bareAt l y
        ·exact hb'
        ·rcases Nat.lt_or_ge y i with hyi | hyi
         ·exact (hB y hxy hey (g1 y hyi hey hb')).elim
         ·obtain rfl : y = i := by omega
          exact hba
       refine ih (y + 1) (by omega) (by omega) (fun j j1 j2 je => by
        by_cases e : j = y
        ·subst e; exact hby je
        ·exact hbt j j1 (by omega) je) ?_
       by_cases hey : Eff P W Z l y
       ·have hb' := hby hey
        have hl' : ¬ li listed y := hB y hxy hey
        obtain ⟨r1, r2⟩ := q1.gap
        refine ⟨ρ' ++ [gapR], by rw [mask_gap hb' hl']; exact r1, Frx.trans q2 r2, fun j hj hbj hlj => ?_⟩
        by_cases e : j = y
        ·subst e
         have : (hp j).length = ρ'.length := by rw [q1.len, mask_len hx j (by have := lt_of_get hbj.choose_spec.1; omega)]
         rw [this]; simp
        ·exact get_prefix (q3 j (by omega) hbj hlj)
       ·refine ⟨ρ', by rw [mask_no hey]; exact q1, q2, fun j hj hbj hlj => ?_⟩
        by_cases e : j = y
        ·subst e; exact (hey (bare_eff hbj)).elim
        ·exact q3 j (by omega) hbj hlj
     obtain ⟨x', ρ', hix, hxl', r1, r2, r3, hA', hB'⟩ : ∃ x' ρ', i < x' ∧ x' ≤ l.length ∧ Rel S ρ' (maskA P W Z l hp listed x') w ∧ Frx S S ρ ρ' w w ∧ (∀ j, j < x' → bareAt l j → ¬ li listed j → ρ'[(hp j).length]? = some gapR) ∧
       (∀ j, j < x' → Eff P W Z l j → li listed j ∨ bareAt l j) ∧ ∀ j, x' ≤ j → Eff P W Z l j → ¬ li listed j := by
      rcases Nat.lt_or_ge i x with hix | hix
      ·exact ⟨x, ρ, hix, hxl, hcu ▸ hr, Frm.refl _ _ _ _, hgap, hA, hB⟩
      ·obtain ⟨ρ', q1, q2, q3⟩ := far (i + 1 - x) x (by omega) (Nat.le_refl _) (fun j j1 j2 => by omega) ⟨ρ, hcu ▸ hr, Frm.refl _ _ _ _, hgap⟩
       refine ⟨i + 1, ρ', by omega, by omega, q1, q2, q3, fun j hj hej => ?_, fun j hj => hB j (by omega)⟩
       by_cases hbj : bareAt l j
       ·exact .inr hbj
       ·by_cases e : j = i
        ·subst e; exact (hbj hba).elim
        ·exact .inl (g1 j (by omega) hej hbj)
     obtain ⟨m1, m2⟩ := mask_set (listed := listed) hx hsz hba hun e1 x' hix hxl' fun j j1 j2 je => by
      rcases hA' j j2 je with q | q
      ·exact g2 j j1 je q
      ·exact q
     have hg := r3 i hix hba hun
     have hfill := r1.fill hg m1 hL hok ty
     refine hrun w a K Q (hK _ _ ?_)
     have hfx : Frx S0 S ρ0 ρ' ws w := Frx.trans hf r2
     refine inv_put hd hcl hsz ho hun hre hfill (SlR.fill hg (Frx.rel r2 hs)) ?_ hdf (Frx.fill hfx hg (Nat.le_trans hm0 (hx.mono i (by omega))) _ _) hlen h1 h2 ⟨x', hxl', fun j hj hej => (hA' j hj hej).imp (fun q => (hset j).2 (.inr q)) id, fun j hj hej hl => ?_, m2.symm, fun j hj hbj hl => ?_⟩ (fun q hq => by rw [hW] at hq; simp at hq)
     ·rw [e2]
      exact ⟨w.heap.size, _, set_eq hg, rfl⟩
     ·rcases (hset j).1 hl with rfl | q
      ·omega
      ·exact hB' j hj hej q
     ·have hne : ¬ j = i := fun e => hl ((hset j).2 (.inl e))
      have hl' : ¬ li listed j := fun q => hl ((hset j).2 (.inr q))
      rw [set_ne]
      ·exact r3 j hj hbj hl'
      ·intro e
       rcases Nat.lt_or_ge j i with q | q
       ·have := hx.lt hbj q (by omega); omega
       ·have := hx.lt hba (show i < j by omega) (by omega); omega
    ·have hbf : ¬ bareAt l i := fun ⟨o', ho', hbo⟩ => by rw [ho] at ho'; simp only [Option.some.injEq] at ho'; subst ho'; exact hb hbo
     have hc := hcur he hbf
     obtain ⟨_, _, _, g3⟩ := g3 hpu' hlo'
     refine g3 S ρ w a (hc ▸ hr) hop K Q fun V S' ρ' w' rV hr' hf' => hK _ _ ?_
     exact inv_put hd hcl hsz ho hun hre hr' (Frx.rel hf' hs) rV hdf (Frx.trans hf hf') hlen h1 h2 (hnext he hbf) (fun q hq => hx.keeps (i + 1) (by omega) q hq)

theorem any_ok (hd : DrawOK P W Z l) (hm0 : ρ0.length ≤ (hp 0).length) (hx : Lex P W Z l val hp slx) {Q : Exit → Act → World → Prop}
  (hQ : ∀ S ρ w a, Rel S ρ (hp l.length) w → SlR S ρ (slx l.length) a → a.defers = d0 → Frx S0 S ρ0 ρ ws w → Q .normal a w) :
  ∀ (fuel : Nat) (listed : Array Bool) (a : Act) (w : World), Inv P W Z l val hp slx S0 ρ0 ws d0 listed a w → unl listed.toList ≤ fuel → wpAny P .any l.toArray Q fuel listed a w := by
 have fin : ∀ (listed : Array Bool) (a : Act) (w : World), Inv P W Z l val hp slx S0 ρ0 ws d0 listed a w → (∀ j, j < l.length → li listed j) → Q .normal a w := by
  rintro listed a w ⟨hsz, hcl, S, ρ, sl, cur, hr, hs, hdf, hf, hlen, h1, h2, h3, _⟩ hall
  have e1 : sl = slx l.length := by
   apply List.ext_getElem?
   intro t
   rcases Nat.lt_or_ge t (slx 0).length with hlt | hge
   ·by_cases hw : ∃ (j : Nat) (p : Oper), l[j]? = some p ∧ p.dst = some t
    ·obtain ⟨j, p, hj, hpd⟩ := hw
     rw [h1 j p t hj hpd (hall j (lt_of_get hj)) hlt, hx.wrote hd _ (Nat.le_refl _) j p t hj hpd (lt_of_get hj) hlt]
    ·rw [h2 t fun j p hj _ hpd => hw ⟨j, p, hj, hpd⟩, hx.kept _ (Nat.le_refl _) t fun j p hj _ hpd => hw ⟨j, p, hj, hpd⟩]
   ·rw [List.getElem?_eq_none (by omega), List.getElem?_eq_none (by rw [hx.length _ (Nat.le_refl _)]; exact hge)]
  have e2 : cur = hp l.length := by
   obtain ⟨x, hxl, hA, hB, hcu, _⟩ := h3
   rw [hcu, mask_full hx x hxl fun j hj _ => hall j (by omega)]
   exact (hx.stills l.length hxl (Nat.le_refl _) fun y h1 h2 he => hB y h1 he (hall y h2)).symm
  exact hQ S ρ w a (e2 ▸ hr) (e1 ▸ hs) hdf hf
 have isli : ∀ {listed : Array Bool} {j : Nat}, listed.size = l.length → j < l.length → (listed.getD j true = false ↔ ¬ li listed j) := by
  intro listed j hsz hj
  unfold li
  rw [getD_bool (by omega) true]; simp
 have done : ∀ (listed : Array Bool) (a : Act) (w : World), Inv P W Z l val hp slx S0 ρ0 ws d0 listed a w → Region.ready .any l.toArray listed = [] → ∀ j, j < l.length → li listed j := by
  rintro listed a w ⟨hsz, hcl, _⟩ hemp j
  induction j using Nat.strongRecOn with
  | _ j ih =>
   intro hj
   by_cases hl : li listed j
   ·exact hl
   ·have ho : l[j]? = some l[j] := List.getElem?_eq_getElem hj
    have : j ∈ Region.ready .any l.toArray listed := by
     rw [mem_ready]
     refine ⟨(isli hsz hj).2 hl, l[j], by simp, fun e he hb => ?_⟩
     have hlt := hd.back j _ ho e he hb
     exact ih e.on hlt (by omega)
    rw [hemp] at this; simp at this
 intro fuel
 induction fuel with
 | zero =>
  intro listed a w hinv hu
  have hall : ∀ j, j < l.length → li listed j := by
   intro j hj
   have hsz := hinv.size
   have hb : listed[j]? = some listed[j] := Array.getElem?_eq_getElem (by omega)
   have := unl_zero listed.toList (by omega) listed[j] (by simp)
   unfold li
   rw [Array.getD_eq_getD_getElem?, hb]; simpa using this
  refine ⟨?_, fin listed a w hinv hall⟩
  rw [List.eq_nil_iff_forall_not_mem]
  intro j hj
  rw [mem_ready] at hj
  obtain ⟨h1, o, ho, _⟩ := hj
  have hjl : j < l.length := lt_of_get (l := l) (by simpa using ho)
  exact (isli hinv.size hjl).1 h1 (hall j hjl)
 | succ fuel ih =>
  intro listed a w hinv hu
  refine ⟨fun hemp => fin listed a w hinv (done listed a w hinv hemp), fun i hi => ?_⟩
  rw [mem_ready] at hi
  obtain ⟨h1, o, ho, hre⟩ := hi
  have ho' : l[i]? = some o := by simpa using ho
  have hil := lt_of_get ho'
  have hsz := hinv.size
  have hun := (isli hinv.size hil).1 h1
  refine inv_op hd hm0 hx hinv ho' hun (fun e he hb => hre e he hb) fun a' w' hinv' => ih _ a' w' hinv' ?_
  have hg : listed.toList[i]? = some false := by
   have hb : listed[i]? = some listed[i] := Array.getElem?_eq_getElem (by omega)
   rw [Array.getD_eq_getD_getElem?, hb] at h1
   simp at h1
   simp [hb, h1]
  have := unl_set _ _ hg
  simp only [Array.toList_setIfInBounds]
  omega

theorem unl_replicate : ∀ n, unl (List.replicate n false) = n
 | 0 => rfl
 | n + 1 => by simp only [List.replicate_succ, unl, unl_replicate n]; simp; omega

theorem evDraw_ok {R : Type} {call : FuncId → List AV → List Blk → KA R → Option R} (hc : CallOK P call) {ops : Array Oper} (hm : P.follows .mixedOrders = true) {W : List Nat} {Z : Option Tmp} (hb : drawB P W Z ops.toList = true)
  {sl : List AV} {h : List Blk} {k : List AV → List Blk → Option R} {r : R} (he : evDraw P W Z call ops ops.toList sl h k = some r) :
  ∃ sl' h', k sl' h' = some r ∧ Ext h.length h h' ∧ h.length ≤ h'.length ∧ ∀ (id : Nat) (S : Stay) (ρ : Rho) (w : World) (a : Act) (Q : Exit → Act → World → Prop), Rel S ρ h w → SlR S ρ sl a →
   (∀ S' ρ' w' a', Rel S' ρ' h' w' → SlR S' ρ' sl' a' → Frx S S' ρ ρ' w w' → a'.defers = a.defers → Q .normal a' w') → (Code.region id ops true).wp P Q a w := by
 obtain ⟨val, hp, slx, e1, e2, e3, e4, e4l, e5⟩ := evDraw_trace hc W Z ops.toList he
 have hd := drawOK_of hb
 refine ⟨_, _, e3, e4, e4l, fun id S ρ w a Q hr hs hn => ?_⟩
 have hx : Lex P W Z ops.toList val hp slx := ⟨fun i o ho => (e5 i o ho).1, fun i o ho => by simpa using (e5 i o ho).2⟩
 obtain ⟨hr', hf'⟩ := hr.draw (w.drawn + 1)
 have hinv : Inv P W Z ops.toList val hp slx S ρ w a.defers (Array.replicate ops.size false) a { w with drawn := w.drawn + 1 } := by
  have hno : ∀ j, ¬ li (Array.replicate ops.size false) j := by
   intro j hl
   unfold li at hl
   rw [Array.getD_eq_getD_getElem?, Array.getElem?_replicate] at hl
   split at hl <;> simp at hl
  refine ⟨by simp, fun j o _ hl => (hno j hl).elim, S, ρ, sl, h, hr', hs, rfl, hf', by rw [e1], fun j o t _ _ hl => (hno j hl).elim, fun t _ => by rw [e1], ⟨0, Nat.zero_le _, fun j hj => by omega, fun j _ _ hl => hno j hl, by rw [← e2]; rfl, fun j hj => by omega⟩, fun q _ => by rw [e2]⟩
 refine wp_region_any hm ?_
 have := any_ok hd (by rw [e2, hr.len]; exact Nat.le_refl _) hx (Q := Q) (fun S' ρ' w' a' h1 h2 h3 h4 => hn S' ρ' w' a' h1 h2 h4 h3) ops.size _ a _ hinv (by simp [unl_replicate])
 simpa using this
end
end

section
open Go.RowKit
/-! ### The evaluator is right: code and calls -/
section
variable {P : Program} {R : Type}

def OpsGo (P : Program) (ops : Array Oper) (l : List Oper) (sl : List AV) (h : List Blk) (sl' : List AV) (h' : List Blk) : Prop :=
 ∀ (S : Stay) (ρ : Rho) (w : World) (a : Act) (Q : Exit → Act → World → Prop), Rel S ρ h w → SlR S ρ sl a →
  (∀ S' ρ' w' a', Rel S' ρ' h' w' → SlR S' ρ' sl' a' → Frx S S' ρ ρ' w w' → a'.defers = a.defers → Q .normal a' w') → wpList P ops Q l a w
theorem Ext.comp {h h1 h2 : List Blk} (a : Ext h.length h h1) (l : h.length ≤ h1.length) (b : Ext h1.length h1 h2) : Ext h.length h h2 := fun i x hi hx hr => b i x (Nat.lt_of_lt_of_le hi l) (a i x hi hx hr) hr
theorem Ext.less {m m' : Nat} {h h1 : List Blk} (a : Ext m h h1) (l : m' ≤ m) : Ext m' h h1 := fun i x hi hx hr => a i x (Nat.lt_of_lt_of_le hi l) hx hr

theorem evOps_cons {call : FuncId → List AV → List Blk → KA R → Option R} {ops : Array Oper} (o : Oper) (rest : List Oper) : evOps P call ops (o :: rest) = evOps1 P call ops o (evOps P call ops rest) := rfl
theorem forceL_eq {α β : Type} : ∀ (l : List α) (k : List α → β), forceL l k = k l
 | [], _ => rfl
 | a :: l, k => by simp only [forceL]; exact forceL_eq l _
theorem evOps_ok {call : FuncId → List AV → List Blk → KA R → Option R} (hc : CallOK P call) {ops : Array Oper} :
  ∀ (l : List Oper) {sl : List AV} {h : List Blk} {k : List AV → List Blk → Option R} {r : R}, evOps P call ops l sl h k = some r → ∃ sl' h', k sl' h' = some r ∧ Ext h.length h h' ∧ h.length ≤ h'.length ∧ OpsGo P ops l sl h sl' h'
 | [], sl, h, k, r, he => ⟨sl, h, he, Ext.refl _ _, Nat.le_refl _, fun S ρ w a Q hr hs hn => wpList_nil (hn S ρ w a hr hs (Frm.refl _ _ _ _) rfl)⟩
 | o :: rest, sl, h, k, r, he => by
  rw [evOps_cons] at he
  unfold evOps1 at he
  split at he
  ·rename_i b hb
   split at he
   ·rename_i hbt
    subst hbt
    obtain ⟨av, h1, hk, hx1, hl1, hgo⟩ := evOp_ok hc he
    obtain ⟨sl', h', hk', hx2, hl2, hrest⟩ := evOps_ok hc rest hk
    refine ⟨sl', h', hk', hx1.comp hl1 hx2, Nat.le_trans hl1 hl2, fun S ρ w a Q hr hs hn => wpList_step fun K hK => ?_⟩
    rw [wantedA_ok hs hb]
    have hs := sharp_R hs hb
    simp only [if_true]
    refine hgo hr (hs.op _) K Q fun V S1 ρ1 w1 rV hr1 hf1 => hK _ _ (hrest S1 ρ1 w1 _ Q hr1 (putA_R (Frx.rel hf1 hs) o.dst rV) fun S2 ρ2 w2 a2 hr2 hs2 hf2 hd => hn S2 ρ2 w2 a2 hr2 hs2 (Frx.trans hf1 hf2) (hd.trans (put_defers _ _ _)))
   ·rename_i hbf
    have : b = false := by simpa using hbf
    subst this
    obtain ⟨sl', h', hk', hx2, hl2, hrest⟩ := evOps_ok hc rest he
    refine ⟨sl', h', hk', hx2, hl2, fun S ρ w a Q hr hs hn => wpList_step fun K hK => ?_⟩
    rw [wantedA_ok hs hb]
    have hs := sharp_R hs hb
    simp only [Bool.false_eq_true, if_false]
    exact hK _ _ (hrest S ρ w _ Q hr (putA_R hs o.dst (undefA_R S ρ)) fun S2 ρ2 w2 a2 hr2 hs2 hf2 hd => hn S2 ρ2 w2 a2 hr2 hs2 hf2 (hd.trans (put_defers _ _ _)))
  ·simp at he

def ExR : Ex → Exit → Prop
 | .normal, e => e = .normal
 | .exit i, e => e = .exit i
 | .ret, e => e = .ret

def Post (m : Nat) (S : Stay) (ρ : Rho) (w : World) (d : List Deferred) (ex : Ex) (sl' : List AV) (h' : List Blk) (e : Exit) (a' : Act) (w' : World) : Prop :=
 ∃ S' ρ', ExR ex e ∧ Rel S' ρ' h' w' ∧ SlR S' ρ' sl' a' ∧ a'.defers = d ∧ Frm m S S' ρ ρ' w w'
def Goes (P : Program) (m : Nat) (c : Code) (sl : List AV) (h : List Blk) (ex : Ex) (sl' : List AV) (h' : List Blk) : Prop :=
 ∀ (S : Stay) (ρ : Rho) (w : World) (a : Act), Rel S ρ h w → SlR S ρ sl a → c.wp P (Post m S ρ w a.defers ex sl' h') a w
def Comes (P : Program) (m : Nat) (c : Code) (sl : List AV) (h : List Blk) (k : KC R) (r : R) : Prop :=
 ∃ ex sl' h', k ex sl' h' = some r ∧ Ext m h h' ∧ m ≤ h'.length ∧ Goes P m c sl h ex sl' h'
def CodeOK (P : Program) (m : Nat) (c : Code) (ev : List AV → List Blk → KC R → Option R) : Prop :=
 ∀ (sl : List AV) (h : List Blk) (k : KC R) (r : R), m ≤ h.length → ev sl h k = some r → Comes P m c sl h k r
theorem Post.frm {m : Nat} {S S1 : Stay} {ρ ρ1 : Rho} {w w1 : World} {d : List Deferred} {ex : Ex} {sl' : List AV} {h' : List Blk} {e : Exit} {a' : Act} {w' : World} (hf : Frm m S S1 ρ ρ1 w w1) (h : Post m S1 ρ1 w1 d ex sl' h' e a' w') : Post m S ρ w d ex sl' h' e a' w' := by
 obtain ⟨S', ρ', hx, hr, hs, hd, hf'⟩ := h
 exact ⟨S', ρ', hx, hr, hs, hd, hf.trans hf'⟩

theorem loopE_ok {m : Nat} {c : Code} {ev : List AV → List Blk → KC R → Option R} (hev : CodeOK P m c ev) {k : KC R} {r : R} :
  ∀ (n : Nat) (sl : List AV) (h : List Blk), m ≤ h.length → loopE ev n sl h k = some r → ∃ ex sl' h', k ex sl' h' = some r ∧ Ext m h h' ∧ m ≤ h'.length ∧
   ∀ (S : Stay) (ρ : Rho) (w : World) (a : Act), Rel S ρ h w → SlR S ρ sl a → ∀ (Q : Exit → Act → World → Prop), (∀ e a' w', Post m S ρ w a.defers ex sl' h' e a' w' → Q e a' w') → Code.rounds P c Q n a w
 | 0, sl, h, _, he => by simp [loopE] at he
 | n + 1, sl, h, hm, he => by
  simp only [loopE] at he
  obtain ⟨ex1, sl1, h1, hk, hx1, hm1, hgo⟩ := hev sl h _ r hm he
  cases ex1 with
  | normal =>
   simp only [forceL_eq] at hk
   obtain ⟨ex, sl', h', hk', hx2, hm2, hrest⟩ := loopE_ok hev n sl1 h1 hm1 hk
   refine ⟨ex, sl', h', hk', hx1.trans hx2, hm2, fun S ρ w a hr hs Q hq => ?_⟩
   rw [rounds_succ]
   refine Code.wp_mono ?_ (hgo S ρ w a hr hs)
   rintro e a' w' ⟨S', ρ', rfl, hr', hs', hd, hf⟩
   refine hrest S' ρ' w' a' hr' hs' Q fun e2 a2 w2 hp => hq _ _ _ ?_
   rw [hd] at hp
   exact hp.frm hf
  | exit i =>
   refine ⟨.exit i, sl1, h1, hk, hx1, hm1, fun S ρ w a hr hs Q hq => ?_⟩
   rw [rounds_succ]
   refine Code.wp_mono ?_ (hgo S ρ w a hr hs)
   rintro e a' w' ⟨S', ρ', rfl, hr', hs', hd, hf⟩
   exact hq _ _ _ ⟨S', ρ', rfl, hr', hs', hd, hf⟩
  | ret =>
   refine ⟨.ret, sl1, h1, hk, hx1, hm1, fun S ρ w a hr hs Q hq => ?_⟩
   rw [rounds_succ]
   refine Code.wp_mono ?_ (hgo S ρ w a hr hs)
   rintro e a' w' ⟨S', ρ', rfl, hr', hs', hd, hf⟩
   exact hq _ _ _ ⟨S', ρ', rfl, hr', hs', hd, hf⟩

noncomputable def loopAt (c : Code) : Nat → Option Code :=
 Code.rec (motive := fun _ => Nat → Option Code) (fun _ => none) (fun _ _ _ _ => none) (fun a _ fa fb j => if j < nloops a then fa j else fb (j - nloops a)) (fun _ a _ fa fb j => if j < nloops a then fa j else fb (j - nloops a)) (fun _ _ fb j => fb j)
  (fun b fb j => match j with
   | 0 => some b
   | j + 1 => fb j) (fun _ _ _ _ _ _ _ => none) (fun _ _ => none) (fun _ fb j => fb j) (fun _ _ => none) (fun _ _ => none) (fun _ => none) (fun _ _ => none) c
theorem loopAt_lt : ∀ (c : Code) (j : Nat) (b : Code), loopAt c j = some b → j < nloops c := by
 intro c
 induction c with
 | skip => intro j b h; exact absurd h (by intro h; cases h)
 | region id ops draw => intro j b h; exact absurd h (by intro h; cases h)
 | seq x y ihx ihy =>
  intro j b h
  replace h : (if j < nloops x then loopAt x j else loopAt y (j - nloops x)) = some b := h
  show j < nloops x + nloops y
  split at h
  ·rename_i hlt; omega
  ·have := ihy _ _ h; omega
 | cond c x y ihx ihy =>
  intro j b h
  replace h : (if j < nloops x then loopAt x j else loopAt y (j - nloops x)) = some b := h
  show j < nloops x + nloops y
  split at h
  ·rename_i hlt; omega
  ·have := ihy _ _ h; omega
 | block id c ih => intro j b h; exact ih j b h
 | loop c ih =>
  intro j b h
  show j < nloops c + 1
  cases j with
  | zero => omega
  | succ j => have := ih j b h; omega
 | scope c ih => intro j b h; exact ih j b h
 | _ => intro j b h; exact absurd h (by intro h; cases h)
def LoOK (P : Program) (m : Nat) (c : Code) (lo : Lo R) (base : Nat) : Prop :=
 ∀ j b, loopAt c j = some b → ∀ (sl : List AV) (h : List Blk) (k : KC R) (r : R), m ≤ h.length → lo (base + j) sl h k = some (some r) → Comes P m (.loop b) sl h k r
theorem LoOK.left {m base : Nat} {x y c : Code} {lo : Lo R} (h : LoOK P m c lo base) (e : ∀ j, loopAt c j = if j < nloops x then loopAt x j else loopAt y (j - nloops x)) : LoOK P m x lo base := fun j b hj => h j b (by rw [e, if_pos (loopAt_lt x j b hj)]; exact hj)
theorem LoOK.right {m base : Nat} {x y c : Code} {lo : Lo R} (h : LoOK P m c lo base) (e : ∀ j, loopAt c j = if j < nloops x then loopAt x j else loopAt y (j - nloops x)) : LoOK P m y lo (base + nloops x) := fun j b hj => by
 have := h (nloops x + j) b (by rw [e, if_neg (by omega)]; rw [Nat.add_sub_cancel_left]; exact hj)
 rw [← Nat.add_assoc] at this; exact this

theorem evCode_ok {call : FuncId → List AV → List Blk → KA R → Option R} (hc : CallOK P call) {lo : Lo R} {m : Nat} (n : Nat) : ∀ (c : Code) (base : Nat), LoOK P m c lo base → CodeOK P m c (evCode P call lo n c base) := by
 intro c
 induction c with
 | skip =>
  intro base hlo sl h k r hm he
  exact ⟨.normal, sl, h, he, Ext.refl _ _, hm, fun S ρ w a hr hs => wp_skip ⟨S, ρ, rfl, hr, hs, rfl, Frm.refl _ _ _ _⟩⟩
 | region id ops draw =>
  intro base hlo sl h k r hm he
  replace he : evRegion P call ops draw sl h k = some r := he
  unfold evRegion at he
  have weak : ∀ {S S' : Stay} {ρ ρ' : Rho} {w w' : World}, Rel S ρ h w → Frx S S' ρ ρ' w w' → Frm m S S' ρ ρ' w w' := fun hr hf => Frm.weaken hf (by rw [hr.len]; exact hm) (Nat.le_refl _)
  split at he
  ·rename_i hd
   subst hd
   split at he
   ·rename_i hcond
    obtain ⟨sl', h', hk, hx1, hl1, hgo⟩ := evDraw_ok hc hcond.1 hcond.2.2 he
    exact ⟨.normal, sl', h', hk, hx1.less hm, Nat.le_trans hm hl1, fun S ρ w a hr hs => hgo id S ρ w a _ hr hs fun S' ρ' w' a' hr' hs' hf hd => ⟨S', ρ', rfl, hr', hs', hd, weak hr hf⟩⟩
   ·split at he
    ·rename_i hcond
     obtain ⟨sl', h', hk, hx1, hl1, hgo⟩ := evDraw_ok hc hcond.1 hcond.2 he
     exact ⟨.normal, sl', h', hk, hx1.less hm, Nat.le_trans hm hl1, fun S ρ w a hr hs => hgo id S ρ w a _ hr hs fun S' ρ' w' a' hr' hs' hf hd => ⟨S', ρ', rfl, hr', hs', hd, weak hr hf⟩⟩
    ·split at he
     ·rename_i hcond
      obtain ⟨sl', h', hk, hx1, hl1, hgo⟩ := evDraw_ok hc hcond.1 hcond.2.2 he
      exact ⟨.normal, sl', h', hk, hx1.less hm, Nat.le_trans hm hl1, fun S ρ w a hr hs => hgo id S ρ w a _ hr hs fun S' ρ' w' a' hr' hs' hf hd => ⟨S', ρ', rfl, hr', hs', hd, weak hr hf⟩⟩
     ·split at he
      ·rename_i hcond
       obtain ⟨sl', h', hk, hx1, hl1, hgo⟩ := evDraw_ok hc hcond.2.1 hcond.2.2 he
       exact ⟨.normal, sl', h', hk, hx1.less hm, Nat.le_trans hm hl1, fun S ρ w a hr hs => hgo id S ρ w a _ hr hs fun S' ρ' w' a' hr' hs' hf hd => ⟨S', ρ', rfl, hr', hs', hd, weak hr hf⟩⟩
      ·obtain ⟨sl1, h1, hk1, _⟩ := evOps_ok none_ok ops.toList he
       split at hk1
       ·rename_i hcond
        obtain ⟨sl', h', hk, hx1, hl1, hgo⟩ := evDraw_ok hc hcond.1 hcond.2 hk1
        exact ⟨.normal, sl', h', hk, hx1.less hm, Nat.le_trans hm hl1, fun S ρ w a hr hs => hgo id S ρ w a _ hr hs fun S' ρ' w' a' hr' hs' hf hd => ⟨S', ρ', rfl, hr', hs', hd, weak hr hf⟩⟩
       ·simp at hk1
  ·rename_i hd
   have : draw = false := by simpa using hd
   subst this
   obtain ⟨sl', h', hk, hx1, hl1, hgo⟩ := evOps_ok hc ops.toList he
   exact ⟨.normal, sl', h', hk, hx1.less hm, Nat.le_trans hm hl1, fun S ρ w a hr hs => wp_region_list (hgo S ρ w a _ hr hs fun S' ρ' w' a' hr' hs' hf hd => ⟨S', ρ', rfl, hr', hs', hd, weak hr hf⟩)⟩
 | seq x y ihx ihy =>
  intro base hlo sl h k r hm he
  replace he : evCode P call lo n x base sl h (evSeqK (evCode P call lo n y (base + nloops x)) k) = some r := he
  obtain ⟨ex1, sl1, h1, hk, hx1, hm1, hgo⟩ := ihx base (hlo.left (x := x) (y := y) fun _ => rfl) sl h _ r hm he
  cases ex1 with
  | normal =>
   obtain ⟨ex, sl', h', hk', hx2, hm2, hgo'⟩ := ihy _ (hlo.right (x := x) (y := y) fun _ => rfl) sl1 h1 k r hm1 hk
   refine ⟨ex, sl', h', hk', hx1.trans hx2, hm2, fun S ρ w a hr hs => wp_seq (Code.wp_mono ?_ (hgo S ρ w a hr hs))⟩
   rintro e a' w' ⟨S', ρ', rfl, hr', hs', hd, hf⟩
   refine Code.wp_mono (fun e2 a2 w2 hp => ?_) (hgo' S' ρ' w' a' hr' hs')
   rw [hd] at hp
   exact hp.frm hf
  | exit i =>
   refine ⟨.exit i, sl1, h1, hk, hx1, hm1, fun S ρ w a hr hs => wp_seq (Code.wp_mono ?_ (hgo S ρ w a hr hs))⟩
   rintro e a' w' ⟨S', ρ', rfl, hr', hs', hd, hf⟩
   exact ⟨S', ρ', rfl, hr', hs', hd, hf⟩
  | ret =>
   refine ⟨.ret, sl1, h1, hk, hx1, hm1, fun S ρ w a hr hs => wp_seq (Code.wp_mono ?_ (hgo S ρ w a hr hs))⟩
   rintro e a' w' ⟨S', ρ', rfl, hr', hs', hd, hf⟩
   exact ⟨S', ρ', rfl, hr', hs', hd, hf⟩
 | cond c x y ihx ihy =>
  intro base hlo sl h k r hm he
  replace he : evCondK (getA sl c) (evCode P call lo n x base (sharpC c true sl) h k) (evCode P call lo n y (base + nloops x) (sharpC c false sl) h k) = some r := he
  unfold evCondK at he
  split at he
  ·rename_i t ht
   split at he
   ·rename_i htt
    subst htt
    obtain ⟨ex, sl', h', hk, hx1, hm1, hgo⟩ := ihx base (hlo.left (x := x) (y := y) fun _ => rfl) _ h k r hm he
    exact ⟨ex, sl', h', hk, hx1, hm1, fun S ρ w a hr hs => wp_cond_true (getA_R hs ht).1 (hgo S ρ w a hr (sharpC_R hs ht))⟩
   ·rename_i htf
    have : t = false := by simpa using htf
    subst this
    obtain ⟨ex, sl', h', hk, hx1, hm1, hgo⟩ := ihy _ (hlo.right (x := x) (y := y) fun _ => rfl) _ h k r hm he
    exact ⟨ex, sl', h', hk, hx1, hm1, fun S ρ w a hr hs => wp_cond_false (getA_R hs ht).1 (hgo S ρ w a hr (sharpC_R hs ht))⟩
  ·simp at he
 | block id c ih =>
  intro base hlo sl h k r hm he
  replace he : evCode P call lo n c base sl h (evBlockK id k) = some r := he
  obtain ⟨ex1, sl1, h1, hk, hx1, hm1, hgo⟩ := ih base hlo sl h _ r hm he
  cases ex1 with
  | normal =>
   refine ⟨.normal, sl1, h1, hk, hx1, hm1, fun S ρ w a hr hs => wp_block (Code.wp_mono ?_ (hgo S ρ w a hr hs))⟩
   rintro e a' w' ⟨S', ρ', rfl, hr', hs', hd, hf⟩
   exact ⟨S', ρ', rfl, hr', hs', hd, hf⟩
  | exit i =>
   simp only [evBlockK] at hk
   split at hk
   ·rename_i hi
    subst hi
    refine ⟨.normal, sl1, h1, hk, hx1, hm1, fun S ρ w a hr hs => wp_block (Code.wp_mono ?_ (hgo S ρ w a hr hs))⟩
    rintro e a' w' ⟨S', ρ', rfl, hr', hs', hd, hf⟩
    simp only [Exit.inBlock, if_true]
    exact ⟨S', ρ', rfl, hr', hs', hd, hf⟩
   ·rename_i hi
    refine ⟨.exit i, sl1, h1, hk, hx1, hm1, fun S ρ w a hr hs => wp_block (Code.wp_mono ?_ (hgo S ρ w a hr hs))⟩
    rintro e a' w' ⟨S', ρ', rfl, hr', hs', hd, hf⟩
    simp only [Exit.inBlock, if_neg hi]
    exact ⟨S', ρ', rfl, hr', hs', hd, hf⟩
  | ret =>
   refine ⟨.ret, sl1, h1, hk, hx1, hm1, fun S ρ w a hr hs => wp_block (Code.wp_mono ?_ (hgo S ρ w a hr hs))⟩
   rintro e a' w' ⟨S', ρ', rfl, hr', hs', hd, hf⟩
   exact ⟨S', ρ', rfl, hr', hs', hd, hf⟩
 | loop c ih =>
  intro base hlo sl h k r hm he
  replace he : evLoopK lo (evCode P call lo n c (base + 1)) n base sl h k = some r := he
  unfold evLoopK at he
  split at he
  ·rename_i r' hr'
   subst he
   exact hlo 0 c rfl sl h k r hm hr'
  ·have hin : LoOK P m c lo (base + 1) := fun j b hj => by
    have := hlo (j + 1) b hj
    rw [show base + (j + 1) = base + 1 + j by omega] at this; exact this
   obtain ⟨ex, sl', h', hk, hx1, hm1, hgo⟩ := loopE_ok (ih _ hin) n sl h hm he
   exact ⟨ex, sl', h', hk, hx1, hm1, fun S ρ w a hr hs => wp_loop_rounds n (hgo S ρ w a hr hs _ fun e a' w' hp => hp)⟩
 | exit id =>
  intro base hlo sl h k r hm he
  exact ⟨.exit id, sl, h, he, Ext.refl _ _, hm, fun S ρ w a hr hs => wp_exit ⟨S, ρ, rfl, hr, hs, rfl, Frm.refl _ _ _ _⟩⟩
 | label l =>
  intro base hlo sl h k r hm he
  exact ⟨.normal, sl, h, he, Ext.refl _ _, hm, fun S ρ w a hr hs => wp_label ⟨S, ρ, rfl, hr, hs, rfl, Frm.refl _ _ _ _⟩⟩
 | ret =>
  intro base hlo sl h k r hm he
  exact ⟨.ret, sl, h, he, Ext.refl _ _, hm, fun S ρ w a hr hs => wp_ret ⟨S, ρ, rfl, hr, hs, rfl, Frm.refl _ _ _ _⟩⟩
 | _ => intro base hlo sl h k r hm he; exact absurd he (by intro h; cases h)

theorem evRes_ok {h : List Blk} {sl : List AV} {S : Stay} {ρ : Rho} {w : World} {a : Act} (hr : Rel S ρ h w) (hs : SlR S ρ sl a) :
  ∀ {l : List ResultVar} {cs : List Cp}, evRes P sl h l = some cs → ∃ L, (l.mapM (m := Sem) fun
   | .tmp t => pure (a.tmps.getD t undef)
   | .cell x t => do loadVar t (← asAddr (a.tmps.getD x undef))).run P w = .ok L w ∧ LR (Cp.R S ρ) cs L
 | [], cs, he => by simp [evRes] at he; subst he; exact ⟨[], rfl, trivial⟩
 | .tmp t :: l, cs, he => by
  simp only [evRes, nth_eq] at he
  split at he
  ·rename_i c hc
   split at he
   ·rename_i m hm
    simp at he; subst he
    obtain ⟨L, hL, rL⟩ := evRes_ok hr hs hm
    have rc := getA_R (x := .tmp t) hs (by simpa only [getA, nth_eq] using hc)
    refine ⟨a.tmps.getD t undef :: L, ?_, rc, rL⟩
    rw [List.mapM_cons, run_bind_ok (show (pure (a.tmps.getD t undef) : Sem Value).run P w = _ from rfl), run_bind_ok hL]; rfl
   ·simp at he
  ·simp at he
 | .cell x t :: l, cs, he => by
  simp only [evRes, nth_eq] at he
  split at he
  ·rename_i v hv
   split at he
   ·rename_i c hc
    split at he
    ·rename_i m hm
     simp at he; subst he
     obtain ⟨L, hL, rL⟩ := evRes_ok hr hs hm
     obtain ⟨u, hk, hgo⟩ := evLoad_ok hc
     obtain ⟨V, hrun, rV⟩ := hgo hr (getA_R (x := .tmp x) hs (by simpa only [getA, nth_eq] using hv))
     simp only [Option.some.injEq] at hk
     subst hk
     refine ⟨V :: L, ?_, rV, rL⟩
     rw [List.mapM_cons]
     have h1 : ((do loadVar t (← asAddr (a.tmps.getD x undef))) : Sem Value).run P w = .ok V w := by
      have e : a.eval (.tmp x) = a.tmps.getD x undef := rfl
      rw [e] at hrun
      unfold Instr.loadAt at hrun
      revert hrun
      cases a.tmps.getD x undef with
      | pointer p =>
       cases p with
       | none => intro hrun; simp [Instr.sureAddr, stuck, run_bind', Sem.run] at hrun
       | some p => intro hrun; exact hrun
      | _ => intro hrun; simp [Instr.sureAddr, stuck, run_bind', Sem.run] at hrun
     rw [run_bind_ok h1, run_bind_ok hL]; rfl
    ·simp at he
   ·simp at he
  ·simp at he

theorem resAV_R {S : Stay} {ρ : Rho} {cs : List Cp} {L : List Value} (h : LR (Cp.R S ρ) cs L) : (resAV cs).R S ρ (if e : L.toArray.size = 1 then L.toArray[0] else .tuple L.toArray) := by
 match cs, L, h with
 | [], [], _ => exact ⟨[], trivial, rfl⟩
 | [c], [V], h => exact h.1
 | c :: d :: cs, V :: W :: L, h => exact ⟨V :: W :: L, h, by simp⟩
 | [], _ :: _, h => exact h.elim
 | _ :: _, [], h => exact h.elim
 | [c], _ :: _ :: _, h => exact h.2.elim
 | _ :: _ :: _, [_], h => exact h.2.elim

def TblOK (P : Program) (tbl : FuncId → Option Func) : Prop := ∀ g fn, tbl g = some fn → P.funcs[g]? = some fn ∧ (fn.name == "runtime.NumGoroutine") = false
def LosOK (P : Program) (los : FuncId → Nat → Lo R) : Prop := ∀ g fn c m, P.funcs[g]? = some fn → fn.body = some c → LoOK P m c (los g m) 0

theorem evFn_ok {tbl : FuncId → Option Func} (ht : TblOK P tbl) {call : FuncId → List AV → List Blk → KA R → Option R} (hc : CallOK P call) {los : FuncId → Nat → Lo R} (hlo : LosOK P los) {n : Nat} {g : FuncId} {args : List AV} {h : List Blk} {k : KA R} {r : R}
  (he : evFn P tbl call los n g args h k = some r) : ∃ rv h', k rv h' = some r ∧ Ext h.length h h' ∧ h.length ≤ h'.length ∧ CallGoes P g args h rv h' := by
 unfold evFn at he
 split at he
 ·rename_i fn hfn
  obtain ⟨hf, hname⟩ := ht g fn hfn
  split at he
  ·rename_i c hb
   obtain ⟨ex, sl', h', hk, hx1, hm1, hgo⟩ := evCode_ok hc n c 0 (hlo g fn c h.length hf hb) _ h _ r (Nat.le_refl _) he
   have key : ∀ cs, evRes P sl' h' fn.results.toList = some cs → (∀ e, ExR ex e → e = .normal ∨ e = .ret) → CallGoes P g args h (resAV cs) h' := by
    intro cs hcs hex
    refine ⟨⟨fn, hf, hname, by rw [hb]; rfl⟩, fun S ρ w A hr hA => ?_⟩
    refine calls_of_wp hf hb ?_
    have hs : SlR S ρ (args ++ List.replicate (fn.ntmps - args.length) undefA) { tmps := A.toArray ++ Array.replicate (fn.ntmps - A.toArray.size) undef, defers := [] } := by
     unfold SlR
     simp only [Array.toList_append, Array.toList_replicate, List.size_toArray]
     rw [← hA.length]
     exact hA.append (LR.replicate (undefA_R S ρ) _)
    refine Code.wp_mono ?_ (hgo S ρ w _ hr hs)
    rintro e a' w' ⟨S', ρ', hx, hr', hs', hd, hf'⟩
    obtain ⟨L, hL, rL⟩ := evRes_ok hr' hs' hcs
    have hres : (results fn a'.tmps).run P w' = .ok (if e : L.toArray.size = 1 then L.toArray[0] else .tuple L.toArray) w' := by
     unfold results
     have hmap : (fn.results.mapM (m := Sem) fun
       | .tmp t => pure (a'.tmps.getD t undef)
       | .cell x t => do loadVar t (← asAddr (a'.tmps.getD x undef))).run P w' = .ok L.toArray w' := by
      rw [Array.mapM_eq_mapM_toList]
      have : ∀ (s : Sem (List Value)), (List.toArray <$> s : Sem (Array Value)) = (s >>= fun x => pure x.toArray) := fun _ => rfl
      rw [this, run_bind_ok hL]; rfl
     exact run_bind_ok hmap
    have hf2 : Frx S S' ρ ρ' w w' := by
     have := hf'
     rw [← hr.len] at this
     exact this
    rcases hex e hx with rfl | rfl
    ·exact ⟨hd, _, hres, S', ρ', _, rfl, resAV_R rL, hr', hf2⟩
    ·exact ⟨hd, _, hres, S', ρ', _, rfl, resAV_R rL, hr', hf2⟩
   cases ex with
   | normal =>
    simp only [] at hk
    split at hk
    ·rename_i cs hcs
     exact ⟨_, _, hk, hx1, hm1, key cs hcs fun e he => .inl he⟩
    ·simp at hk
   | ret =>
    simp only [] at hk
    split at hk
    ·rename_i cs hcs
     exact ⟨_, _, hk, hx1, hm1, key cs hcs fun e he => .inr he⟩
    ·simp at hk
   | exit i => simp at hk
  ·simp at he
 ·simp at he

theorem evCall_ok {tbl : FuncId → Option Func} (ht : TblOK P tbl) {orc : FuncId → List AV → List Blk → KA R → Option R} (hc : CallOK P orc) {los : FuncId → Nat → Lo R} (hlo : LosOK P los) (n : Nat) : ∀ d, CallOK P (evCall P tbl orc los n d)
 | 0 => fun g args h k r he => hc g args h k r (by simpa only [evCall] using he)
 | d + 1 => fun g args h k r he => by
  simp only [evCall] at he
  split at he
  ·exact evFn_ok ht (evCall_ok ht hc hlo n d) hlo he
  ·exact hc g args h k r he

theorem callOK_none : CallOK P (fun _ _ _ (_ : KA R) => none) := fun _ _ _ _ _ he => by simp at he
theorem losOK_none : LosOK P (fun _ _ _ _ _ (_ : KC R) => none) := fun _ _ _ _ _ _ _ _ _ _ _ _ _ _ he => by simp at he

def all (w : World) : Stay := fun n => w.heap[n]?
theorem Rel.nothing (w : World) : Rel (all w) [] [] w := ⟨rfl, by simp, by simp, by simp, fun n o h => ⟨h, by simp⟩, by simp [nums]⟩
theorem Frx.below {S' : Stay} {ρ' : Rho} {S : Stay} {w w' : World} (h : Frx S S' [] ρ' w w') : Below w.heap.size w w' :=
 ⟨h.os, h.tape, h.output, h.size, fun k hk => h.block k hk (by simp [nums])⟩
end
end

end Go.Ew
