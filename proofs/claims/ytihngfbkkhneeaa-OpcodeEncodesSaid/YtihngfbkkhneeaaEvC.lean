/- The evaluator is right: code, open orders, loops and calls. Conditions: none. -/
import Derived.Orders
import Derived.Test.YtihngfbkkhneeaaEvB
namespace Go.Ev
open Go.RowKit
set_option linter.unusedVariables false
set_option linter.unusedSimpArgs false

/-! ### The evaluator is right: operations -/
def callable (P : Program) (g : FuncId) : Prop := ∃ fn, P.funcs[g]? = some fn ∧ (fn.name == "runtime.NumGoroutine") = false ∧ fn.body.isNone = false
/-- what a call comes to -/
def CallGoes (P : Program) (w0 : World) (g : FuncId) (args : List AV) (h : List Blk) (rv : AV) (h' : List Blk) : Prop :=
  callable P g ∧ ∀ (ρ : List (Nat × Nat)) (w : World) (A : List Value), Rel w0 ρ h w → LR (AV.R ρ) args A →
    Calls P g A.toArray w fun e w' => ∃ ρ' V, e = .returned V ∧ rv.R ρ' V ∧ Rel w0 ρ' h' w' ∧ Frm ρ ρ' w w'
/-- a way to carry out calls is right -/
def CallOK (P : Program) (w0 : World) {R : Type} (call : FuncId → List AV → List Blk → KA R → Option R) : Prop :=
  ∀ g args h k r, call g args h k = some r → ∃ rv h', k rv h' = some r ∧ Ext h h' ∧ CallGoes P w0 g args h rv h'

section
variable {P : Program} {w0 w : World} {ρ : List (Nat × Nat)} {h : List Blk} {R : Type}

theorem wp_value {o : Oper} {a : Act} {V : Value} {w' : World} {next : Act → World → Prop} {Q : Exit → Act → World → Prop}
    (hrun : (execOp a.eval o).run P w = .ok (.value V) w') (hn : next (a.put o.dst V) w') : o.wp P a w next Q := by
  unfold Oper.wp; rw [hrun]; exact hn
theorem wp_skip' {o : Oper} {a : Act} {w' : World} {next : Act → World → Prop} {Q : Exit → Act → World → Prop}
    (hrun : (execOp a.eval o).run P w = .ok .skip w') (hn : next (a.put o.dst undef) w') : o.wp P a w next Q := by
  unfold Oper.wp; rw [hrun]; exact hn
theorem run_v {s : Sem Value} {V : Value} {w' : World} (hs : s.run P w = .ok V w') : (do pure (Next.value (← s)) : Sem Next).run P w = .ok (.value V) w' := by
  rw [run_bind_ok hs]; rfl
theorem Frm.rel {ρ ρ' : List (Nat × Nat)} {w w' : World} (f : Frm ρ ρ' w w') {sl : List AV} {a : Act} (hs : SlR ρ sl a) : SlR ρ' sl a := by
  obtain ⟨t, rfl, _⟩ := f.pre; exact hs.ext t
theorem Frm.val {ρ ρ' : List (Nat × Nat)} {w w' : World} (f : Frm ρ ρ' w w') {v : AV} {V : Value} (hs : v.R ρ V) : v.R ρ' V := by
  obtain ⟨t, rfl, _⟩ := f.pre; exact hs.ext t

def OpGoes (P : Program) (w0 : World) (o : Oper) (a : Act) (ρ : List (Nat × Nat)) (w : World) (av : AV) (h' : List Blk) : Prop :=
  ∀ (next : Act → World → Prop) (Q : Exit → Act → World → Prop), (∀ V ρ' w', av.R ρ' V → Rel w0 ρ' h' w' → Frm ρ ρ' w w' → next (a.put o.dst V) w') → o.wp P a w next Q

theorem goes_value {o : Oper} {a : Act} {av : AV} {V : Value} (hr : Rel w0 ρ h w) (hrun : (execOp a.eval o).run P w = .ok (.value V) w) (r : av.R ρ V) : OpGoes P w0 o a ρ w av h :=
  fun _ _ hn => wp_value hrun (hn V ρ w r hr (Frm.refl _ _))
theorem goes_world {o : Oper} {a : Act} {av : AV} {V : Value} {h' : List Blk} {ρ' : List (Nat × Nat)} {w' : World} (hrun : (execOp a.eval o).run P w = .ok (.value V) w') (r : av.R ρ' V) (hr : Rel w0 ρ' h' w') (hf : Frm ρ ρ' w w') : OpGoes P w0 o a ρ w av h' :=
  fun _ _ hn => wp_value hrun (hn V ρ' w' r hr hf)

/-- what an operation looks at is as it is told -/
def OpR (ρ : List (Nat × Nat)) (sl : List AV) (xs : List Operand) (a : Act) : Prop := ∀ x ∈ xs, ∀ v, getA sl x = some v → v.R ρ (a.eval x)
theorem SlR.op {ρ : List (Nat × Nat)} {sl : List AV} {a : Act} (hs : SlR ρ sl a) (xs : List Operand) : OpR ρ sl xs a := fun _ _ _ hv => getA_R hs hv
theorem getAs_op {sl : List AV} {a : Act} : ∀ {l : List Operand} {m : List AV}, OpR ρ sl l a → getAs sl l = some m → LR (AV.R ρ) m (l.map a.eval)
  | [], m, _, h => by simp [getAs] at h; subst h; trivial
  | x :: l, m, hs, h => by
    simp only [getAs] at h
    split at h
    · rename_i v hv
      split at h
      · rename_i m' hm'
        simp at h; subst h
        exact ⟨hs x (by simp) v hv, getAs_op (fun y hy => hs y (by simp [hy])) hm'⟩
      · simp at h
    · simp at h
theorem getPs_op {sl : List AV} {a : Act} : ∀ {l : List (Nat × Operand)} {m : List (Nat × AV)}, OpR ρ sl (l.map (·.2)) a → getPs sl l = some m → PsR ρ m (l.map fun (i, x) => (i, a.eval x))
  | [], m, _, h => by simp [getPs] at h; subst h; trivial
  | (i, x) :: l, m, hs, h => by
    simp only [getPs] at h
    split at h
    · rename_i v hv
      split at h
      · rename_i m' hm'
        simp at h; subst h
        exact ⟨⟨rfl, hs x (by simp) v hv⟩, getPs_op (fun y hy => hs y (by simp only [List.map_cons, List.mem_cons]; exact .inr hy)) hm'⟩
      · simp at h
    · simp at h
theorem optA_op {sl : List AV} {a : Act} {o : Option Operand} (hs : OpR ρ sl o.toList a) {v : Option AV} (h : optA sl o = some v) : OptR ρ v (o.map a.eval) := by
  cases o with
  | none => simp [optA] at h; subst h; trivial
  | some x =>
    simp only [optA] at h
    split at h
    · rename_i u hu
      simp at h; subst h
      exact hs x (by simp) u hu
    · simp at h

theorem caps_AV : ∀ {caps : List (Nat × Nat)} {L : List Value}, LR (PR ρ) caps L → LR (AV.R ρ) (caps.map fun x => .one (.c (.p x.1 x.2))) L
  | [], [], _ => trivial
  | [], _ :: _, h => h.elim
  | _ :: _, [], h => h.elim
  | x :: caps, V :: L, h => ⟨h.1, caps_AV h.2⟩

theorem avals?_R : ∀ {l : List AV} {m L : List Value}, avals? l = some m → LR (AV.R ρ) l L → L = m
  | [], m, L, h, r => by cases L with
    | nil => simp [avals?] at h; exact h.symm
    | cons _ _ => exact r.elim
  | s :: l, m, L, h, r => by
    cases L with
    | nil => exact r.elim
    | cons V L =>
      simp only [avals?] at h
      split at h
      · rename_i x hx
        split at h
        · rename_i m' hm'
          simp at h; subst h
          rw [AV.val?_R hx r.1, avals?_R hm' r.2]
        · simp at h
      · simp at h

theorem evBuiltin_ok {b : Builtin} {tys : Array TypeId} {ty : TypeId} {consts : Array Bool} {args : List AV} {k : KA R} {r : R} (he : evBuiltin P b tys ty consts args h k = some r) :
    ∃ v h', k v h' = some r ∧ Ext h h' ∧ ∀ {w0 w : World} {ρ : List (Nat × Nat)}, Rel w0 ρ h w → ∀ {A : List Value}, LR (AV.R ρ) args A →
      ∃ V ρ' w', (builtin b tys ty consts A.toArray).run P w = .ok (.value V) w' ∧ v.R ρ' V ∧ Rel w0 ρ' h' w' ∧ Frm ρ ρ' w w' := by
  unfold evBuiltin at he
  split at he
  · rename_i s x
    obtain ⟨v, h', hk, hx, hgo⟩ := evAppend_ok (ty := ty) he
    refine ⟨v, h', hk, hx, fun {w0 w ρ} hr {A} hA => ?_⟩
    match A, hA with
    | [S, X], hA =>
      obtain ⟨V, ρ', w', hrun, rV, hr', hf⟩ := hgo hr hA.1 hA.2.1
      exact ⟨V, ρ', w', run_v hrun, rV, hr', hf⟩
    | [], hA => exact hA.elim
    | [_], hA => exact hA.2.elim
    | _ :: _ :: _ :: _, hA => exact hA.2.2.elim
  · rename_i i off len es cap
    split at he
    · rename_i t ht
      split at he
      · rename_i e hu
        refine ⟨_, h, he, Ext.refl _, fun {w0 w ρ} hr {A} hA => ?_⟩
        match A, hA with
        | [S], hA =>
          obtain ⟨n, tn, c, _, rfl, _⟩ := hA.1
          refine ⟨.int .i64 len, ρ, w, ?_, ⟨rfl, rfl⟩, hr, Frm.refl _ _⟩
          refine run_v ?_
          unfold Builtin.len_
          simp only [ht, List.getElem?_toArray, List.getElem?_cons_zero]
          rw [run_bind_ok (run_underlying hu)]; rfl
        | [], hA => exact hA.elim
        | _ :: _ :: _, hA => exact hA.2.elim
      · simp at he
    · simp at he
  · split at he
    · rename_i vs hvs
      split at he
      · rename_i nx hnx
        split at he
        · rename_i v hv
          unfold nextVal at hv
          split at hv
          · rename_i V
            refine ⟨v, h, he, Ext.refl _, fun {w0 w ρ} hr {A} hA => ?_⟩
            obtain rfl := avals?_R hvs hA
            exact ⟨V, ρ, w, pureRun_ok _ hnx w, AV.of?_R hv, hr, Frm.refl _ _⟩
          · simp at hv
        · simp at he
      · simp at he
    · simp at he

theorem evOp_ok {call : FuncId → List AV → List Blk → KA R → Option R} (hc : CallOK P w0 call) {o : Oper} {sl : List AV} {k : KA R} {r : R}
    (he : evOp P call o sl h k = some r) : ∃ av h', k av h' = some r ∧ Ext h h' ∧ ∀ {ρ : List (Nat × Nat)} {w : World} {a : Act}, Rel w0 ρ h w → OpR ρ sl o.op.operands.toList a → OpGoes P w0 o a ρ w av h' := by
  unfold evOp at he
  split at he
  · -- move
    rename_i x hop
    unfold evMoveO at he
    split at he
    · rename_i v hv
      exact ⟨v, h, he, Ext.refl _, fun {ρ w a} hr hs => goes_value hr (by simp only [execOp, hop]; rfl) (hs _ (by simp [hop, Op.operands, Call.operands]) _ hv)⟩
    · simp at he
  · -- assign
    rename_i x hop
    unfold evAssignO at he
    split at he
    · rename_i v hv
      exact ⟨v, h, he, Ext.refl _, fun {ρ w a} hr hs => goes_value hr (by simp only [execOp, hop]; rfl) (hs _ (by simp [hop, Op.operands, Call.operands]) _ hv)⟩
    · simp at he
  · -- pick
    rename_i c x y hop
    unfold evPickO at he
    split at he
    · rename_i t vx vy hc' hx hy
      have hrun : ∀ {ρ : List (Nat × Nat)} {w : World} {a : Act}, OpR ρ sl o.op.operands.toList a → ∀ b, t = b → (execOp a.eval o).run P w = .ok (.value (if b then a.eval x else a.eval y)) w := by
        intro ρ w a hs b hb
        obtain ⟨e, _⟩ := hs _ (by simp [hop, Op.operands, Call.operands]) _ hc'
        simp only [execOp, hop, e]; rw [run_bind_ok (show (asBool _).run P w = .ok t w from rfl), hb]; rfl
      split at he
      · rename_i ht
        exact ⟨vx, h, he, Ext.refl _, fun {ρ w a} hr hs => goes_value hr (hrun hs true ht) (hs _ (by simp [hop, Op.operands, Call.operands]) _ hx)⟩
      · rename_i ht
        exact ⟨vy, h, he, Ext.refl _, fun {ρ w a} hr hs => goes_value hr (hrun hs false (by simpa using ht)) (hs _ (by simp [hop, Op.operands, Call.operands]) _ hy)⟩
    · simp at he
  · -- alloc
    rename_i t hop
    unfold evAllocO at he
    split at he
    · rename_i z hz
      refine ⟨_, _, he, Ext.append _ _, fun {ρ w a} hr hs => ?_⟩
      obtain ⟨Z, hZ, rZ⟩ := run_zeroValue (w := w) ρ hz
      obtain ⟨X, ρ', w', hrun, rX, hr', hf⟩ := evNew_ok (P := P) (t := t) hr rZ
      refine goes_world (V := .pointer (some X)) ?_ rX hr' hf
      simp only [execOp, hop]
      refine run_v ?_
      unfold Instr.alloc
      rw [run_bind_ok hZ]
      simp only []
      rw [run_bind_ok hrun]; rfl
    · simp at he
  · -- box
    rename_i t x hop
    unfold evBoxO at he
    split at he
    · rename_i v hv
      split at he
      · rename_i cs hcs
        refine ⟨_, _, he, Ext.append _ _, fun {ρ w a} hr hs => ?_⟩
        obtain ⟨X, ρ', w', hrun, rX, hr', hf⟩ := evNew_ok (P := P) (t := t) hr (AV.cells?_R hcs (hs _ (by simp [hop, Op.operands, Call.operands]) _ hv))
        refine goes_world (V := .pointer (some X)) ?_ rX hr' hf
        simp only [execOp, hop]
        refine run_v ?_
        unfold Instr.box
        rw [run_bind_ok hrun]; rfl
      · simp at he
    · simp at he
  · -- build
    rename_i t parts hop
    unfold evBuildO at he
    split at he
    · rename_i ps hps
      split at he
      · rename_i v hv
        refine ⟨v, h, he, Ext.refl _, fun {ρ w a} hr hs => ?_⟩
        have hp := getPs_op (fun y hy => hs y (by simp only [hop, Op.operands]; simpa using hy)) hps
        obtain ⟨V, hrun, rV⟩ := evBuild_ok (P := P) (w := w) hv (vs := parts.map fun (i, x) => (i, a.eval x)) (by simpa using hp)
        refine goes_value hr ?_ rV
        simp only [execOp, hop]
        exact run_v hrun
      · simp at he
    · simp at he
  · -- load
    rename_i t x hop
    unfold evLoadO at he
    split at he
    · rename_i v hv
      obtain ⟨u, hk, hgo⟩ := evLoad_ok he
      refine ⟨u, h, hk, Ext.refl _, fun {ρ w a} hr hs => ?_⟩
      obtain ⟨V, hrun, rV⟩ := hgo hr (hs _ (by simp [hop, Op.operands, Call.operands]) _ hv)
      refine goes_value hr ?_ rV
      simp only [execOp, hop]
      exact run_v hrun
    · simp at he
  · -- store
    rename_i t x y hop
    unfold evStoreO at he
    split at he
    · rename_i vx vy hx hy
      split at he
      · rename_i h' hst
        refine ⟨undefA, h', he, evStore_ext hst, fun {ρ w a} hr hs => ?_⟩
        obtain ⟨w', hrun, hr', hf⟩ := evStore_ok hr hst (hs _ (by simp [hop, Op.operands, Call.operands]) _ hx) (hs _ (by simp [hop, Op.operands, Call.operands]) _ hy)
        refine fun next Q hn => wp_skip' (w' := w') ?_ (hn undef ρ w' (undefA_R ρ) hr' hf)
        simp only [execOp, hop]
        rw [run_bind_ok hrun]; rfl
      · simp at he
    · simp at he
  · -- nilCheck
    rename_i x hop
    unfold evNilCheckO at he
    split at he
    · rename_i i off hv
      refine ⟨_, h, he, Ext.refl _, fun {ρ w a} hr hs => ?_⟩
      have rV := hs _ (by simp [hop, Op.operands, Call.operands]) _ hv
      refine goes_value (V := a.eval x) hr ?_ rV
      obtain ⟨b, tb, hb, e⟩ := rV
      simp only [execOp, hop, e]; rfl
    · simp at he
  · -- binOp
    rename_i op t x y yt hop
    unfold evBinOpO at he
    split at he
    · rename_i vx vy hx hy
      split at he
      · rename_i u hu
        refine ⟨u, h, he, Ext.refl _, fun {ρ w a} hr hs => ?_⟩
        obtain ⟨V, hrun, rV⟩ := evBin2_ok (w := w) hu (hs _ (by simp [hop, Op.operands, Call.operands]) _ hx) (hs _ (by simp [hop, Op.operands, Call.operands]) _ hy)
        refine goes_value (V := V) hr ?_ rV
        simp only [execOp, hop]
        exact run_v hrun
      · simp at he
    · simp at he
  · -- unOp
    rename_i op t x hop
    unfold evUnOpO at he
    split at he
    · rename_i vx hx
      split at he
      · rename_i X hX
        split at he
        · rename_i V hV
          split at he
          · rename_i u hu
            refine ⟨u, h, he, Ext.refl _, fun {ρ w a} hr hs => ?_⟩
            have ex := AV.val?_R hX (hs _ (by simp [hop, Op.operands, Call.operands]) _ hx)
            refine goes_value (V := V) hr ?_ (AV.of?_R hu)
            simp only [execOp, hop, ex]
            exact run_v (pureRun_ok _ hV w)
          · simp at he
        · simp at he
      · simp at he
    · simp at he
  · -- convert
    rename_i s d x hop
    unfold evConvertO at he
    split at he
    · rename_i vx hx
      split at he
      · rename_i X hX
        split at he
        · rename_i V hV
          split at he
          · rename_i u hu
            refine ⟨u, h, he, Ext.refl _, fun {ρ w a} hr hs => ?_⟩
            have ex := AV.val?_R hX (hs _ (by simp [hop, Op.operands, Call.operands]) _ hx)
            refine goes_value (V := V) hr ?_ (AV.of?_R hu)
            simp only [execOp, hop, ex]
            exact run_v (pureRun_ok _ hV w)
          · simp at he
        · simp at he
      · simp at he
    · simp at he
  · -- fieldAddr
    rename_i s x f hop
    unfold evFieldAddrO at he
    split at he
    · rename_i v hv
      split at he
      · rename_i u hu
        refine ⟨u, h, he, Ext.refl _, fun {ρ w a} hr hs => ?_⟩
        obtain ⟨V, hrun, rV⟩ := evFieldAddr_ok (w := w) hu (hs _ (by simp [hop, Op.operands, Call.operands]) _ hv)
        refine goes_value hr ?_ rV
        simp only [execOp, hop]
        exact run_v hrun
      · simp at he
    · simp at he
  · -- field
    rename_i s x f hop
    unfold evFieldO at he
    split at he
    · rename_i v hv
      split at he
      · rename_i u hu
        refine ⟨u, h, he, Ext.refl _, fun {ρ w a} hr hs => ?_⟩
        obtain ⟨V, hrun, rV⟩ := evField_ok (w := w) hu (hs _ (by simp [hop, Op.operands, Call.operands]) _ hv)
        refine goes_value hr ?_ rV
        simp only [execOp, hop]
        exact run_v hrun
      · simp at he
    · simp at he
  · -- indexAddr
    rename_i t x i hop
    unfold evIndexAddrO at he
    split at he
    · rename_i vx vi hx hi
      obtain ⟨u, hk, hgo⟩ := evIndexAddr_ok he
      refine ⟨u, h, hk, Ext.refl _, fun {ρ w a} hr hs => ?_⟩
      obtain ⟨V, hrun, rV⟩ := hgo (w := w) (hs _ (by simp [hop, Op.operands, Call.operands]) _ hx) (hs _ (by simp [hop, Op.operands, Call.operands]) _ hi)
      refine goes_value hr ?_ rV
      simp only [execOp, hop]
      exact run_v hrun
    · simp at he
  · -- index
    rename_i t x i hop
    unfold evIndexO at he
    split at he
    · rename_i vx vi hx hi
      obtain ⟨u, hk, hgo⟩ := evIndex_ok he
      refine ⟨u, h, hk, Ext.refl _, fun {ρ w a} hr hs => ?_⟩
      obtain ⟨V, hrun, rV⟩ := hgo (w := w) (hs _ (by simp [hop, Op.operands, Call.operands]) _ hx) (hs _ (by simp [hop, Op.operands, Call.operands]) _ hi)
      refine goes_value hr ?_ rV
      simp only [execOp, hop]
      exact run_v hrun
    · simp at he
  · -- extract
    rename_i x i hop
    unfold evExtractO at he
    split at he
    · rename_i v hv
      split at he
      · rename_i u hu
        refine ⟨u, h, he, Ext.refl _, fun {ρ w a} hr hs => ?_⟩
        obtain ⟨V, hrun, rV⟩ := evExtract_ok (P := P) (w := w) hu (hs _ (by simp [hop, Op.operands, Call.operands]) _ hv)
        refine goes_value hr ?_ rV
        simp only [execOp, hop]
        exact run_v hrun
      · simp at he
    · simp at he
  · -- makeFunc
    rename_i g first caps hop
    unfold evMakeFuncO at he
    split at he
    · rename_i hf
      split at he
      · rename_i l hl
        split at he
        · rename_i cs hcs
          refine ⟨_, h, he, Ext.refl _, fun {ρ w a} hr hs => ?_⟩
          have rL := capsOf_R hcs (getAs_op (fun y hy => hs y (by simp only [hop, Op.operands, Call.operands]; first | simpa using hy | (simp; right; simpa using hy))) hl)
          refine goes_value (V := .func (.func g) #[] (caps.map a.eval)) hr ?_ ⟨_, rL, by congr 1; apply Array.toList_inj.1; simp⟩
          have hf' : first = #[] := Array.eq_empty_of_size_eq_zero hf
          have he0 : (#[] : Array Operand).map a.eval = #[] := by simp
          simp only [execOp, hop, hf', he0]
          exact run_v rfl
        · simp at he
      · simp at he
    · simp at he
  · -- call
    rename_i f args tys hop
    unfold evCallO at he
    split at he
    · rename_i g caps l hf hl
      obtain ⟨rv, h', hk, hx, ⟨fn, hfn, hname, hbody⟩, hspec⟩ := hc _ _ _ _ _ he
      refine ⟨rv, h', hk, hx, fun {ρ w a} hr hs => ?_⟩
      obtain ⟨L, hL, e⟩ := hs _ (by simp [hop, Op.operands, Call.operands]) _ hf
      have rA : LR (AV.R ρ) (l ++ caps.map fun x => .one (.c (.p x.1 x.2))) (args.toList.map a.eval ++ L) := (getAs_op (fun y hy => hs y (by simp only [hop, Op.operands, Call.operands]; first | simpa using hy | (simp; right; simpa using hy))) hl).append (caps_AV hL)
      have hcall := hspec ρ w _ hr rA
      have hrun : (execOp a.eval o).run P w = .ok (.enter g (args.toList.map a.eval ++ L).toArray) w := by
        simp only [execOp, hop]
        have hres : (resolve a.eval { callee := .value f, args, argTypes := tys } o.type).run P w = .ok { target := .fn (.func g) L.toArray, args := #[] ++ args.map a.eval } w := by
          simp only [resolve, e]; rfl
        rw [run_bind_ok hres]
        simp only [invoke, callFunc]
        rw [run_bind_ok (show (program).run P w = .ok P w from rfl)]
        simp only [hfn, hname, hbody, Bool.false_eq_true, if_false]
        rw [run_pure]
        congr 2
        apply Array.toList_inj.1
        simp
      intro next Q hn
      unfold Oper.wp
      rw [hrun]
      refine hcall.mono ?_
      rintro e' w' ⟨ρ', V, rfl, rV, hr', hf'⟩
      exact hn V ρ' w' rV hr' hf'
    · simp at he
  · -- builtin
    rename_i b args tys hop
    unfold evBuiltinO at he
    split at he
    · rename_i l hl
      obtain ⟨v, h', hk, hx, hgo⟩ := evBuiltin_ok he
      refine ⟨v, h', hk, hx, fun {ρ w a} hr hs => ?_⟩
      obtain ⟨V, ρ', w', hrun, rV, hr', hf⟩ := hgo hr (getAs_op (fun y hy => hs y (by simp only [hop, Op.operands, Call.operands]; first | simpa using hy | (simp; right; simpa using hy))) hl)
      refine goes_world (V := V) (w' := w') ?_ rV hr' hf
      simp only [execOp, hop]
      have hres : (resolve a.eval { callee := .builtin b, args, argTypes := tys } o.type).run P w = .ok { target := .builtin b tys o.type (args.map fun | .const _ => true | _ => false), args := args.map a.eval } w := rfl
      rw [run_bind_ok hres]
      simp only [invoke]
      have e : args.map a.eval = (args.toList.map a.eval).toArray := by apply Array.toList_inj.1; simp
      rw [e]; exact hrun
    · simp at he
  · -- buildSlice
    rename_i t len parts hop
    unfold evBuildSliceO at he
    split at he
    · rename_i ps hps
      obtain ⟨v, h', hk, hx, hgo⟩ := evBuildSlice_ok he
      refine ⟨v, h', hk, hx, fun {ρ w a} hr hs => ?_⟩
      have hp := getPs_op (fun y hy => hs y (by simp only [hop, Op.operands]; simpa using hy)) hps
      obtain ⟨V, ρ', w', hrun, rV, hr', hf⟩ := hgo hr (vs := parts.map fun (i, x) => (i, a.eval x)) (by simpa using hp)
      refine goes_world (V := V) (w' := w') ?_ rV hr' hf
      simp only [execOp, hop]
      exact run_v hrun
    · simp at he
  · -- slice
    rename_i t x lo hi hop
    unfold evSliceO at he
    split at he
    · rename_i vx vl vh hx hlo hhi
      obtain ⟨u, hk, hgo⟩ := evSlice_ok he
      refine ⟨u, h, hk, Ext.refl _, fun {ρ w a} hr hs => ?_⟩
      obtain ⟨V, hrun, rV⟩ := hgo hr (hs _ (by simp [hop, Op.operands, Call.operands]) _ hx) (optA_op (fun y hy => hs y (by simp only [hop, Op.operands]; simp only [Array.toList_append, List.mem_append, Option.toList_toArray]; exact .inl (.inl (.inr hy)))) hlo) (optA_op (fun y hy => hs y (by simp only [hop, Op.operands]; simp only [Array.toList_append, List.mem_append, Option.toList_toArray]; exact .inl (.inr hy))) hhi)
      refine goes_value hr ?_ rV
      simp only [execOp, hop]
      exact run_v hrun
    · simp at he
  · -- slice, full
    rename_i t x lo hi mx hop
    unfold evSlice3O at he
    split at he
    · rename_i vx vl vh vm hx hlo hhi hmx
      obtain ⟨u, hk, hgo⟩ := evSlice3_ok he
      refine ⟨u, h, hk, Ext.refl _, fun {ρ w a} hr hs => ?_⟩
      obtain ⟨V, hrun, rV⟩ := hgo hr (hs _ (by simp [hop, Op.operands, Call.operands]) _ hx) (optA_op (fun y hy => hs y (by simp only [hop, Op.operands]; simp only [Array.toList_append, List.mem_append, Option.toList_toArray]; exact .inl (.inl (.inr hy)))) hlo) (optA_op (fun y hy => hs y (by simp only [hop, Op.operands]; simp only [Array.toList_append, List.mem_append, Option.toList_toArray]; exact .inl (.inr hy))) hhi) (optA_op (fun y hy => hs y (by simp only [hop, Op.operands]; simp only [Array.toList_append, List.mem_append, Option.toList_toArray]; exact .inr hy)) hmx)
      refine goes_value hr ?_ rV
      simp only [execOp, hop]
      exact run_v hrun
    · simp at he
  · simp at he
end

section
variable {P : Program} {w0 w : World} {ρ : List (Nat × Nat)} {h : List Blk} {R : Type}
theorem evOp_pure {call : FuncId → List AV → List Blk → KA R → Option R} {o : Oper} {sl : List AV} {k : KA R} {r : R} (hp : pureOp o.op = true)
    (he : evOp P call o sl h k = some r) : ∃ av, k av h = some r ∧ ∀ {ρ : List (Nat × Nat)} {w : World} {a : Act}, OpR ρ sl o.op.operands.toList a → ∃ V, (execOp a.eval o).run P w = .ok (.value V) w ∧ av.R ρ V := by
  unfold evOp at he
  split at he
  · -- move
    rename_i x hop
    unfold evMoveO at he
    split at he
    · rename_i v hv
      exact ⟨v, he, fun {ρ w a} hs => ⟨_, (by simp only [execOp, hop]; rfl), (hs _ (by simp [hop, Op.operands, Call.operands]) _ hv)⟩⟩
    · simp at he
  · -- assign
    rename_i x hop
    unfold evAssignO at he
    split at he
    · rename_i v hv
      exact ⟨v, he, fun {ρ w a} hs => ⟨_, (by simp only [execOp, hop]; rfl), (hs _ (by simp [hop, Op.operands, Call.operands]) _ hv)⟩⟩
    · simp at he
  · -- pick
    rename_i c x y hop
    unfold evPickO at he
    split at he
    · rename_i t vx vy hc' hx hy
      have hrun : ∀ {ρ : List (Nat × Nat)} {w : World} {a : Act}, OpR ρ sl o.op.operands.toList a → ∀ b, t = b → (execOp a.eval o).run P w = .ok (.value (if b then a.eval x else a.eval y)) w := by
        intro ρ w a hs b hb
        obtain ⟨e, _⟩ := hs _ (by simp [hop, Op.operands, Call.operands]) _ hc'
        simp only [execOp, hop, e]; rw [run_bind_ok (show (asBool _).run P w = .ok t w from rfl), hb]; rfl
      split at he
      · rename_i ht
        exact ⟨vx, he, fun {ρ w a} hs => ⟨_, (hrun hs true ht), (hs _ (by simp [hop, Op.operands, Call.operands]) _ hx)⟩⟩
      · rename_i ht
        exact ⟨vy, he, fun {ρ w a} hs => ⟨_, (hrun hs false (by simpa using ht)), (hs _ (by simp [hop, Op.operands, Call.operands]) _ hy)⟩⟩
    · simp at he
  · -- alloc
    rename_i hop
    simp [pureOp, hop] at hp
  · -- box
    rename_i hop
    simp [pureOp, hop] at hp
  · -- build
    rename_i t parts hop
    unfold evBuildO at he
    split at he
    · rename_i ps hps
      split at he
      · rename_i v hv
        refine ⟨v, he, fun {ρ w a} hs => ?_⟩
        have hp := getPs_op (fun y hy => hs y (by simp only [hop, Op.operands]; simpa using hy)) hps
        obtain ⟨V, hrun, rV⟩ := evBuild_ok (P := P) (w := w) hv (vs := parts.map fun (i, x) => (i, a.eval x)) (by simpa using hp)
        refine ⟨_, ?_, rV⟩
        simp only [execOp, hop]
        exact run_v hrun
      · simp at he
    · simp at he
  · -- load
    rename_i hop
    simp [pureOp, hop] at hp
  · -- store
    rename_i hop
    simp [pureOp, hop] at hp
  · -- nilCheck
    rename_i x hop
    unfold evNilCheckO at he
    split at he
    · rename_i i off hv
      refine ⟨_, he, fun {ρ w a} hs => ?_⟩
      have rV := hs _ (by simp [hop, Op.operands, Call.operands]) _ hv
      refine ⟨a.eval x, ?_, rV⟩
      obtain ⟨b, tb, hb, e⟩ := rV
      simp only [execOp, hop, e]; rfl
    · simp at he
  · -- binOp
    rename_i op t x y yt hop
    unfold evBinOpO at he
    split at he
    · rename_i vx vy hx hy
      split at he
      · rename_i u hu
        refine ⟨u, he, fun {ρ w a} hs => ?_⟩
        obtain ⟨V, hrun, rV⟩ := evBin2_ok (w := w) hu (hs _ (by simp [hop, Op.operands, Call.operands]) _ hx) (hs _ (by simp [hop, Op.operands, Call.operands]) _ hy)
        refine ⟨V, ?_, rV⟩
        simp only [execOp, hop]
        exact run_v hrun
      · simp at he
    · simp at he
  · -- unOp
    rename_i op t x hop
    unfold evUnOpO at he
    split at he
    · rename_i vx hx
      split at he
      · rename_i X hX
        split at he
        · rename_i V hV
          split at he
          · rename_i u hu
            refine ⟨u, he, fun {ρ w a} hs => ?_⟩
            have ex := AV.val?_R hX (hs _ (by simp [hop, Op.operands, Call.operands]) _ hx)
            refine ⟨V, ?_, (AV.of?_R hu)⟩
            simp only [execOp, hop, ex]
            exact run_v (pureRun_ok _ hV w)
          · simp at he
        · simp at he
      · simp at he
    · simp at he
  · -- convert
    rename_i s d x hop
    unfold evConvertO at he
    split at he
    · rename_i vx hx
      split at he
      · rename_i X hX
        split at he
        · rename_i V hV
          split at he
          · rename_i u hu
            refine ⟨u, he, fun {ρ w a} hs => ?_⟩
            have ex := AV.val?_R hX (hs _ (by simp [hop, Op.operands, Call.operands]) _ hx)
            refine ⟨V, ?_, (AV.of?_R hu)⟩
            simp only [execOp, hop, ex]
            exact run_v (pureRun_ok _ hV w)
          · simp at he
        · simp at he
      · simp at he
    · simp at he
  · -- fieldAddr
    rename_i s x f hop
    unfold evFieldAddrO at he
    split at he
    · rename_i v hv
      split at he
      · rename_i u hu
        refine ⟨u, he, fun {ρ w a} hs => ?_⟩
        obtain ⟨V, hrun, rV⟩ := evFieldAddr_ok (w := w) hu (hs _ (by simp [hop, Op.operands, Call.operands]) _ hv)
        refine ⟨_, ?_, rV⟩
        simp only [execOp, hop]
        exact run_v hrun
      · simp at he
    · simp at he
  · -- field
    rename_i s x f hop
    unfold evFieldO at he
    split at he
    · rename_i v hv
      split at he
      · rename_i u hu
        refine ⟨u, he, fun {ρ w a} hs => ?_⟩
        obtain ⟨V, hrun, rV⟩ := evField_ok (w := w) hu (hs _ (by simp [hop, Op.operands, Call.operands]) _ hv)
        refine ⟨_, ?_, rV⟩
        simp only [execOp, hop]
        exact run_v hrun
      · simp at he
    · simp at he
  · -- indexAddr
    rename_i t x i hop
    unfold evIndexAddrO at he
    split at he
    · rename_i vx vi hx hi
      obtain ⟨u, hk, hgo⟩ := evIndexAddr_ok he
      refine ⟨u, hk, fun {ρ w a} hs => ?_⟩
      obtain ⟨V, hrun, rV⟩ := hgo (w := w) (hs _ (by simp [hop, Op.operands, Call.operands]) _ hx) (hs _ (by simp [hop, Op.operands, Call.operands]) _ hi)
      refine ⟨_, ?_, rV⟩
      simp only [execOp, hop]
      exact run_v hrun
    · simp at he
  · -- index
    rename_i t x i hop
    unfold evIndexO at he
    split at he
    · rename_i vx vi hx hi
      obtain ⟨u, hk, hgo⟩ := evIndex_ok he
      refine ⟨u, hk, fun {ρ w a} hs => ?_⟩
      obtain ⟨V, hrun, rV⟩ := hgo (w := w) (hs _ (by simp [hop, Op.operands, Call.operands]) _ hx) (hs _ (by simp [hop, Op.operands, Call.operands]) _ hi)
      refine ⟨_, ?_, rV⟩
      simp only [execOp, hop]
      exact run_v hrun
    · simp at he
  · -- extract
    rename_i x i hop
    unfold evExtractO at he
    split at he
    · rename_i v hv
      split at he
      · rename_i u hu
        refine ⟨u, he, fun {ρ w a} hs => ?_⟩
        obtain ⟨V, hrun, rV⟩ := evExtract_ok (P := P) (w := w) hu (hs _ (by simp [hop, Op.operands, Call.operands]) _ hv)
        refine ⟨_, ?_, rV⟩
        simp only [execOp, hop]
        exact run_v hrun
      · simp at he
    · simp at he
  · -- makeFunc
    rename_i g first caps hop
    unfold evMakeFuncO at he
    split at he
    · rename_i hf
      split at he
      · rename_i l hl
        split at he
        · rename_i cs hcs
          refine ⟨_, he, fun {ρ w a} hs => ?_⟩
          have rL := capsOf_R hcs (getAs_op (fun y hy => hs y (by simp only [hop, Op.operands, Call.operands]; first | simpa using hy | (simp; right; simpa using hy))) hl)
          refine ⟨.func (.func g) #[] (caps.map a.eval), ?_, ⟨_, rL, by congr 1; apply Array.toList_inj.1; simp⟩⟩
          have hf' : first = #[] := Array.eq_empty_of_size_eq_zero hf
          have he0 : (#[] : Array Operand).map a.eval = #[] := by simp
          simp only [execOp, hop, hf', he0]
          exact run_v rfl
        · simp at he
      · simp at he
    · simp at he
  · -- call
    rename_i hop
    simp [pureOp, hop] at hp
  · -- builtin
    rename_i hop
    simp [pureOp, hop] at hp
  · -- buildSlice
    rename_i hop
    simp [pureOp, hop] at hp
  · -- slice
    rename_i hop
    simp [pureOp, hop] at hp
  · -- slice, full
    rename_i hop
    simp [pureOp, hop] at hp
  · simp at he
end

section
variable {P : Program} {w0 : World} {R : Type}

theorem Rel.ro {ρ : List (Nat × Nat)} {h : List Blk} {w : World} (hr : Rel w0 ρ h w) : Rel w0 ρ (roH h) w := by
  have key : ∀ (i : Nat) (b : Blk), (roH h)[i]? = some b → ∃ b0, h[i]? = some b0 ∧ b = { b0 with ro := true } := by
    intro i b hb
    simp only [roH, List.getElem?_map, Option.map_eq_some_iff] at hb
    obtain ⟨b0, h0, e⟩ := hb
    exact ⟨b0, h0, e.symm⟩
  refine ⟨by simp [roH, hr.len], ?_, ?_, hr.below, hr.base⟩
  · intro i j bi bj n t u hi hj li lj hni hnj
    obtain ⟨b1, h1, rfl⟩ := key i bi hi
    obtain ⟨b2, h2, rfl⟩ := key j bj hj
    exact hr.inj i j b1 b2 n t u h1 h2 li lj hni hnj
  · intro i b n t hb hn
    obtain ⟨b0, h0, rfl⟩ := key i b hb
    exact hr.blk i b0 n t h0 hn
theorem get_left {ρ t : List (Nat × Nat)} {i : Nat} {x : Nat × Nat} (hi : i < ρ.length) (h : (ρ ++ t)[i]? = some x) : ρ[i]? = some x := by
  rw [List.getElem?_append_left hi] at h; exact h
theorem caps_within {ρ t : List (Nat × Nat)} : ∀ {caps : List (Nat × Nat)} {L : List Value}, (caps.all fun x => decide (x.1 < ρ.length)) = true → LR (PR (ρ ++ t)) caps L → LR (PR ρ) caps L
  | [], [], _, _ => trivial
  | [], _ :: _, _, h => h.elim
  | _ :: _, [], _, h => h.elim
  | x :: caps, V :: L, hw, h => by
    simp only [List.all_cons, Bool.and_eq_true, decide_eq_true_eq] at hw
    obtain ⟨b, u, h1, h2⟩ := h.1
    exact ⟨⟨b, u, get_left hw.1 h1, h2⟩, caps_within (by simpa using hw.2) h.2⟩
theorem Sc.R_within {ρ t : List (Nat × Nat)} {s : Sc} {V : Value} (hw : s.within ρ.length = true) (h : s.R (ρ ++ t) V) : s.R ρ V := by
  cases s with
  | v x => exact h
  | p i off => simp [Sc.within] at hw; obtain ⟨b, u, h1, h2⟩ := h; exact ⟨b, u, get_left hw h1, h2⟩
  | f g caps => obtain ⟨L, h1, h2⟩ := h; exact ⟨L, caps_within hw h1, h2⟩
  | s i off len es cap => simp [Sc.within] at hw; obtain ⟨b, u, c, h1, h2⟩ := h; exact ⟨b, u, c, get_left hw h1, h2⟩
theorem LR_within {ρ t : List (Nat × Nat)} : ∀ {l : List Sc} {L : List Value}, l.all (Sc.within ρ.length) = true → LR (Sc.R (ρ ++ t)) l L → LR (Sc.R ρ) l L
  | [], [], _, _ => trivial
  | [], _ :: _, _, h => h.elim
  | _ :: _, [], _, h => h.elim
  | x :: l, V :: L, hw, h => by
    simp only [List.all_cons, Bool.and_eq_true] at hw
    exact ⟨Sc.R_within hw.1 h.1, LR_within hw.2 h.2⟩
theorem Cp.R_within {ρ t : List (Nat × Nat)} {s : Cp} {V : Value} (hw : s.within ρ.length = true) (h : s.R (ρ ++ t) V) : s.R ρ V := by
  cases s with
  | c x => exact Sc.R_within hw h
  | agg l => obtain ⟨L, h1, h2⟩ := h; exact ⟨L, LR_within hw h1, h2⟩
theorem CLR_within {ρ t : List (Nat × Nat)} : ∀ {l : List Cp} {L : List Value}, l.all (Cp.within ρ.length) = true → LR (Cp.R (ρ ++ t)) l L → LR (Cp.R ρ) l L
  | [], [], _, _ => trivial
  | [], _ :: _, _, h => h.elim
  | _ :: _, [], _, h => h.elim
  | x :: l, V :: L, hw, h => by
    simp only [List.all_cons, Bool.and_eq_true] at hw
    exact ⟨Cp.R_within hw.1 h.1, CLR_within hw.2 h.2⟩
theorem AV.R_within {ρ t : List (Nat × Nat)} {s : AV} {V : Value} (hw : s.within ρ.length = true) (h : s.R (ρ ++ t) V) : s.R ρ V := by
  cases s with
  | one x => exact Cp.R_within hw h
  | tup l => obtain ⟨L, h1, h2⟩ := h; exact ⟨L, CLR_within hw h1, h2⟩
theorem within_of_R {ρ : List (Nat × Nat)} {s : Sc} {V : Value} (h : s.R ρ V) : s.within ρ.length = true := by
  cases s with
  | v x => rfl
  | p i off => obtain ⟨b, u, h1, _⟩ := h; simp [Sc.within, lt_of_get h1]
  | f g caps =>
    obtain ⟨L, h1, hh⟩ := h
    clear hh
    simp only [Sc.within]
    induction caps generalizing L with
    | nil => rfl
    | cons x caps ih => cases L with
      | nil => exact h1.elim
      | cons V L =>
        obtain ⟨b, u, h2, _⟩ := h1.1
        simp only [List.all_cons, Bool.and_eq_true, decide_eq_true_eq]
        exact ⟨lt_of_get h2, ih L h1.2⟩
  | s i off len es cap => obtain ⟨b, u, c, h1, _⟩ := h; simp [Sc.within, lt_of_get h1]
theorem within_of_LR {ρ : List (Nat × Nat)} : ∀ {l : List Sc} {L : List Value}, LR (Sc.R ρ) l L → l.all (Sc.within ρ.length) = true
  | [], _, _ => rfl
  | _ :: _, [], h => h.elim
  | x :: l, V :: L, h => by simp only [List.all_cons, Bool.and_eq_true]; exact ⟨within_of_R h.1, within_of_LR h.2⟩

/-- a look leaves all as it was -/
theorem Rel.looked {ρ ρ' : List (Nat × Nat)} {h h1 : List Blk} {w w' : World} (hr : Rel w0 ρ h w) (hr' : Rel w0 ρ' h1 w') (hx : Ext (roH h) h1) (hf : Frm ρ ρ' w w') : Rel w0 ρ h w' ∧ Frm ρ ρ w w' := by
  obtain ⟨t, rfl, _⟩ := hf.pre
  have hf' : Frm ρ ρ w w' := ⟨hf.os, hf.tape, hf.output, hf.size, ⟨[], by simp, by simp [nums]⟩, hf.block⟩
  refine ⟨⟨hr.len, hr.inj, ?_, hr'.below, fun n hn => ⟨(hr.base n hn).1, Nat.lt_of_lt_of_le (hr.base n hn).2 hf.size⟩⟩, hf'⟩
  intro i b n u hb hn hl
  have h2 : (roH h)[i]? = some { b with ro := true } := by simp [roH, hb]
  have h3 := hx i _ h2 rfl
  obtain ⟨L, rest, hL, ho, ht⟩ := hr'.blk i _ n u h3 (get_prefix hn) hl
  obtain ⟨L0, rest0, hL0, _, _⟩ := hr.blk i b n u hb hn hl
  exact ⟨L, rest, LR_within (within_of_LR hL0) hL, ho, ht⟩

/-- one operation, met at the state that the text's order has for it -/
def Step (P : Program) (w0 : World) (W : List Nat) (Z : Option Tmp) (ops : Array Oper) (o : Oper) (sl : List AV) (h h' : List Blk) (v : AV) : Prop :=
  ∃ b, wantedA ops sl o = some b ∧ (b = false → v = undefA ∧ h' = h) ∧ (b = true →
    (pureIn W o.op = true → h' = h ∧ ∀ (ρ : List (Nat × Nat)) (w : World) (a : Act) (cur : List Blk), (∀ q ∈ W, cur[q]? = h[q]?) → Rel w0 ρ cur w → OpR ρ sl o.op.operands.toList a → ∃ V, (execOp a.eval o).run P w = .ok (.value V) w ∧ v.R ρ V) ∧
    (pureIn W o.op = false → lookZ Z o = true → h' = h ∧ ∀ (ρ : List (Nat × Nat)) (w : World) (a : Act), Rel w0 ρ h w → OpR ρ sl o.op.operands.toList a →
      ∀ (next : Act → World → Prop) (Q : Exit → Act → World → Prop), (∀ V w', v.R ρ V → Rel w0 ρ h w' → Frm ρ ρ w w' → next (a.put o.dst V) w') → o.wp P a w next Q) ∧
    (pureIn W o.op = false → lookZ Z o = false → (∀ q ∈ W, h'[q]? = h[q]?) ∧ ∀ (ρ : List (Nat × Nat)) (w : World) (a : Act), Rel w0 ρ h w → OpR ρ sl o.op.operands.toList a → OpGoes P w0 o a ρ w v h'))

theorem pureIn_of {W : List Nat} {op : Op} (h : pureOp op = true) : pureIn W op = true := by simp [pureIn, h]
theorem evLoad_val {t : TypeId} {i off : Nat} {h : List Blk} {k : KA R} {r : R} (he : evLoad P t (.one (.c (.p i off))) h k = some r) :
    ∃ v, k v h = some r ∧ ∀ cur : List Blk, cur[i]? = h[i]? → evLoad P t (.one (.c (.p i off))) cur (fun v _ => some v) = some v := by
  unfold evLoad at he
  simp only [nth_eq] at he
  split at he
  · rename_i b hb
    split at he
    · rename_i hl
      split at he
      · rename_i ha
        split at he
        · rename_i n hn
          split at he
          · rename_i hle
            exact ⟨_, he, fun cur e => by unfold evLoad; simp only [nth_eq, e, hb, hl, if_true, ha, hn, hle]⟩
          · simp at he
        · simp at he
      · rename_i ha
        split at he
        · rename_i s hs
          exact ⟨_, he, fun cur e => by unfold evLoad; simp only [nth_eq, e, hb, hl, if_true, ha, hs]⟩
        · simp at he
      · simp at he
    · simp at he
  · simp at he
theorem evLoadW_ok {W : List Nat} {o : Oper} {sl : List AV} {h : List Blk} {k : KA R} {r : R} (he : evLoadW P W o.op sl h k = some r) :
    ∃ v, k v h = some r ∧ ∀ (ρ : List (Nat × Nat)) (w : World) (a : Act) (cur : List Blk), (∀ q ∈ W, cur[q]? = h[q]?) → Rel w0 ρ cur w → OpR ρ sl o.op.operands.toList a → ∃ V, (execOp a.eval o).run P w = .ok (.value V) w ∧ v.R ρ V := by
  unfold evLoadW at he
  split at he
  · rename_i t x hop
    split at he
    · rename_i i off hx
      split at he
      · rename_i hW
        obtain ⟨v, hk, hv⟩ := evLoad_val he
        refine ⟨v, hk, fun ρ w a cur hcur hr ho => ?_⟩
        obtain ⟨v', hv', hgo⟩ := evLoad_ok (hv cur (hcur i (List.elem_iff.1 hW)))
        simp only [Option.some.injEq] at hv'
        subst hv'
        obtain ⟨V, hrun, rV⟩ := hgo hr (ho x (by simp [hop, Op.operands]) _ hx)
        exact ⟨V, by simp only [execOp, hop]; exact run_v hrun, rV⟩
      · simp at he
    · simp at he
  · simp at he
theorem evStore_set {t : TypeId} {i off : Nat} {v : AV} {h h' : List Blk} (he : evStore P t (.one (.c (.p i off))) v h = some h') : ∃ b, h' = h.set i b := by
  unfold evStore at he
  simp only [nth_eq] at he
  split at he
  · rename_i b hb
    split at he
    · split at he
      · split at he
        · simp only [Option.some.injEq] at he
          exact ⟨_, he.symm⟩
        · simp at he
      · simp at he
    · simp at he
  · simp at he
theorem evOp_storeW {W : List Nat} {call : FuncId → List AV → List Blk → KA R → Option R} {o : Oper} {sl : List AV} {h : List Blk} {k : KA R} {r : R} (hs : storesOut W o.op sl = true) (he : evOp P call o sl h k = some r) :
    ∃ v h1, k v h1 = some r ∧ Ext h h1 ∧ (∀ q ∈ W, h1[q]? = h[q]?) ∧ ∀ {ρ : List (Nat × Nat)} {w : World} {a : Act}, Rel w0 ρ h w → OpR ρ sl o.op.operands.toList a → OpGoes P w0 o a ρ w v h1 := by
  unfold storesOut at hs
  split at hs
  · rename_i t x y hop
    split at hs
    · rename_i i off hx
      have he1 : evStoreO P sl h k t x y = some r := by unfold evOp at he; simpa only [hop] using he
      unfold evStoreO at he1
      simp only [hx] at he1
      split at he1
      · rename_i a b ha hb
        simp only [Option.some.injEq] at ha
        subst ha
        split at he1
        · rename_i h' hh
          have he2 : evOp P (fun _ _ _ (_ : KA (AV × List Blk)) => none) o sl h (fun v h => some (v, h)) = some (undefA, h') := by
            unfold evOp; simp only [hop]
            unfold evStoreO; simp only [hx, hb, hh]
          obtain ⟨v, h1, hk, hxt, hgo⟩ := evOp_ok (w0 := w0) (fun _ _ _ _ _ he => by simp at he) he2
          simp only [Option.some.injEq, Prod.mk.injEq] at hk
          obtain ⟨rfl, rfl⟩ := hk
          refine ⟨_, _, he1, hxt, fun q hq => ?_, fun hr ho => hgo hr ho⟩
          obtain ⟨b', rfl⟩ := evStore_set hh
          rw [List.getElem?_set, if_neg]
          rintro rfl
          rw [List.elem_iff.2 hq] at hs
          simp at hs
        · simp at he1
      · simp at he1
    · simp at hs
  · simp at hs
theorem evDraw_trace {call : FuncId → List AV → List Blk → KA R → Option R} (hc : CallOK P w0 call) (W : List Nat) (Z : Option Tmp) {ops : Array Oper} :
    ∀ (rest : List Oper) {sl : List AV} {h : List Blk} {k : List AV → List Blk → Option R} {r : R}, evDraw P W Z call ops rest sl h k = some r →
      ∃ (val : Nat → AV) (hp : Nat → List Blk) (slx : Nat → List AV), slx 0 = sl ∧ hp 0 = h ∧ k (slx rest.length) (hp rest.length) = some r ∧ Ext h (hp rest.length) ∧
        ∀ i o, rest[i]? = some o → slx (i + 1) = putA (slx i) o.dst (val i) ∧ Step P w0 W Z ops o (slx i) (hp i) (hp (i + 1)) (val i)
  | [], sl, h, k, r, he => ⟨fun _ => undefA, fun _ => h, fun _ => sl, rfl, rfl, he, Ext.refl _, fun i o ho => by simp at ho⟩
  | o :: rest, sl, h, k, r, he => by
    have glue : ∀ (v : AV) (h1 : List Blk), Ext h h1 → Step P w0 W Z ops o sl h h1 v → evDraw P W Z call ops rest (putA sl o.dst v) h1 k = some r →
        ∃ (val : Nat → AV) (hp : Nat → List Blk) (slx : Nat → List AV), slx 0 = sl ∧ hp 0 = h ∧ k (slx (o :: rest).length) (hp (o :: rest).length) = some r ∧ Ext h (hp (o :: rest).length) ∧
        ∀ i o', (o :: rest)[i]? = some o' → slx (i + 1) = putA (slx i) o'.dst (val i) ∧ Step P w0 W Z ops o' (slx i) (hp i) (hp (i + 1)) (val i) := by
      intro v h1 hx hst hk
      obtain ⟨val, hp, slx, e1, e2, e3, e4, e5⟩ := evDraw_trace hc W Z rest hk
      refine ⟨fun i => match i with | 0 => v | i + 1 => val i, fun i => match i with | 0 => h | i + 1 => hp i, fun i => match i with | 0 => sl | i + 1 => slx i, rfl, rfl, e3, hx.trans e4, ?_⟩
      intro i o' ho'
      cases i with
      | zero => simp at ho'; subst ho'; simp only [e1, e2]; exact ⟨trivial, hst⟩
      | succ i => exact e5 i o' (by simpa using ho')
    simp only [evDraw] at he
    split at he
    · rename_i b hb
      split at he
      · rename_i hbt
        subst hbt
        split at he
        · rename_i hpu
          obtain ⟨v, hk, hgo⟩ := evOp_pure hpu he
          exact glue v h (Ext.refl _) ⟨true, hb, by simp, fun _ => ⟨fun _ => ⟨rfl, fun ρ w a cur _ _ ho => hgo ho⟩, by simp [pureIn_of hpu], by simp [pureIn_of hpu]⟩⟩ hk
        · rename_i hpu0
          split at he
          · rename_i hpu
            obtain ⟨v, hk, hgo⟩ := evLoadW_ok he
            exact glue v h (Ext.refl _) ⟨true, hb, by simp, fun _ => ⟨fun _ => ⟨rfl, hgo⟩, by simp [hpu], by simp [hpu]⟩⟩ hk
          · rename_i hpu
            have hpu' : pureIn W o.op = false := by simpa using hpu
            split at he
            · rename_i hlo
              obtain ⟨v, h1, hk, hx, hgo⟩ := evOp_ok hc he
              split at hk
              · rename_i hwi
                refine glue v h (Ext.refl _) ⟨true, hb, by simp, fun _ => ⟨by simp [hpu'], fun _ _ => ⟨rfl, fun ρ w a hr ho next Q hn => ?_⟩, by simp [hlo]⟩⟩ hk
                refine hgo hr.ro ho next Q fun V ρ' w' rV hr' hf => ?_
                obtain ⟨h2, h3⟩ := hr.looked hr' hx hf
                obtain ⟨t, rfl, _⟩ := hf.pre
                exact hn V w' (AV.R_within (by rw [hr.len]; exact hwi) rV) h2 h3
              · simp at hk
            · rename_i hlo
              have hlo' : lookZ Z o = false := by simpa using hlo
              split at he
              · rename_i hcond
                by_cases hW : W.isEmpty = true
                · obtain rfl : W = [] := by simpa using hW
                  obtain ⟨v, h1, hk, hx, hgo⟩ := evOp_ok hc he
                  exact glue v h1 hx ⟨true, hb, by simp, fun _ => ⟨by simp [hpu'], by simp [hlo'], fun _ _ => ⟨by simp, fun ρ w a hr ho => hgo hr ho⟩⟩⟩ hk
                · obtain ⟨v, h1, hk, hx, hag, hgo⟩ := evOp_storeW (w0 := w0) (hcond.resolve_left hW) he
                  exact glue v h1 hx ⟨true, hb, by simp, fun _ => ⟨by simp [hpu'], by simp [hlo'], fun _ _ => ⟨hag, fun ρ w a hr ho => hgo hr ho⟩⟩⟩ hk
              · simp at he
      · rename_i hbf
        have : b = false := by simpa using hbf
        subst this
        exact glue undefA h (Ext.refl _) ⟨false, hb, fun _ => ⟨rfl, rfl⟩, by simp⟩ he
    · simp at he
end

section
variable {P : Program} {w0 : World}

/-- is it done -/
def li (listed : Array Bool) (j : Nat) : Prop := listed.getD j false = true
instance (listed : Array Bool) (j : Nat) : Decidable (li listed j) := by unfold li; infer_instance
theorem getD_bool {listed : Array Bool} {j : Nat} (hj : j < listed.size) (d : Bool) : listed.getD j d = listed.getD j false := by
  simp [Array.getD_eq_getD_getElem?, Array.getElem?_eq_getElem hj]
theorem li_set {listed : Array Bool} {i : Nat} (hi : i < listed.size) (j : Nat) : li (listed.setIfInBounds i true) j ↔ (j = i ∨ li listed j) := by
  unfold li
  simp only [Array.getD_eq_getD_getElem?, Array.getElem?_setIfInBounds]
  by_cases e : i = j
  · subst e; simp [hi]
  · simp [e]; intro e'; exact (e e'.symm).elim
def unl : List Bool → Nat
  | [] => 0
  | b :: l => (if b then 0 else 1) + unl l
theorem unl_set : ∀ (l : List Bool) (i : Nat), l[i]? = some false → unl (l.set i true) + 1 = unl l
  | [], i, h => by simp at h
  | b :: l, 0, h => by simp at h; subst h; simp [unl]; omega
  | b :: l, i + 1, h => by
    simp at h
    have := unl_set l i h
    simp only [List.set_cons_succ, unl]; omega
theorem unl_zero : ∀ (l : List Bool), unl l = 0 → ∀ b ∈ l, b = true
  | [], _, b, hb => by simp at hb
  | c :: l, h, b, hb => by
    simp only [unl] at h
    rcases List.mem_cons.1 hb with rfl | hb
    · cases b <;> simp at h ⊢
    · exact unl_zero l (by omega) b hb

def closed (l : List Oper) (listed : Array Bool) : Prop := ∀ j o, l[j]? = some o → li listed j → ∀ e ∈ o.after, Region.binds .any e = true → li listed e.on

theorem reaches_li {l : List Oper} {listed : Array Bool} (hcl : closed l listed) : ∀ (d i j : Nat), reaches l d i j = true → (∀ o, l[i]? = some o → ∀ e ∈ o.after, Region.binds .any e = true → li listed e.on) → li listed j
  | 0, i, j, h, _ => by simp [reaches] at h
  | d + 1, i, j, h, hi => by
    simp only [reaches] at h
    split at h
    · rename_i o ho
      rw [Array.any_eq_true'] at h
      obtain ⟨e, he, hb⟩ := h
      simp only [Bool.and_eq_true, Bool.or_eq_true, beq_iff_eq] at hb
      have h1 := hi o ho e he hb.1
      rcases hb.2 with rfl | h2
      · exact h1
      · exact reaches_li hcl d e.on j h2 fun o' ho' e' he' hb' => hcl e.on o' ho' h1 e' he' hb'
    · simp at h

/-- what the check says -/
structure DrawOK (W : List Nat) (Z : Option Tmp) (l : List Oper) : Prop where
  back : ∀ (i : Nat) (o : Oper), l[i]? = some o → ∀ e ∈ o.after, Region.binds .any e = true → e.on < i
  looks : ∀ (i : Nat) (o : Oper) (j : Nat) (p : Oper) (d : Tmp), l[i]? = some o → l[j]? = some p → p.dst = some d → d ∈ lookTmps l.toArray o → (j < i ∧ reaches l l.length i j = true) ∨ (i < j ∧ reaches l l.length j i = true)
  dsts : ∀ (i : Nat) (o : Oper) (j : Nat) (p : Oper) (d : Tmp), l[i]? = some o → l[j]? = some p → p.dst = some d → o.dst = some d → j = i
  loud : ∀ (i : Nat) (o : Oper) (j : Nat) (p : Oper), l[i]? = some o → l[j]? = some p → j < i → pureIn W o.op = false → pureIn W p.op = false → (lookZ Z o = false ∨ lookZ Z p = false) → reaches l l.length i j = true

theorem drawOK_of {W : List Nat} {Z : Option Tmp} {l : List Oper} (h : drawB W Z l = true) : DrawOK W Z l := by
  have key : ∀ i o, l[i]? = some o → (∀ e ∈ o.after, Region.binds .any e = true → e.on < i) ∧
      ∀ j p, l[j]? = some p → (∀ d, p.dst = some d → ((d ∈ lookTmps l.toArray o → (j < i ∧ reaches l l.length i j = true) ∨ (i < j ∧ reaches l l.length j i = true)) ∧ (o.dst = some d → j = i))) ∧
        (j < i → pureIn W o.op = false → pureIn W p.op = false → (lookZ Z o = false ∨ lookZ Z p = false) → reaches l l.length i j = true) := by
    intro i o ho
    unfold drawB at h
    rw [List.all_eq_true] at h
    have h1 := h i (List.mem_range.2 (lt_of_get ho))
    simp only [ho, Bool.and_eq_true] at h1
    obtain ⟨⟨h2, _⟩, h3⟩ := h1
    refine ⟨?_, fun j p hp => ?_⟩
    · intro e he hb
      rw [Array.all_eq_true'] at h2
      have := h2 e he
      simp [hb] at this; exact this
    · rw [List.all_eq_true] at h3
      have h4 := h3 j (List.mem_range.2 (lt_of_get hp))
      simp only [hp, Bool.and_eq_true] at h4
      refine ⟨fun d hd => ?_, fun hji hpo hpp hll => ?_⟩
      · have h5 := h4.1
        simp only [hd, Bool.and_eq_true, Bool.or_eq_true, Bool.not_eq_true', decide_eq_true_eq, bne_iff_ne, ne_eq] at h5
        refine ⟨fun hm => ?_, fun ho' => ?_⟩
        · rcases h5.1 with (h6 | h6) | h6
          · simp at h6; exact (h6 hm).elim
          · exact .inl h6
          · exact .inr h6
        · rcases h5.2 with h6 | h6
          · exact h6
          · exact (h6 ho').elim
      · have h5 := h4.2
        simp only [Bool.or_eq_true, decide_eq_true_eq, Bool.and_eq_true, hpo, hpp, Bool.false_eq_true, or_false] at h5
        rcases h5 with (h6 | h6) | h6
        · omega
        · rcases hll with h7 | h7 <;> rw [h7] at h6 <;> simp at h6
        · exact h6
  exact ⟨fun i o ho => (key i o ho).1, fun i o j p d ho hp hd => (((key i o ho).2 j p hp).1 d hd).1, fun i o j p d ho hp hd => (((key i o ho).2 j p hp).1 d hd).2, fun i o j p ho hp => ((key i o ho).2 j p hp).2⟩

def Eff (W : List Nat) (Z : Option Tmp) (l : List Oper) (j : Nat) : Prop := ∃ o, l[j]? = some o ∧ pureIn W o.op = false ∧ lookZ Z o = false

variable {W : List Nat} {Z : Option Tmp} {l : List Oper} {val : Nat → AV} {hp : Nat → List Blk} {slx : Nat → List AV}

/-- the text's order's own states -/
structure Lex (P : Program) (w0 : World) (W : List Nat) (Z : Option Tmp) (l : List Oper) (val : Nat → AV) (hp : Nat → List Blk) (slx : Nat → List AV) : Prop where
  sl : ∀ i o, l[i]? = some o → slx (i + 1) = putA (slx i) o.dst (val i)
  step : ∀ i o, l[i]? = some o → Step P w0 W Z l.toArray o (slx i) (hp i) (hp (i + 1)) (val i)

theorem putA_length (sl : List AV) (d : Option Tmp) (v : AV) : (putA sl d v).length = sl.length := by cases d <;> simp [putA, setN_eq]
theorem putA_get (sl : List AV) (d : Option Tmp) (v : AV) (t : Nat) : (putA sl d v)[t]? = if d = some t ∧ t < sl.length then some v else sl[t]? := by
  cases d with
  | none => simp [putA]
  | some d =>
    simp only [putA, setN_eq, List.getElem?_set, Option.some.injEq]
    by_cases e : d = t
    · subst e
      by_cases h : d < sl.length
      · simp [h]
      · simp [h, List.getElem?_eq_none (Nat.le_of_not_lt h)]
    · simp [e]

theorem Lex.length (hx : Lex P w0 W Z l val hp slx) : ∀ i, i ≤ l.length → (slx i).length = (slx 0).length
  | 0, _ => rfl
  | i + 1, h => by
    have ho : l[i]? = some l[i] := List.getElem?_eq_getElem (by omega)
    rw [hx.sl i _ ho, putA_length, hx.length i (by omega)]
theorem Lex.wrote (hx : Lex P w0 W Z l val hp slx) (hd : DrawOK W Z l) : ∀ i, i ≤ l.length → ∀ j o t, l[j]? = some o → o.dst = some t → j < i → t < (slx 0).length → (slx i)[t]? = some (val j)
  | 0, _, j, o, t, _, _, hj, _ => by omega
  | i + 1, h, j, o, t, ho, ht, hj, hlt => by
    have hi : l[i]? = some l[i] := List.getElem?_eq_getElem (by omega)
    rw [hx.sl i _ hi, putA_get, hx.length i (by omega)]
    by_cases e : j = i
    · subst e; rw [hi] at ho; simp at ho; subst ho; simp [ht, hlt]
    · rw [if_neg (fun hc => e (hd.dsts i _ j o t hi ho ht hc.1))]
      exact hx.wrote hd i (by omega) j o t ho ht (by omega) hlt
theorem Lex.kept (hx : Lex P w0 W Z l val hp slx) : ∀ i, i ≤ l.length → ∀ t, (∀ j o, l[j]? = some o → j < i → o.dst ≠ some t) → (slx i)[t]? = (slx 0)[t]?
  | 0, _, t, _ => rfl
  | i + 1, h, t, hn => by
    have hi : l[i]? = some l[i] := List.getElem?_eq_getElem (by omega)
    rw [hx.sl i _ hi, putA_get, if_neg (fun hc => hn i _ hi (by omega) hc.1)]
    exact hx.kept i (by omega) t fun j o ho hj => hn j o ho (by omega)
theorem Lex.still (hx : Lex P w0 W Z l val hp slx) {i : Nat} (hi : i < l.length) (hn : ¬ Eff W Z l i) : hp (i + 1) = hp i := by
  have ho : l[i]? = some l[i] := List.getElem?_eq_getElem hi
  obtain ⟨b, _, hf, ht⟩ := hx.step i _ ho
  cases b with
  | false => exact (hf rfl).2
  | true =>
    obtain ⟨h1, h2, h3⟩ := ht rfl
    by_cases hp1 : pureIn W l[i].op = true
    · exact (h1 hp1).1
    · have hp1' : pureIn W l[i].op = false := by simpa using hp1
      by_cases hl1 : lookZ Z l[i] = true
      · exact (h2 hp1' hl1).1
      · exact (hn ⟨_, ho, hp1', by simpa using hl1⟩).elim
theorem Lex.stills (hx : Lex P w0 W Z l val hp slx) {i : Nat} : ∀ x, i ≤ x → x ≤ l.length → (∀ y, i ≤ y → y < x → ¬ Eff W Z l y) → hp x = hp i
  | x, hix, hxl, hn => by
    induction x with
    | zero => obtain rfl : i = 0 := by omega
              rfl
    | succ x ih =>
      by_cases e : i = x + 1
      · rw [e]
      · rw [hx.still (i := x) (by omega) (hn x (by omega) (by omega)), ih (by omega) (by omega) fun y h1 h2 => hn y h1 (by omega)]

theorem Lex.keeps (hx : Lex P w0 W Z l val hp slx) : ∀ i, i ≤ l.length → ∀ q ∈ W, (hp i)[q]? = (hp 0)[q]?
  | 0, _, _, _ => rfl
  | i + 1, h, q, hq => by
    have ho : l[i]? = some l[i] := List.getElem?_eq_getElem (by omega)
    rw [← hx.keeps i (by omega) q hq]
    by_cases he : Eff W Z l i
    · obtain ⟨b, _, hf, ht⟩ := hx.step i _ ho
      cases b with
      | false => rw [(hf rfl).2]
      | true =>
        obtain ⟨o, h1, h2, h3⟩ := he
        rw [ho] at h1; simp only [Option.some.injEq] at h1; subst h1
        exact ((ht rfl).2.2 h2 h3).1 q hq
    · rw [hx.still (by omega) he]
/-- what holds while the operations come in some order -/
structure Inv (P : Program) (w0 : World) (W : List Nat) (Z : Option Tmp) (l : List Oper) (val : Nat → AV) (hp : Nat → List Blk) (slx : Nat → List AV) (ρ0 : List (Nat × Nat)) (ws : World) (d0 : List Deferred) (listed : Array Bool) (a : Act) (w : World) : Prop where
  size : listed.size = l.length
  closed : closed l listed
  ex : ∃ (ρ : List (Nat × Nat)) (sl : List AV) (cur : List Blk), Rel w0 ρ cur w ∧ SlR ρ sl a ∧ a.defers = d0 ∧ Frm ρ0 ρ ws w ∧ sl.length = (slx 0).length ∧
    (∀ j o t, l[j]? = some o → o.dst = some t → li listed j → t < (slx 0).length → sl[t]? = some (val j)) ∧
    (∀ t, (∀ j o, l[j]? = some o → li listed j → o.dst ≠ some t) → sl[t]? = (slx 0)[t]?) ∧
    (∀ x, x ≤ l.length → (∀ j, j < x → Eff W Z l j → li listed j) → (∀ j, x ≤ j → Eff W Z l j → ¬ li listed j) → cur = hp x) ∧
    (∀ q ∈ W, cur[q]? = (hp 0)[q]?)
end

section
variable {P : Program} {w0 : World} {W : List Nat} {Z : Option Tmp} {l : List Oper} {val : Nat → AV} {hp : Nat → List Blk} {slx : Nat → List AV} {ρ0 : List (Nat × Nat)} {ws : World} {d0 : List Deferred} {listed : Array Bool} {a : Act} {w : World}

/-- what an operation that may come now looks at is what it looks at in the text's order -/
theorem agree (hd : DrawOK W Z l) (hx : Lex P w0 W Z l val hp slx) (hcl : closed l listed) {i : Nat} {o : Oper} (ho : l[i]? = some o) (hun : ¬ li listed i) (hre : ∀ e ∈ o.after, Region.binds .any e = true → li listed e.on)
    {sl : List AV} (hlen : sl.length = (slx 0).length) (h1 : ∀ j o t, l[j]? = some o → o.dst = some t → li listed j → t < (slx 0).length → sl[t]? = some (val j))
    (h2 : ∀ t, (∀ j o, l[j]? = some o → li listed j → o.dst ≠ some t) → sl[t]? = (slx 0)[t]?) {t : Nat} (ht : t ∈ lookTmps l.toArray o) : sl[t]? = (slx i)[t]? := by
  have hil := lt_of_get ho
  have hlx := hx.length i (by omega)
  rcases Nat.lt_or_ge t (slx 0).length with hlt | hge
  · by_cases hw : ∃ (j : Nat) (p : Oper), l[j]? = some p ∧ p.dst = some t
    · obtain ⟨j, p, hj, hpd⟩ := hw
      rcases hd.looks i o j p t ho hj hpd ht with ⟨hji, hr⟩ | ⟨hij, hr⟩
      · have hl := reaches_li hcl _ i j hr fun o' ho' => by rw [ho] at ho'; simp at ho'; subst ho'; exact hre
        rw [h1 j p t hj hpd hl hlt, hx.wrote hd i (by omega) j p t hj hpd hji hlt]
      · have hnl : ¬ li listed j := fun hl => hun (reaches_li hcl _ j i hr fun o' ho' => hcl j o' ho' hl)
        have huniq : ∀ k q, l[k]? = some q → q.dst = some t → k = j := fun k q hk hq => hd.dsts j p k q t hj hk hq hpd
        rw [h2 t fun k q hk hl hq => hnl (huniq k q hk hq ▸ hl), hx.kept i (by omega) t fun k q hk hki hq => by have := huniq k q hk hq; omega]
    · have hno : ∀ (j : Nat) (p : Oper), l[j]? = some p → p.dst ≠ some t := fun j p hj hpd => hw ⟨j, p, hj, hpd⟩
      rw [h2 t fun k q hk _ => hno k q hk, hx.kept i (by omega) t fun k q hk _ => hno k q hk]
  · rw [List.getElem?_eq_none (by omega), List.getElem?_eq_none (by omega)]

theorem inv_put (hd : DrawOK W Z l) (hcl : closed l listed) (hsz : listed.size = l.length) {i : Nat} {o : Oper} (ho : l[i]? = some o) (hun : ¬ li listed i) (hre : ∀ e ∈ o.after, Region.binds .any e = true → li listed e.on)
    {ρ : List (Nat × Nat)} {sl : List AV} {cur : List Blk} {V : Value} (hr : Rel w0 ρ cur w) (hs : SlR ρ sl a) (hV : (val i).R ρ V) (hdf : a.defers = d0) (hf : Frm ρ0 ρ ws w) (hlen : sl.length = (slx 0).length)
    (h1 : ∀ j o t, l[j]? = some o → o.dst = some t → li listed j → t < (slx 0).length → sl[t]? = some (val j))
    (h2 : ∀ t, (∀ j o, l[j]? = some o → li listed j → o.dst ≠ some t) → sl[t]? = (slx 0)[t]?)
    (h3 : ∀ x, x ≤ l.length → (∀ j, j < x → Eff W Z l j → li (listed.setIfInBounds i true) j) → (∀ j, x ≤ j → Eff W Z l j → ¬ li (listed.setIfInBounds i true) j) → cur = hp x) (h4 : ∀ q ∈ W, cur[q]? = (hp 0)[q]?) :
    Inv P w0 W Z l val hp slx ρ0 ws d0 (listed.setIfInBounds i true) (a.put o.dst V) w := by
  have hil := lt_of_get ho
  have hset := fun j => li_set (listed := listed) (i := i) (by omega) j
  refine ⟨by simp [hsz], ?_, ρ, putA sl o.dst (val i), cur, hr, putA_R hs o.dst hV, by rw [put_defers]; exact hdf, hf, by rw [putA_length]; exact hlen, ?_, ?_, h3, h4⟩
  · intro j p hj hl e he hb
    rw [hset] at hl ⊢
    rcases hl with rfl | hl
    · rw [ho] at hj; simp at hj; subst hj; exact .inr (hre e he hb)
    · exact .inr (hcl j p hj hl e he hb)
  · intro j p t hj hpd hl hlt
    rw [putA_get]
    rw [hset] at hl
    by_cases e : j = i
    · subst e; rw [ho] at hj; simp at hj; subst hj; rw [if_pos ⟨hpd, by omega⟩]
    · rw [if_neg fun hc => e (hd.dsts i o j p t ho hj hpd hc.1)]
      exact h1 j p t hj hpd (hl.resolve_left e) hlt
  · intro t hn
    rw [putA_get, if_neg fun hc => hn i o ho ((hset i).2 (.inl rfl)) hc.1]
    exact h2 t fun j p hj hl => hn j p hj ((hset j).2 (.inr hl))

theorem inv_op (hd : DrawOK W Z l) (hx : Lex P w0 W Z l val hp slx) (hinv : Inv P w0 W Z l val hp slx ρ0 ws d0 listed a w) {i : Nat} {o : Oper} (ho : l[i]? = some o) (hun : ¬ li listed i) (hre : ∀ e ∈ o.after, Region.binds .any e = true → li listed e.on)
    {Q : Exit → Act → World → Prop} {K : Act → World → Prop} (hK : ∀ a' w', Inv P w0 W Z l val hp slx ρ0 ws d0 (listed.setIfInBounds i true) a' w' → K a' w') : wpOp P l.toArray Q i K a w := by
  obtain ⟨hsz, hcl, ρ, sl, cur, hr, hs, hdf, hf, hlen, h1, h2, h3, h4⟩ := hinv
  have hil := lt_of_get ho
  have hset := fun j => li_set (listed := listed) (i := i) (by omega) j
  have hag : ∀ t, t ∈ lookTmps l.toArray o → sl[t]? = (slx i)[t]? := fun t ht => agree hd hx hcl ho hun hre hlen h1 h2 ht
  have hop : OpR ρ (slx i) o.op.operands.toList a := by
    intro x hxm v hv
    cases x with
    | tmp t =>
      have hm : t ∈ lookTmps l.toArray o := by
        unfold lookTmps
        exact List.mem_append_left _ (List.mem_filterMap.2 ⟨.tmp t, hxm, rfl⟩)
      refine getA_R (x := .tmp t) hs ?_
      simp only [getA, nth_eq] at hv ⊢
      rw [hag t hm]; exact hv
    | const c => exact getA_R hs (by simpa [getA] using hv)
    | func g => exact getA_R hs (by simpa [getA] using hv)
    | global g => simp [getA] at hv
  obtain ⟨b, hb, hbf, hbt⟩ := hx.step i o ho
  have hwant : Region.wanted o (yielded l.toArray a.tmps) = b := by
    refine wantedA_ok hs ?_
    rw [← hb]
    unfold wantedA
    split
    · rfl
    · rename_i j want hg
      split
      · rename_i oj hoj
        split
        · rename_i d hdd
          have hm : d ∈ lookTmps l.toArray o := by
            unfold lookTmps
            refine List.mem_append_right _ ?_
            simp [hg]
            rw [← List.getElem?_toArray, hoj]; exact hdd
          rw [nth_eq, nth_eq, hag d hm]
        · rfl
      · rfl
  -- the memory as this operation finds it
  have hcur : pureIn W o.op = false → cur = hp i := fun hpu => by
    refine h3 i (by omega) (fun j hj he => ?_) (fun j hj he hl => ?_)
    · obtain ⟨p, hp1, hp2, hp3⟩ := he
      exact reaches_li hcl _ i j (hd.loud i o j p ho hp1 hj hpu hp2 (.inr hp3)) fun o' ho' => by rw [ho] at ho'; simp at ho'; subst ho'; exact hre
    · obtain ⟨p, hp1, hp2, hp3⟩ := he
      rcases Nat.lt_or_ge i j with hij | hij
      · exact hun (reaches_li hcl _ j i (hd.loud j p i o hp1 ho hij hp2 hpu (.inl hp3)) fun o' ho' => hcl j o' ho' hl)
      · obtain rfl : j = i := by omega
        exact hun hl
  have hsame : ¬ Eff W Z l i → ∀ x, x ≤ l.length → (∀ j, j < x → Eff W Z l j → li (listed.setIfInBounds i true) j) → (∀ j, x ≤ j → Eff W Z l j → ¬ li (listed.setIfInBounds i true) j) → cur = hp x := by
    intro hne x hxl hA hB
    refine h3 x hxl (fun j hj he => ?_) (fun j hj he hl => hB j hj he ((hset j).2 (.inr hl)))
    rcases (hset j).1 (hA j hj he) with rfl | hl
    · exact (hne he).elim
    · exact hl
  have hnext : Eff W Z l i → ∀ x, x ≤ l.length → (∀ j, j < x → Eff W Z l j → li (listed.setIfInBounds i true) j) → (∀ j, x ≤ j → Eff W Z l j → ¬ li (listed.setIfInBounds i true) j) → hp (i + 1) = hp x := by
    intro he x hxl hA hB
    have hix : i < x := by
      rcases Nat.lt_or_ge i x with h | h
      · exact h
      · exact (hB i h he ((hset i).2 (.inl rfl))).elim
    refine (hx.stills x (by omega) hxl fun y hy1 hy2 hey => ?_).symm
    have hl := (hset y).1 (hA y hy2 hey)
    rcases hl with rfl | hl
    · omega
    · obtain ⟨p, hp1, hp2, hp3⟩ := hey
      obtain ⟨o', ho', hq2, hq3⟩ := he
      exact hun (reaches_li hcl _ y i (hd.loud y p i o' hp1 ho' (by omega) hp2 hq2 (.inl hp3)) fun o2 ho2 => hcl y o2 ho2 hl)
  have hoa : l.toArray[i]? = some o := by simpa using ho
  unfold wpOp
  simp only [hoa]
  rw [hwant]
  cases b with
  | false =>
    simp only [Bool.false_eq_true, if_false]
    obtain ⟨hv, hh⟩ := hbf rfl
    refine hK _ _ (inv_put hd hcl hsz ho hun hre hr hs (by rw [hv]; exact undefA_R ρ) hdf hf hlen h1 h2 ?_ h4)
    by_cases he : Eff W Z l i
    · intro x hxl hA hB
      obtain ⟨p, hp1, hp2, hp3⟩ := id he
      rw [ho] at hp1; simp at hp1; subst hp1
      rw [hcur hp2, ← hh]; exact hnext he x hxl hA hB
    · exact hsame he
  | true =>
    simp only [if_true]
    left
    obtain ⟨g1, g2, g3⟩ := hbt rfl
    by_cases hpu : pureIn W o.op = true
    · obtain ⟨_, hgo⟩ := g1 hpu
      obtain ⟨V, hrun, rV⟩ := hgo ρ w a cur (fun q hq => (h4 q hq).trans (hx.keeps i (by omega) q hq).symm) hr hop
      exact wp_value hrun (hK _ _ (inv_put hd hcl hsz ho hun hre hr hs rV hdf hf hlen h1 h2 (hsame fun ⟨p, hp1, hp2, _⟩ => by rw [ho] at hp1; simp at hp1; subst hp1; rw [hpu] at hp2; simp at hp2) h4))
    · have hpu' : pureIn W o.op = false := by simpa using hpu
      have hc := hcur hpu'
      by_cases hlo : lookZ Z o = true
      · obtain ⟨_, hgo⟩ := g2 hpu' hlo
        refine hgo ρ w a (hc ▸ hr) hop K Q fun V w' rV hr' hf' => hK _ _ ?_
        exact inv_put hd hcl hsz ho hun hre (hc.symm ▸ hr') hs rV hdf (hf.trans hf') hlen h1 h2 (hsame fun ⟨p, hp1, _, hp3⟩ => by rw [ho] at hp1; simp at hp1; subst hp1; rw [hlo] at hp3; simp at hp3) h4
      · have hlo' : lookZ Z o = false := by simpa using hlo
        have he : Eff W Z l i := ⟨o, ho, hpu', hlo'⟩
        obtain ⟨hag, g3⟩ := g3 hpu' hlo'
        refine g3 ρ w a (hc ▸ hr) hop K Q fun V ρ' w' rV hr' hf' => hK _ _ ?_
        exact inv_put hd hcl hsz ho hun hre hr' (hf'.rel hs) rV hdf (hf.trans hf') hlen h1 h2 (hnext he) (fun q hq => hx.keeps (i + 1) (by omega) q hq)

theorem any_ok (hd : DrawOK W Z l) (hx : Lex P w0 W Z l val hp slx) {Q : Exit → Act → World → Prop}
    (hQ : ∀ ρ w a, Rel w0 ρ (hp l.length) w → SlR ρ (slx l.length) a → a.defers = d0 → Frm ρ0 ρ ws w → Q .normal a w) :
    ∀ (fuel : Nat) (listed : Array Bool) (a : Act) (w : World), Inv P w0 W Z l val hp slx ρ0 ws d0 listed a w → unl listed.toList ≤ fuel → wpAny P .any l.toArray Q fuel listed a w := by
  have fin : ∀ (listed : Array Bool) (a : Act) (w : World), Inv P w0 W Z l val hp slx ρ0 ws d0 listed a w → (∀ j, j < l.length → li listed j) → Q .normal a w := by
    rintro listed a w ⟨hsz, hcl, ρ, sl, cur, hr, hs, hdf, hf, hlen, h1, h2, h3, _⟩ hall
    have e1 : sl = slx l.length := by
      apply List.ext_getElem?
      intro t
      rcases Nat.lt_or_ge t (slx 0).length with hlt | hge
      · by_cases hw : ∃ (j : Nat) (p : Oper), l[j]? = some p ∧ p.dst = some t
        · obtain ⟨j, p, hj, hpd⟩ := hw
          rw [h1 j p t hj hpd (hall j (lt_of_get hj)) hlt, hx.wrote hd _ (Nat.le_refl _) j p t hj hpd (lt_of_get hj) hlt]
        · rw [h2 t fun j p hj _ hpd => hw ⟨j, p, hj, hpd⟩, hx.kept _ (Nat.le_refl _) t fun j p hj _ hpd => hw ⟨j, p, hj, hpd⟩]
      · rw [List.getElem?_eq_none (by omega), List.getElem?_eq_none (by rw [hx.length _ (Nat.le_refl _)]; exact hge)]
    have e2 : cur = hp l.length := h3 _ (Nat.le_refl _) (fun j hj _ => hall j hj) fun j hj ⟨p, hp1, _⟩ => by have := lt_of_get hp1; omega
    exact hQ ρ w a (e2 ▸ hr) (e1 ▸ hs) hdf hf
  have isli : ∀ {listed : Array Bool} {j : Nat}, listed.size = l.length → j < l.length → (listed.getD j true = false ↔ ¬ li listed j) := by
    intro listed j hsz hj
    unfold li
    rw [getD_bool (by omega) true]; simp
  have done : ∀ (listed : Array Bool) (a : Act) (w : World), Inv P w0 W Z l val hp slx ρ0 ws d0 listed a w → Region.ready .any l.toArray listed = [] → ∀ j, j < l.length → li listed j := by
    rintro listed a w ⟨hsz, hcl, _⟩ hemp j
    induction j using Nat.strongRecOn with
    | _ j ih =>
      intro hj
      by_cases hl : li listed j
      · exact hl
      · have ho : l[j]? = some l[j] := List.getElem?_eq_getElem hj
        have : j ∈ Region.ready .any l.toArray listed := by
          rw [mem_ready]
          refine ⟨(isli hsz hj).2 hl, l[j], by simp, fun e he hb => ?_⟩
          have hlt := hd.back j _ ho e he hb
          exact ih e.on hlt (by omega)
        rw [hemp] at this; simp at this
  intro fuel
  induction fuel with
  | zero =>
    intro listed a w hinv hu
    have hall : ∀ j, j < l.length → li listed j := by
      intro j hj
      have hsz := hinv.size
      have hb : listed[j]? = some listed[j] := Array.getElem?_eq_getElem (by omega)
      have := unl_zero listed.toList (by omega) listed[j] (by simp)
      unfold li
      rw [Array.getD_eq_getD_getElem?, hb]; simpa using this
    refine ⟨?_, fin listed a w hinv hall⟩
    rw [List.eq_nil_iff_forall_not_mem]
    intro j hj
    rw [mem_ready] at hj
    obtain ⟨h1, o, ho, _⟩ := hj
    have hjl : j < l.length := lt_of_get (l := l) (by simpa using ho)
    exact (isli hinv.size hjl).1 h1 (hall j hjl)
  | succ fuel ih =>
    intro listed a w hinv hu
    refine ⟨fun hemp => fin listed a w hinv (done listed a w hinv hemp), fun i hi => ?_⟩
    rw [mem_ready] at hi
    obtain ⟨h1, o, ho, hre⟩ := hi
    have ho' : l[i]? = some o := by simpa using ho
    have hil := lt_of_get ho'
    have hsz := hinv.size
    have hun := (isli hinv.size hil).1 h1
    refine inv_op hd hx hinv ho' hun (fun e he hb => hre e he hb) fun a' w' hinv' => ih _ a' w' hinv' ?_
    have hg : listed.toList[i]? = some false := by
      have hb : listed[i]? = some listed[i] := Array.getElem?_eq_getElem (by omega)
      rw [Array.getD_eq_getD_getElem?, hb] at h1
      simp at h1
      simp [hb, h1]
    have := unl_set _ _ hg
    simp only [Array.toList_setIfInBounds]
    omega

theorem unl_replicate : ∀ n, unl (List.replicate n false) = n
  | 0 => rfl
  | n + 1 => by simp only [List.replicate_succ, unl, unl_replicate n]; simp; omega

theorem evDraw_ok {R : Type} {call : FuncId → List AV → List Blk → KA R → Option R} (hc : CallOK P w0 call) {ops : Array Oper} (hm : P.follows .mixedOrders = true) {W : List Nat} {Z : Option Tmp} (hb : drawB W Z ops.toList = true)
    {sl : List AV} {h : List Blk} {k : List AV → List Blk → Option R} {r : R} (he : evDraw P W Z call ops ops.toList sl h k = some r) :
    ∃ sl' h', k sl' h' = some r ∧ Ext h h' ∧ ∀ (id : Nat) (ρ : List (Nat × Nat)) (w : World) (a : Act) (Q : Exit → Act → World → Prop), Rel w0 ρ h w → SlR ρ sl a →
      (∀ ρ' w' a', Rel w0 ρ' h' w' → SlR ρ' sl' a' → Frm ρ ρ' w w' → a'.defers = a.defers → Q .normal a' w') → (Code.region id ops true).wp P Q a w := by
  obtain ⟨val, hp, slx, e1, e2, e3, e4, e5⟩ := evDraw_trace hc W Z ops.toList he
  have hd := drawOK_of hb
  refine ⟨_, _, e3, e4, fun id ρ w a Q hr hs hn => ?_⟩
  have hx : Lex P w0 W Z ops.toList val hp slx := ⟨fun i o ho => (e5 i o ho).1, fun i o ho => by simpa using (e5 i o ho).2⟩
  obtain ⟨hr', hf'⟩ := hr.draw (w.drawn + 1)
  have hinv : Inv P w0 W Z ops.toList val hp slx ρ w a.defers (Array.replicate ops.size false) a { w with drawn := w.drawn + 1 } := by
    have hno : ∀ j, ¬ li (Array.replicate ops.size false) j := by
      intro j hl
      unfold li at hl
      rw [Array.getD_eq_getD_getElem?, Array.getElem?_replicate] at hl
      split at hl <;> simp at hl
    refine ⟨by simp, fun j o _ hl => (hno j hl).elim, ρ, sl, h, hr', hs, rfl, hf', by rw [e1], fun j o t _ _ hl => (hno j hl).elim, fun t _ => by rw [e1], fun x hxl hA hB => ?_, fun q _ => by rw [e2]⟩
    rw [← e2]
    exact (hx.stills x (Nat.zero_le _) hxl fun y _ hy he => hno y (hA y hy he)).symm
  refine wp_region_any hm ?_
  have := any_ok hd hx (Q := Q) (fun ρ' w' a' h1 h2 h3 h4 => hn ρ' w' a' h1 h2 h4 h3) ops.size _ a _ hinv (by simp [unl_replicate])
  simpa using this
end

/-! ### The evaluator is right: code and calls -/
section
variable {P : Program} {w0 : World} {R : Type}

def OpsGo (P : Program) (w0 : World) (ops : Array Oper) (l : List Oper) (sl : List AV) (h : List Blk) (sl' : List AV) (h' : List Blk) : Prop :=
  ∀ (ρ : List (Nat × Nat)) (w : World) (a : Act) (Q : Exit → Act → World → Prop), Rel w0 ρ h w → SlR ρ sl a →
    (∀ ρ' w' a', Rel w0 ρ' h' w' → SlR ρ' sl' a' → Frm ρ ρ' w w' → a'.defers = a.defers → Q .normal a' w') → wpList P ops Q l a w

theorem evOps_cons {call : FuncId → List AV → List Blk → KA R → Option R} {ops : Array Oper} (o : Oper) (rest : List Oper) : evOps P call ops (o :: rest) = evOps1 P call ops o (evOps P call ops rest) := rfl
theorem forceL_eq {α β : Type} : ∀ (l : List α) (k : List α → β), forceL l k = k l
  | [], _ => rfl
  | a :: l, k => by simp only [forceL]; exact forceL_eq l _
theorem evOps_ok {call : FuncId → List AV → List Blk → KA R → Option R} (hc : CallOK P w0 call) {ops : Array Oper} :
    ∀ (l : List Oper) {sl : List AV} {h : List Blk} {k : List AV → List Blk → Option R} {r : R}, evOps P call ops l sl h k = some r → ∃ sl' h', k sl' h' = some r ∧ Ext h h' ∧ OpsGo P w0 ops l sl h sl' h'
  | [], sl, h, k, r, he => ⟨sl, h, he, Ext.refl _, fun ρ w a Q hr hs hn => wpList_nil (hn ρ w a hr hs (Frm.refl _ _) rfl)⟩
  | o :: rest, sl, h, k, r, he => by
    rw [evOps_cons] at he
    unfold evOps1 at he
    split at he
    · rename_i b hb
      split at he
      · rename_i hbt
        subst hbt
        obtain ⟨av, h1, hk, hx1, hgo⟩ := evOp_ok hc he
        obtain ⟨sl', h', hk', hx2, hrest⟩ := evOps_ok hc rest hk
        refine ⟨sl', h', hk', hx1.trans hx2, fun ρ w a Q hr hs hn => wpList_step fun K hK => ?_⟩
        rw [wantedA_ok hs hb]
        have hs := sharp_R hs hb
        simp only [if_true]
        refine hgo hr (hs.op _) K Q fun V ρ1 w1 rV hr1 hf1 => hK _ _ (hrest ρ1 w1 _ Q hr1 (putA_R (hf1.rel hs) o.dst rV) fun ρ2 w2 a2 hr2 hs2 hf2 hd => hn ρ2 w2 a2 hr2 hs2 (hf1.trans hf2) (hd.trans (put_defers _ _ _)))
      · rename_i hbf
        have : b = false := by simpa using hbf
        subst this
        obtain ⟨sl', h', hk', hx2, hrest⟩ := evOps_ok hc rest he
        refine ⟨sl', h', hk', hx2, fun ρ w a Q hr hs hn => wpList_step fun K hK => ?_⟩
        rw [wantedA_ok hs hb]
        have hs := sharp_R hs hb
        simp only [Bool.false_eq_true, if_false]
        exact hK _ _ (hrest ρ w _ Q hr (putA_R hs o.dst (undefA_R ρ)) fun ρ2 w2 a2 hr2 hs2 hf2 hd => hn ρ2 w2 a2 hr2 hs2 hf2 (hd.trans (put_defers _ _ _)))
    · simp at he

def ExR : Ex → Exit → Prop
  | .normal, e => e = .normal
  | .exit i, e => e = .exit i
  | .ret, e => e = .ret

/-- what a piece of code leaves behind -/
def Post (w0 : World) (ρ : List (Nat × Nat)) (w : World) (d : List Deferred) (ex : Ex) (sl' : List AV) (h' : List Blk) (e : Exit) (a' : Act) (w' : World) : Prop :=
  ∃ ρ', ExR ex e ∧ Rel w0 ρ' h' w' ∧ SlR ρ' sl' a' ∧ a'.defers = d ∧ Frm ρ ρ' w w'
def Goes (P : Program) (w0 : World) (c : Code) (sl : List AV) (h : List Blk) (ex : Ex) (sl' : List AV) (h' : List Blk) : Prop :=
  ∀ (ρ : List (Nat × Nat)) (w : World) (a : Act), Rel w0 ρ h w → SlR ρ sl a → c.wp P (Post w0 ρ w a.defers ex sl' h') a w
def CodeOK (P : Program) (w0 : World) (c : Code) (ev : List AV → List Blk → KC R → Option R) : Prop :=
  ∀ (sl : List AV) (h : List Blk) (k : KC R) (r : R), ev sl h k = some r → ∃ ex sl' h', k ex sl' h' = some r ∧ Ext h h' ∧ Goes P w0 c sl h ex sl' h'

theorem Post.frm {ρ ρ1 : List (Nat × Nat)} {w w1 : World} {d : List Deferred} {ex : Ex} {sl' : List AV} {h' : List Blk} {e : Exit} {a' : Act} {w' : World} (hf : Frm ρ ρ1 w w1) (h : Post w0 ρ1 w1 d ex sl' h' e a' w') : Post w0 ρ w d ex sl' h' e a' w' := by
  obtain ⟨ρ', hx, hr, hs, hd, hf'⟩ := h
  exact ⟨ρ', hx, hr, hs, hd, hf.trans hf'⟩

theorem loopE_ok {c : Code} {ev : List AV → List Blk → KC R → Option R} (hev : CodeOK P w0 c ev) {k : KC R} {r : R} :
    ∀ (n : Nat) (sl : List AV) (h : List Blk), loopE ev n sl h k = some r → ∃ ex sl' h', k ex sl' h' = some r ∧ Ext h h' ∧
      ∀ (ρ : List (Nat × Nat)) (w : World) (a : Act), Rel w0 ρ h w → SlR ρ sl a → ∀ (Q : Exit → Act → World → Prop), (∀ e a' w', Post w0 ρ w a.defers ex sl' h' e a' w' → Q e a' w') → Code.rounds P c Q n a w
  | 0, sl, h, he => by simp [loopE] at he
  | n + 1, sl, h, he => by
    simp only [loopE] at he
    obtain ⟨ex1, sl1, h1, hk, hx1, hgo⟩ := hev sl h _ r he
    cases ex1 with
    | normal =>
      simp only [forceL_eq] at hk
      obtain ⟨ex, sl', h', hk', hx2, hrest⟩ := loopE_ok hev n sl1 h1 hk
      refine ⟨ex, sl', h', hk', hx1.trans hx2, fun ρ w a hr hs Q hq => ?_⟩
      rw [rounds_succ]
      refine Code.wp_mono ?_ (hgo ρ w a hr hs)
      rintro e a' w' ⟨ρ', rfl, hr', hs', hd, hf⟩
      refine hrest ρ' w' a' hr' hs' Q fun e2 a2 w2 hp => hq _ _ _ ?_
      rw [hd] at hp
      exact hp.frm hf
    | exit i =>
      refine ⟨.exit i, sl1, h1, hk, hx1, fun ρ w a hr hs Q hq => ?_⟩
      rw [rounds_succ]
      refine Code.wp_mono ?_ (hgo ρ w a hr hs)
      rintro e a' w' ⟨ρ', rfl, hr', hs', hd, hf⟩
      exact hq _ _ _ ⟨ρ', rfl, hr', hs', hd, hf⟩
    | ret =>
      refine ⟨.ret, sl1, h1, hk, hx1, fun ρ w a hr hs Q hq => ?_⟩
      rw [rounds_succ]
      refine Code.wp_mono ?_ (hgo ρ w a hr hs)
      rintro e a' w' ⟨ρ', rfl, hr', hs', hd, hf⟩
      exact hq _ _ _ ⟨ρ', rfl, hr', hs', hd, hf⟩

theorem evCode_ok {call : FuncId → List AV → List Blk → KA R → Option R} (hc : CallOK P w0 call) (n : Nat) : ∀ (c : Code), CodeOK P w0 c (evCode P call n c) := by
  intro c
  induction c with
  | skip =>
    intro sl h k r he
    exact ⟨.normal, sl, h, he, Ext.refl _, fun ρ w a hr hs => wp_skip ⟨ρ, rfl, hr, hs, rfl, Frm.refl _ _⟩⟩
  | region id ops draw =>
    intro sl h k r he
    replace he : evRegion P call ops draw sl h k = some r := he
    unfold evRegion at he
    split at he
    · rename_i hd
      subst hd
      split at he
      · rename_i hcond
        obtain ⟨sl', h', hk, hx1, hgo⟩ := evDraw_ok hc hcond.1 hcond.2.2 he
        exact ⟨.normal, sl', h', hk, hx1, fun ρ w a hr hs => hgo id ρ w a _ hr hs fun ρ' w' a' hr' hs' hf hd => ⟨ρ', rfl, hr', hs', hd, hf⟩⟩
      · split at he
        · rename_i hcond
          obtain ⟨sl', h', hk, hx1, hgo⟩ := evDraw_ok hc hcond.1 hcond.2 he
          exact ⟨.normal, sl', h', hk, hx1, fun ρ w a hr hs => hgo id ρ w a _ hr hs fun ρ' w' a' hr' hs' hf hd => ⟨ρ', rfl, hr', hs', hd, hf⟩⟩
        · split at he
          · split at he
            · rename_i hcond
              obtain ⟨sl', h', hk, hx1, hgo⟩ := evDraw_ok hc hcond.1 hcond.2 he
              exact ⟨.normal, sl', h', hk, hx1, fun ρ w a hr hs => hgo id ρ w a _ hr hs fun ρ' w' a' hr' hs' hf hd => ⟨ρ', rfl, hr', hs', hd, hf⟩⟩
            · simp at he
          · simp at he
    · rename_i hd
      have : draw = false := by simpa using hd
      subst this
      obtain ⟨sl', h', hk, hx1, hgo⟩ := evOps_ok hc ops.toList he
      exact ⟨.normal, sl', h', hk, hx1, fun ρ w a hr hs => wp_region_list (hgo ρ w a _ hr hs fun ρ' w' a' hr' hs' hf hd => ⟨ρ', rfl, hr', hs', hd, hf⟩)⟩
  | seq x y ihx ihy =>
    intro sl h k r he
    replace he : evCode P call n x sl h (evSeqK (evCode P call n y) k) = some r := he
    obtain ⟨ex1, sl1, h1, hk, hx1, hgo⟩ := ihx sl h _ r he
    cases ex1 with
    | normal =>
      obtain ⟨ex, sl', h', hk', hx2, hgo'⟩ := ihy sl1 h1 k r hk
      refine ⟨ex, sl', h', hk', hx1.trans hx2, fun ρ w a hr hs => wp_seq (Code.wp_mono ?_ (hgo ρ w a hr hs))⟩
      rintro e a' w' ⟨ρ', rfl, hr', hs', hd, hf⟩
      refine Code.wp_mono (fun e2 a2 w2 hp => ?_) (hgo' ρ' w' a' hr' hs')
      rw [hd] at hp
      exact hp.frm hf
    | exit i =>
      refine ⟨.exit i, sl1, h1, hk, hx1, fun ρ w a hr hs => wp_seq (Code.wp_mono ?_ (hgo ρ w a hr hs))⟩
      rintro e a' w' ⟨ρ', rfl, hr', hs', hd, hf⟩
      exact ⟨ρ', rfl, hr', hs', hd, hf⟩
    | ret =>
      refine ⟨.ret, sl1, h1, hk, hx1, fun ρ w a hr hs => wp_seq (Code.wp_mono ?_ (hgo ρ w a hr hs))⟩
      rintro e a' w' ⟨ρ', rfl, hr', hs', hd, hf⟩
      exact ⟨ρ', rfl, hr', hs', hd, hf⟩
  | cond c x y ihx ihy =>
    intro sl h k r he
    replace he : evCondK (getA sl c) (evCode P call n x (sharpC c true sl) h k) (evCode P call n y (sharpC c false sl) h k) = some r := he
    unfold evCondK at he
    split at he
    · rename_i t ht
      split at he
      · rename_i htt
        subst htt
        obtain ⟨ex, sl', h', hk, hx1, hgo⟩ := ihx _ h k r he
        exact ⟨ex, sl', h', hk, hx1, fun ρ w a hr hs => wp_cond_true (getA_R hs ht).1 (hgo ρ w a hr (sharpC_R hs ht))⟩
      · rename_i htf
        have : t = false := by simpa using htf
        subst this
        obtain ⟨ex, sl', h', hk, hx1, hgo⟩ := ihy _ h k r he
        exact ⟨ex, sl', h', hk, hx1, fun ρ w a hr hs => wp_cond_false (getA_R hs ht).1 (hgo ρ w a hr (sharpC_R hs ht))⟩
    · simp at he
  | block id c ih =>
    intro sl h k r he
    replace he : evCode P call n c sl h (evBlockK id k) = some r := he
    obtain ⟨ex1, sl1, h1, hk, hx1, hgo⟩ := ih sl h _ r he
    cases ex1 with
    | normal =>
      refine ⟨.normal, sl1, h1, hk, hx1, fun ρ w a hr hs => wp_block (Code.wp_mono ?_ (hgo ρ w a hr hs))⟩
      rintro e a' w' ⟨ρ', rfl, hr', hs', hd, hf⟩
      exact ⟨ρ', rfl, hr', hs', hd, hf⟩
    | exit i =>
      simp only [evBlockK] at hk
      split at hk
      · rename_i hi
        subst hi
        refine ⟨.normal, sl1, h1, hk, hx1, fun ρ w a hr hs => wp_block (Code.wp_mono ?_ (hgo ρ w a hr hs))⟩
        rintro e a' w' ⟨ρ', rfl, hr', hs', hd, hf⟩
        simp only [Exit.inBlock, if_true]
        exact ⟨ρ', rfl, hr', hs', hd, hf⟩
      · rename_i hi
        refine ⟨.exit i, sl1, h1, hk, hx1, fun ρ w a hr hs => wp_block (Code.wp_mono ?_ (hgo ρ w a hr hs))⟩
        rintro e a' w' ⟨ρ', rfl, hr', hs', hd, hf⟩
        simp only [Exit.inBlock, if_neg hi]
        exact ⟨ρ', rfl, hr', hs', hd, hf⟩
    | ret =>
      refine ⟨.ret, sl1, h1, hk, hx1, fun ρ w a hr hs => wp_block (Code.wp_mono ?_ (hgo ρ w a hr hs))⟩
      rintro e a' w' ⟨ρ', rfl, hr', hs', hd, hf⟩
      exact ⟨ρ', rfl, hr', hs', hd, hf⟩
  | loop c ih =>
    intro sl h k r he
    replace he : loopE (evCode P call n c) n sl h k = some r := he
    obtain ⟨ex, sl', h', hk, hx1, hgo⟩ := loopE_ok ih n sl h he
    exact ⟨ex, sl', h', hk, hx1, fun ρ w a hr hs => wp_loop_rounds n (hgo ρ w a hr hs _ fun e a' w' hp => hp)⟩
  | exit id =>
    intro sl h k r he
    exact ⟨.exit id, sl, h, he, Ext.refl _, fun ρ w a hr hs => wp_exit ⟨ρ, rfl, hr, hs, rfl, Frm.refl _ _⟩⟩
  | label l =>
    intro sl h k r he
    exact ⟨.normal, sl, h, he, Ext.refl _, fun ρ w a hr hs => wp_label ⟨ρ, rfl, hr, hs, rfl, Frm.refl _ _⟩⟩
  | ret =>
    intro sl h k r he
    exact ⟨.ret, sl, h, he, Ext.refl _, fun ρ w a hr hs => wp_ret ⟨ρ, rfl, hr, hs, rfl, Frm.refl _ _⟩⟩
  | _ => intro sl h k r he; exact absurd he (by intro h; cases h)

theorem evRes_ok {h : List Blk} {sl : List AV} {ρ : List (Nat × Nat)} {w : World} {a : Act} (hr : Rel w0 ρ h w) (hs : SlR ρ sl a) :
    ∀ {l : List ResultVar} {cs : List Cp}, evRes P sl h l = some cs → ∃ L, (l.mapM (m := Sem) fun
      | .tmp t => pure (a.tmps.getD t undef)
      | .cell x t => do loadVar t (← asAddr (a.tmps.getD x undef))).run P w = .ok L w ∧ LR (Cp.R ρ) cs L
  | [], cs, he => by simp [evRes] at he; subst he; exact ⟨[], rfl, trivial⟩
  | .tmp t :: l, cs, he => by
    simp only [evRes, nth_eq] at he
    split at he
    · rename_i c hc
      split at he
      · rename_i m hm
        simp at he; subst he
        obtain ⟨L, hL, rL⟩ := evRes_ok hr hs hm
        have rc := getA_R (x := .tmp t) hs (by simpa only [getA, nth_eq] using hc)
        refine ⟨a.tmps.getD t undef :: L, ?_, rc, rL⟩
        rw [List.mapM_cons, run_bind_ok (show (pure (a.tmps.getD t undef) : Sem Value).run P w = _ from rfl), run_bind_ok hL]; rfl
      · simp at he
    · simp at he
  | .cell x t :: l, cs, he => by
    simp only [evRes, nth_eq] at he
    split at he
    · rename_i v hv
      split at he
      · rename_i c hc
        split at he
        · rename_i m hm
          simp at he; subst he
          obtain ⟨L, hL, rL⟩ := evRes_ok hr hs hm
          obtain ⟨u, hk, hgo⟩ := evLoad_ok hc
          obtain ⟨V, hrun, rV⟩ := hgo hr (getA_R (x := .tmp x) hs (by simpa only [getA, nth_eq] using hv))
          simp only [Option.some.injEq] at hk
          subst hk
          refine ⟨V :: L, ?_, rV, rL⟩
          rw [List.mapM_cons]
          have h1 : ((do loadVar t (← asAddr (a.tmps.getD x undef))) : Sem Value).run P w = .ok V w := by
            have e : a.eval (.tmp x) = a.tmps.getD x undef := rfl
            rw [e] at hrun
            unfold Instr.loadAt at hrun
            revert hrun
            cases a.tmps.getD x undef with
            | pointer p =>
              cases p with
              | none => intro hrun; simp [Instr.sureAddr, stuck, run_bind', Sem.run] at hrun
              | some p => intro hrun; exact hrun
            | _ => intro hrun; simp [Instr.sureAddr, stuck, run_bind', Sem.run] at hrun
          rw [run_bind_ok h1, run_bind_ok hL]; rfl
        · simp at he
      · simp at he
    · simp at he

theorem resAV_R {ρ : List (Nat × Nat)} {cs : List Cp} {L : List Value} (h : LR (Cp.R ρ) cs L) : (resAV cs).R ρ (if e : L.toArray.size = 1 then L.toArray[0] else .tuple L.toArray) := by
  match cs, L, h with
  | [], [], _ => exact ⟨[], trivial, rfl⟩
  | [c], [V], h => exact h.1
  | c :: d :: cs, V :: W :: L, h => exact ⟨V :: W :: L, h, by simp⟩
  | [], _ :: _, h => exact h.elim
  | _ :: _, [], h => exact h.elim
  | [c], _ :: _ :: _, h => exact h.2.elim
  | _ :: _ :: _, [_], h => exact h.2.elim

/-- a table of functions is the program's -/
def TblOK (P : Program) (tbl : FuncId → Option Func) : Prop := ∀ g fn, tbl g = some fn → P.funcs[g]? = some fn ∧ (fn.name == "runtime.NumGoroutine") = false

theorem evFn_ok {tbl : FuncId → Option Func} (ht : TblOK P tbl) {call : FuncId → List AV → List Blk → KA R → Option R} (hc : CallOK P w0 call) {n : Nat} {g : FuncId} {args : List AV} {h : List Blk} {k : KA R} {r : R}
    (he : evFn P tbl call n g args h k = some r) : ∃ rv h', k rv h' = some r ∧ Ext h h' ∧ CallGoes P w0 g args h rv h' := by
  unfold evFn at he
  split at he
  · rename_i fn hfn
    obtain ⟨hf, hname⟩ := ht g fn hfn
    split at he
    · rename_i c hb
      obtain ⟨ex, sl', h', hk, hx1, hgo⟩ := evCode_ok hc n c _ h _ r he
      have key : ∀ cs, evRes P sl' h' fn.results.toList = some cs → (∀ e, ExR ex e → e = .normal ∨ e = .ret) → CallGoes P w0 g args h (resAV cs) h' := by
        intro cs hcs hex
        refine ⟨⟨fn, hf, hname, by rw [hb]; rfl⟩, fun ρ w A hr hA => ?_⟩
        refine calls_of_wp hf hb ?_
        have hs : SlR ρ (args ++ List.replicate (fn.ntmps - args.length) undefA) { tmps := A.toArray ++ Array.replicate (fn.ntmps - A.toArray.size) undef, defers := [] } := by
          unfold SlR
          simp only [Array.toList_append, Array.toList_replicate, List.size_toArray]
          rw [← hA.length]
          exact hA.append (LR.replicate (undefA_R ρ) _)
        refine Code.wp_mono ?_ (hgo ρ w _ hr hs)
        rintro e a' w' ⟨ρ', hx, hr', hs', hd, hf'⟩
        obtain ⟨L, hL, rL⟩ := evRes_ok hr' hs' hcs
        have hres : (results fn a'.tmps).run P w' = .ok (if e : L.toArray.size = 1 then L.toArray[0] else .tuple L.toArray) w' := by
          unfold results
          have hmap : (fn.results.mapM (m := Sem) fun
              | .tmp t => pure (a'.tmps.getD t undef)
              | .cell x t => do loadVar t (← asAddr (a'.tmps.getD x undef))).run P w' = .ok L.toArray w' := by
            rw [Array.mapM_eq_mapM_toList]
            have : ∀ (s : Sem (List Value)), (List.toArray <$> s : Sem (Array Value)) = (s >>= fun x => pure x.toArray) := fun _ => rfl
            rw [this, run_bind_ok hL]; rfl
          exact run_bind_ok hmap
        rcases hex e hx with rfl | rfl
        · exact ⟨hd, _, hres, ρ', _, rfl, resAV_R rL, hr', hf'⟩
        · exact ⟨hd, _, hres, ρ', _, rfl, resAV_R rL, hr', hf'⟩
      cases ex with
      | normal =>
        simp only [] at hk
        split at hk
        · rename_i cs hcs
          exact ⟨_, _, hk, hx1, key cs hcs fun e he => .inl he⟩
        · simp at hk
      | ret =>
        simp only [] at hk
        split at hk
        · rename_i cs hcs
          exact ⟨_, _, hk, hx1, key cs hcs fun e he => .inr he⟩
        · simp at hk
      | exit i => simp at hk
    · simp at he
  · simp at he

theorem evCall_ok {tbl : FuncId → Option Func} (ht : TblOK P tbl) {orc : FuncId → List AV → List Blk → KA R → Option R} (hc : CallOK P w0 orc) (n : Nat) : ∀ d, CallOK P w0 (evCall P tbl orc n d)
  | 0 => fun g args h k r he => hc g args h k r (by simpa only [evCall] using he)
  | d + 1 => fun g args h k r he => by
    simp only [evCall] at he
    split at he
    · exact evFn_ok ht (evCall_ok ht hc n d) he
    · exact hc g args h k r he

theorem callOK_none : CallOK P w0 (fun _ _ _ (_ : KA R) => none) := fun _ _ _ _ _ he => by simp at he

/-- the world as it is, nothing of it ours -/
theorem Rel.nothing (w : World) : Rel w [] [] w := ⟨rfl, by simp, by simp, Below.refl _ _, by simp [nums]⟩

/-- a law that is evaluated to true holds -/
def isTrue (v : AV) (_ : List Blk) : Option Unit :=
  match v with
  | .one (.c (.v (.bool b))) => if b = true then some () else none
  | _ => none
theorem law_of {tbl : FuncId → Option Func} (ht : TblOK P tbl) {n d : Nat} {g : FuncId} {args : List AV} {w : World} {orc : FuncId → List AV → List Blk → KA Unit → Option Unit} (hc : CallOK P w orc)
    (he : evCall P tbl orc n d g args [] isTrue = some ()) {A : List Value} (hA : LR (AV.R []) args A) : Calls P g A.toArray w fun e w' => e = .returned (.bool true) ∧ Below w.heap.size w w' := by
  obtain ⟨rv, h', hk, _, _, hgo⟩ := evCall_ok ht hc n d g args [] isTrue () he
  refine (hgo [] w A (Rel.nothing w) hA).mono ?_
  rintro e w' ⟨ρ', V, rfl, rV, hr, hf⟩
  unfold isTrue at hk
  split at hk
  · rename_i b
    split at hk
    · rename_i hb
      subst hb
      obtain ⟨rfl, _⟩ := rV
      exact ⟨rfl, hr.below⟩
    · simp at hk
  · simp at hk
end

end Go.Ev
