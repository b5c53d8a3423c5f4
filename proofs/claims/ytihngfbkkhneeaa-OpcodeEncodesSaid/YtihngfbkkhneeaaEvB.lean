/- The evaluator's operations are right: each does to the machine's memory what is told of it. Conditions: none. -/
import Derived.Test.YtihngfbkkhneeaaEvA
namespace Go.Ev
open Go.RowKit
set_option linter.unusedVariables false
set_option linter.unusedSimpArgs false

/-! ### The evaluator is right: plain facts -/
theorem pureRun_ok {P : Program} {α : Type} (s : Sem α) {a : α} (h : pureRun P s = some a) (w : World) : s.run P w = .ok a w := by
  induction s with
  | pure b => simp only [pureRun, Option.some.injEq] at h; subst h; simp [Sem.run]
  | program k ih => simp only [pureRun] at h; simp only [Sem.run]; exact ih P h
  | mark m k ih => simp only [pureRun] at h; simp only [Sem.run]; exact ih h
  | _ => simp [pureRun] at h

theorem Sc.of?_R {ρ : List (Nat × Nat)} {x : Value} {s : Sc} (h : Sc.of? x = some s) : s.R ρ x := by
  cases x <;> simp [Sc.of?] at h <;> subst h <;> exact ⟨rfl, rfl⟩
theorem scs?_R {ρ : List (Nat × Nat)} : ∀ {l : List Value} {m : List Sc}, scs? l = some m → LR (Sc.R ρ) m l
  | [], m, h => by simp [scs?] at h; subst h; trivial
  | x :: l, m, h => by
    simp only [scs?] at h
    split at h
    · rename_i s hs
      split at h
      · rename_i m' hm'
        simp at h; subst h
        exact ⟨Sc.of?_R hs, scs?_R hm'⟩
      · simp at h
    · simp at h
theorem Cp.of?_R {ρ : List (Nat × Nat)} {x : Value} {s : Cp} (h : Cp.of? x = some s) : s.R ρ x := by
  cases x with
  | agg cs =>
    simp only [Cp.of?] at h
    split at h
    · rename_i l hl
      simp at h; subst h
      exact ⟨cs.toList, scs?_R hl, by simp⟩
    · simp at h
  | tuple vs => simp [Cp.of?] at h
  | _ => simp [Cp.of?] at h; subst h; exact ⟨rfl, rfl⟩
theorem cps?_R {ρ : List (Nat × Nat)} : ∀ {l : List Value} {m : List Cp}, cps? l = some m → LR (Cp.R ρ) m l
  | [], m, h => by simp [cps?] at h; subst h; trivial
  | x :: l, m, h => by
    simp only [cps?] at h
    split at h
    · rename_i s hs
      split at h
      · rename_i m' hm'
        simp at h; subst h
        exact ⟨Cp.of?_R hs, cps?_R hm'⟩
      · simp at h
    · simp at h
theorem AV.of?_R {ρ : List (Nat × Nat)} {x : Value} {s : AV} (h : AV.of? x = some s) : s.R ρ x := by
  cases x with
  | tuple vs =>
    simp only [AV.of?] at h
    split at h
    · rename_i l hl
      simp at h; subst h
      exact ⟨vs.toList, cps?_R hl, by simp⟩
    · simp at h
  | _ =>
    simp only [AV.of?] at h
    split at h
    · rename_i c hc
      simp at h; subst h
      exact Cp.of?_R hc
    · simp at h

theorem Sc.val?_R {ρ : List (Nat × Nat)} {s : Sc} {x V : Value} (h : s.val? = some x) (r : s.R ρ V) : V = x := by
  cases s <;> simp [Sc.val?] at h
  subst h; exact r.1
theorem vals?_R {ρ : List (Nat × Nat)} : ∀ {l : List Sc} {m L : List Value}, vals? l = some m → LR (Sc.R ρ) l L → L = m
  | [], m, L, h, r => by cases L with
    | nil => simp [vals?] at h; exact h.symm
    | cons _ _ => exact r.elim
  | s :: l, m, L, h, r => by
    cases L with
    | nil => exact r.elim
    | cons V L =>
      simp only [vals?] at h
      split at h
      · rename_i x hx
        split at h
        · rename_i m' hm'
          simp at h; subst h
          rw [Sc.val?_R hx r.1, vals?_R hm' r.2]
        · simp at h
      · simp at h
theorem Cp.val?_R {ρ : List (Nat × Nat)} {s : Cp} {x V : Value} (h : s.val? = some x) (r : s.R ρ V) : V = x := by
  cases s with
  | c s => exact Sc.val?_R h r
  | agg l =>
    simp only [Cp.val?] at h
    split at h
    · rename_i L hL
      simp at h; subst h
      obtain ⟨L', hL', rfl⟩ := r
      rw [vals?_R hL hL']
    · simp at h
theorem AV.val?_R {ρ : List (Nat × Nat)} {s : AV} {x V : Value} (h : s.val? = some x) (r : s.R ρ V) : V = x := by
  cases s with
  | one s => exact Cp.val?_R h r
  | tup l => simp [AV.val?] at h

theorem Sc.R_plain {ρ : List (Nat × Nat)} {s : Sc} {V : Value} (r : s.R ρ V) : plainV V = true := by
  cases s with
  | v x => obtain ⟨rfl, h⟩ := r; exact h
  | p i off => obtain ⟨b, _, _, rfl⟩ := r; rfl
  | f g caps => obtain ⟨L, _, rfl⟩ := r; rfl
  | s i off len es cap => obtain ⟨b, _, c, _, rfl, _⟩ := r; rfl
theorem cells_plain {V : Value} (h : plainV V = true) : V.cells = #[V] := by
  cases V <;> simp [plainV] at h <;> rfl
theorem AV.cells?_R {ρ : List (Nat × Nat)} {s : AV} {l : List Sc} {V : Value} (h : s.cells? = some l) (r : s.R ρ V) : LR (Sc.R ρ) l V.cells.toList := by
  cases s with
  | tup l => simp [AV.cells?] at h
  | one c => cases c with
    | c s =>
      simp [AV.cells?] at h; subst h
      have hp := Sc.R_plain r
      rw [cells_plain hp]
      exact ⟨r, trivial⟩
    | agg l' =>
      simp [AV.cells?] at h; subst h
      obtain ⟨L, hL, rfl⟩ := r
      simpa [Value.cells] using hL

/-! ### The frame's slots -/
def SlR (ρ : List (Nat × Nat)) (sl : List AV) (a : Act) : Prop := LR (AV.R ρ) sl a.tmps.toList

theorem getA_R {ρ : List (Nat × Nat)} {sl : List AV} {a : Act} (hs : SlR ρ sl a) {x : Operand} {v : AV} (h : getA sl x = some v) : v.R ρ (a.eval x) := by
  cases x with
  | tmp t =>
    simp only [getA, nth_eq] at h
    obtain ⟨V, hV, r⟩ := hs.get h
    have : a.tmps[t]? = some V := by simpa using hV
    simp only [Act.eval]
    rw [Array.getD_eq_getD_getElem?, this]; exact r
  | const v' => exact AV.of?_R h
  | global g => simp [getA] at h
  | func g => simp [getA] at h; subst h; exact ⟨[], trivial, rfl⟩
theorem getAs_R {ρ : List (Nat × Nat)} {sl : List AV} {a : Act} (hs : SlR ρ sl a) : ∀ {l : List Operand} {m : List AV}, getAs sl l = some m → LR (AV.R ρ) m (l.map a.eval)
  | [], m, h => by simp [getAs] at h; subst h; trivial
  | x :: l, m, h => by
    simp only [getAs] at h
    split at h
    · rename_i v hv
      split at h
      · rename_i m' hm'
        simp at h; subst h
        exact ⟨getA_R hs hv, getAs_R hs hm'⟩
      · simp at h
    · simp at h
theorem undefA_R (ρ : List (Nat × Nat)) : undefA.R ρ undef := ⟨[], trivial, rfl⟩
theorem putA_R {ρ : List (Nat × Nat)} {sl : List AV} {a : Act} (hs : SlR ρ sl a) (d : Option Tmp) {v : AV} {V : Value} (r : v.R ρ V) : SlR ρ (putA sl d v) (a.put d V) := by
  cases d with
  | none => exact hs
  | some d =>
    unfold SlR putA Act.put
    simp only [Array.toList_setIfInBounds, setN_eq]
    exact LR.set hs d r
theorem SlR.ext {ρ : List (Nat × Nat)} {sl : List AV} {a : Act} (hs : SlR ρ sl a) (t : List (Nat × Nat)) : SlR (ρ ++ t) sl a := LR.mono hs fun _ _ => AV.R.ext t
theorem put_defers (a : Act) (d : Option Tmp) (V : Value) : (a.put d V).defers = a.defers := by cases d <;> rfl

theorem wantedA_ok {ρ : List (Nat × Nat)} {sl : List AV} {a : Act} (hs : SlR ρ sl a) {ops : Array Oper} {o : Oper} {b : Bool} (h : wantedA ops sl o = some b) :
    Region.wanted o (yielded ops a.tmps) = b := by
  unfold wantedA at h
  simp only [nth_eq] at h
  unfold Region.wanted
  split at h
  · rename_i hg; simp at h; subst h; rw [hg]
  · rename_i j want hg
    rw [hg]
    split at h
    · rename_i oj hoj
      split at h
      · rename_i d hd
        split at h
        · rename_i c hc
          simp at h; subst h
          obtain ⟨V, hV, r⟩ := hs.get hc
          obtain ⟨rfl, _⟩ := r
          have : a.tmps[d]? = some (.bool c) := by simpa using hV
          simp [yielded, hoj, hd, this]
        · rename_i tl hc
          simp at h; subst h
          obtain ⟨V, hV, r⟩ := hs.get hc
          obtain ⟨L, _, rfl⟩ := r
          have : a.tmps[d]? = some (.tuple L.toArray) := by simpa using hV
          simp [yielded, hoj, hd, this]
        · simp at h
      · simp at h
    · simp at h

theorem SlR.set_same {ρ : List (Nat × Nat)} {sl : List AV} {a : Act} (hs : SlR ρ sl a) {d : Nat} {V : Value} (hV : a.tmps.toList[d]? = some V) {v : AV} (r : v.R ρ V) : SlR ρ (setN v sl d) a := by
  rw [setN_eq]
  have h := LR.set hs d r
  have e : a.tmps.toList.set d V = a.tmps.toList := by
    apply List.ext_getElem?
    intro i
    rw [List.getElem?_set]
    by_cases q : d = i
    · subst q
      rw [if_pos rfl, if_pos (lt_of_get hV)]; exact hV.symm
    · rw [if_neg q]
  rw [e] at h
  exact h
theorem sharp_R {ρ : List (Nat × Nat)} {sl : List AV} {a : Act} (hs : SlR ρ sl a) {ops : Array Oper} {o : Oper} {b : Bool} (h : wantedA ops sl o = some b) : SlR ρ (sharp ops sl o b) a := by
  unfold wantedA at h
  unfold sharp
  simp only [nth_eq] at h ⊢
  split at h
  · rename_i hg; exact hs
  · rename_i j want hg
    split at h
    · rename_i oj hoj
      try rw [hoj]
      split at h
      · rename_i d hd
        try simp only [hd]
        split at h
        · rename_i c hc
          try simp only [hc]
          simp only [Option.some.injEq] at h
          obtain ⟨V, hV, r⟩ := hs.get hc
          obtain ⟨rfl, _⟩ := r
          refine hs.set_same hV ?_
          subst h
          have : ((c == want) == want) = c := by cases c <;> cases want <;> rfl
          rw [this]
          exact ⟨rfl, rfl⟩
        · rename_i tl hc
          try simp only [hc]
          exact hs
        · simp at h
      · simp at h
    · simp at h
theorem sharpC_R {ρ : List (Nat × Nat)} {sl : List AV} {a : Act} (hs : SlR ρ sl a) {c : Operand} {t : Bool} (h : getA sl c = some (.one (.c (.v (.bool t))))) : SlR ρ (sharpC c t sl) a := by
  unfold sharpC
  split
  · rename_i d
    simp only [getA, nth_eq] at h
    obtain ⟨V, hV, r⟩ := hs.get h
    exact hs.set_same hV (by obtain ⟨rfl, _⟩ := r; exact ⟨rfl, rfl⟩)
  · exact hs

/-! ### Running the model's small steps -/
section
variable {P : Program} {w : World}
theorem run_bind {α β : Type} (s : Sem α) (f : α → Sem β) (w : World) : (s.bind f).run P w = match s.run P w with
    | .ok a w' => (f a).run P w'
    | .halt h w' => .halt h w' := by
  induction s generalizing w with
  | pure a => rfl
  | load m a k ih =>
    simp only [Sem.bind, Sem.run]
    split
    · exact ih _ _
    · split
      · exact ih _ _
      · rfl
  | store m a v k ih =>
    cases v <;> simp only [Sem.bind, Sem.run] <;> (try rfl) <;> (split <;> (try split) <;> first | rfl | exact ih _)
  | new o k ih => simp only [Sem.bind, Sem.run]; exact ih _ _
  | shape r k ih => simp only [Sem.bind, Sem.run]; exact ih _ _
  | freeze a n k ih => simp only [Sem.bind, Sem.run]; exact ih _
  | frozen a k ih => simp only [Sem.bind, Sem.run]; exact ih _ _
  | getObj r k ih =>
    simp only [Sem.bind, Sem.run]
    split
    · rfl
    · exact ih _ _
    · rfl
  | setObj r o k ih =>
    simp only [Sem.bind, Sem.run]
    split
    · rfl
    · exact ih _
    · rfl
  | choose q k ih =>
    simp only [Sem.bind, Sem.run]
    split
    · exact ih _ _
    · exact ih _ _
  | sys c k ih => simp only [Sem.bind, Sem.run]; exact ih _ _
  | program k ih => simp only [Sem.bind, Sem.run]; exact ih _ _
  | mark m k ih => simp only [Sem.bind, Sem.run]; exact ih _
  | halt h => rfl
theorem run_bind_ok {α β : Type} {s : Sem α} {f : α → Sem β} {a : α} {w' : World} (h : s.run P w = .ok a w') : (s >>= f).run P w = (f a).run P w' := by
  show (s.bind f).run P w = _
  rw [run_bind, h]
theorem run_pure {α : Type} (a : α) : (pure a : Sem α).run P w = .ok a w := rfl
theorem run_underlying {t : TypeId} {d : TypeDesc} (h : P.underlying t = some d) : (underlying t).run P w = .ok d w := by
  unfold underlying
  rw [run_bind_ok (show (program).run P w = .ok P w from rfl), h]; rfl
theorem run_typeInfo {t : TypeId} {i : TypeInfo} (h : P.info? t = some i) : (typeInfo t).run P w = .ok i w := by
  unfold typeInfo
  rw [run_bind_ok (show (program).run P w = .ok P w from rfl), h]; rfl
theorem run_sizeOf {t : TypeId} {n : Nat} (h : size? P t = some n) : (sizeOf t).run P w = .ok n w := by
  unfold size? at h
  split at h
  · rename_i i hi
    simp at h; subst h
    unfold sizeOf
    rw [run_bind_ok (run_typeInfo hi)]; rfl
  · simp at h
theorem run_isAgg {t : TypeId} {b : Bool} (h : isAgg? P t = some b) : (isAgg t).run P w = .ok b w := by
  unfold isAgg? at h
  split at h <;> (try simp at h) <;> (try subst h)
  · rename_i fs hf; unfold isAgg; rw [run_bind_ok (run_underlying hf)]; rfl
  · rename_i fs hf; unfold isAgg; rw [run_bind_ok (run_underlying hf)]; rfl
  · rename_i d h1 h2 hf
    unfold isAgg; rw [run_bind_ok (run_underlying hf)]
    cases d <;> first | rfl | exact (h1 _ rfl).elim | exact (h2 _ _ rfl).elim
theorem run_zeroValue {t : TypeId} {l : List Sc} (ρ : List (Nat × Nat)) (h : zero? P t = some l) : ∃ z, (zeroValue t).run P w = .ok z w ∧ LR (Sc.R ρ) l z.cells.toList := by
  unfold zero? at h
  split at h
  · rename_i i hi
    split at h
    · rename_i z hz
      refine ⟨z, ?_, scs?_R h⟩
      unfold zeroValue
      rw [run_bind_ok (run_typeInfo hi), hz]; rfl
    · simp at h
  · simp at h
end

section
variable {P : Program} {w0 w : World} {ρ : List (Nat × Nat)} {h : List Blk}

theorem add_addr (b off n : Nat) : (⟨b, off, none⟩ : Addr).add n = ⟨b, off + n, none⟩ := by
  unfold Addr.add; split
  · rename_i e; subst e; rfl
  · rfl

theorem cell_of {n off : Nat} {arr : List Value} {t : TypeId} {V : Value} (ho : w.heap[n]? = some (.cells arr.toArray t (0, 0))) (hv : arr[off]? = some V) : w.cell? ⟨n, off, none⟩ = some V := by
  simp [World.cell?, ho, hv]
theorem frozen_of {n off : Nat} {arr : List Value} {t : TypeId} (ho : w.heap[n]? = some (.cells arr.toArray t (0, 0))) : w.frozen? ⟨n, off, none⟩ = false := by
  simp [World.frozen?, ho]

theorem run_load1 {n off : Nat} {V : Value} (hc : w.cell? ⟨n, off, none⟩ = some V) : (load ⟨n, off, none⟩).run P w = .ok V w := by
  simp [load, Sem.run, hc]
theorem run_loadCellsFrom {n off : Nat} {arr : List Value} {t : TypeId} (ho : w.heap[n]? = some (.cells arr.toArray t (0, 0))) :
    ∀ (c i : Nat) (acc : Array Value), off + i + c ≤ arr.length → (loadCellsFrom ⟨n, off, none⟩ i c acc).run P w = .ok (acc ++ ((arr.drop (off + i)).take c).toArray) w
  | 0, i, acc, _ => by simp [loadCellsFrom, pure]
  | c + 1, i, acc, hle => by
    simp only [loadCellsFrom]
    have hlt : off + i < arr.length := by omega
    have hv : arr[off + i]? = some arr[off + i] := List.getElem?_eq_getElem hlt
    rw [add_addr, run_bind_ok (run_load1 (cell_of ho hv)), run_loadCellsFrom ho c (i + 1) _ (by omega)]
    congr 1
    rw [List.drop_eq_getElem_cons hlt, List.take_succ_cons]
    simp [Nat.add_assoc]
theorem run_loadCells {n off c : Nat} {arr : List Value} {t : TypeId} (ho : w.heap[n]? = some (.cells arr.toArray t (0, 0))) (hle : off + c ≤ arr.length) :
    (loadCells ⟨n, off, none⟩ c).run P w = .ok ((arr.drop off).take c).toArray w := by
  unfold loadCells
  rw [run_loadCellsFrom ho c 0 #[] (by omega)]
  simp

theorem LR.take_app {α β : Type} {R : α → β → Prop} {l : List α} {L rest : List β} (hL : LR R l L) {off n : Nat} (hle : off + n ≤ l.length) : LR R ((l.drop off).take n) (((L ++ rest).drop off).take n) := by
  have hlen := hL.length
  rw [List.drop_append_of_le_length (by omega), List.take_append_of_le_length (by simp; omega)]
  exact (hL.drop off).take n

theorem get_app {L rest : List Value} {off : Nat} {V : Value} (h : L[off]? = some V) : (L ++ rest)[off]? = some V := by
  have hi : off < L.length := by
    rcases Nat.lt_or_ge off L.length with h' | h'
    · exact h'
    · simp [List.getElem?_eq_none h'] at h
  rw [List.getElem?_append_left hi]; exact h

theorem evLoad_ok {R : Type} {t : TypeId} {x : AV} {k : KA R} {r : R} (he : evLoad P t x h k = some r) :
    ∃ v, k v h = some r ∧ ∀ {w0 w : World} {ρ : List (Nat × Nat)}, Rel w0 ρ h w → ∀ {X : Value}, x.R ρ X → ∃ V, (Instr.loadAt t X).run P w = .ok V w ∧ v.R ρ V := by
  unfold evLoad at he
  simp only [nth_eq] at he
  split at he
  · rename_i i off
    split at he
    · rename_i b hb
      split at he
      · rename_i hl
        split at he
        · rename_i ha
          split at he
          · rename_i sz hsz
            split at he
            · rename_i hle
              refine ⟨.one (.agg ((b.cells.drop off).take sz)), he, fun {w0 w ρ} hr {X} hx => ?_⟩
              obtain ⟨n, tn, hn, rfl⟩ := hx
              obtain ⟨n', tn', L, rest, hn', hL, ho, htot⟩ := hr.blkAt hb hl
              obtain ⟨rfl, rfl⟩ : n = n' ∧ tn = tn' := by rw [hn] at hn'; simpa using hn'
              have hlen := hL.length
              refine ⟨.agg (((L ++ rest).drop off).take sz).toArray, ?_, ⟨((L ++ rest).drop off).take sz, hL.take_app hle, rfl⟩⟩
              unfold Instr.loadAt
              rw [run_bind_ok (show (Instr.sureAddr _).run P w = .ok _ w from rfl)]
              unfold loadVar
              rw [run_bind_ok (run_isAgg ha)]
              simp only [if_true]
              rw [run_bind_ok (run_sizeOf hsz), run_bind_ok (run_loadCells ho (by simp; omega))]
              rfl
            · simp at he
          · simp at he
        · rename_i ha
          split at he
          · rename_i s hs
            refine ⟨.one (.c s), he, fun {w0 w ρ} hr {X} hx => ?_⟩
            obtain ⟨n, tn, hn, rfl⟩ := hx
            obtain ⟨n', tn', L, rest, hn', hL, ho, htot⟩ := hr.blkAt hb hl
            obtain ⟨rfl, rfl⟩ : n = n' ∧ tn = tn' := by rw [hn] at hn'; simpa using hn'
            obtain ⟨V, hV, rV⟩ := hL.get hs
            refine ⟨V, ?_, rV⟩
            unfold Instr.loadAt
            rw [run_bind_ok (show (Instr.sureAddr _).run P w = .ok _ w from rfl)]
            unfold loadVar
            rw [run_bind_ok (run_isAgg ha)]
            simp only [Bool.false_eq_true, if_false]
            exact run_load1 (cell_of ho (get_app hV))
          · simp at he
        · simp at he
      · simp at he
    · simp at he
  · simp at he

theorem run_store1 {n off : Nat} {V W : Value} (hp : plainV V = true) (hc : w.cell? ⟨n, off, none⟩ = some W) (hf : w.frozen? ⟨n, off, none⟩ = false) :
    (store ⟨n, off, none⟩ V).run P w = .ok () (w.setCell ⟨n, off, none⟩ V) := by
  cases V <;> simp [plainV] at hp <;> simp [store, Sem.run, hc, hf]

theorem run_storeCells {i n tn off : Nat} (hn : ρ[i]? = some (n, tn)) :
    ∀ (cs : List Sc) (L : List Value) (j : Nat) (h : List Blk) (b : Blk) (w : World), Rel w0 ρ h w → h[i]? = some b → b.live = true → LR (Sc.R ρ) cs L → off + j + cs.length ≤ b.cells.length →
      ∃ w', (storeCells ⟨n, off, none⟩ L j).run P w = .ok () w' ∧ Rel w0 ρ (h.set i { b with cells := splice b.cells (off + j) cs }) w' ∧ Frm ρ ρ w w'
  | [], L, j, h, b, w, hr, hb, _, hL, _ => by
    cases L with
    | cons _ _ => exact hL.elim
    | nil =>
      refine ⟨w, rfl, ?_, Frm.refl _ _⟩
      have : h.set i { b with cells := splice b.cells (off + j) [] } = h := by
        apply List.ext_getElem?; intro m
        rw [List.getElem?_set]
        by_cases e : i = m
        · subst e
          have hi : i < h.length := by
            rcases Nat.lt_or_ge i h.length with h' | h'
            · exact h'
            · simp [List.getElem?_eq_none h'] at hb
          simp [hi, splice]; rw [List.getElem?_eq_getElem hi] at hb; exact (Option.some.inj hb).symm
        · simp [e]
      rw [this]; exact hr
  | s :: cs, L, j, h, b, w, hr, hb, hl, hL, hle => by
    cases L with
    | nil => exact hL.elim
    | cons V L =>
      simp only [List.length_cons] at hle
      obtain ⟨n', tn', L0, rest, hn', hL0, ho, htot⟩ := hr.blkAt hb hl
      obtain ⟨rfl, rfl⟩ : n = n' ∧ tn = tn' := by rw [hn] at hn'; simpa using hn'
      have hlen := hL0.length
      have hlt : off + j < L0.length := by omega
      have hc := cell_of ho (get_app (rest := rest) (List.getElem?_eq_getElem hlt))
      have hst := run_store1 (P := P) (Sc.R_plain hL.1) hc (frozen_of ho)
      obtain ⟨hr1, hf1⟩ := hr.set hb hl hn hL.1 (off := off + j) (by omega)
      have hi : i < h.length := by
        rcases Nat.lt_or_ge i h.length with h' | h'
        · exact h'
        · simp [List.getElem?_eq_none h'] at hb
      obtain ⟨w', hrun, hr2, hf2⟩ := run_storeCells (off := off) hn cs L (j + 1) _ { b with cells := b.cells.set (off + j) s } _ hr1 (by simp [hi]) hl hL.2 (by simp only [List.length_set]; omega)
      refine ⟨w', ?_, ?_, hf1.trans hf2⟩
      · simp only [storeCells]
        rw [add_addr, run_bind_ok hst]; exact hrun
      · simpa [List.set_set, splice, Nat.add_assoc] using hr2

theorem evStore_ok {t : TypeId} {x v : AV} {h' : List Blk} (hr : Rel w0 ρ h w) (he : evStore P t x v h = some h') {X V : Value} (hx : x.R ρ X) (hv : v.R ρ V) :
    ∃ w', (Instr.storeAt t X V).run P w = .ok () w' ∧ Rel w0 ρ h' w' ∧ Frm ρ ρ w w' := by
  unfold evStore at he
  simp only [nth_eq] at he
  split at he
  · rename_i i off
    obtain ⟨n, tn, hn, rfl⟩ := hx
    split at he
    · rename_i b hb
      split at he
      · rename_i hl'
        have hl := hl'.1
        split at he
        · rename_i cs sz hcs hsz
          split at he
          · rename_i hle
            simp only [Option.some.injEq] at he
            subst he
            have hL := AV.cells?_R hcs hv
            have hlen := hL.length
            obtain ⟨w', hrun, hr', hf'⟩ := run_storeCells (P := P) (off := off) hn cs V.cells.toList 0 h b w hr hb hl hL (by omega)
            refine ⟨w', ?_, by simpa using hr', hf'⟩
            unfold Instr.storeAt
            rw [run_bind_ok (show (Instr.sureAddr _).run P w = .ok _ w from rfl)]
            unfold storeVar
            rw [run_bind_ok (run_sizeOf hsz)]
            have : V.cells.size = sz := by rw [← Array.length_toList, ← hlen]; exact hle.1
            simp only [this, ne_eq, not_true_eq_false, if_false]
            exact hrun
          · simp at he
        · simp at he
      · simp at he
    · simp at he
  · simp at he

theorem evStore_ext {t : TypeId} {x v : AV} {h' : List Blk} (he : evStore P t x v h = some h') : Ext h h' := by
  unfold evStore at he
  simp only [nth_eq] at he
  split at he
  · split at he
    · rename_i b hb
      split at he
      · rename_i hl
        split at he
        · split at he
          · simp only [Option.some.injEq] at he
            subst he
            exact Ext.set _ hb hl.2
          · simp at he
        · simp at he
      · simp at he
    · simp at he
  · simp at he

theorem evNew_ok {t : TypeId} {cs : List Sc} (hr : Rel w0 ρ h w) {V : Value} (hL : LR (Sc.R ρ) cs V.cells.toList) :
    ∃ X ρ' w', (newVar t V).run P w = .ok X w' ∧ (AV.one (.c (.p h.length 0))).R ρ' (.pointer (some X)) ∧ Rel w0 ρ' (h ++ [{ cells := cs, elem := t }]) w' ∧ Frm ρ ρ' w w' := by
  obtain ⟨hr', hf, hidx⟩ := hr.alloc hL [] t
  refine ⟨⟨w.heap.size, 0, none⟩, _, { w with heap := w.heap.push (.cells V.cells t) }, rfl, ⟨w.heap.size, _, hidx, rfl⟩, by simpa using hr', by simpa using hf⟩

theorem evFieldAddr_ok {s : TypeId} {x v : AV} {f : Nat} (he : evFieldAddr P s x f = some v) {X : Value} (hx : x.R ρ X) :
    ∃ V, (Instr.fieldAt s X f).run P w = .ok V w ∧ v.R ρ V := by
  unfold evFieldAddr at he
  split at he
  · rename_i i off fields hu
    obtain ⟨n, tn, hn, rfl⟩ := hx
    split at he
    · rename_i fl hfl
      split at he
      · rename_i sz hsz
        split at he
        · simp at he
        · rename_i hne
          simp only [Option.some.injEq] at he
          subst he
          refine ⟨_, ?_, ⟨n, tn, hn, rfl⟩⟩
          unfold Instr.fieldAt
          rw [run_bind_ok (run_underlying hu)]
          simp only [hfl]
          rw [run_bind_ok (show (Instr.sureAddr _).run P w = .ok _ w from rfl)]
          unfold fieldPlace
          rw [run_bind_ok (a := (⟨n, off + fl.offset, none⟩ : Addr)) (w' := w)]
          · rfl
          · rw [run_bind_ok (run_sizeOf hsz)]
            simp only [hne, if_false, add_addr]
            rfl
      · simp at he
    · simp at he
  · simp at he

theorem evPart_ok {t : TypeId} {l : List Sc} {off : Nat} {v : AV} (he : evPart P t l off = some v) {L : List Value} (hL : LR (Sc.R ρ) l L) :
    ∃ V, (part t L.toArray off).run P w = .ok V w ∧ v.R ρ V := by
  unfold evPart at he
  simp only [nth_eq] at he
  have hlen := hL.length
  split at he
  · rename_i ha
    split at he
    · rename_i n hn
      split at he
      · rename_i hle
        simp only [Option.some.injEq] at he
        subst he
        refine ⟨.agg ((L.drop off).take n).toArray, ?_, ⟨_, (hL.drop off).take n, rfl⟩⟩
        unfold part
        rw [run_bind_ok (run_isAgg ha)]
        simp only [if_true]
        rw [run_bind_ok (run_sizeOf hn)]
        simp only [run_pure, List.extract_toArray, List.extract_eq_take_drop]
        congr 4
        omega
      · simp at he
    · simp at he
  · rename_i ha
    split at he
    · rename_i s hs
      simp only [Option.some.injEq] at he
      subst he
      obtain ⟨V, hV, r⟩ := hL.get hs
      refine ⟨V, ?_, r⟩
      unfold part
      rw [run_bind_ok (run_isAgg ha)]
      simp [hV]
    · simp at he
  · simp at he

theorem evField_ok {t : TypeId} {x v : AV} {f : Nat} (he : evField P t x f = some v) {X : Value} (hx : x.R ρ X) :
    ∃ V, (Instr.field t X f).run P w = .ok V w ∧ v.R ρ V := by
  unfold evField at he
  split at he
  · rename_i l fields hu
    obtain ⟨L, hL, rfl⟩ := hx
    split at he
    · rename_i fl hfl
      obtain ⟨V, hrun, r⟩ := evPart_ok (w := w) he hL
      refine ⟨V, ?_, r⟩
      unfold Instr.field
      rw [run_bind_ok (run_underlying hu)]
      simp only [hfl]
      rw [run_bind_ok (show (asAgg _).run P w = .ok _ w from rfl)]
      exact hrun
    · simp at he
  · simp at he

theorem evExtract_ok {x v : AV} {i : Nat} (he : evExtract x i = some v) {X : Value} (hx : x.R ρ X) :
    ∃ V, (Instr.extract X i).run P w = .ok V w ∧ v.R ρ V := by
  unfold evExtract at he
  simp only [nth_eq] at he
  split at he
  · rename_i l
    obtain ⟨L, hL, rfl⟩ := hx
    split at he
    · rename_i c hc
      simp only [Option.some.injEq] at he
      subst he
      obtain ⟨V, hV, r⟩ := hL.get hc
      refine ⟨V, ?_, r⟩
      unfold Instr.extract
      simp [hV]
    · simp at he
  · simp at he
end

theorem intsOf_get {k : IntKind} : ∀ {l : List Sc} {xs : List Int}, intsOf k l = some xs → ∀ {n : Nat}, n < l.length → l[n]? = some (.v (.int k (xs.getD n 0)))
  | [], xs, h, n, hn => by simp at hn
  | .v (.int k' x) :: l, xs, h, n, hn => by
    simp only [intsOf] at h
    split at h
    · rename_i e
      split at h
      · rename_i m hm
        simp at h; subst h; subst e
        cases n with
        | zero => rfl
        | succ n => simpa using intsOf_get hm (n := n) (by simpa using hn)
      · simp at h
    · simp at h
  | .v (.bool _) :: l, xs, h, n, hn => by simp [intsOf] at h
  | .v (.float _ _) :: l, xs, h, n, hn => by simp [intsOf] at h
  | .v (.complex _ _ _) :: l, xs, h, n, hn => by simp [intsOf] at h
  | .v (.string _) :: l, xs, h, n, hn => by simp [intsOf] at h
  | .v (.pointer _) :: l, xs, h, n, hn => by simp [intsOf] at h
  | .v (.slice _ _ _) :: l, xs, h, n, hn => by simp [intsOf] at h
  | .v (.map _) :: l, xs, h, n, hn => by simp [intsOf] at h
  | .v (.chan _) :: l, xs, h, n, hn => by simp [intsOf] at h
  | .v (.func _ _ _) :: l, xs, h, n, hn => by simp [intsOf] at h
  | .v .nilFunc :: l, xs, h, n, hn => by simp [intsOf] at h
  | .v (.iface _ _) :: l, xs, h, n, hn => by simp [intsOf] at h
  | .v .nilIface :: l, xs, h, n, hn => by simp [intsOf] at h
  | .v (.agg _) :: l, xs, h, n, hn => by simp [intsOf] at h
  | .v (.tuple _) :: l, xs, h, n, hn => by simp [intsOf] at h
  | .p _ _ :: l, xs, h, n, hn => by simp [intsOf] at h
  | .f _ _ :: l, xs, h, n, hn => by simp [intsOf] at h
  | .s _ _ _ _ _ :: l, xs, h, n, hn => by simp [intsOf] at h
theorem boolsOf_get : ∀ {l : List Sc} {xs : List Bool}, boolsOf l = some xs → ∀ {n : Nat}, n < l.length → l[n]? = some (.v (.bool (xs.getD n false)))
  | [], xs, h, n, hn => by simp at hn
  | c :: l, xs, h, n, hn => by
    unfold boolsOf at h
    split at h
    · rename_i e; cases e
    · rename_i x l' e
      cases e
      split at h
      · rename_i m hm
        simp at h; subst h
        cases n with
        | zero => rfl
        | succ n => simpa using boolsOf_get hm (n := n) (by simpa using hn)
      · simp at h
    · simp at h
theorem strsOf_get : ∀ {l : List Sc} {xs : List ByteArray}, strsOf l = some xs → ∀ {n : Nat}, n < l.length → l[n]? = some (.v (.string (xs.getD n ByteArray.empty)))
  | [], xs, h, n, hn => by simp at hn
  | c :: l, xs, h, n, hn => by
    unfold strsOf at h
    split at h
    · rename_i e; cases e
    · rename_i x l' e
      cases e
      split at h
      · rename_i m hm
        simp at h; subst h
        cases n with
        | zero => rfl
        | succ n => simpa using strsOf_get hm (n := n) (by simpa using hn)
      · simp at h
    · simp at h
theorem selSc_get {l : List Sc} {n : Nat} {s : Sc} (h : selSc l n = some s) (hn : n < l.length) : l[n]? = some s := by
  unfold selSc at h
  split at h
  · rename_i k _ _ _
    split at h
    · rename_i xs hxs
      simp at h; subst h
      exact intsOf_get hxs hn
    · simp at h
  · split at h
    · rename_i xs hxs
      simp at h; subst h
      exact boolsOf_get hxs hn
    · simp at h
  · split at h
    · rename_i xs hxs
      simp at h; subst h
      exact strsOf_get hxs hn
    · simp at h
  · simp at h
theorem column_length (l : List Sc) (size j r : Nat) : (column l size j r).length = r := by
  induction r with
  | zero => rfl
  | succ r ih => simp [column, ih]
theorem column_get (l : List Sc) (size j : Nat) : ∀ (r n : Nat), n < r → (column l size j r)[n]? = some (l.getD (n * size + j) (.p 0 0))
  | r + 1, n, hn => by
    simp only [column]
    rcases Nat.lt_or_ge n r with h | h
    · rw [List.getElem?_append_left (by rw [column_length]; exact h)]; exact column_get l size j r n h
    · obtain rfl : n = r := by omega
      rw [List.getElem?_append_right (by rw [column_length]; omega), column_length]; simp
theorem selRow_eq {l : List Sc} {size len n : Nat} (hn : n < len) (hl : l.length = len * size) : ∀ {j : Nat} {m : List Sc}, j ≤ size → selRow l size len n j = some m → m = (l.drop (n * size)).take j
  | 0, m, _, h => by simp [selRow] at h; subst h; simp
  | j + 1, m, hj, h => by
    simp only [selRow] at h
    split at h
    · rename_i m' hm'
      split at h
      · rename_i s hs
        simp at h; subst h
        have e := selRow_eq hn hl (Nat.le_of_succ_le hj) hm'
        have hg := selSc_get hs (by rw [column_length]; exact hn)
        rw [column_get _ _ _ _ _ hn] at hg
        have hlt : n * size + j < l.length := by
          have : (n + 1) * size ≤ len * size := Nat.mul_le_mul_right _ hn
          rw [Nat.add_mul] at this; omega
        rw [List.getD_eq_getElem?_getD, List.getElem?_eq_getElem hlt] at hg
        simp at hg
        rw [List.take_add_one, ← e]
        congr 1
        rw [List.getElem?_drop, List.getElem?_eq_getElem hlt, hg]; rfl
      · simp at h
    · simp at h

section
variable {P : Program} {w0 w : World} {ρ : List (Nat × Nat)} {h : List Blk}

theorem run_bind' {α β : Type} (s : Sem α) (f : α → Sem β) (w : World) : (s >>= f).run P w = match s.run P w with
    | .ok a w' => (f a).run P w'
    | .halt h w' => .halt h w' := run_bind s f w

theorem run_part_arr {elem : TypeId} {sz n : Nat} {b : Bool} {L : List Value} (ha : isAgg? P elem = some b) (hs : size? P elem = some sz) (hle : n * sz + sz ≤ L.length) (hsz : b = false → sz = 1) :
    (part elem L.toArray (n * sz)).run P w = .ok (if b then .agg ((L.drop (n * sz)).take sz).toArray else L.getD (n * sz) undef) w := by
  unfold part
  rw [run_bind_ok (run_isAgg ha)]
  cases b with
  | true =>
    simp only [if_true]
    rw [run_bind_ok (run_sizeOf hs)]
    simp only [run_pure, List.extract_toArray, List.extract_eq_take_drop]
    congr 4
    omega
  | false =>
    have := hsz rfl
    subst this
    have hlt : n * 1 < L.length := by omega
    simp only [Bool.false_eq_true, if_false, List.getElem?_toArray, List.getElem?_eq_getElem hlt, run_pure, List.getD_eq_getElem?_getD, Option.getD_some]

theorem evIndex_ok {R : Type} {t : TypeId} {x ix : AV} {k : KA R} {r : R} (he : evIndex P t x ix h k = some r) :
    ∃ v, k v h = some r ∧ ∀ {w : World} {ρ : List (Nat × Nat)} {X I : Value}, x.R ρ X → ix.R ρ I → ∃ V, (Instr.index t X I).run P w = .ok V w ∧ v.R ρ V := by
  unfold evIndex at he
  split at he
  · rename_i l kk n len elem hu
    split at he
    · rename_i sz ha hs
      split at he
      · rename_i hl
        split at he
        · rename_i cs hcs
          split at he
          · rename_i hn
            have hn' : n.toNat < len := by omega
            refine ⟨.one (.agg cs), he, fun {w ρ X I} hx hi => ?_⟩
            obtain ⟨L, hL, rfl⟩ := hx
            obtain ⟨rfl, _⟩ := hi
            have hlen := hL.length
            have hle : n.toNat * sz + sz ≤ L.length := by
              have : (n.toNat + 1) * sz ≤ len * sz := Nat.mul_le_mul_right _ hn'
              rw [Nat.add_mul] at this; omega
            refine ⟨.agg ((L.drop (n.toNat * sz)).take sz).toArray, ?_, ?_⟩
            · have := run_part_arr (w := w) ha hs hle (by simp)
              simp only [if_true] at this
              simp only [Instr.index, asIntOf, run_bind', run_pure, run_underlying hu, hn, and_self, if_true, run_sizeOf hs, this]
            · rw [selRow_eq hn' hl (Nat.le_refl _) hcs]
              exact ⟨_, (hL.drop _).take _, rfl⟩
          · simp at he
        · simp at he
      · simp at he
    · rename_i ha hs
      split at he
      · rename_i hl
        split at he
        · rename_i s hsel
          split at he
          · rename_i hn
            have hn' : n.toNat < len := by omega
            have hg := selSc_get hsel (by omega)
            refine ⟨.one (.c s), he, fun {w ρ X I} hx hi => ?_⟩
            obtain ⟨L, hL, rfl⟩ := hx
            obtain ⟨rfl, _⟩ := hi
            have hlen := hL.length
            obtain ⟨V, hV, rV⟩ := hL.get hg
            refine ⟨V, ?_, rV⟩
            have := run_part_arr (w := w) (n := n.toNat) (L := L) ha hs (by omega) (by simp)
            simp only [Bool.false_eq_true, if_false, Nat.mul_one, List.getD_eq_getElem?_getD, hV, Option.getD_some] at this
            simp only [Instr.index, asIntOf, run_bind', run_pure, run_underlying hu, hn, and_self, if_true, run_sizeOf hs, this, Nat.mul_one]
          · simp at he
        · simp at he
      · simp at he
    · simp at he
  · rename_i s kk n hu
    split at he
    · rename_i hn
      have hn' : n.toNat < s.size := by omega
      refine ⟨.one (.c (.v (.int .u8 ((s.data.toList.getD n.toNat 0).toNat : Int)))), he, fun {w ρ X I} hx hi => ?_⟩
      obtain ⟨rfl, _⟩ := hx
      obtain ⟨rfl, _⟩ := hi
      refine ⟨.int .u8 (s.data.toList.getD n.toNat 0).toNat, ?_, ⟨rfl, rfl⟩⟩
      have hg : s[n.toNat]? = some (s.data.toList.getD n.toNat 0) := by
        rw [getElem?_pos s n.toNat hn']
        congr 1
        have hd : n.toNat < s.data.toList.length := by simpa using hn'
        rw [List.getD_eq_getElem?_getD, List.getElem?_eq_getElem hd]
        rfl
      simp only [Instr.index, asIntOf, run_bind', run_pure, run_underlying hu, hn.1, if_true, hg]
    · simp at he
  · simp at he

theorem evIndexAddr_ok {R : Type} {t : TypeId} {x ix : AV} {k : KA R} {r : R} (he : evIndexAddr P t x ix h k = some r) :
    ∃ v, k v h = some r ∧ ∀ {w : World} {ρ : List (Nat × Nat)} {X I : Value}, x.R ρ X → ix.R ρ I → ∃ V, (Instr.indexAt t X I).run P w = .ok V w ∧ v.R ρ V := by
  unfold evIndexAddr at he
  split at he
  · rename_i i off kk n len elem hu
    split at he
    · rename_i sz hs
      split at he
      · rename_i hn
        refine ⟨.one (.c (.p i (off + n.toNat * sz))), he, fun {w ρ X I} hx hi => ?_⟩
        obtain ⟨b, tb, hb, rfl⟩ := hx
        obtain ⟨rfl, _⟩ := hi
        refine ⟨.pointer (some ⟨b, off + n.toNat * sz, none⟩), ?_, ⟨b, tb, hb, rfl⟩⟩
        simp only [Instr.indexAt, asIntOf, run_bind', run_pure, run_underlying hu, Instr.sureAddr, hn, and_self, if_true, run_sizeOf hs, add_addr]
      · simp at he
    · simp at he
  · rename_i i off len es cap kk n elem hu
    split at he
    · rename_i sz hs
      split at he
      · rename_i hn
        refine ⟨.one (.c (.p i (off + n.toNat * sz))), he, fun {w ρ X I} hx hi => ?_⟩
        obtain ⟨b, tb, c, hb, rfl, _⟩ := hx
        obtain ⟨rfl, _⟩ := hi
        refine ⟨.pointer (some ⟨b, off + n.toNat * sz, none⟩), ?_, ⟨b, tb, hb, rfl⟩⟩
        simp only [Instr.indexAt, asIntOf, run_bind', run_pure, run_underlying hu, hn, and_self, if_true, run_sizeOf hs, add_addr]
      · simp at he
    · simp at he
  · simp at he
end

/-! ### Building values -/
theorem splice_length : ∀ (cs : List Sc) (l : List Sc) (off : Nat), (splice l off cs).length = l.length
  | [], l, off => rfl
  | c :: cs, l, off => by simp [splice, splice_length cs]
def spliceV : List Value → Nat → List Value → List Value
  | l, _, [] => l
  | l, off, c :: cs => spliceV (l.set off c) (off + 1) cs
theorem splice_R {ρ : List (Nat × Nat)} : ∀ {cs : List Sc} {C : List Value} {l : List Sc} {L : List Value} (off : Nat), LR (Sc.R ρ) cs C → LR (Sc.R ρ) l L → LR (Sc.R ρ) (splice l off cs) (spliceV L off C)
  | [], [], l, L, off, _, h => h
  | c :: cs, V :: C, l, L, off, hc, h => splice_R (off + 1) hc.2 (h.set off hc.1)
  | [], _ :: _, _, _, _, h, _ => h.elim
  | _ :: _, [], _, _, _, h, _ => h.elim
theorem spliceV_length : ∀ (cs : List Value) (l : List Value) (off : Nat), (spliceV l off cs).length = l.length
  | [], l, off => rfl
  | c :: cs, l, off => by simp [spliceV, spliceV_length cs]
theorem foldl_splice : ∀ (C : List Value) (j off : Nat) (L : Array Value), (C.zipIdx j).foldl (fun cs (c : Value × Nat) => cs.setIfInBounds (off + c.2) c.1) L = (spliceV L.toList (off + j) C).toArray
  | [], j, off, L => by simp [spliceV]
  | c :: C, j, off, L => by
    simp only [List.zipIdx_cons, List.foldl_cons, spliceV]
    rw [foldl_splice C (j + 1) off _]
    simp [Nat.add_assoc]
theorem foldl_splice0 (V : Value) (off : Nat) (L : Array Value) : V.cells.zipIdx.foldl (fun cs (c, j) => cs.setIfInBounds (off + j) c) L = (spliceV L.toList off V.cells.toList).toArray := by
  have := foldl_splice V.cells.toList 0 off L
  simp only [Nat.add_zero] at this
  rw [← this, ← Array.foldl_toList]
  simp

/-- the parts, as they are -/
def PsR (ρ : List (Nat × Nat)) (ps : List (Nat × AV)) (vs : List (Nat × Value)) : Prop := LR (fun x y => x.1 = y.1 ∧ x.2.R ρ y.2) ps vs
theorem getPs_R {ρ : List (Nat × Nat)} {sl : List AV} {a : Act} (hs : SlR ρ sl a) : ∀ {l : List (Nat × Operand)} {m : List (Nat × AV)}, getPs sl l = some m → PsR ρ m (l.map fun (i, x) => (i, a.eval x))
  | [], m, h => by simp [getPs] at h; subst h; trivial
  | (i, x) :: l, m, h => by
    simp only [getPs] at h
    split at h
    · rename_i v hv
      split at h
      · rename_i m' hm'
        simp at h; subst h
        exact ⟨⟨rfl, getA_R hs hv⟩, getPs_R hs hm'⟩
      · simp at h
    · simp at h

section
variable {P : Program} {w0 w : World} {ρ : List (Nat × Nat)} {h : List Blk}

theorem evFill_ok {size : Nat} : ∀ {ps : List (Nat × AV)} {vs : List (Nat × Value)} {cells out : List Sc} {L : Array Value}, evFill size cells ps = some out → PsR ρ ps vs → LR (Sc.R ρ) cells L.toList →
    ∃ O : Array Value, Instr.fill (fun i => some (i * size, size)) L vs = some O ∧ LR (Sc.R ρ) out O.toList
  | [], [], cells, out, L, he, _, hL => by simp [evFill] at he; subst he; exact ⟨L, rfl, hL⟩
  | [], _ :: _, _, _, _, _, h, _ => h.elim
  | _ :: _, [], _, _, _, _, h, _ => h.elim
  | (i, v) :: ps, (i', V) :: vs, cells, out, L, he, hp, hL => by
    obtain ⟨⟨rfl, rv⟩, hp⟩ := hp
    simp only [evFill] at he
    split at he
    · rename_i cs hcs
      split at he
      · rename_i hc
        have hC := AV.cells?_R hcs rv
        have hl1 := hC.length
        have hl2 := hL.length
        obtain ⟨O, hO, rO⟩ := evFill_ok (L := (spliceV L.toList (i * size) V.cells.toList).toArray) he hp (by simpa using splice_R _ hC hL)
        refine ⟨O, ?_, rO⟩
        simp only [Instr.fill]
        rw [if_neg, foldl_splice0]
        · exact hO
        · simp only [Array.length_toList] at hl1 hl2
          simp; constructor <;> omega
      · simp at he
    · simp at he

theorem evFillS_ok {fields : Array Field} {places : Array (Nat × Nat)} (hpl : ∀ (i : Nat) (f : Field) (sz : Nat), fields[i]? = some f → size? P f.type = some sz → places[i]? = some (f.offset, sz)) :
    ∀ {ps : List (Nat × AV)} {vs : List (Nat × Value)} {cells out : List Sc} {L : Array Value}, evFillS P fields cells ps = some out → PsR ρ ps vs → LR (Sc.R ρ) cells L.toList →
    ∃ O : Array Value, Instr.fill (places[·]?) L vs = some O ∧ LR (Sc.R ρ) out O.toList
  | [], [], cells, out, L, he, _, hL => by simp [evFillS] at he; subst he; exact ⟨L, rfl, hL⟩
  | [], _ :: _, _, _, _, _, h, _ => h.elim
  | _ :: _, [], _, _, _, _, h, _ => h.elim
  | (i, v) :: ps, (i', V) :: vs, cells, out, L, he, hp, hL => by
    obtain ⟨⟨rfl, rv⟩, hp⟩ := hp
    simp only [evFillS] at he
    split at he
    · rename_i cs f hcs hf
      split at he
      · rename_i sz hsz
        split at he
        · rename_i hc
          have hC := AV.cells?_R hcs rv
          have hl1 := hC.length
          have hl2 := hL.length
          obtain ⟨O, hO, rO⟩ := evFillS_ok hpl (L := (spliceV L.toList f.offset V.cells.toList).toArray) he hp (by simpa using splice_R _ hC hL)
          refine ⟨O, ?_, rO⟩
          simp only [Instr.fill, hpl i f sz hf hsz]
          rw [if_neg, foldl_splice0]
          · exact hO
          · simp only [Array.length_toList] at hl1 hl2
            simp; constructor <;> omega
        · simp at he
      · simp at he
    · simp at he

theorem run_mapM {α β : Type} (f : α → Sem β) (g : α → β) (w : World) : ∀ (l : List α), (∀ a ∈ l, (f a).run P w = .ok (g a) w) → (l.mapM f).run P w = .ok (l.map g) w
  | [], _ => by simp [run_pure]
  | a :: l, h => by
    rw [List.mapM_cons, run_bind_ok (h a (by simp)), run_bind_ok (run_mapM f g w l fun b hb => h b (by simp [hb]))]
    simp [run_pure]
theorem run_amapM {α β : Type} (f : α → Sem β) (g : α → β) (w : World) (l : Array α) (h : ∀ a ∈ l.toList, (f a).run P w = .ok (g a) w) : (l.mapM f).run P w = .ok (l.map g) w := by
  rw [Array.mapM_eq_mapM_toList]
  show (Functor.map _ _ : Sem _).run P w = _
  have : (List.toArray <$> l.toList.mapM f : Sem (Array β)) = (l.toList.mapM f >>= fun x => pure x.toArray) := rfl
  rw [this, run_bind_ok (run_mapM f g w l.toList h)]
  have e : (l.toList.map g).toArray = l.map g := by apply Array.toList_inj.1; simp
  rw [← e]; rfl

theorem evBuild_ok {t : TypeId} {ps : List (Nat × AV)} {v : AV} (he : evBuild P t ps = some v) {vs : Array (Nat × Value)} (hp : PsR ρ ps vs.toList) :
    ∃ V, (Instr.build t vs).run P w = .ok V w ∧ v.R ρ V := by
  unfold evBuild at he
  split at he
  · rename_i z fields hz hu
    split at he
    · rename_i hall
      split at he
      · rename_i cs hcs
        simp at he; subst he
        obtain ⟨Z, hZ, rZ⟩ := run_zeroValue (w := w) ρ hz
        let g : Field → Nat × Nat := fun f => (f.offset, (size? P f.type).getD 0)
        have hmap : (fields.mapM fun f => (do pure (f.offset, ← sizeOf f.type) : Sem (Nat × Nat))).run P w = .ok (fields.map g) w := by
          apply run_amapM
          intro f hf
          simp only [fieldsSized, List.all_eq_true] at hall
          obtain ⟨sz, hsz⟩ := Option.isSome_iff_exists.1 (hall f hf)
          rw [run_bind_ok (run_sizeOf hsz), run_pure]; simp [g, hsz]
        obtain ⟨O, hO, rO⟩ := evFillS_ok (P := P) (fields := fields) (places := fields.map g) (by
          intro i f sz hf hsz
          simp [hf, g, hsz]) hcs hp (L := Z.cells) rZ
        refine ⟨.agg O, ?_, ⟨O.toList, rO, by simp⟩⟩
        unfold Instr.build
        rw [run_bind_ok hZ, run_bind_ok (run_underlying hu)]
        simp only []
        rw [run_bind_ok hmap]
        rw [hO]; rfl
      · simp at he
    · simp at he
  · rename_i z n elem hz hu
    split at he
    · rename_i sz hsz
      split at he
      · rename_i cs hcs
        simp at he; subst he
        obtain ⟨Z, hZ, rZ⟩ := run_zeroValue (w := w) ρ hz
        obtain ⟨O, hO, rO⟩ := evFill_ok hcs hp (L := Z.cells) rZ
        refine ⟨.agg O, ?_, ⟨O.toList, rO, by simp⟩⟩
        unfold Instr.build
        rw [run_bind_ok hZ, run_bind_ok (run_underlying hu)]
        simp only []
        rw [run_bind_ok (run_sizeOf hsz), hO]; rfl
      · simp at he
    · simp at he
  · simp at he

theorem capsOf_R : ∀ {l : List AV} {m : List (Nat × Nat)} {L : List Value}, capsOf l = some m → LR (AV.R ρ) l L → LR (PR ρ) m L
  | [], m, L, h, r => by
    cases L with
    | nil => simp [capsOf] at h; subst h; trivial
    | cons _ _ => exact r.elim
  | x :: l, m, L, h, r => by
    cases L with
    | nil => exact r.elim
    | cons V L =>
      unfold capsOf at h
      split at h
      · rename_i e; cases e
      · rename_i i off l' e
        cases e
        split at h
        · rename_i m' hm'
          simp at h; subst h
          exact ⟨r.1, capsOf_R hm' r.2⟩
        · simp at h
      · simp at h
end

/-! ### More of the operations -/
section
variable {P : Program} {w0 w : World} {ρ : List (Nat × Nat)} {h : List Blk}

theorem cycleA_R {z : List Sc} {Z : Array Value} (hz : LR (Sc.R ρ) z Z.toList) (hp : 0 < z.length) (n : Nat) : LR (Sc.R ρ) (cycleA z n) ((List.range n).map fun i => Z[i % Z.size]!) := by
  have hlen := hz.length
  simp only [Array.length_toList] at hlen
  unfold cycleA
  generalize List.range n = l
  induction l with
  | nil => trivial
  | cons i l ih =>
    refine ⟨?_, ih⟩
    have hi : i % z.length < z.length := Nat.mod_lt _ hp
    obtain ⟨V, hV, r⟩ := hz.get (List.getElem?_eq_getElem hi)
    have e1 : z.getD (i % z.length) (.p 0 0) = z[i % z.length] := by rw [List.getD_eq_getElem?_getD, List.getElem?_eq_getElem hi]; rfl
    have e2 : Z[i % Z.size]! = V := by
      rw [← hlen]
      have : Z[i % z.length]? = some V := by simpa using hV
      rw [getElem!_def, this]
    show Sc.R ρ (z.getD (i % z.length) (.p 0 0)) Z[i % Z.size]!
    rw [e1, e2]; exact r

theorem evBuildSlice_ok {R : Type} {t : TypeId} {len : Nat} {ps : List (Nat × AV)} {k : KA R} {r : R} (he : evBuildSlice P t len ps h k = some r) :
    ∃ v h', k v h' = some r ∧ Ext h h' ∧ ∀ {w0 w : World} {ρ : List (Nat × Nat)}, Rel w0 ρ h w → ∀ {vs : Array (Nat × Value)}, PsR ρ ps vs.toList →
      ∃ V ρ' w', (Instr.buildSlice t len vs).run P w = .ok V w' ∧ v.R ρ' V ∧ Rel w0 ρ' h' w' ∧ Frm ρ ρ' w w' := by
  unfold evBuildSlice at he
  split at he
  · rename_i elem hu
    split at he
    · rename_i sz z hsz hz
      split at he
      · rename_i hc
        split at he
        · rename_i cs hcs
          refine ⟨_, _, he, Ext.append _ _, fun {w0 w ρ} hr {vs} hp => ?_⟩
          obtain ⟨Z, hZ, rZ⟩ := run_zeroValue (w := w) ρ hz
          have hcy := cycleA_R rZ (by omega) (len * sz)
          obtain ⟨O, hO, rO⟩ := evFill_ok hcs hp (L := (Array.range (len * sz)).map (fun i => Z.cells[i % Z.cells.size]!)) (by simpa using hcy)
          have hlO : O.size = len * sz := by
            have := rO.length
            have h2 : ∀ (ps : List (Nat × AV)) (cells out : List Sc), evFill sz cells ps = some out → out.length = cells.length := by
              intro ps
              induction ps with
              | nil => intro cells out h; simp [evFill] at h; rw [h]
              | cons p ps ih =>
                obtain ⟨i, v⟩ := p
                intro cells out h
                simp only [evFill] at h
                split at h
                · split at h
                  · rw [ih _ _ h, splice_length]
                  · simp at h
                · simp at h
            rw [h2 _ _ _ hcs] at this
            simp [cycleA] at this
            exact this.symm
          obtain ⟨hr', hf, hidx⟩ := hr.alloc rO [] elem
          refine ⟨.slice (some ⟨w.heap.size, 0, none⟩) len len, _, _, ?_, ⟨w.heap.size, _, len, hidx, rfl, Nat.le_refl _, by simp [hlO], fun d e => by simpa using e⟩, hr', hf⟩
          unfold Instr.buildSlice
          rw [run_bind_ok (run_underlying hu)]
          simp only []
          rw [run_bind_ok (run_sizeOf hsz)]
          have h1 : ¬ (len * sz > 2 ^ 24) := by omega
          simp only [h1, if_false]
          by_cases e0 : len * sz = 0
          · rw [if_pos e0, run_bind_ok (show (pure #[] : Sem (Array Value)).run P w = .ok #[] w from rfl)]
            have : (Array.range (len * sz)).map (fun i => (#[] : Array Value)[i % (#[] : Array Value).size]!) = (Array.range (len * sz)).map (fun i => Z.cells[i % Z.cells.size]!) := by rw [e0]; simp
            rw [this, hO]
            simp [newRow, newObj, run_bind', Sem.run, run_pure]
          · rw [if_neg e0, run_bind_ok hZ, run_bind_ok (show (pure Z.cells : Sem (Array Value)).run P w = .ok Z.cells w from rfl), hO]
            simp [newRow, newObj, run_bind', Sem.run, run_pure]
        · simp at he
      · simp at he
    · simp at he
  · simp at he
end

section
variable {P : Program} {w0 w : World} {ρ : List (Nat × Nat)} {h : List Blk}

theorem Rel.draw (hr : Rel w0 ρ h w) (n : Nat) : Rel w0 ρ h { w with drawn := n } ∧ Frm ρ ρ w { w with drawn := n } := by
  have f : Frm ρ ρ w { w with drawn := n } := ⟨rfl, rfl, rfl, Nat.le_refl _, ⟨[], by simp, by simp [nums]⟩, fun _ _ _ => rfl⟩
  exact ⟨⟨hr.len, hr.inj, hr.blk, f.below hr.below (fun n hn => (hr.base n hn).1), hr.base⟩, f⟩

theorem growBy_le (need : Nat) : ∀ (r c : Nat), Builtin.growBy need r c ≤ c ∨ Builtin.growBy need r c ≤ need + (need + 768) / 4 := by
  intro r
  induction r with
  | zero => intro c; left; simp only [Builtin.growBy]; omega
  | succ r ih =>
    intro c
    simp only [Builtin.growBy]
    split
    · left; omega
    · rename_i hlt
      rcases ih (c + (c + 768) / 4) with h | h
      · right; omega
      · right; exact h
theorem nextcap_le {need old : Nat} (h : old < need) : Builtin.nextslicecap need old ≤ 4 * need + 65536 := by
  unfold Builtin.nextslicecap
  split
  · omega
  · split
    · omega
    · rcases growBy_le need 4 old with h | h <;> omega

theorem run_firstCells {sz len : Nat} {x : AV} {n : Nat} {cs : List Sc} (hrow : rowOf h sz x = some (n, cs)) (hr : Rel w0 ρ h w) {X : Value} (hx : x.R ρ X) :
    ∃ L, (Builtin.firstCells sz n X).run P w = .ok L w ∧ LR (Sc.R ρ) cs L.toList ∧ (Builtin.lenOf X).run P w = .ok n w ∧ L.size = n * sz := by
  unfold rowOf at hrow
  simp only [nth_eq] at hrow
  split at hrow
  · simp at hrow
    obtain ⟨rfl, rfl⟩ := hrow
    obtain ⟨rfl, _⟩ := hx
    exact ⟨#[], rfl, trivial, rfl, by simp⟩
  · rename_i i off ln es cap
    split at hrow
    · rename_i b hb
      split at hrow
      · rename_i hc
        simp only [Option.some.injEq, Prod.mk.injEq] at hrow
        obtain ⟨rfl, rfl⟩ := hrow
        obtain ⟨n', t, c, hn', rfl, h1, h2, h3⟩ := hx
        obtain ⟨n2, t2, L, rest, hn2, hL, ho, htot⟩ := hr.blkAt hb hc.1
        obtain ⟨rfl, rfl⟩ : n' = n2 ∧ t = t2 := by rw [hn'] at hn2; simpa using hn2
        have hlen := hL.length
        refine ⟨(((L ++ rest).drop off).take (ln * sz)).toArray, ?_, ?_, rfl, ?_⟩
        · exact run_loadCells ho (by simp; omega)
        · simpa using hL.take_app (by omega)
        · simp; omega
      · simp at hrow
    · simp at hrow
  · simp at hrow

/-- room for more was found elsewhere -/
theorem append_new {elem : TypeId} {info : TypeInfo} {z : List Sc} (hi : P.info? elem = some info) (hz : zero? P elem = some z) (hzl : z.length = info.size) (hsz : 0 < info.size) (hb : info.bytes ≤ 65536)
    {ts tx : TypeId} (hu : P.underlying ts = some (.slice elem)) {ex : TypeId} (hux : P.underlying tx = some (.slice ex)) {tys : Array TypeId} (ht0 : tys[0]? = some ts) (ht1 : tys[1]? = some tx)
    {base : Option Addr} {len cap n : Nat} {X : Value} {O N : Array Value} {ty : TypeId} (hcap : cap < len + n) (hsmall : len + n ≤ 1048576)
    (hO : ∀ w', w'.heap = w.heap → (Builtin.firstCells info.size len (.slice base len cap)).run P w' = .ok O w') (hOs : O.size = len * info.size)
    (hN : ∀ w', w'.heap = w.heap → (Builtin.firstCells info.size n X).run P w' = .ok N w') (hNs : N.size = n * info.size) (hl : (Builtin.lenOf X).run P w = .ok n w) :
    ∃ c d rest, len + n ≤ c ∧ (O ++ N).size + rest.length = c * info.size ∧ (Builtin.append_ tys ty #[.slice base len cap, X]).run P w = .ok (.slice (some ⟨w.heap.size, 0, none⟩) (len + n) c) { w with heap := w.heap.push (.cells ((O ++ N).toList ++ rest).toArray elem), drawn := d } := by
  obtain ⟨Z, hZ, rZ⟩ := run_zeroValue (w := { w with drawn := w.drawn + 1 }) [] hz
  have hs : size? P elem = some info.size := by simp [size?, hi]
  have hZl : Z.cells.size = info.size := by have := rZ.length; simp only [Array.length_toList] at this; omega
  generalize hc : (len + n) + (w.tape w.drawn (.appendCap (len + n) cap elem)) % (2 ^ 63 - (len + n)) = c
  have hcle : len + n ≤ c := by omega
  refine ⟨c, w.drawn + 1, (Builtin.zeroCells Z.cells (c - (len + n))).toList, hcle, ?_, ?_⟩
  · simp only [Array.size_append, hOs, hNs, Builtin.zeroCells, hZl, Array.length_toList, Array.size_map, Array.size_range]
    rw [← Nat.add_mul, ← Nat.add_mul]; congr 1; omega
  · have hneed : ¬ (len + n ≤ cap) := by omega
    have hbig : ¬ (((len + n : Nat) : Int) > IntKind.i64.max ∧ (false = true ∨ info.bytes = 0)) := by
      intro ⟨h1, _⟩
      have : IntKind.i64.max = 9223372036854775807 := by rfl
      omega
    have hroom : ¬ (Builtin.nextslicecap (len + n) cap * info.bytes > 2 ^ 48) := by
      have h1 := nextcap_le hcap
      have h2 : Builtin.nextslicecap (len + n) cap * info.bytes ≤ (4 * (len + n) + 65536) * 65536 := Nat.mul_le_mul h1 hb
      have h3 : (4 * (len + n) + 65536) * 65536 ≤ (4 * 1048576 + 65536) * 65536 := Nat.mul_le_mul_right _ (by omega)
      omega
    unfold Builtin.append_
    simp only [ht0, ht1, List.getElem?_toArray, List.getElem?_cons_zero, List.getElem?_cons_succ]
    rw [run_bind_ok (run_underlying hu)]
    simp only []
    rw [run_bind_ok (run_sizeOf hs), run_bind_ok (run_underlying hux), run_bind_ok (show (pure _ : Sem Bool).run P w = .ok false w from rfl)]
    simp only [Bool.false_eq_true, if_false]
    rw [run_bind_ok hl]
    simp only [hneed, if_false]
    rw [run_bind_ok (run_typeInfo hi)]
    simp only [Bool.false_eq_true] at hbig
    rw [if_neg hbig, run_bind_ok (run_typeInfo hi), if_neg hroom]
    have hch : (choose (.appendCap (len + n) cap elem)).run P w = .ok c { w with drawn := w.drawn + 1 } := by
      simp [choose, Sem.run, Question.forced, Question.cut, hc]
    rw [run_bind_ok hch, run_bind_ok (run_typeInfo hi)]
    have hask : ∀ (b : Nat) (w : World), (askRoom b).run P w = .ok () w := by
      intro b w; unfold askRoom; split <;> rfl
    rw [run_bind_ok (hask _ _), run_bind_ok (hO { w with drawn := w.drawn + 1 } rfl)]
    simp only [Bool.not_false, if_true]
    rw [run_bind_ok (hN { w with drawn := w.drawn + 1 } rfl), run_bind_ok hZ]
    have e : O ++ N ++ Builtin.zeroCells Z.cells (c - (len + n)) = ((O ++ N).toList ++ (Builtin.zeroCells Z.cells (c - (len + n))).toList).toArray := by apply Array.toList_inj.1; simp
    rw [← e]; rfl

theorem append_fits {elem : TypeId} {sz : Nat} (hs : size? P elem = some sz) {ts tx : TypeId} (hu : P.underlying ts = some (.slice elem)) {ex : TypeId} (hux : P.underlying tx = some (.slice ex))
    {tys : Array TypeId} (ht0 : tys[0]? = some ts) (ht1 : tys[1]? = some tx) {base : Addr} {len cap n : Nat} {X : Value} {N : Array Value} {ty : TypeId} (hcap : len + n ≤ cap)
    (hN : (Builtin.firstCells sz n X).run P w = .ok N w) (hl : (Builtin.lenOf X).run P w = .ok n w) {w' : World} (hst : (storeCells (base.add (len * sz)) N.toList).run P w = .ok () w') :
    (Builtin.append_ tys ty #[.slice (some base) len cap, X]).run P w = .ok (.slice (some base) (len + n) cap) w' := by
  unfold Builtin.append_
  simp only [ht0, ht1, List.getElem?_toArray, List.getElem?_cons_zero, List.getElem?_cons_succ]
  rw [run_bind_ok (run_underlying hu)]
  simp only []
  rw [run_bind_ok (run_sizeOf hs), run_bind_ok (run_underlying hux), run_bind_ok (show (pure _ : Sem Bool).run P w = .ok false w from rfl)]
  simp only [Bool.false_eq_true, if_false]
  rw [run_bind_ok hl]
  simp only [hcap, if_true, Bool.not_false]
  rw [run_bind_ok hN, run_bind_ok hst]; rfl

/-- a block goes, another one stands over the same memory, which alone has changed -/
theorem Rel.over (hr : Rel w0 ρ h w) {i n t : Nat} {b : Blk} (hb : h[i]? = some b) (hl : b.live = true) (hn : ρ[i]? = some (n, t)) {cs : List Sc} {w' : World}
    (hsz : w'.heap.size = w.heap.size) (hoth : ∀ k, k ≠ n → w'.heap[k]? = w.heap[k]?) (hos : w'.os = w.os) (hta : w'.tape = w.tape) (hou : w'.output = w.output)
    (hcs : ∃ L rest, LR (Sc.R ρ) cs L ∧ w'.heap[n]? = some (.cells (L ++ rest).toArray b.elem (0, 0)) ∧ (L ++ rest).length = t) :
    Rel w0 (ρ ++ [(n, t)]) (h.set i { b with live := false } ++ [{ cells := cs, elem := b.elem }]) w' ∧ Frm ρ (ρ ++ [(n, t)]) w w' ∧ (ρ ++ [(n, t)])[h.length]? = some (n, t) := by
  have hidx : (ρ ++ [(n, t)])[h.length]? = some (n, t) := by rw [← hr.len]; simp
  have fr : Frm ρ (ρ ++ [(n, t)]) w w' := ⟨hos, hta, hou, by omega, ⟨_, rfl, fun m hm => .inl (by simp [nums] at hm; subst hm; exact mem_nums hn)⟩, fun k _ hk => hoth k (fun e => hk (e ▸ mem_nums hn))⟩
  have hil := lt_of_get hb
  have key : ∀ (x : Nat) (bx : Blk), (h.set i { b with live := false } ++ [({ cells := cs, elem := b.elem } : Blk)])[x]? = some bx → bx.live = true → (x < h.length ∧ x ≠ i ∧ h[x]? = some bx) ∨ (x = h.length ∧ bx = { cells := cs, elem := b.elem }) := by
    intro x bx hx lx
    rcases Nat.lt_trichotomy x h.length with h1 | h1 | h1
    · left
      rw [List.getElem?_append_left (by simpa using h1), List.getElem?_set] at hx
      by_cases e : i = x
      · subst e; simp [h1] at hx; subst hx; simp at lx
      · rw [if_neg e] at hx; exact ⟨h1, fun e' => e e'.symm, hx⟩
    · right
      subst h1
      rw [List.getElem?_append_right (by simp)] at hx
      simp at hx; exact ⟨rfl, hx.symm⟩
    · rw [List.getElem?_eq_none (by simp; omega)] at hx; simp at hx
  have lo : ∀ (x : Nat) (y : Nat × Nat), x < h.length → (ρ ++ [(n, t)])[x]? = some y → ρ[x]? = some y := by
    intro x y hx hy; rw [List.getElem?_append_left (hr.len ▸ hx)] at hy; exact hy
  refine ⟨⟨by simp [hr.len], ?_, ?_, fr.below hr.below (fun n hn => (hr.base n hn).1), ?_⟩, fr, hidx⟩
  · intro x y bx by_ m tx ty hx hy lx ly hmx hmy
    rcases key x bx hx lx with ⟨h1, hxi, h2⟩ | ⟨h1, _⟩ <;> rcases key y by_ hy ly with ⟨h3, hyi, h4⟩ | ⟨h3, _⟩
    · exact hr.inj x y bx by_ m tx ty h2 h4 lx ly (lo _ _ h1 hmx) (lo _ _ h3 hmy)
    · subst h3; rw [hidx] at hmy; simp at hmy
      exact (hxi (hr.inj x i bx b m tx t h2 hb lx hl (lo _ _ h1 hmx) (by rw [← hmy.1]; exact hn))).elim
    · subst h1; rw [hidx] at hmx; simp at hmx
      exact (hyi (hr.inj y i by_ b m ty t h4 hb ly hl (lo _ _ h3 hmy) (by rw [← hmx.1]; exact hn))).elim
    · rw [h1, h3]
  · intro x bx m tx hx hm lx
    rcases key x bx hx lx with ⟨h1, hxi, h2⟩ | ⟨h1, h2⟩
    · have hm' := lo _ _ h1 hm
      have hne : m ≠ n := fun e => hxi (hr.inj x i bx b m tx t h2 hb lx hl hm' (by rw [e]; exact hn))
      rw [hoth m hne]
      exact (hr.blk x bx m tx h2 hm').ext _ lx
    · subst h1; subst h2
      rw [hidx] at hm; simp at hm
      obtain ⟨rfl, rfl⟩ := hm
      obtain ⟨L, rest, h3, h4, h5⟩ := hcs
      exact ⟨L, rest, h3.mono (fun _ _ => Sc.R.ext _), h4, h5⟩
  · intro m hm
    rw [nums_append] at hm
    rcases List.mem_append.1 hm with hm | hm
    · have := hr.base m hm; omega
    · simp [nums] at hm; subst hm; have := hr.base _ (mem_nums hn); omega

/-- a block is let go -/
theorem Rel.kill (hr : Rel w0 ρ h w) (i : Nat) {b : Blk} (hb : h[i]? = some b) : Rel w0 ρ (h.set i { b with live := false }) w := by
  have key : ∀ (x : Nat) (bx : Blk), (h.set i { b with live := false })[x]? = some bx → bx.live = true → h[x]? = some bx := by
    intro x bx hx lx
    rw [List.getElem?_set] at hx
    by_cases e : i = x
    · subst e; simp [lt_of_get hb] at hx; subst hx; simp at lx
    · rw [if_neg e] at hx; exact hx
  exact ⟨by simp [hr.len], fun x y bx by_ m tx ty hx hy lx ly => hr.inj x y bx by_ m tx ty (key x bx hx lx) (key y by_ hy ly) lx ly, fun x bx m tx hx hm lx => hr.blk x bx m tx (key x bx hx lx) hm lx, hr.below, hr.base⟩

/-- cells behind the known ones are written -/
theorem run_storePast {n : Nat} {t : TypeId} : ∀ (N : List Value) (arr : List Value) (off j : Nat) (w : World), w.heap[n]? = some (.cells arr.toArray t (0, 0)) → n < w.heap.size → (∀ V ∈ N, plainV V = true) → off + j + N.length ≤ arr.length →
    ∃ w', (storeCells ⟨n, off, none⟩ N j).run P w = .ok () w' ∧ w'.heap[n]? = some (.cells (spliceV arr (off + j) N).toArray t (0, 0)) ∧ w'.heap.size = w.heap.size ∧ (∀ k, k ≠ n → w'.heap[k]? = w.heap[k]?) ∧ w'.os = w.os ∧ w'.tape = w.tape ∧ w'.output = w.output
  | [], arr, off, j, w, ho, _, _, _ => ⟨w, rfl, ho, rfl, fun _ _ => rfl, rfl, rfl, rfl⟩
  | V :: N, arr, off, j, w, ho, hlt, hp, hle => by
    simp only [List.length_cons] at hle
    have hv : arr[off + j]? = some arr[off + j] := List.getElem?_eq_getElem (by omega)
    have hst := run_store1 (P := P) (hp V (by simp)) (cell_of ho hv) (frozen_of (off := off + j) ho)
    have hself : (w.setCell ⟨n, off + j, none⟩ V).heap[n]? = some (.cells (arr.set (off + j) V).toArray t (0, 0)) := by
      simp only [World.setCell]; rw [Array.getElem?_modify, if_pos rfl, ho]
      simp
    have hother : ∀ k, k ≠ n → (w.setCell ⟨n, off + j, none⟩ V).heap[k]? = w.heap[k]? := fun k hk => by
      simp only [World.setCell]; rw [Array.getElem?_modify, if_neg (fun e => hk e.symm)]
    obtain ⟨w', h1, h2, h3, h4, h5, h6, h7⟩ := run_storePast N (arr.set (off + j) V) off (j + 1) _ hself (by simpa [World.setCell] using hlt) (fun V hV => hp V (by simp [hV])) (by simp; omega)
    refine ⟨w', ?_, by simpa [spliceV, Nat.add_assoc] using h2, by rw [h3]; simp [World.setCell], fun k hk => by rw [h4 k hk, hother k hk], by rw [h5]; rfl, by rw [h6]; rfl, by rw [h7]; rfl⟩
    simp only [storeCells]
    rw [add_addr, run_bind_ok hst]; exact h1
theorem spliceV_past : ∀ (N A B : List Value), N.length ≤ B.length → spliceV (A ++ B) A.length N = A ++ N ++ B.drop N.length
  | [], A, B, _ => by simp [spliceV]
  | V :: N, A, [], h => by simp at h
  | V :: N, A, b :: B, h => by
    simp only [spliceV]
    have : (A ++ b :: B).set A.length V = (A ++ [V]) ++ B := by simp
    rw [this]
    have h2 := spliceV_past N (A ++ [V]) B (by simpa using h)
    simp only [List.length_append, List.length_cons, List.length_nil] at h2
    rw [h2]; simp
end

section
variable {P : Program} {w0 w : World} {ρ : List (Nat × Nat)} {h : List Blk}

theorem LR_plain {cs : List Sc} {L : List Value} (hL : LR (Sc.R ρ) cs L) : ∀ V ∈ L, plainV V = true := by
  induction cs generalizing L with
  | nil => cases L with
    | nil => intro V hV; simp at hV
    | cons _ _ => exact hL.elim
  | cons c cs ih => cases L with
    | nil => exact hL.elim
    | cons V L =>
      intro U hU
      rcases List.mem_cons.1 hU with rfl | hU
      · exact Sc.R_plain hL.1
      · exact ih hL.2 U hU

theorem grow_ok {elem : TypeId} {info : TypeInfo} {z : List Sc} (hi : P.info? elem = some info) (hz : zero? P elem = some z) (hzl : z.length = info.size) (hsz : 0 < info.size) (hb : info.bytes ≤ 65536)
    {ts tx : TypeId} (hu : P.underlying ts = some (.slice elem)) {ex : TypeId} (hux : P.underlying tx = some (.slice ex)) {tys : Array TypeId} (ht0 : tys[0]? = some ts) (ht1 : tys[1]? = some tx)
    {base : Option Addr} {len cap n : Nat} {s x : AV} {old new : List Sc} {X : Value} {ty : TypeId} (hcap : cap < len + n) (hsmall : len + n ≤ 1048576) (hr : Rel w0 ρ h w)
    (hs : rowOf h info.size s = some (len, old)) (hS : s.R ρ (.slice base len cap)) (hx : rowOf h info.size x = some (n, new)) (hX : x.R ρ X) :
    ∃ V ρ' w', (Builtin.append_ tys ty #[.slice base len cap, X]).run P w = .ok V w' ∧ (AV.one (.c (.s h.length 0 (len + n) info.size none))).R ρ' V ∧ Rel w0 ρ' (h ++ [{ cells := old ++ new, elem := elem }]) w' ∧ Frm ρ ρ' w w' := by
  obtain ⟨O, hO, rO, _, hOs⟩ := run_firstCells (P := P) (len := 0) hs hr hS
  obtain ⟨N, hN, rN, hl, hNs⟩ := run_firstCells (P := P) (len := 0) hx hr hX
  have anyW : ∀ (c : Nat) (Y : Value) (y : AV) (cells : List Sc) (A : Array Value), rowOf h info.size y = some (c, cells) → y.R ρ Y → (Builtin.firstCells info.size c Y).run P w = .ok A w → ∀ w', w'.heap = w.heap → (Builtin.firstCells info.size c Y).run P w' = .ok A w' := by
    intro c Y y cells A hy rY hA w' hw'
    unfold rowOf at hy
    simp only [nth_eq] at hy
    split at hy
    · simp at hy; obtain ⟨rfl, rfl⟩ := hy
      obtain ⟨rfl, _⟩ := rY
      have hA' : A = #[] := by
        have : (Builtin.firstCells info.size 0 (.slice none 0 0)).run P w = .ok #[] w := rfl
        rw [this] at hA; simpa using hA.symm
      subst hA'; rfl
    · rename_i i off ln es cap
      split at hy
      · rename_i b hb'
        split at hy
        · rename_i hc
          simp only [Option.some.injEq, Prod.mk.injEq] at hy
          obtain ⟨rfl, rfl⟩ := hy
          obtain ⟨n', t, c, hn', rfl, h1, h2, h3⟩ := rY
          obtain ⟨n2, t2, L, rest, hn2, hL, ho, htot⟩ := hr.blkAt hb' hc.1
          obtain ⟨rfl, rfl⟩ : n' = n2 ∧ t = t2 := by rw [hn'] at hn2; simpa using hn2
          have hlen := hL.length
          have e1 := run_loadCells (P := P) (w := w) (off := off) (c := ln * info.size) ho (by simp; omega)
          have e2 := run_loadCells (P := P) (w := w') (off := off) (c := ln * info.size) (by rw [hw']; exact ho) (by simp; omega)
          have e3 : (Builtin.firstCells info.size ln (.slice (some ⟨n', off, none⟩) ln c)).run P w = .ok A w := hA
          simp only [Builtin.firstCells] at e3
          rw [e1] at e3
          simp at e3
          simp only [Builtin.firstCells]
          rw [e2]; simp [← e3]
        · simp at hy
      · simp at hy
    · simp at hy
  obtain ⟨c, d, rest, hc, htot, hrun⟩ := append_new (ty := ty) hi hz hzl hsz hb hu hux ht0 ht1 hcap hsmall (anyW _ _ _ _ _ hs hS hO) hOs (anyW _ _ _ _ _ hx hX hN) hNs hl
  have hLR : LR (Sc.R ρ) (old ++ new) (O ++ N).toList := by simpa using rO.append rN
  obtain ⟨hr', hf, hidx⟩ := hr.alloc hLR rest elem
  obtain ⟨hr2, hf2⟩ := hr'.draw d
  refine ⟨_, _, _, hrun, ⟨w.heap.size, _, c, hidx, rfl, hc, ?_, fun d e => by simp at e⟩, hr2, hf.trans hf2⟩
  have : ((O ++ N).toList ++ rest).length = c * info.size := by rw [List.length_append, Array.length_toList, htot]
  rw [this]; omega

theorem evAppend_ok {R : Type} {tys : Array TypeId} {s x : AV} {k : KA R} {r : R} {ty : TypeId} (he : evAppend P tys s x h k = some r) :
    ∃ v h', k v h' = some r ∧ Ext h h' ∧ ∀ {w0 w : World} {ρ : List (Nat × Nat)}, Rel w0 ρ h w → ∀ {S X : Value}, s.R ρ S → x.R ρ X →
      ∃ V ρ' w', (Builtin.append_ tys ty #[S, X]).run P w = .ok V w' ∧ v.R ρ' V ∧ Rel w0 ρ' h' w' ∧ Frm ρ ρ' w w' := by
  unfold evAppend at he
  simp only [nth_eq] at he
  split at he
  · rename_i ts tx ht0 ht1
    split at he
    · rename_i elem ex hu hux
      split at he
      · rename_i info z hi hz
        have hsz' : size? P elem = some info.size := by simp [size?, hi]
        split at he
        · rename_i hc
          obtain ⟨hzl, hsz, hb⟩ := hc
          split at he
          · rename_i len old n new hs hx
            split at he
            · rename_i hsmall
              split at he
              · rename_i i off ln es c
                split at he
                · rename_i b hbi
                  have hrow := hs
                  simp only [rowOf, nth_eq, hbi] at hrow
                  split at hrow
                  · rename_i hcc
                    simp only [Option.some.injEq, Prod.mk.injEq] at hrow
                    obtain ⟨rfl, rfl⟩ := hrow
                    split at he
                    · rename_i hfit
                      split at he
                      · rename_i hro
                        refine ⟨_, _, he, Ext.set _ hbi hro.1, fun {w0 w ρ} hr {S X} hS hX => ?_⟩
                        obtain ⟨n', t, c', hn', rfl, h1, h2, h3⟩ := hS
                        obtain rfl : c' = c := h3 c rfl
                        obtain ⟨N, hN, rN, hl, hNs⟩ := run_firstCells (P := P) (len := 0) hx hr hX
                        have hnl : new.length = n * info.size := by rw [rN.length]; simpa using hNs
                        have e1 : (ln + n) * info.size = ln * info.size + n * info.size := Nat.add_mul _ _ _
                        obtain ⟨w', hst, hr', hf'⟩ := run_storeCells (P := P) (off := off + ln * info.size) hn' new N.toList 0 h b w hr hbi hcc.1 rN (by omega)
                        refine ⟨_, ρ, w', append_fits hsz' hu hux ht0 ht1 hfit hN hl (by rw [add_addr]; exact hst), ⟨n', t, c', hn', rfl, hfit, ?_, fun d e => by simpa using e⟩, by simpa using hr', hf'⟩
                        rw [← hcc.2.1]; exact h2
                      · simp at he
                    · rename_i hfit
                      refine ⟨_, _, he, Ext.append _ _, fun {w0 w ρ} hr {S X} hS hX => ?_⟩
                      have hS' := hS
                      obtain ⟨n', t, c', hn', rfl, h1, h2, h3⟩ := hS
                      obtain rfl : c' = c := h3 c rfl
                      exact grow_ok hi hz hzl hsz hb hu hux ht0 ht1 (by omega) hsmall hr hs hS' hx hX
                  · simp at hrow
                · simp at he
              · rename_i i off ln es
                split at he
                · rename_i b hbi
                  have hrow := hs
                  simp only [rowOf, nth_eq, hbi] at hrow
                  split at hrow
                  · rename_i hcc
                    simp only [Option.some.injEq, Prod.mk.injEq] at hrow
                    obtain ⟨rfl, rfl⟩ := hrow
                    split at he
                    · rename_i hro
                      obtain ⟨hro0, rfl, helem⟩ := hro
                      refine ⟨_, _, he, (Ext.set _ hbi hro0).trans (Ext.append _ _), fun {w0 w ρ} hr {S X} hS hX => ?_⟩
                      have hS' := hS
                      obtain ⟨n', t, c', hn', rfl, h1, h2, h3⟩ := hS
                      by_cases hfit : ln + n ≤ c'
                      · obtain ⟨N, hN, rN, hl, hNs⟩ := run_firstCells (P := P) (len := 0) hx hr hX
                        have hnl : N.toList.length = n * info.size := by simpa using hNs
                        obtain ⟨n2, t2, L, rest, hn2, hL, ho, htot⟩ := hr.blkAt hbi hcc.1
                        obtain ⟨rfl, rfl⟩ : n' = n2 ∧ t = t2 := by rw [hn'] at hn2; simpa using hn2
                        have hlen := hL.length
                        have e1 : (ln + n) * info.size = ln * info.size + n * info.size := Nat.add_mul _ _ _
                        have e2 : (ln + n) * info.size ≤ c' * info.size := Nat.mul_le_mul_right _ hfit
                        rw [hcc.2.1] at h2
                        have hlt := (hr.base n' (mem_nums hn')).2
                        obtain ⟨w', hst, hself, hsize, hoth, hos, hta, hou⟩ := run_storePast (P := P) N.toList (L ++ rest) (ln * info.size) 0 w ho hlt (LR_plain rN) (by omega)
                        have hsplit : spliceV (L ++ rest) (ln * info.size + 0) N.toList = ((L ++ rest).take (ln * info.size) ++ N.toList) ++ ((L ++ rest).drop (ln * info.size)).drop N.toList.length := by
                          have h9 := spliceV_past N.toList ((L ++ rest).take (ln * info.size)) ((L ++ rest).drop (ln * info.size)) (by rw [List.length_drop]; omega)
                          rw [List.take_append_drop, List.length_take, Nat.min_eq_left (by omega)] at h9
                          simpa using h9
                        obtain ⟨hr', hf', hidx⟩ := hr.over (cs := (b.cells.drop 0).take (ln * info.size) ++ new) hbi hcc.1 hn' hsize hoth hos hta hou
                          ⟨(L ++ rest).take (ln * info.size) ++ N.toList, ((L ++ rest).drop (ln * info.size)).drop N.toList.length, by
                            have := hL.take_app (rest := rest) (off := 0) (n := ln * info.size) (by omega)
                            exact LR.append (by simpa using this) rN, by rw [hself, hsplit], by
                            rw [← hsplit, spliceV_length]; exact htot⟩
                        refine ⟨_, _, w', append_fits (w' := w') hsz' hu hux ht0 ht1 hfit hN hl (by rw [add_addr]; simpa using hst), ⟨n', t, c', hidx, rfl, hfit, by omega, fun d e => by simp at e⟩, ?_, hf'⟩
                        rw [← helem]; exact hr'
                      · obtain ⟨V, ρ', w', h1', h2', h3', h4'⟩ := grow_ok (ty := ty) hi hz hzl hsz hb hu hux ht0 ht1 (by omega) hsmall hr hs hS' hx hX
                        refine ⟨V, ρ', w', h1', h2', ?_, h4'⟩
                        have hil := lt_of_get hbi
                        -- the old block is let go
                        have := h3'.kill i (b := b) (by rw [List.getElem?_append_left hil]; exact hbi)
                        rw [List.set_append_left _ _ hil] at this
                        exact this
                    · simp at he
                  · simp at hrow
                · simp at he
              · split at he
                · rename_i hn0
                  refine ⟨_, _, he, Ext.refl _, fun {w0 w ρ} hr {S X} hS hX => ?_⟩
                  obtain ⟨rfl, _⟩ := hS
                  obtain ⟨N, hN, rN, hl, hNs⟩ := run_firstCells (P := P) (len := 0) hx hr hX
                  subst hn0
                  refine ⟨.slice none 0 0, ρ, w, ?_, ⟨rfl, rfl⟩, hr, Frm.refl _ _⟩
                  unfold Builtin.append_
                  simp only [ht0, ht1, List.getElem?_toArray, List.getElem?_cons_zero, List.getElem?_cons_succ]
                  rw [run_bind_ok (run_underlying hu)]
                  simp only []
                  rw [run_bind_ok (run_sizeOf hsz'), run_bind_ok (run_underlying hux), run_bind_ok (show (pure _ : Sem Bool).run P w = .ok false w from rfl)]
                  simp only [Bool.false_eq_true, if_false]
                  rw [run_bind_ok hl]
                  simp only [Nat.add_zero, Nat.le_refl, if_true, Bool.not_false]
                  rw [run_bind_ok hN]; rfl
                · rename_i hn0
                  refine ⟨_, _, he, Ext.append _ _, fun {w0 w ρ} hr {S X} hS hX => ?_⟩
                  have hS' := hS
                  obtain ⟨rfl, _⟩ := hS
                  simp only [rowOf, Option.some.injEq, Prod.mk.injEq] at hs
                  obtain ⟨rfl, rfl⟩ := hs
                  exact grow_ok (s := .one (.c (.v (.slice none 0 0)))) hi hz hzl hsz hb hu hux ht0 ht1 (by omega) hsmall hr rfl hS' hx hX
              · simp at he
            · simp at he
          · simp at he
        · simp at he
      · simp at he
    · simp at he
  · simp at he
end

section
variable {P : Program} {w0 w : World} {ρ : List (Nat × Nat)} {h : List Blk}

def OptR (ρ : List (Nat × Nat)) : Option AV → Option Value → Prop
  | none, none => True
  | some a, some V => a.R ρ V
  | _, _ => False
theorem optA_R {sl : List AV} {a : Act} (hs : SlR ρ sl a) {o : Option Operand} {v : Option AV} (h : optA sl o = some v) : OptR ρ v (o.map a.eval) := by
  cases o with
  | none => simp [optA] at h; subst h; trivial
  | some x =>
    simp only [optA] at h
    split at h
    · rename_i u hu
      simp at h; subst h
      exact getA_R hs hu
    · simp at h
theorem run_bound {x : Option AV} {X : Option Value} {d y : Nat} {n : Int} {c : BoundsCode} (hx : OptR ρ x X) (hn : intA x d = some n) (h0 : 0 ≤ n) (h1 : n ≤ (y : Int)) :
    (match X with
      | some v => Instr.sliceBound v y c
      | none => (pure d : Sem Nat)).run P w = .ok n.toNat w := by
  match x, X, hx with
  | none, none, _ => simp only [intA, Option.some.injEq] at hn; subst hn; simp [run_pure]
  | some a, some V, r =>
    unfold intA at hn
    split at hn
    · rename_i e; cases e
    · rename_i k m e
      simp only [Option.some.injEq] at hn; subst hn
      cases e
      obtain ⟨rfl, _⟩ := r
      simp only [Instr.sliceBound, asIntOf]
      rw [run_bind_ok (show (pure (k, m) : Sem _).run P w = .ok (k, m) w from rfl)]
      simp only []
      rw [if_pos ⟨h0, h1⟩]; rfl
    · simp at hn

theorem run_bounds {isS : Bool} {lo hi : Option AV} {L U : Option Value} {len cap : Nat} {l u : Int} (hl : OptR ρ lo L) (hu : OptR ρ hi U) (el : intA lo 0 = some l) (eu : intA hi len = some u)
    (h0 : 0 ≤ l) (h1 : l ≤ u) (h2 : u ≤ (cap : Int)) : (Instr.sliceBounds isS len cap L U none).run P w = .ok (l.toNat, u.toNat, cap) w := by
  unfold Instr.sliceBounds
  simp only []
  rw [run_bind_ok (show (pure cap : Sem Nat).run P w = .ok cap w from rfl)]
  have hU := run_bound (P := P) (w := w) (y := cap) (c := if isS then .sliceAcap else .sliceAlen) hu eu (by omega) h2
  have hL := run_bound (P := P) (w := w) (y := u.toNat) (c := .sliceB) hl el h0 (by omega)
  cases U with
  | none =>
    simp only [] at hU ⊢
    rw [run_bind_ok hU]
    cases L with
    | none => simp only [] at hL ⊢; rw [run_bind_ok hL]; rfl
    | some V => simp only [Option.isSome_none, Bool.false_eq_true, if_false] at hL ⊢; rw [run_bind_ok hL]; rfl
  | some W =>
    simp only [] at hU ⊢
    rw [run_bind_ok hU]
    cases L with
    | none => simp only [] at hL ⊢; rw [run_bind_ok hL]; rfl
    | some V => simp only [Option.isSome_none, Bool.false_eq_true, if_false] at hL ⊢; rw [run_bind_ok hL]; rfl

theorem evSlice_ok {R : Type} {t : TypeId} {x : AV} {lo hi : Option AV} {k : KA R} {r : R} (he : evSlice P t x lo hi h k = some r) :
    ∃ v, k v h = some r ∧ ∀ {w0 w : World} {ρ : List (Nat × Nat)}, Rel w0 ρ h w → ∀ {X : Value} {L U : Option Value}, x.R ρ X → OptR ρ lo L → OptR ρ hi U → ∃ V, (Instr.sliceAt t X L U none).run P w = .ok V w ∧ v.R ρ V := by
  unfold evSlice at he
  simp only [nth_eq] at he
  split at he
  · rename_i i off n elem hut
    split at he
    · rename_i sz l u b hsz el eu hb
      split at he
      · rename_i hc
        obtain ⟨hl, hle, h0, h1, h2, h3⟩ := hc
        refine ⟨_, he, fun {w0 w ρ} hr {X L U} hX hL hU => ?_⟩
        obtain ⟨m, tm, hm, rfl⟩ := hX
        obtain ⟨m2, t2, L0, rest, hm2, hL0, ho, htot⟩ := hr.blkAt hb hl
        obtain ⟨rfl, rfl⟩ : m = m2 ∧ tm = t2 := by rw [hm] at hm2; simpa using hm2
        have hlen := hL0.length
        have ht : b.cells.length ≤ tm := by rw [← htot, List.length_append]; omega
        refine ⟨.slice (some ⟨m, off + l.toNat * sz, none⟩) (u.toNat - l.toNat) (n - l.toNat), ?_, ⟨m, tm, n - l.toNat, hm, rfl, by omega, ?_, fun d e => by simpa using e⟩⟩
        · unfold Instr.sliceAt
          rw [run_bind_ok (run_underlying hut)]
          simp only []
          rw [run_bind_ok (show (Instr.sureAddr _).run P w = .ok _ w from rfl), run_bind_ok (run_bounds hL hU el eu h0 h1 h2)]
          simp only []
          rw [run_bind_ok (run_sizeOf hsz)]
          have : ¬ (n = l.toNat) := by omega
          simp only [this, if_false, add_addr]; rfl
        · have : l.toNat * sz + (n - l.toNat) * sz = n * sz := by rw [← Nat.add_mul]; congr 1; omega
          omega
      · simp at he
    · simp at he
  · rename_i i off len es cap elem hut
    split at he
    · rename_i sz l u hsz el eu
      split at he
      · rename_i hc
        obtain ⟨rfl, h0, h1, h2, h3⟩ := hc
        refine ⟨_, he, fun {w0 w ρ} hr {X L U} hX hL hU => ?_⟩
        obtain ⟨m, tm, c, hm, rfl, hc1, hc2, hc3⟩ := hX
        refine ⟨.slice (some ⟨m, off + l.toNat * es, none⟩) (u.toNat - l.toNat) (c - l.toNat), ?_, ⟨m, tm, c - l.toNat, hm, rfl, by omega, ?_, fun d e => ?_⟩⟩
        · unfold Instr.sliceAt
          rw [run_bind_ok (run_underlying hut)]
          simp only [Instr.slice]
          rw [run_bind_ok (run_underlying hut)]
          simp only []
          rw [run_bind_ok (run_bounds hL hU el eu h0 h1 (by omega))]
          simp only []
          rw [run_bind_ok (run_sizeOf hsz)]
          have : ¬ (c = l.toNat) := by omega
          simp only [this, if_false, Option.map_some, add_addr]; rfl
        · have : l.toNat * es + (c - l.toNat) * es = c * es := by rw [← Nat.add_mul]; congr 1; omega
          omega
        · cases cap with
          | none => simp at e
          | some d' => simp at e; rw [← e, hc3 d' rfl]
      · simp at he
    · simp at he
  · rename_i s hut
    split at he
    · rename_i l u el eu
      split at he
      · rename_i hc
        obtain ⟨h0, h1, h2⟩ := hc
        refine ⟨_, he, fun {w0 w ρ} hr {X L U} hX hL hU => ?_⟩
        obtain ⟨rfl, _⟩ := hX
        refine ⟨.string (s.extract l.toNat u.toNat), ?_, ⟨rfl, rfl⟩⟩
        unfold Instr.sliceAt
        rw [run_bind_ok (run_underlying hut)]
        simp only [Instr.slice]
        rw [run_bind_ok (run_underlying hut)]
        simp only [Option.isSome_none, Bool.false_eq_true, if_false]
        rw [run_bind_ok (run_bounds hL hU el eu h0 h1 h2)]; rfl
      · simp at he
    · simp at he
  · simp at he

theorem run_bounds3 {isS : Bool} {lo : Option AV} {hi mx : AV} {L : Option Value} {U M : Value} {len cap : Nat} {l u m : Int} (hl : OptR ρ lo L) (hu : hi.R ρ U) (hm : mx.R ρ M) (el : intA lo 0 = some l) (eu : intA (some hi) len = some u) (em : intA (some mx) len = some m)
    (h0 : 0 ≤ l) (h1 : l ≤ u) (h2 : u ≤ m) (h3 : m ≤ (cap : Int)) : (Instr.sliceBounds isS len cap L (some U) (some M)).run P w = .ok (l.toNat, u.toNat, m.toNat) w := by
  unfold Instr.sliceBounds
  simp only []
  have hM := run_bound (P := P) (w := w) (x := some mx) (X := some M) (y := cap) (c := if isS then .slice3Acap else .slice3Alen) hm em (by omega) h3
  have hU := run_bound (P := P) (w := w) (x := some hi) (X := some U) (y := m.toNat) (c := .slice3B) hu eu (by omega) (by omega)
  have hL := run_bound (P := P) (w := w) (y := u.toNat) (c := .slice3C) hl el h0 (by omega)
  simp only [] at hM hU
  rw [run_bind_ok hM]
  rw [run_bind_ok hU]
  cases L with
  | none => simp only [] at hL ⊢; rw [run_bind_ok hL]; rfl
  | some V => simp only [Option.isSome_some, if_true] at hL ⊢; rw [run_bind_ok hL]; rfl
theorem evSlice3_ok {R : Type} {t : TypeId} {x : AV} {lo hi mx : Option AV} {k : KA R} {r : R} (he : evSlice3 P t x lo hi mx h k = some r) :
    ∃ v, k v h = some r ∧ ∀ {w0 w : World} {ρ : List (Nat × Nat)}, Rel w0 ρ h w → ∀ {X : Value} {L U M : Option Value}, x.R ρ X → OptR ρ lo L → OptR ρ hi U → OptR ρ mx M → ∃ V, (Instr.sliceAt t X L U M).run P w = .ok V w ∧ v.R ρ V := by
  unfold evSlice3 at he
  simp only [nth_eq] at he
  split at he
  · rename_i i off n elem hut
    split at he
    · rename_i sz l u mm b hsz el eu em hb
      split at he
      · rename_i hc
        obtain ⟨hl, hle, h0, h1, h2, h3, h4, h5, h6⟩ := hc
        refine ⟨_, he, fun {w0 w ρ} hr {X L U M} hX hL hU hM => ?_⟩
        obtain ⟨m, tm, hm, rfl⟩ := hX
        obtain ⟨m2, t2, L0, rest, hm2, hL0, ho, htot⟩ := hr.blkAt hb hl
        obtain ⟨rfl, rfl⟩ : m = m2 ∧ tm = t2 := by rw [hm] at hm2; simpa using hm2
        have hlen := hL0.length
        have ht : b.cells.length ≤ tm := by rw [← htot, List.length_append]; omega
        match hi, mx, U, M, h5, h6, hU, hM with
        | some hi, some mx, some U, some M, _, _, hU, hM =>
        refine ⟨.slice (some ⟨m, off + l.toNat * sz, none⟩) (u.toNat - l.toNat) (mm.toNat - l.toNat), ?_, ⟨m, tm, mm.toNat - l.toNat, hm, rfl, by omega, ?_, fun d e => by simpa using e⟩⟩
        · unfold Instr.sliceAt
          rw [run_bind_ok (run_underlying hut)]
          simp only []
          rw [run_bind_ok (show (Instr.sureAddr _).run P w = .ok _ w from rfl), run_bind_ok (run_bounds3 hL hU hM el eu em h0 h1 h2 h3)]
          simp only []
          rw [run_bind_ok (run_sizeOf hsz)]
          by_cases e : mm.toNat = l.toNat
          · have e0 : l.toNat = 0 := by omega
            simp only [e, if_true, e0]; simp
          · simp only [e, if_false, add_addr]; rfl
        · have h7 : l.toNat + (mm.toNat - l.toNat) ≤ n := by omega
          have : l.toNat * sz + (mm.toNat - l.toNat) * sz ≤ n * sz := by rw [← Nat.add_mul]; exact Nat.mul_le_mul_right _ h7
          omega
      · simp at he
    · simp at he
  · simp at he

/-- a value over some cells, by its type -/
def OfT (P : Program) (ρ : List (Nat × Nat)) (t : TypeId) (l : List Sc) (V : Value) : Prop :=
  (isAgg? P t = some true ∧ ∃ L, LR (Sc.R ρ) l L ∧ V = .agg L.toArray) ∨ (isAgg? P t = some false ∧ ∃ s, l = [s] ∧ s.R ρ V)

theorem run_part_of {t : TypeId} {l : List Sc} {L : List Value} {off sz : Nat} {ag : Bool} (ha : isAgg? P t = some ag) (hs : size? P t = some sz) (h1 : ag = false → sz = 1) (hle : off + sz ≤ l.length) (hL : LR (Sc.R ρ) l L) :
    ∃ V, (part t L.toArray off).run P w = .ok V w ∧ OfT P ρ t ((l.drop off).take sz) V := by
  have hlen := hL.length
  cases ag with
  | true =>
    have := evPart_ok (P := P) (w := w) (t := t) (off := off) (v := .one (.agg ((l.drop off).take sz))) (by simp [evPart, ha, hs, hle]) hL
    obtain ⟨V, hrun, r⟩ := this
    exact ⟨V, hrun, .inl ⟨ha, r⟩⟩
  | false =>
    obtain rfl := h1 rfl
    have hlt : off < l.length := by omega
    have hg : l[off]? = some l[off] := List.getElem?_eq_getElem hlt
    obtain ⟨V, hrun, r⟩ := evPart_ok (P := P) (w := w) (t := t) (off := off) (v := .one (.c l[off])) (by unfold evPart; rw [ha]; simp only [nth_eq]; rw [hg]) hL
    refine ⟨V, hrun, .inr ⟨ha, l[off], ?_, r⟩⟩
    rw [List.drop_eq_getElem_cons hlt]; rfl

end

section
variable {P : Program} {w0 w : World} {ρ : List (Nat × Nat)} {h : List Blk}

theorem agg_of_struct {t : TypeId} {fs : Array Field} {l : List Sc} {X : Value} (hu : P.underlying t = some (.struct fs)) (hX : OfT P ρ t l X) : ∃ L, LR (Sc.R ρ) l L ∧ X = .agg L.toArray := by
  rcases hX with ⟨_, h⟩ | ⟨ha, _⟩
  · exact h
  · simp [isAgg?, hu] at ha
theorem one_of {t : TypeId} {x : Sc} {X : Value} (ha : isAgg? P t = some false) (hX : OfT P ρ t [x] X) : x.R ρ X := by
  rcases hX with ⟨h, _⟩ | ⟨_, s, e, r⟩
  · rw [ha] at h; simp at h
  · simp at e; subst e; exact r

theorem run_fields {D d : Nat} {l m : List Sc} {L M : List Value} (hL : LR (Sc.R ρ) l L) (hM : LR (Sc.R ρ) m M)
    (ih : ∀ (t : TypeId) (l m : List Sc) (b : Bool) (X Y : Value), eqv P d t l m = some b → OfT P ρ t l X → OfT P ρ t m Y → (Op.equalIn D t X Y).run P w = .ok b w) :
    ∀ (fields : List Field) (b : Bool), eqGo P (eqv P d) l m fields = some b →
    (forIn (m := Sem) fields ((none, ()) : Option Bool × Unit) fun f _ =>
                  if f.name ≠ "_" then do
                    let x ← part f.type L.toArray f.offset
                    let y ← part f.type M.toArray f.offset
                    let z ← Op.equalIn D f.type x y
                    if (!z) = true then pure (ForInStep.done (some false, ()))
                      else pure (ForInStep.yield (none, ()))
                  else pure (ForInStep.yield (none, ()))).run P w = .ok (if b then (none, ()) else (some false, ())) w
  | [], b, he => by simp [eqGo] at he; subst he; simp [run_pure]
  | f :: fs, b, he => by
    simp only [eqGo] at he
    split at he
    · simp at he
    · rename_i hne
      split at he
      · rename_i ag sz ha hs
        split at he
        · rename_i hc
          obtain ⟨h1, h2, h3⟩ := hc
          split at he
          · rename_i a c ea ec
            simp at he; subst he
            obtain ⟨X, hx, rX⟩ := run_part_of (w := w) ha hs h1 h2 hL
            obtain ⟨Y, hy, rY⟩ := run_part_of (w := w) ha hs h1 h3 hM
            have hz := ih _ _ _ _ _ _ ea rX rY
            rw [List.forIn_cons, run_bind']
            simp only [ne_eq, hne, not_false_eq_true, if_true]
            rw [run_bind_ok hx, run_bind_ok hy, run_bind_ok hz]
            cases a with
            | true =>
              simp only [Bool.not_true, Bool.false_eq_true, if_false, run_pure, Bool.true_and]
              exact run_fields hL hM ih fs c ec
            | false => simp [run_pure]
          · simp at he
        · simp at he
      · simp at he

theorem eqv_ok : ∀ (d D : Nat) (t : TypeId) (l m : List Sc) (b : Bool) (X Y : Value), d ≤ D → eqv P d t l m = some b → OfT P ρ t l X → OfT P ρ t m Y → (Op.equalIn D t X Y).run P w = .ok b w
  | 0, D, t, l, m, b, X, Y, _, he, _, _ => by simp [eqv] at he
  | d + 1, D + 1, t, l, m, b, X, Y, hd, he, hX, hY => by
    unfold eqv at he
    unfold Op.equalIn
    split at he
    · rename_i k hu
      have ha : isAgg? P t = some false := by simp [isAgg?, hu]
      rw [run_bind_ok (run_underlying hu)]
      split at he
      · split at he
        · rename_i e
          simp at he; subst he; subst e
          obtain ⟨rfl, _⟩ := one_of ha hX
          obtain ⟨rfl, _⟩ := one_of ha hY
          simp [run_pure]
        · simp at he
      · simp at he
    · rename_i hu
      have ha : isAgg? P t = some false := by simp [isAgg?, hu]
      rw [run_bind_ok (run_underlying hu)]
      split at he
      · simp at he; subst he
        obtain ⟨rfl, _⟩ := one_of ha hX
        obtain ⟨rfl, _⟩ := one_of ha hY
        simp [run_pure]
      · simp at he
    · rename_i hu
      have ha : isAgg? P t = some false := by simp [isAgg?, hu]
      rw [run_bind_ok (run_underlying hu)]
      split at he
      · simp at he; subst he
        obtain ⟨rfl, _⟩ := one_of ha hX
        obtain ⟨rfl, _⟩ := one_of ha hY
        simp [run_pure]
      · simp at he
    · rename_i fields hu
      rw [run_bind_ok (run_underlying hu)]
      obtain ⟨L, hL, rfl⟩ := agg_of_struct hu hX
      obtain ⟨M, hM, rfl⟩ := agg_of_struct hu hY
      split at he
      · simp at he
      · rename_i hst
        simp only []
        rw [run_bind_ok (show (program).run P w = .ok P w from rfl), if_neg hst]
        have := run_fields (w := w) (D := D) (d := d) hL hM (fun t l m b X Y h1 h2 h3 => eqv_ok d D t l m b X Y (by omega) h1 h2 h3) fields.toList b he
        simp only [Array.forIn_toList] at this
        rw [run_bind_ok this]
        cases b <;> rfl
    · simp at he
  | d + 1, 0, t, l, m, b, X, Y, hd, he, hX, hY => by omega

theorem bothAgg_R {x y : AV} {l m : List Sc} {X Y : Value} (h : bothAgg x y = some (l, m)) (hX : x.R ρ X) (hY : y.R ρ Y) : ∃ L M, LR (Sc.R ρ) l L ∧ X = .agg L.toArray ∧ LR (Sc.R ρ) m M ∧ Y = .agg M.toArray := by
  unfold bothAgg at h
  split at h
  · simp at h
    obtain ⟨rfl, rfl⟩ := h
    obtain ⟨L, hL, rfl⟩ := hX
    obtain ⟨M, hM, rfl⟩ := hY
    exact ⟨L, M, hL, rfl, hM, rfl⟩
  · simp at h

theorem eqv_struct {d : Nat} {t : TypeId} {l m : List Sc} {b : Bool} {L M : List Value} (he : eqv P d t l m = some b) (hL : LR (Sc.R ρ) l L) (hM : LR (Sc.R ρ) m M) (hd : d ≤ Op.maxDepth) (hag : isAgg? P t = some true) :
    (Op.equal t (.agg L.toArray) (.agg M.toArray)).run P w = .ok b w :=
  eqv_ok d Op.maxDepth t l m b _ _ hd he (.inl ⟨hag, L, hL, rfl⟩) (.inl ⟨hag, M, hM, rfl⟩)

theorem run_eqGuard_agg {op : BinOp} {t : TypeId} {x y : Operand} {L M : List Value} (hg : P.eqGuardType P.depth t = false) : (eqGuard op t x y (.agg L.toArray) (.agg M.toArray)).run P w = .ok () w := by
  unfold eqGuard
  cases op <;> simp [run_bind', run_pure, program, Sem.run, hg, pure, Sem.bind, bind]

theorem evNil_ok {t : TypeId} {x y : AV} {X Y : Value} (he : evNil P t x y = true) (hX : x.R ρ X) (hY : y.R ρ Y) :
    (Op.equal t X Y).run P w = .ok false w ∧ ∀ op ox oy, (eqGuard op t ox oy X Y).run P w = .ok () w ∧ (∀ r, r = binOp op t X Y → (op = .eql → r = (do pure (.bool (← Op.equal t X Y)))) ∧ (op = .neq → r = (do pure (.bool (!(← Op.equal t X Y)))))) := by
  unfold evNil at he
  split at he
  · rename_i hu
    obtain ⟨b, tb, c, _, rfl, _⟩ := hX
    obtain ⟨rfl, _⟩ := hY
    refine ⟨?_, fun op ox oy => ⟨?_, ?_⟩⟩
    · show (Op.equalIn (9999 + 1) _ _ _).run P w = _
      unfold Op.equalIn
      rw [run_bind_ok (run_underlying hu)]; rfl
    · unfold eqGuard; cases op <;> rfl
    · rintro r rfl; exact ⟨fun e => by subst e; rfl, fun e => by subst e; rfl⟩
  · rename_i hu
    obtain ⟨b, tb, _, rfl⟩ := hX
    obtain ⟨rfl, _⟩ := hY
    refine ⟨?_, fun op ox oy => ⟨?_, ?_⟩⟩
    · show (Op.equalIn (9999 + 1) _ _ _).run P w = _
      unfold Op.equalIn
      rw [run_bind_ok (run_underlying hu)]; rfl
    · unfold eqGuard; cases op <;> rfl
    · rintro r rfl; exact ⟨fun e => by subst e; rfl, fun e => by subst e; rfl⟩
  · rename_i hu
    obtain ⟨L, _, rfl⟩ := hX
    obtain ⟨rfl, _⟩ := hY
    refine ⟨?_, fun op ox oy => ⟨?_, ?_⟩⟩
    · show (Op.equalIn (9999 + 1) _ _ _).run P w = _
      unfold Op.equalIn
      rw [run_bind_ok (run_underlying hu)]; rfl
    · unfold eqGuard; cases op <;> rfl
    · rintro r rfl; exact ⟨fun e => by subst e; rfl, fun e => by subst e; rfl⟩
  · simp at he

theorem evBin_ok {op : BinOp} {t : TypeId} {ox oy : Operand} {x y v : AV} (hu : evBin P op t ox oy x y = some v) {X Y : Value} (hX : x.R ρ X) (hY : y.R ρ Y) :
    ∃ V, (do eqGuard op t ox oy X Y; binOp op t X Y : Sem Value).run P w = .ok V w ∧ v.R ρ V := by
  unfold evBin at hu
  split at hu
  · rename_i a b ha hb
    split at hu
    · rename_i V hV
      obtain rfl := AV.val?_R ha hX
      obtain rfl := AV.val?_R hb hY
      exact ⟨V, pureRun_ok _ hV w, AV.of?_R hu⟩
    · simp at hu
  · simp at hu

theorem evBin3_ok {op : BinOp} {t : TypeId} {ox oy : Operand} {x y v : AV} (hu : evBin3 P op t ox oy x y = some v) {X Y : Value} (hX : x.R ρ X) (hY : y.R ρ Y) :
    ∃ V, (do eqGuard op t ox oy X Y; binOp op t X Y : Sem Value).run P w = .ok V w ∧ v.R ρ V := by
  unfold evBin3 at hu
  split at hu
  · split at hu
    · rename_i l m hb
      split at hu
      · rename_i hg
        split at hu
        · rename_i b he
          simp at hu; subst hu
          obtain ⟨L, M, hL, rfl, hM, rfl⟩ := bothAgg_R hb hX hY
          refine ⟨.bool b, ?_, ⟨rfl, rfl⟩⟩
          rw [run_bind_ok (run_eqGuard_agg hg.2)]
          show (do pure (Value.bool (← Op.equal t _ _)) : Sem Value).run P w = _
          rw [run_bind_ok (eqv_struct he hL hM (by decide) hg.1)]; rfl
        · simp at hu
      · simp at hu
    · split at hu
      · rename_i hn
        simp at hu; subst hu
        obtain ⟨h1, h2⟩ := evNil_ok (w := w) hn hX hY
        obtain ⟨h3, h4⟩ := h2 .eql ox oy
        refine ⟨.bool false, ?_, ⟨rfl, rfl⟩⟩
        rw [run_bind_ok h3, (h4 _ rfl).1 rfl, run_bind_ok h1]; rfl
      · exact evBin_ok hu hX hY
  · split at hu
    · rename_i l m hb
      split at hu
      · rename_i hg
        split at hu
        · rename_i b he
          simp at hu; subst hu
          obtain ⟨L, M, hL, rfl, hM, rfl⟩ := bothAgg_R hb hX hY
          refine ⟨.bool !b, ?_, ⟨rfl, rfl⟩⟩
          rw [run_bind_ok (run_eqGuard_agg hg.2)]
          show (do pure (Value.bool (!(← Op.equal t _ _))) : Sem Value).run P w = _
          rw [run_bind_ok (eqv_struct he hL hM (by decide) hg.1)]; rfl
        · simp at hu
      · simp at hu
    · split at hu
      · rename_i hn
        simp at hu; subst hu
        obtain ⟨h1, h2⟩ := evNil_ok (w := w) hn hX hY
        obtain ⟨h3, h4⟩ := h2 .neq ox oy
        refine ⟨.bool true, ?_, ⟨rfl, rfl⟩⟩
        rw [run_bind_ok h3, (h4 _ rfl).2 rfl, run_bind_ok h1]; rfl
      · exact evBin_ok hu hX hY
  · exact evBin_ok hu hX hY

theorem asI_R {x : AV} {k : IntKind} {n : Int} (h : asI x = some (k, n)) {X : Value} (r : x.R ρ X) : X = .int k n := by
  unfold asI at h
  split at h
  · simp at h; obtain ⟨rfl, rfl⟩ := h; exact r.1
  · simp at h

theorem evInt_ok {op : BinOp} {t : TypeId} {ox oy : Operand} {k k' : IntKind} {a b : Int} {v : AV} (h : evInt op k a k' b = some v) :
    ∃ V, (do eqGuard op t ox oy (.int k a) (.int k' b); binOp op t (.int k a) (.int k' b) : Sem Value).run P w = .ok V w ∧ v.R ρ V := by
  have hg : (eqGuard op t ox oy (.int k a) (.int k' b)).run P w = .ok () w := by unfold eqGuard; cases op <;> rfl
  rw [run_bind_ok hg]
  cases op <;> simp only [evInt, ivA, bvA] at h <;> (split at h) <;> (try simp at h) <;> (subst h) <;> rename_i hc
  case quo => obtain ⟨rfl, hb⟩ := hc; exact ⟨_, by simp [binOp, Op.intDiv, hb, run_pure], rfl, rfl⟩
  case rem => obtain ⟨rfl, hb⟩ := hc; exact ⟨_, by simp [binOp, Op.intDiv, hb, run_pure], rfl, rfl⟩
  case shl => exact ⟨_, by simp [binOp, Op.shift, hc, run_pure], rfl, rfl⟩
  case shr => exact ⟨_, by simp [binOp, Op.shift, hc, run_pure], rfl, rfl⟩
  case and => subst hc; exact ⟨_, by simp [binOp, Op.intBits, bits, run_pure], rfl, rfl⟩
  case or => subst hc; exact ⟨_, by simp [binOp, Op.intBits, bits, run_pure], rfl, rfl⟩
  case xor => subst hc; exact ⟨_, by simp [binOp, Op.intBits, bits, run_pure], rfl, rfl⟩
  case andNot => subst hc; exact ⟨_, by simp [binOp, Op.intBits, bits, run_pure], rfl, rfl⟩
  all_goals (subst hc; exact ⟨_, by simp only [binOp, Op.intArith, Op.intCmp, ne_eq, not_true_eq_false, if_false]; exact run_pure _, rfl, rfl⟩)

theorem evBin2_ok {op : BinOp} {t : TypeId} {ox oy : Operand} {x y v : AV} (hu : evBin2 P op t ox oy x y = some v) {X Y : Value} (hX : x.R ρ X) (hY : y.R ρ Y) :
    ∃ V, (do eqGuard op t ox oy X Y; binOp op t X Y : Sem Value).run P w = .ok V w ∧ v.R ρ V := by
  unfold evBin2 at hu
  split at hu
  · rename_i k a k' b ha hb
    rw [asI_R ha hX, asI_R hb hY]
    exact evInt_ok hu
  · exact evBin3_ok hu hX hY
end

end Go.Ev
