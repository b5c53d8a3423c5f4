/- Calls that are known by what they come to may be taken as known, and told as contracts. Conditions: none. -/
import Derived.Test.YtihngfbkkhneeaaEvC
namespace Go.Ev
open Go.RowKit
set_option linter.unusedVariables false
set_option linter.unusedSimpArgs false

/-! ### Calls that are known: functions that take no memory of ours and give none -/
section
variable {P : Program} {w0 : World} {R : Type}

/-- a call of a function that leaves all memory alone -/
def PureGoes (P : Program) (w : World) (g : FuncId) (args : List AV) (v : AV) : Prop :=
  callable P g ∧ ∀ (A : List Value), LR (AV.R []) args A → Calls P g A.toArray w fun e w' => ∃ V, e = .returned V ∧ v.R [] V ∧ Below w.heap.size w w'

theorem Sc.free {ρ : List (Nat × Nat)} {s : Sc} {V x : Value} (h : s.val? = some x) (r : s.R ρ V) : ∀ ρ', s.R ρ' V := by
  cases s <;> simp [Sc.val?] at h
  exact fun _ => r
theorem LSc.free {ρ ρ' : List (Nat × Nat)} : ∀ {l : List Sc} {L m : List Value}, vals? l = some m → LR (Sc.R ρ) l L → LR (Sc.R ρ') l L
  | [], [], _, _, _ => trivial
  | [], _ :: _, _, _, h => h.elim
  | _ :: _, [], _, _, h => h.elim
  | s :: l, V :: L, m, h, r => by
    simp only [vals?] at h
    split at h
    · rename_i x hx
      split at h
      · rename_i m' hm'
        exact ⟨Sc.free hx r.1 _, LSc.free hm' r.2⟩
      · simp at h
    · simp at h
theorem Cp.free {ρ ρ' : List (Nat × Nat)} {s : Cp} {V x : Value} (h : s.val? = some x) (r : s.R ρ V) : s.R ρ' V := by
  cases s with
  | c s => exact Sc.free h r _
  | agg l =>
    simp only [Cp.val?] at h
    split at h
    · rename_i L hL
      obtain ⟨L', h1, h2⟩ := r
      exact ⟨L', LSc.free hL h1, h2⟩
    · simp at h
def cpsFree : List Cp → Bool
  | [] => true
  | c :: l => c.val?.isSome && cpsFree l
def AV.free : AV → Bool
  | .one x => x.val?.isSome
  | .tup l => cpsFree l
theorem LCp.free {ρ ρ' : List (Nat × Nat)} : ∀ {l : List Cp} {L : List Value}, cpsFree l = true → LR (Cp.R ρ) l L → LR (Cp.R ρ') l L
  | [], [], _, _ => trivial
  | [], _ :: _, _, h => h.elim
  | _ :: _, [], _, h => h.elim
  | s :: l, V :: L, h, r => by
    simp only [cpsFree, Bool.and_eq_true] at h
    obtain ⟨x, hx⟩ := Option.isSome_iff_exists.1 h.1
    exact ⟨Cp.free hx r.1, LCp.free h.2 r.2⟩
theorem AV.R_free {ρ ρ' : List (Nat × Nat)} {s : AV} {V : Value} (h : s.free = true) (r : s.R ρ V) : s.R ρ' V := by
  cases s with
  | one x => obtain ⟨y, hy⟩ := Option.isSome_iff_exists.1 h; exact Cp.free hy r
  | tup l => obtain ⟨L, h1, h2⟩ := r; exact ⟨L, LCp.free h h1, h2⟩
def allFree : List AV → Bool
  | [] => true
  | a :: l => a.free && allFree l
theorem LAV.free {ρ ρ' : List (Nat × Nat)} : ∀ {l : List AV} {L : List Value}, allFree l = true → LR (AV.R ρ) l L → LR (AV.R ρ') l L
  | [], [], _, _ => trivial
  | [], _ :: _, _, h => h.elim
  | _ :: _, [], _, h => h.elim
  | s :: l, V :: L, h, r => by
    simp only [allFree, Bool.and_eq_true] at h
    exact ⟨AV.R_free h.1 r.1, LAV.free h.2 r.2⟩

theorem Rel.away {ρ : List (Nat × Nat)} {h : List Blk} {w w' : World} (hr : Rel w0 ρ h w) (hb : Below w.heap.size w w') : Rel w0 ρ h w' ∧ Frm ρ ρ w w' := by
  have f : Frm ρ ρ w w' := ⟨hb.os, hb.tape, hb.output, hb.size, ⟨[], by simp, by simp [nums]⟩, fun k hk _ => hb.block k hk⟩
  refine ⟨⟨hr.len, hr.inj, fun i b n t hi hn => ?_, f.below hr.below (fun n hn => (hr.base n hn).1), fun n hn => ⟨(hr.base n hn).1, Nat.lt_of_lt_of_le (hr.base n hn).2 hb.size⟩⟩, f⟩
  rw [hb.block n (hr.base n (mem_nums hn)).2]
  exact hr.blk i b n t hi hn

/-- known calls, as a way to carry out calls -/
def known (f : FuncId → List AV → KA R → Option R) (g : FuncId) (args : List AV) (h : List Blk) (k : KA R) : Option R :=
  if allFree args = true then f g args (fun v _ => if v.free = true then k v h else none) else none
/-- the known calls are right -/
def KnownOK (P : Program) (f : FuncId → List AV → KA R → Option R) : Prop :=
  ∀ g args (k : KA R) r, f g args k = some r → ∃ v h, k v h = some r ∧ ∀ w, PureGoes P w g args v
theorem known_ok {f : FuncId → List AV → KA R → Option R} (hf : KnownOK P f) : CallOK P w0 (known f) := by
  intro g args h k r he
  unfold known at he
  split at he
  · rename_i ha
    obtain ⟨v, h1, hk, hgo⟩ := hf g args _ r he
    split at hk
    · rename_i hv
      refine ⟨v, h, hk, Ext.refl _, (hgo default).1, fun ρ w A hr hA => ?_⟩
      refine ((hgo w).2 A (LAV.free ha hA)).mono ?_
      rintro e w' ⟨V, rfl, rV, hb⟩
      obtain ⟨h2, h3⟩ := hr.away hb
      exact ⟨ρ, V, rfl, AV.R_free hv rV, h2, h3⟩
    · simp at hk
  · simp at he

/-- are two values the same to the sign (of numbers, truth values and texts) -/
def Sc.beq : Sc → Sc → Bool
  | .v (.int k n), .v (.int j m) => decide (k = j) && decide (n = m)
  | .v (.bool a), .v (.bool b) => a == b
  | .v (.string a), .v (.string b) => decide (a = b)
  | _, _ => false
theorem Sc.beq_eq {a b : Sc} (h : a.beq b = true) : a = b := by
  unfold Sc.beq at h
  split at h <;> simp at h
  · obtain ⟨rfl, rfl⟩ := h; rfl
  · rw [h]
  · rw [h]
def scsBeq : List Sc → List Sc → Bool
  | [], [] => true
  | a :: l, b :: m => a.beq b && scsBeq l m
  | _, _ => false
theorem scsBeq_eq : ∀ {l m : List Sc}, scsBeq l m = true → l = m
  | [], [], _ => rfl
  | a :: l, b :: m, h => by
    simp only [scsBeq, Bool.and_eq_true] at h
    rw [Sc.beq_eq h.1, scsBeq_eq h.2]
  | [], _ :: _, h => by simp [scsBeq] at h
  | _ :: _, [], h => by simp [scsBeq] at h
def Cp.beq : Cp → Cp → Bool
  | .c a, .c b => a.beq b
  | .agg l, .agg m => scsBeq l m
  | _, _ => false
theorem Cp.beq_eq {a b : Cp} (h : a.beq b = true) : a = b := by
  cases a <;> cases b <;> simp [Cp.beq] at h
  · rw [Sc.beq_eq h]
  · rw [scsBeq_eq h]
def cpsBeq : List Cp → List Cp → Bool
  | [], [] => true
  | a :: l, b :: m => a.beq b && cpsBeq l m
  | _, _ => false
theorem cpsBeq_eq : ∀ {l m : List Cp}, cpsBeq l m = true → l = m
  | [], [], _ => rfl
  | a :: l, b :: m, h => by
    simp only [cpsBeq, Bool.and_eq_true] at h
    rw [Cp.beq_eq h.1, cpsBeq_eq h.2]
  | [], _ :: _, h => by simp [cpsBeq] at h
  | _ :: _, [], h => by simp [cpsBeq] at h
def AV.beq : AV → AV → Bool
  | .one a, .one b => a.beq b
  | .tup l, .tup m => cpsBeq l m
  | _, _ => false
theorem AV.beq_eq {a b : AV} (h : a.beq b = true) : a = b := by
  cases a <;> cases b <;> simp [AV.beq] at h
  · rw [Cp.beq_eq h]
  · rw [cpsBeq_eq h]
def isA (x : AV) : KA Unit := fun v _ => if v.beq x = true then some () else none
theorem isA_eq {x v : AV} {h : List Blk} (he : isA x v h = some ()) : v = x := by
  unfold isA at he
  split at he
  · rename_i hb; exact AV.beq_eq hb
  · simp at he

/-- what was evaluated is known -/
theorem pure_of_eval {tbl : FuncId → Option Func} (ht : TblOK P tbl) {orc : FuncId → List AV → List Blk → KA Unit → Option Unit} (hc : ∀ w, CallOK P w orc) {n d : Nat} {g : FuncId} {args : List AV} {v : AV} (hv : v.free = true)
    (he : evCall P tbl orc n d g args [] (isA v) = some ()) (w : World) : PureGoes P w g args v := by
  obtain ⟨rv, h', hk, _, hgo⟩ := evCall_ok ht (hc w) n d g args [] (isA v) () he
  refine ⟨hgo.1, fun A hA => (hgo.2 [] w A (Rel.nothing w) hA).mono ?_⟩
  rintro e w' ⟨ρ', V, rfl, rV, hr, hf⟩
  rw [isA_eq hk] at rV
  exact ⟨V, rfl, AV.R_free hv rV, hr.below⟩
/-- the same with a result that hangs on letters: the continuation keeps it -/
theorem pure_of_evalK {tbl : FuncId → Option Func} (ht : TblOK P tbl) {orc : FuncId → List AV → List Blk → KA AV → Option AV} (hc : ∀ w, CallOK P w orc) {n d : Nat} {g : FuncId} {args : List AV} {v : AV} (hv : v.free = true)
    (he : evCall P tbl orc n d g args [] (fun v _ => some v) = some v) (w : World) : PureGoes P w g args v := by
  obtain ⟨rv, h', hk, _, hgo⟩ := evCall_ok ht (hc w) n d g args [] (fun v _ => some v) v he
  simp only [Option.some.injEq] at hk
  subst hk
  refine ⟨hgo.1, fun A hA => (hgo.2 [] w A (Rel.nothing w) hA).mono ?_⟩
  rintro e w' ⟨ρ', V, rfl, rV, hr, hf⟩
  exact ⟨V, rfl, AV.R_free hv rV, hr.below⟩

def i64A (n : Int) : AV := .one (.c (.v (.int .i64 n)))
def u8A (n : Int) : AV := .one (.c (.v (.int .u8 n)))
def u16A (n : Int) : AV := .one (.c (.v (.int .u16 n)))
def boolA (b : Bool) : AV := .one (.c (.v (.bool b)))
def strA (s : ByteArray) : AV := .one (.c (.v (.string s)))
theorem i64A_R (ρ : List (Nat × Nat)) (n : Int) : (i64A n).R ρ (.int .i64 n) := ⟨rfl, rfl⟩
theorem u8A_R (ρ : List (Nat × Nat)) (n : Int) : (u8A n).R ρ (.int .u8 n) := ⟨rfl, rfl⟩
theorem u16A_R (ρ : List (Nat × Nat)) (n : Int) : (u16A n).R ρ (.int .u16 n) := ⟨rfl, rfl⟩
theorem boolA_R (ρ : List (Nat × Nat)) (n : Bool) : (boolA n).R ρ (.bool n) := ⟨rfl, rfl⟩
theorem strA_R (ρ : List (Nat × Nat)) (s : ByteArray) : (strA s).R ρ (.string s) := ⟨rfl, rfl⟩
end

/-! ### Known calls as contracts, and contracts as known calls -/
section
variable {P : Program} {w0 : World} {R : Type}

def Sc.plainB : Sc → Bool
  | .v x => plainV x
  | _ => false
def Cp.plainB : Cp → Bool
  | .c s => s.plainB
  | .agg l => l.all Sc.plainB
def AV.plainB : AV → Bool
  | .one c => c.plainB
  | .tup _ => false
theorem Sc.R_val {ρ : List (Nat × Nat)} {s : Sc} {x : Value} (h : s.val? = some x) (hp : s.plainB = true) : s.R ρ x := by
  cases s <;> simp [Sc.val?] at h
  subst h; exact ⟨rfl, hp⟩
theorem LSc.R_val {ρ : List (Nat × Nat)} : ∀ {l : List Sc} {L : List Value}, vals? l = some L → l.all Sc.plainB = true → LR (Sc.R ρ) l L
  | [], L, h, _ => by simp [vals?] at h; subst h; trivial
  | s :: l, L, h, hp => by
    simp only [vals?] at h
    split at h
    · rename_i x hx
      split at h
      · rename_i m hm
        simp at h; subst h
        simp only [List.all_cons, Bool.and_eq_true] at hp
        exact ⟨Sc.R_val hx hp.1, LSc.R_val hm hp.2⟩
      · simp at h
    · simp at h
theorem Cp.R_val {ρ : List (Nat × Nat)} {s : Cp} {x : Value} (h : s.val? = some x) (hp : s.plainB = true) : s.R ρ x := by
  cases s with
  | c s => exact Sc.R_val h hp
  | agg l =>
    simp only [Cp.val?] at h
    split at h
    · rename_i L hL
      simp at h; subst h
      exact ⟨L, LSc.R_val hL hp, rfl⟩
    · simp at h
theorem AV.R_val {ρ : List (Nat × Nat)} {s : AV} {x : Value} (h : s.val? = some x) (hp : s.plainB = true) : s.R ρ x := by
  cases s with
  | one c => exact Cp.R_val h hp
  | tup l => simp [AV.val?] at h
theorem LAV.R_val {ρ : List (Nat × Nat)} : ∀ {l : List AV} {L : List Value}, avals? l = some L → l.all AV.plainB = true → LR (AV.R ρ) l L
  | [], L, h, _ => by simp [avals?] at h; subst h; trivial
  | s :: l, L, h, hp => by
    simp only [avals?] at h
    split at h
    · rename_i x hx
      split at h
      · rename_i m hm
        simp at h; subst h
        simp only [List.all_cons, Bool.and_eq_true] at hp
        exact ⟨AV.R_val hx hp.1, LAV.R_val hm hp.2⟩
      · simp at h
    · simp at h
def cvals? : List Cp → Option (List Value)
  | [] => some []
  | c :: l => match c.val? with
    | some x => match cvals? l with
      | some m => some (x :: m)
      | none => none
    | none => none
/-- the one value that an abstract one stands for, if it hangs on no memory -/
def AV.full? : AV → Option Value
  | .one c => c.val?
  | .tup l => match cvals? l with
    | some L => some (.tuple L.toArray)
    | none => none
theorem cvals?_R {ρ : List (Nat × Nat)} : ∀ {l : List Cp} {m L : List Value}, cvals? l = some m → LR (Cp.R ρ) l L → L = m
  | [], m, [], h, _ => by simpa [cvals?] using h
  | [], _, _ :: _, _, h => h.elim
  | _ :: _, _, [], _, h => h.elim
  | c :: l, m, V :: L, h, r => by
    simp only [cvals?] at h
    split at h
    · rename_i x hx
      split at h
      · rename_i m' hm'
        simp at h; subst h
        rw [Cp.val?_R hx r.1, cvals?_R hm' r.2]
      · simp at h
    · simp at h
theorem AV.full?_R {ρ : List (Nat × Nat)} {s : AV} {x V : Value} (h : s.full? = some x) (r : s.R ρ V) : V = x := by
  cases s with
  | one c => exact Cp.val?_R h r
  | tup l =>
    simp only [AV.full?] at h
    split at h
    · rename_i L hL
      simp at h; subst h
      obtain ⟨L', h1, rfl⟩ := r
      rw [cvals?_R hL h1]
    · simp at h
/-- a known call, as a contract -/
theorem PureGoes.use {w : World} {g : FuncId} {args : List AV} {v : AV} (h : PureGoes P w g args v) {A : List Value} (ha : avals? args = some A) (hp : args.all AV.plainB = true) {V : Value} (hv : v.full? = some V) :
    Calls P g A.toArray w fun e w' => e = .returned V ∧ Below w.heap.size w w' := by
  refine (h.2 A (LAV.R_val ha hp)).mono ?_
  rintro e w' ⟨V', rfl, rV, hb⟩
  rw [AV.full?_R hv rV]
  exact ⟨rfl, hb⟩
theorem cvals?_val {ρ : List (Nat × Nat)} : ∀ {l : List Cp} {L : List Value}, cvals? l = some L → l.all Cp.plainB = true → LR (Cp.R ρ) l L
  | [], L, h, _ => by simp [cvals?] at h; subst h; trivial
  | s :: l, L, h, hp => by
    simp only [cvals?] at h
    split at h
    · rename_i x hx
      split at h
      · rename_i m hm
        simp at h; subst h
        simp only [List.all_cons, Bool.and_eq_true] at hp
        exact ⟨Cp.R_val hx hp.1, cvals?_val hm hp.2⟩
      · simp at h
    · simp at h
def AV.plainT : AV → Bool
  | .one c => c.plainB
  | .tup l => l.all Cp.plainB
theorem AV.R_full {ρ : List (Nat × Nat)} {s : AV} {x : Value} (h : s.full? = some x) (hp : s.plainT = true) : s.R ρ x := by
  cases s with
  | one c => exact Cp.R_val h hp
  | tup l =>
    simp only [AV.full?] at h
    split at h
    · rename_i L hL
      simp at h; subst h
      exact ⟨L, cvals?_val hL hp, rfl⟩
    · simp at h
/-- a contract, as a known call -/
theorem PureGoes.of {w : World} {g : FuncId} {args : List AV} {v : AV} (hc : callable P g) {A : List Value} (ha : avals? args = some A) {V : Value} (hv : v.full? = some V) (hp : v.plainT = true)
    (h : Calls P g A.toArray w fun e w' => e = .returned V ∧ Below w.heap.size w w') : PureGoes P w g args v := by
  refine ⟨hc, fun A' hA' => ?_⟩
  rw [avals?_R ha hA']
  refine h.mono ?_
  rintro e w' ⟨rfl, hb⟩
  exact ⟨V, rfl, AV.R_full hv hp, hb⟩

/-- one block of a caller's, handed over by its address: what a walk over it alone comes to -/
theorem state_ok {tbl : FuncId → Option Func} (ht : TblOK P tbl) {orc : FuncId → List AV → List Blk → KA (AV × Option Blk) → Option (AV × Option Blk)} (hc : ∀ w, CallOK P w orc) {n d : Nat} {f : FuncId} {args : List AV} {cells cells' : List Sc} {T : TypeId} {ro : Bool} {rv : AV}
    (he : evCall P tbl orc n d f (.one (.c (.p 0 0)) :: args) [{ cells := cells, elem := T }] (fun v h => some (v, nth h 0)) = some (rv, some { cells := cells', elem := T, live := true, ro := ro }))
    {L L' A : List Value} {V : Value} (hL : vals? cells = some L) (hLp : cells.all Sc.plainB = true) (hL' : vals? cells' = some L') (ha : avals? args = some A) (hp : args.all AV.plainB = true) (hv : rv.full? = some V)
    (w0 w : World) (g : Nat) (hg : w.heap[g]? = some (.cells L.toArray T (0, 0))) (hge : w0.heap.size ≤ g) (hB : Below w0.heap.size w0 w) (hlen : cells'.length = cells.length) :
    Calls P f (Value.pointer (some ⟨g, 0, none⟩) :: A).toArray w fun e w' => e = .returned V ∧ w'.heap[g]? = some (.cells L'.toArray T (0, 0)) ∧ Below w0.heap.size w0 w' ∧ (w.heap.size ≤ w'.heap.size ∧ ∀ i, i < w.heap.size → i ≠ g → w'.heap[i]? = w.heap[i]?) := by
  obtain ⟨rv1, h1, hk, _, hgo⟩ := evCall_ok ht (hc w0) n d f _ _ _ _ he
  simp only [Option.some.injEq, Prod.mk.injEq] at hk
  obtain ⟨rfl, hk2⟩ := hk
  rw [nth_eq] at hk2
  have hcl : LR (Sc.R [(g, L.length)]) cells L := LSc.R_val hL hLp
  have hlt : g < w.heap.size := by
    rcases Nat.lt_or_ge g w.heap.size with h | h
    · exact h
    · rw [Array.getElem?_eq_none h] at hg; simp at hg
  have hr : Rel w0 [(g, L.length)] [{ cells := cells, elem := T }] w := by
    refine ⟨rfl, ?_, ?_, hB, ?_⟩
    · intro i j bi bj n' t u hi hj _ _ _ _
      have hi' := lt_of_get hi
      have hj' := lt_of_get hj
      simp at hi' hj'
      omega
    · intro i b n' t hi hn _
      have hi' := lt_of_get hi
      simp at hi'
      subst hi'
      simp at hi hn
      obtain ⟨rfl, rfl⟩ := hn
      subst hi
      exact ⟨L, [], hcl, by simpa using hg, by simp⟩
    · intro n' hn'
      simp [nums] at hn'
      subst hn'
      exact ⟨hge, hlt⟩
  have hA : LR (AV.R [(g, L.length)]) (.one (.c (.p 0 0)) :: args) (Value.pointer (some ⟨g, 0, none⟩) :: A) :=
    ⟨⟨g, L.length, rfl, rfl⟩, LAV.R_val ha hp⟩
  refine (hgo.2 _ w _ hr hA).mono ?_
  rintro e w' ⟨ρ', V', rfl, rV, hr', hf⟩
  obtain ⟨t, e1, _⟩ := hf.pre
  have h0 : ρ'[0]? = some (g, L.length) := by rw [e1]; rfl
  obtain ⟨L2, rest, hL2, ho, htot⟩ := hr'.blk 0 _ g L.length hk2 h0 rfl
  have e2 := vals?_R hL' hL2
  subst e2
  have hlens : L2.length = L.length := by rw [← hL2.length, ← hcl.length, hlen]
  have hrest : rest = [] := by
    have : (L2 ++ rest).length = L.length := htot
    simp at this
    exact List.length_eq_zero_iff.1 (by omega)
  subst hrest
  refine ⟨by rw [AV.full?_R hv rV], by simpa using ho, hr'.below, hf.size, fun i hi hig => hf.block i hi ?_⟩
  simp [nums]
  exact hig
/-- ask what a contract tells -/
def asks {α : Type} (o : Option α) (d : α) (k : α → Option R) : Option R := if o.isSome = true then k (o.getD d) else none
theorem asks_eq {α : Type} (o : Option α) (d : α) (k : α → Option R) : asks o d k = o.bind k := by
  cases o <;> rfl
end

/-! ### Calls that make one new row, known by what it holds -/
section
variable {P : Program} {w0 : World} {R : Type}

/-- what a call without memory of ours makes, embedded: the one new row alone is told -/
theorem slice_known {g : FuncId} {args : List AV} {off len es : Nat} {cells : List Sc} {T : TypeId} (ha : allFree args = true) {L : List Value} (hL : vals? cells = some L) (hLp : cells.all Sc.plainB = true)
    (hgo : ∀ w0, ∃ (i : Nat) (cap : Option Nat) (h' : List Blk) (b : Blk), h'[i]? = some b ∧ b.live = true ∧ b.cells = cells ∧ b.elem = T ∧ CallGoes P w0 g args [] (.one (.c (.s i off len es cap))) h') (h : List Blk) :
    CallGoes P w0 g args h (.one (.c (.s h.length off len es none))) (h ++ [{ cells := cells, elem := T }]) := by
  obtain ⟨_, _, _, _, _, _, _, _, hcal, _⟩ := hgo default
  refine ⟨hcal, fun ρ w A hr hA => ?_⟩
  obtain ⟨i, cap, h', b, hb, hl, hcells, hT, _, hgo⟩ := hgo w
  refine (hgo [] w A (Rel.nothing w) (LAV.free ha hA)).mono ?_
  rintro e w' ⟨ρ', V, rfl, rV, hr', hf⟩
  have hil := lt_of_get hb
  obtain ⟨n, t, Lr, rest, hn, hLr, ho, ht⟩ := hr'.blkAt hb hl
  have hbase := hr'.base n (mem_nums hn)
  obtain ⟨hr2, hf2⟩ := hr.away hr'.below
  have hnew : (ρ ++ [(n, t)])[h.length]? = some (n, t) := by rw [← hr.len]; simp
  have hfr : Frm ρ (ρ ++ [(n, t)]) w w' := ⟨hf2.os, hf2.tape, hf2.output, hf2.size, ⟨[(n, t)], rfl, fun m hm => .inr (by simp [nums] at hm; omega)⟩, hf2.block⟩
  refine ⟨ρ ++ [(n, t)], V, rfl, ?_, ⟨by simp [hr.len], ?_, ?_, hr2.below, ?_⟩, hfr⟩
  · obtain ⟨b1, t1, c, h1, h2, h3, h4, _⟩ := rV
    rw [hn] at h1
    simp only [Option.some.injEq, Prod.mk.injEq] at h1
    obtain ⟨rfl, rfl⟩ := h1
    exact ⟨n, t, c, hnew, h2, h3, h4, by simp⟩
  · have key : ∀ (x : Nat) (bx : Blk) (m u : Nat), (h ++ [({ cells := cells, elem := T } : Blk)])[x]? = some bx → (ρ ++ [(n, t)])[x]? = some (m, u) → (x < h.length ∧ h[x]? = some bx ∧ ρ[x]? = some (m, u) ∧ m < w.heap.size) ∨ (x = h.length ∧ m = n) := by
      intro x bx m u hx hm
      rcases Nat.lt_trichotomy x h.length with h1 | h1 | h1
      · rw [List.getElem?_append_left h1] at hx
        rw [List.getElem?_append_left (hr.len ▸ h1)] at hm
        exact .inl ⟨h1, hx, hm, (hr.base m (mem_nums hm)).2⟩
      · subst h1
        rw [hnew] at hm
        simp only [Option.some.injEq, Prod.mk.injEq] at hm
        exact .inr ⟨rfl, hm.1.symm⟩
      · rw [List.getElem?_eq_none (by simp; omega)] at hx; simp at hx
    intro x y bx by_ m tx ty hx hy lx ly hmx hmy
    rcases key x bx m tx hx hmx with ⟨h1, h2, h3, h4⟩ | ⟨h1, h2⟩ <;> rcases key y by_ m ty hy hmy with ⟨k1, k2, k3, k4⟩ | ⟨k1, k2⟩
    · exact hr.inj x y bx by_ m tx ty h2 k2 lx ly h3 k3
    · omega
    · omega
    · omega
  · intro x bx m u hx hm
    rcases Nat.lt_trichotomy x h.length with h1 | h1 | h1
    · rw [List.getElem?_append_left h1] at hx
      rw [List.getElem?_append_left (hr.len ▸ h1)] at hm
      exact (hr2.blk x bx m u hx hm).ext _
    · subst h1
      rw [hnew] at hm
      simp only [Option.some.injEq, Prod.mk.injEq] at hm
      obtain ⟨rfl, rfl⟩ := hm
      simp at hx
      subst hx
      intro _
      rw [hcells] at hLr
      rw [hT] at ho
      have e := vals?_R hL hLr
      subst e
      exact ⟨Lr, rest, LSc.R_val hL hLp, ho, ht⟩
    · rw [List.getElem?_eq_none (by simp; omega)] at hx; simp at hx
  · intro m hm
    rw [nums_append] at hm
    rcases List.mem_append.1 hm with hm | hm
    · exact hr2.base m hm
    · simp [nums] at hm; subst hm
      exact ⟨Nat.le_trans hr.below.size hbase.1, hbase.2⟩
end

end Go.Ev
