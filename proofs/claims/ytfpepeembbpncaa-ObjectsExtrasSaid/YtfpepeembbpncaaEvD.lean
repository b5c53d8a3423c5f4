/- Calls that are known by what they come to may be taken as known. Conditions: none. -/
import Derived.Test.YtfpepeembbpncaaEvC
namespace Go.Ev
open Go.RowKit
set_option linter.unusedVariables false
set_option linter.unusedSimpArgs false

/-! ### Calls that are known: functions that take no memory of ours and give none -/
section
variable {P : Program} {w0 : World} {R : Type}

/-- a call of a function that leaves all memory alone -/
def PureGoes (P : Program) (w : World) (g : FuncId) (args : List AV) (v : AV) : Prop :=
  callable P g ∧ ∀ (A : List Value), LR (AV.R []) args A → Calls P g A.toArray w fun e w' => ∃ V, e = .returned V ∧ v.R [] V ∧ Below w.heap.size w w'

theorem Sc.free {ρ : List (Nat × Nat)} {s : Sc} {V x : Value} (h : s.val? = some x) (r : s.R ρ V) : ∀ ρ', s.R ρ' V := by
  cases s <;> simp [Sc.val?] at h
  exact fun _ => r
theorem LSc.free {ρ ρ' : List (Nat × Nat)} : ∀ {l : List Sc} {L m : List Value}, vals? l = some m → LR (Sc.R ρ) l L → LR (Sc.R ρ') l L
  | [], [], _, _, _ => trivial
  | [], _ :: _, _, _, h => h.elim
  | _ :: _, [], _, _, h => h.elim
  | s :: l, V :: L, m, h, r => by
    simp only [vals?] at h
    split at h
    · rename_i x hx
      split at h
      · rename_i m' hm'
        exact ⟨Sc.free hx r.1 _, LSc.free hm' r.2⟩
      · simp at h
    · simp at h
theorem Cp.free {ρ ρ' : List (Nat × Nat)} {s : Cp} {V x : Value} (h : s.val? = some x) (r : s.R ρ V) : s.R ρ' V := by
  cases s with
  | c s => exact Sc.free h r _
  | agg l =>
    simp only [Cp.val?] at h
    split at h
    · rename_i L hL
      obtain ⟨L', h1, h2⟩ := r
      exact ⟨L', LSc.free hL h1, h2⟩
    · simp at h
def cpsFree : List Cp → Bool
  | [] => true
  | c :: l => c.val?.isSome && cpsFree l
def AV.free : AV → Bool
  | .one x => x.val?.isSome
  | .tup l => cpsFree l
theorem LCp.free {ρ ρ' : List (Nat × Nat)} : ∀ {l : List Cp} {L : List Value}, cpsFree l = true → LR (Cp.R ρ) l L → LR (Cp.R ρ') l L
  | [], [], _, _ => trivial
  | [], _ :: _, _, h => h.elim
  | _ :: _, [], _, h => h.elim
  | s :: l, V :: L, h, r => by
    simp only [cpsFree, Bool.and_eq_true] at h
    obtain ⟨x, hx⟩ := Option.isSome_iff_exists.1 h.1
    exact ⟨Cp.free hx r.1, LCp.free h.2 r.2⟩
theorem AV.R_free {ρ ρ' : List (Nat × Nat)} {s : AV} {V : Value} (h : s.free = true) (r : s.R ρ V) : s.R ρ' V := by
  cases s with
  | one x => obtain ⟨y, hy⟩ := Option.isSome_iff_exists.1 h; exact Cp.free hy r
  | tup l => obtain ⟨L, h1, h2⟩ := r; exact ⟨L, LCp.free h h1, h2⟩
def allFree : List AV → Bool
  | [] => true
  | a :: l => a.free && allFree l
theorem LAV.free {ρ ρ' : List (Nat × Nat)} : ∀ {l : List AV} {L : List Value}, allFree l = true → LR (AV.R ρ) l L → LR (AV.R ρ') l L
  | [], [], _, _ => trivial
  | [], _ :: _, _, h => h.elim
  | _ :: _, [], _, h => h.elim
  | s :: l, V :: L, h, r => by
    simp only [allFree, Bool.and_eq_true] at h
    exact ⟨AV.R_free h.1 r.1, LAV.free h.2 r.2⟩

theorem Rel.away {ρ : List (Nat × Nat)} {h : List Blk} {w w' : World} (hr : Rel w0 ρ h w) (hb : Below w.heap.size w w') : Rel w0 ρ h w' ∧ Frm ρ ρ w w' := by
  have f : Frm ρ ρ w w' := ⟨hb.os, hb.tape, hb.output, hb.size, ⟨[], by simp, by simp [nums]⟩, fun k hk _ => hb.block k hk⟩
  refine ⟨⟨hr.len, hr.inj, fun i b n t hi hn => ?_, f.below hr.below (fun n hn => (hr.base n hn).1), fun n hn => ⟨(hr.base n hn).1, Nat.lt_of_lt_of_le (hr.base n hn).2 hb.size⟩⟩, f⟩
  rw [hb.block n (hr.base n (mem_nums hn)).2]
  exact hr.blk i b n t hi hn

/-- known calls, as a way to carry out calls -/
def known (f : FuncId → List AV → KA R → Option R) (g : FuncId) (args : List AV) (h : List Blk) (k : KA R) : Option R :=
  if allFree args = true then f g args (fun v _ => if v.free = true then k v h else none) else none
/-- the known calls are right -/
def KnownOK (P : Program) (f : FuncId → List AV → KA R → Option R) : Prop :=
  ∀ g args (k : KA R) r, f g args k = some r → ∃ v h, k v h = some r ∧ ∀ w, PureGoes P w g args v
theorem known_ok {f : FuncId → List AV → KA R → Option R} (hf : KnownOK P f) : CallOK P w0 (known f) := by
  intro g args h k r he
  unfold known at he
  split at he
  · rename_i ha
    obtain ⟨v, h1, hk, hgo⟩ := hf g args _ r he
    split at hk
    · rename_i hv
      refine ⟨v, h, hk, Ext.refl _, (hgo default).1, fun ρ w A hr hA => ?_⟩
      refine ((hgo w).2 A (LAV.free ha hA)).mono ?_
      rintro e w' ⟨V, rfl, rV, hb⟩
      obtain ⟨h2, h3⟩ := hr.away hb
      exact ⟨ρ, V, rfl, AV.R_free hv rV, h2, h3⟩
    · simp at hk
  · simp at he

/-- are two values the same to the sign (of numbers, truth values and texts) -/
def Sc.beq : Sc → Sc → Bool
  | .v (.int k n), .v (.int j m) => decide (k = j) && decide (n = m)
  | .v (.bool a), .v (.bool b) => a == b
  | .v (.string a), .v (.string b) => decide (a = b)
  | _, _ => false
theorem Sc.beq_eq {a b : Sc} (h : a.beq b = true) : a = b := by
  unfold Sc.beq at h
  split at h <;> simp at h
  · obtain ⟨rfl, rfl⟩ := h; rfl
  · rw [h]
  · rw [h]
def scsBeq : List Sc → List Sc → Bool
  | [], [] => true
  | a :: l, b :: m => a.beq b && scsBeq l m
  | _, _ => false
theorem scsBeq_eq : ∀ {l m : List Sc}, scsBeq l m = true → l = m
  | [], [], _ => rfl
  | a :: l, b :: m, h => by
    simp only [scsBeq, Bool.and_eq_true] at h
    rw [Sc.beq_eq h.1, scsBeq_eq h.2]
  | [], _ :: _, h => by simp [scsBeq] at h
  | _ :: _, [], h => by simp [scsBeq] at h
def Cp.beq : Cp → Cp → Bool
  | .c a, .c b => a.beq b
  | .agg l, .agg m => scsBeq l m
  | _, _ => false
theorem Cp.beq_eq {a b : Cp} (h : a.beq b = true) : a = b := by
  cases a <;> cases b <;> simp [Cp.beq] at h
  · rw [Sc.beq_eq h]
  · rw [scsBeq_eq h]
def cpsBeq : List Cp → List Cp → Bool
  | [], [] => true
  | a :: l, b :: m => a.beq b && cpsBeq l m
  | _, _ => false
theorem cpsBeq_eq : ∀ {l m : List Cp}, cpsBeq l m = true → l = m
  | [], [], _ => rfl
  | a :: l, b :: m, h => by
    simp only [cpsBeq, Bool.and_eq_true] at h
    rw [Cp.beq_eq h.1, cpsBeq_eq h.2]
  | [], _ :: _, h => by simp [cpsBeq] at h
  | _ :: _, [], h => by simp [cpsBeq] at h
def AV.beq : AV → AV → Bool
  | .one a, .one b => a.beq b
  | .tup l, .tup m => cpsBeq l m
  | _, _ => false
theorem AV.beq_eq {a b : AV} (h : a.beq b = true) : a = b := by
  cases a <;> cases b <;> simp [AV.beq] at h
  · rw [Cp.beq_eq h]
  · rw [cpsBeq_eq h]
def isA (x : AV) : KA Unit := fun v _ => if v.beq x = true then some () else none
theorem isA_eq {x v : AV} {h : List Blk} (he : isA x v h = some ()) : v = x := by
  unfold isA at he
  split at he
  · rename_i hb; exact AV.beq_eq hb
  · simp at he

/-- what was evaluated is known -/
theorem pure_of_eval {tbl : FuncId → Option Func} (ht : TblOK P tbl) {orc : FuncId → List AV → List Blk → KA Unit → Option Unit} (hc : ∀ w, CallOK P w orc) {n d : Nat} {g : FuncId} {args : List AV} {v : AV} (hv : v.free = true)
    (he : evCall P tbl orc n d g args [] (isA v) = some ()) (w : World) : PureGoes P w g args v := by
  obtain ⟨rv, h', hk, _, hgo⟩ := evCall_ok ht (hc w) n d g args [] (isA v) () he
  refine ⟨hgo.1, fun A hA => (hgo.2 [] w A (Rel.nothing w) hA).mono ?_⟩
  rintro e w' ⟨ρ', V, rfl, rV, hr, hf⟩
  rw [isA_eq hk] at rV
  exact ⟨V, rfl, AV.R_free hv rV, hr.below⟩
/-- the same with a result that hangs on letters: the continuation keeps it -/
theorem pure_of_evalK {tbl : FuncId → Option Func} (ht : TblOK P tbl) {orc : FuncId → List AV → List Blk → KA AV → Option AV} (hc : ∀ w, CallOK P w orc) {n d : Nat} {g : FuncId} {args : List AV} {v : AV} (hv : v.free = true)
    (he : evCall P tbl orc n d g args [] (fun v _ => some v) = some v) (w : World) : PureGoes P w g args v := by
  obtain ⟨rv, h', hk, _, hgo⟩ := evCall_ok ht (hc w) n d g args [] (fun v _ => some v) v he
  simp only [Option.some.injEq] at hk
  subst hk
  refine ⟨hgo.1, fun A hA => (hgo.2 [] w A (Rel.nothing w) hA).mono ?_⟩
  rintro e w' ⟨ρ', V, rfl, rV, hr, hf⟩
  exact ⟨V, rfl, AV.R_free hv rV, hr.below⟩

def i64A (n : Int) : AV := .one (.c (.v (.int .i64 n)))
def u8A (n : Int) : AV := .one (.c (.v (.int .u8 n)))
def u16A (n : Int) : AV := .one (.c (.v (.int .u16 n)))
def boolA (b : Bool) : AV := .one (.c (.v (.bool b)))
def strA (s : ByteArray) : AV := .one (.c (.v (.string s)))
theorem i64A_R (ρ : List (Nat × Nat)) (n : Int) : (i64A n).R ρ (.int .i64 n) := ⟨rfl, rfl⟩
theorem u8A_R (ρ : List (Nat × Nat)) (n : Int) : (u8A n).R ρ (.int .u8 n) := ⟨rfl, rfl⟩
theorem u16A_R (ρ : List (Nat × Nat)) (n : Int) : (u16A n).R ρ (.int .u16 n) := ⟨rfl, rfl⟩
theorem boolA_R (ρ : List (Nat × Nat)) (n : Bool) : (boolA n).R ρ (.bool n) := ⟨rfl, rfl⟩
theorem strA_R (ρ : List (Nat × Nat)) (s : ByteArray) : (strA s).R ρ (.string s) := ⟨rfl, rfl⟩
end

end Go.Ev
