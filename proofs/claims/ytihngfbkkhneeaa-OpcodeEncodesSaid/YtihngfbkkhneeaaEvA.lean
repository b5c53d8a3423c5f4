/- A symbolic evaluator for the model's code: abstract values, memory, and what each operation does to them. Conditions: none. -/
import Derived.Calls
import Derived.Below
import Derived.KernelRfl
import Derived.LoopN
import Derived.Tactics
import Derived.Laws.Entries
namespace Go.Ev
open Go.RowKit
set_option linter.unusedVariables false
set_option linter.unusedSimpArgs false

/-! ### Abstract values -/
inductive Sc where
  | v (x : Value)
  | p (i off : Nat)
  | f (g : FuncId) (caps : List (Nat × Nat))
  | s (i off len es : Nat) (cap : Option Nat)
  deriving Inhabited

inductive Cp where
  | c (s : Sc)
  | agg (l : List Sc)
  deriving Inhabited

inductive AV where
  | one (x : Cp)
  | tup (l : List Cp)
  deriving Inhabited

structure Blk where
  cells : List Sc
  elem : TypeId
  live : Bool := true
  ro : Bool := false
  deriving Inhabited

def LR {α β : Type} (R : α → β → Prop) : List α → List β → Prop
  | [], [] => True
  | a :: l, b :: m => R a b ∧ LR R l m
  | _, _ => False

section
variable {α β : Type} {R R' : α → β → Prop}
theorem LR.length {l : List α} {m : List β} (h : LR R l m) : l.length = m.length := by
  induction l generalizing m with
  | nil => cases m with
    | nil => rfl
    | cons _ _ => exact h.elim
  | cons a l ih => cases m with
    | nil => exact h.elim
    | cons b m => simp [ih h.2]
theorem LR.mono {l : List α} {m : List β} (h : LR R l m) (f : ∀ a b, R a b → R' a b) : LR R' l m := by
  induction l generalizing m with
  | nil => cases m with
    | nil => trivial
    | cons _ _ => exact h.elim
  | cons a l ih => cases m with
    | nil => exact h.elim
    | cons b m => exact ⟨f _ _ h.1, ih h.2⟩
theorem LR.get {l : List α} {m : List β} (h : LR R l m) {i : Nat} {a : α} (e : l[i]? = some a) : ∃ b, m[i]? = some b ∧ R a b := by
  induction l generalizing m i with
  | nil => simp at e
  | cons x l ih => cases m with
    | nil => exact h.elim
    | cons y m => cases i with
      | zero => simp at e; subst e; exact ⟨y, rfl, h.1⟩
      | succ i => simp at e; obtain ⟨b, hb, r⟩ := ih h.2 e; exact ⟨b, by simpa using hb, r⟩
theorem LR.set {l : List α} {m : List β} (h : LR R l m) (i : Nat) {a : α} {b : β} (r : R a b) : LR R (l.set i a) (m.set i b) := by
  induction l generalizing m i with
  | nil => cases m with
    | nil => trivial
    | cons _ _ => exact h.elim
  | cons x l ih => cases m with
    | nil => exact h.elim
    | cons y m => cases i with
      | zero => exact ⟨r, h.2⟩
      | succ i => exact ⟨h.1, ih h.2 i⟩
theorem LR.append {l l' : List α} {m m' : List β} (h : LR R l m) (h' : LR R l' m') : LR R (l ++ l') (m ++ m') := by
  induction l generalizing m with
  | nil => cases m with
    | nil => exact h'
    | cons _ _ => exact h.elim
  | cons x l ih => cases m with
    | nil => exact h.elim
    | cons y m => exact ⟨h.1, ih h.2⟩
theorem LR.take {l : List α} {m : List β} (h : LR R l m) (n : Nat) : LR R (l.take n) (m.take n) := by
  induction l generalizing m n with
  | nil => cases m with
    | nil => simp [LR]
    | cons _ _ => exact h.elim
  | cons x l ih => cases m with
    | nil => exact h.elim
    | cons y m => cases n with
      | zero => simp [LR]
      | succ n => exact ⟨h.1, ih h.2 n⟩
theorem LR.drop {l : List α} {m : List β} (h : LR R l m) (n : Nat) : LR R (l.drop n) (m.drop n) := by
  induction l generalizing m n with
  | nil => cases m with
    | nil => simp [LR]
    | cons _ _ => exact h.elim
  | cons x l ih => cases m with
    | nil => exact h.elim
    | cons y m => cases n with
      | zero => exact h
      | succ n => exact ih h.2 n
theorem LR.map {l : List α} {f : α → β} (h : ∀ a ∈ l, R a (f a)) : LR R l (l.map f) := by
  induction l with
  | nil => trivial
  | cons x l ih => exact ⟨h x (by simp), ih fun a ha => h a (by simp [ha])⟩
theorem LR.replicate {a : α} {b : β} (r : R a b) (n : Nat) : LR R (List.replicate n a) (List.replicate n b) := by
  induction n with
  | zero => trivial
  | succ n ih => exact ⟨r, ih⟩
end

/-- which real value an abstract one stands for -/
def plainV : Value → Bool
  | .agg _ => false
  | .tuple _ => false
  | _ => true
def PR (ρ : List (Nat × Nat)) (x : Nat × Nat) (V : Value) : Prop := ∃ b t, ρ[x.1]? = some (b, t) ∧ V = .pointer (some ⟨b, x.2, none⟩)
def Sc.R (ρ : List (Nat × Nat)) : Sc → Value → Prop
  | .v x, V => V = x ∧ plainV x = true
  | .p i off, V => PR ρ (i, off) V
  | .f g caps, V => ∃ L, LR (PR ρ) caps L ∧ V = .func (.func g) #[] L.toArray
  | .s i off len es cap, V => ∃ b t c, ρ[i]? = some (b, t) ∧ V = .slice (some ⟨b, off, none⟩) len c ∧ len ≤ c ∧ off + c * es ≤ t ∧ (∀ d, cap = some d → c = d)
def Cp.R (ρ : List (Nat × Nat)) : Cp → Value → Prop
  | .c s, V => s.R ρ V
  | .agg l, V => ∃ L, LR (Sc.R ρ) l L ∧ V = .agg L.toArray
def AV.R (ρ : List (Nat × Nat)) : AV → Value → Prop
  | .one x, V => x.R ρ V
  | .tup l, V => ∃ L, LR (Cp.R ρ) l L ∧ V = .tuple L.toArray

theorem get_prefix {ρ t : List (Nat × Nat)} {i : Nat} {b : Nat × Nat} (h : ρ[i]? = some b) : (ρ ++ t)[i]? = some b := by
  have hi : i < ρ.length := by
    rcases Nat.lt_or_ge i ρ.length with h' | h'
    · exact h'
    · simp [List.getElem?_eq_none h'] at h
  rw [List.getElem?_append_left hi]; exact h
theorem PR.ext {ρ : List (Nat × Nat)} (t : List (Nat × Nat)) {x : Nat × Nat} {V : Value} (h : PR ρ x V) : PR (ρ ++ t) x V :=
  let ⟨b, t', h1, h2⟩ := h
  ⟨b, t', get_prefix h1, h2⟩
theorem Sc.R.ext {ρ : List (Nat × Nat)} (t : List (Nat × Nat)) {s : Sc} {V : Value} (h : s.R ρ V) : s.R (ρ ++ t) V := by
  cases s with
  | v x => exact h
  | p i off => exact PR.ext t h
  | f g caps => obtain ⟨L, h1, h2⟩ := h; exact ⟨L, h1.mono (fun _ _ => PR.ext t), h2⟩
  | s i off len es cap => obtain ⟨b, t', c, h1, h2⟩ := h; exact ⟨b, t', c, get_prefix h1, h2⟩
theorem Cp.R.ext {ρ : List (Nat × Nat)} (t : List (Nat × Nat)) {s : Cp} {V : Value} (h : s.R ρ V) : s.R (ρ ++ t) V := by
  cases s with
  | c s => exact Sc.R.ext t h
  | agg l => obtain ⟨L, h1, h2⟩ := h; exact ⟨L, h1.mono (fun _ _ => Sc.R.ext t), h2⟩
theorem AV.R.ext {ρ : List (Nat × Nat)} (t : List (Nat × Nat)) {s : AV} {V : Value} (h : s.R ρ V) : s.R (ρ ++ t) V := by
  cases s with
  | one s => exact Cp.R.ext t h
  | tup l => obtain ⟨L, h1, h2⟩ := h; exact ⟨L, h1.mono (fun _ _ => Cp.R.ext t), h2⟩

/-! ### The relation of worlds -/
def BlkR (ρ : List (Nat × Nat)) (b : Blk) (tot : Nat) (o : Option Obj) : Prop :=
  b.live = true → ∃ L rest, LR (Sc.R ρ) b.cells L ∧ o = some (.cells (L ++ rest).toArray b.elem (0, 0)) ∧ (L ++ rest).length = tot

def nums (ρ : List (Nat × Nat)) : List Nat := ρ.map (·.1)
theorem mem_nums {ρ : List (Nat × Nat)} {i : Nat} {x : Nat × Nat} (h : ρ[i]? = some x) : x.1 ∈ nums ρ := List.mem_map.2 ⟨x, List.mem_of_getElem? h, rfl⟩

structure Rel (w0 : World) (ρ : List (Nat × Nat)) (h : List Blk) (w : World) : Prop where
  len : ρ.length = h.length
  inj : ∀ (i j : Nat) (bi bj : Blk) (n t u : Nat), h[i]? = some bi → h[j]? = some bj → bi.live = true → bj.live = true → ρ[i]? = some (n, t) → ρ[j]? = some (n, u) → i = j
  blk : ∀ (i : Nat) (b : Blk) (n t : Nat), h[i]? = some b → ρ[i]? = some (n, t) → BlkR ρ b t w.heap[n]?
  below : Below w0.heap.size w0 w
  base : ∀ n ∈ nums ρ, w0.heap.size ≤ n ∧ n < w.heap.size

structure Frm (ρ ρ' : List (Nat × Nat)) (w w' : World) : Prop where
  os : w'.os = w.os
  tape : w'.tape = w.tape
  output : w'.output = w.output
  size : w.heap.size ≤ w'.heap.size
  pre : ∃ t, ρ' = ρ ++ t ∧ ∀ n ∈ nums t, n ∈ nums ρ ∨ w.heap.size ≤ n
  block : ∀ k, k < w.heap.size → k ∉ nums ρ → w'.heap[k]? = w.heap[k]?

theorem Frm.refl (ρ : List (Nat × Nat)) (w : World) : Frm ρ ρ w w := ⟨rfl, rfl, rfl, Nat.le_refl _, ⟨[], by simp, by simp [nums]⟩, fun _ _ _ => rfl⟩
theorem nums_append (ρ t : List (Nat × Nat)) : nums (ρ ++ t) = nums ρ ++ nums t := by simp [nums]
theorem Frm.trans {ρ ρ' ρ'' : List (Nat × Nat)} {w w' w'' : World} (h : Frm ρ ρ' w w') (k : Frm ρ' ρ'' w' w'') : Frm ρ ρ'' w w'' := by
  obtain ⟨t, e, ht⟩ := h.pre
  obtain ⟨u, e', hu⟩ := k.pre
  refine ⟨k.os.trans h.os, k.tape.trans h.tape, k.output.trans h.output, Nat.le_trans h.size k.size, ⟨t ++ u, by rw [e', e, List.append_assoc], ?_⟩, ?_⟩
  · intro n hn
    rw [nums_append] at hn
    rcases List.mem_append.1 hn with hn | hn
    · exact ht n hn
    · rcases hu n hn with h1 | h1
      · rw [e, nums_append] at h1
        rcases List.mem_append.1 h1 with h2 | h2
        · exact .inl h2
        · exact ht n h2
      · exact .inr (Nat.le_trans h.size h1)
  · intro b hb hn
    have hb' : b ∉ nums ρ' := by
      rw [e, nums_append]; intro hm
      rcases List.mem_append.1 hm with h2 | h2
      · exact hn h2
      · rcases ht b h2 with h3 | h3
        · exact hn h3
        · omega
    rw [k.block b (Nat.lt_of_lt_of_le hb h.size) hb', h.block b hb hn]
theorem Frm.below {w0 : World} {ρ ρ' : List (Nat × Nat)} {w w' : World} (f : Frm ρ ρ' w w') (hb : Below w0.heap.size w0 w) (h : ∀ n ∈ nums ρ, w0.heap.size ≤ n) : Below w0.heap.size w0 w' :=
  hb.trans ⟨f.os, f.tape, f.output, f.size, fun k hk => f.block k (Nat.lt_of_lt_of_le hk hb.size) (fun hm => by have := h k hm; omega)⟩

/-! ### Memory: what a new block, a store, a call does to the relation -/
section
variable {w0 w : World} {ρ : List (Nat × Nat)} {h : List Blk}

theorem lt_of_get {α : Type} {l : List α} {i : Nat} {a : α} (h : l[i]? = some a) : i < l.length := by
  rcases Nat.lt_or_ge i l.length with h' | h'
  · exact h'
  · simp [List.getElem?_eq_none h'] at h

/-- blocks that may only be read stay -/
def Ext (h h' : List Blk) : Prop := ∀ (i : Nat) (b : Blk), h[i]? = some b → b.ro = true → h'[i]? = some b
theorem Ext.refl (h : List Blk) : Ext h h := fun _ _ hb _ => hb
theorem Ext.trans {h h1 h2 : List Blk} (a : Ext h h1) (b : Ext h1 h2) : Ext h h2 := fun i x hx hr => b i x (a i x hx hr) hr
theorem Ext.append (h l : List Blk) : Ext h (h ++ l) := fun i b hb _ => by rw [List.getElem?_append_left (lt_of_get hb)]; exact hb
theorem Ext.set {h : List Blk} {i : Nat} {b : Blk} (b' : Blk) (hb : h[i]? = some b) (hro : b.ro = false) : Ext h (h.set i b') := fun j x hx hr => by
  rw [List.getElem?_set]
  by_cases e : i = j
  · subst e; rw [hb] at hx; simp at hx; subst hx; rw [hro] at hr; simp at hr
  · rw [if_neg e]; exact hx

theorem Rel.blkAt (hr : Rel w0 ρ h w) {i : Nat} {b : Blk} (hb : h[i]? = some b) (hl : b.live = true) :
    ∃ n t L rest, ρ[i]? = some (n, t) ∧ LR (Sc.R ρ) b.cells L ∧ w.heap[n]? = some (.cells (L ++ rest).toArray b.elem (0, 0)) ∧ (L ++ rest).length = t := by
  have hi := lt_of_get hb
  have hρ : ρ[i]? = some ((ρ[i]'(hr.len ▸ hi)).1, (ρ[i]'(hr.len ▸ hi)).2) := List.getElem?_eq_getElem _
  obtain ⟨L, rest, hL, ho, ht⟩ := hr.blk i b _ _ hb hρ hl
  exact ⟨_, _, L, rest, hρ, hL, ho, ht⟩

theorem BlkR.ext {ρ : List (Nat × Nat)} {b : Blk} {tot : Nat} {o : Option Obj} (t : List (Nat × Nat)) (hb : BlkR ρ b tot o) : BlkR (ρ ++ t) b tot o := fun hl =>
  let ⟨L, rest, h1, h2⟩ := hb hl
  ⟨L, rest, h1.mono (fun _ _ => Sc.R.ext t), h2⟩

/-- a new block, of which some cells are known -/
theorem Rel.alloc (hr : Rel w0 ρ h w) {cs : List Sc} {L : List Value} (hL : LR (Sc.R ρ) cs L) (rest : List Value) (t : TypeId) :
    Rel w0 (ρ ++ [(w.heap.size, (L ++ rest).length)]) (h ++ [{ cells := cs, elem := t }]) { w with heap := w.heap.push (.cells (L ++ rest).toArray t) } ∧
    Frm ρ (ρ ++ [(w.heap.size, (L ++ rest).length)]) w { w with heap := w.heap.push (.cells (L ++ rest).toArray t) } ∧
    (ρ ++ [(w.heap.size, (L ++ rest).length)])[h.length]? = some (w.heap.size, (L ++ rest).length) := by
  generalize hO : (L ++ rest).length = tot
  have hidx : (ρ ++ [(w.heap.size, tot)])[h.length]? = some (w.heap.size, tot) := by rw [← hr.len]; simp
  have old : ∀ k, k < w.heap.size → (w.heap.push (.cells (L ++ rest).toArray t))[k]? = w.heap[k]? := fun k hk => by
    rw [Array.getElem?_push]; rw [if_neg (by omega)]
  have fr : Frm ρ (ρ ++ [(w.heap.size, tot)]) w { w with heap := w.heap.push (.cells (L ++ rest).toArray t) } :=
    ⟨rfl, rfl, rfl, by simp, ⟨_, rfl, fun n hn => .inr (by simp [nums] at hn; omega)⟩, fun k hk _ => old k hk⟩
  refine ⟨⟨by simp [hr.len], ?_, ?_, fr.below hr.below (fun n hn => (hr.base n hn).1), ?_⟩, fr, hidx⟩
  · intro i j bi bj n ti tj hi hj li lj hni hnj
    have key : ∀ (i : Nat) (b : Blk), (h ++ [({ cells := cs, elem := t } : Blk)])[i]? = some b → (i < h.length ∧ h[i]? = some b) ∨ i = h.length := by
      intro i b hb
      rcases Nat.lt_trichotomy i h.length with h1 | h1 | h1
      · left; rw [List.getElem?_append_left h1] at hb; exact ⟨h1, hb⟩
      · exact .inr h1
      · rw [List.getElem?_eq_none (by simp; omega)] at hb; simp at hb
    have lt_of : ∀ (i n u : Nat), i < h.length → (ρ ++ [(w.heap.size, tot)])[i]? = some (n, u) → ρ[i]? = some (n, u) ∧ n < w.heap.size := by
      intro i n u hi hn
      rw [List.getElem?_append_left (hr.len ▸ hi)] at hn
      exact ⟨hn, (hr.base n (mem_nums hn)).2⟩
    rcases key i bi hi with ⟨h1, h2⟩ | h1 <;> rcases key j bj hj with ⟨h3, h4⟩ | h3
    · exact hr.inj i j bi bj n ti tj h2 h4 li lj (lt_of i n ti h1 hni).1 (lt_of j n tj h3 hnj).1
    · subst h3; rw [hidx] at hnj; have := (lt_of i n ti h1 hni).2; simp at hnj; omega
    · subst h1; rw [hidx] at hni; have := (lt_of j n tj h3 hnj).2; simp at hni; omega
    · rw [h1, h3]
  · intro i b n u hb hn
    rcases Nat.lt_trichotomy i h.length with h1 | h1 | h1
    · rw [List.getElem?_append_left h1] at hb
      rw [List.getElem?_append_left (hr.len ▸ h1)] at hn
      have hlt := (hr.base n (mem_nums hn)).2
      rw [old n hlt]
      exact (hr.blk i b n u hb hn).ext _
    · subst h1
      rw [hidx] at hn
      simp at hb hn
      obtain ⟨rfl, rfl⟩ := hn
      subst hb
      intro _
      exact ⟨L, rest, hL.mono (fun _ _ => Sc.R.ext _), by simp, hO⟩
    · rw [List.getElem?_eq_none (by simp; omega)] at hb; simp at hb
  · intro n hn
    rw [nums_append] at hn
    rcases List.mem_append.1 hn with hn | hn
    · have := hr.base n hn; simp; omega
    · simp [nums] at hn; subst hn; simp; exact hr.below.size

/-- a cell of one of our blocks is written -/
theorem Rel.set (hr : Rel w0 ρ h w) {i n t off : Nat} {b : Blk} {s : Sc} {V : Value} (hb : h[i]? = some b) (hl : b.live = true) (hn : ρ[i]? = some (n, t))
    (hV : s.R ρ V) (hoff : off < b.cells.length) :
    Rel w0 ρ (h.set i { b with cells := b.cells.set off s }) (w.setCell ⟨n, off, none⟩ V) ∧ Frm ρ ρ w (w.setCell ⟨n, off, none⟩ V) := by
  obtain ⟨n', t', L, rest, hn', hL, ho, ht⟩ := hr.blkAt hb hl
  obtain ⟨rfl, rfl⟩ : n = n' ∧ t = t' := by rw [hn] at hn'; simpa using hn'
  have hlen := hL.length
  have hnlt := (hr.base n (mem_nums hn)).2
  have hother : ∀ k, k ≠ n → (w.setCell ⟨n, off, none⟩ V).heap[k]? = w.heap[k]? := fun k hk => by
    simp only [World.setCell]; rw [Array.getElem?_modify, if_neg (fun e => hk e.symm)]
  have hself : (w.setCell ⟨n, off, none⟩ V).heap[n]? = some (.cells (L.set off V ++ rest).toArray b.elem (0, 0)) := by
    simp only [World.setCell]; rw [Array.getElem?_modify, if_pos rfl, ho]
    simp only [Option.map_some, Option.isSome_none, Bool.false_eq_true, if_false]
    congr 2
    rw [List.setIfInBounds_toArray, List.set_append_left _ _ (by omega)]
  have fr : Frm ρ ρ w (w.setCell ⟨n, off, none⟩ V) :=
    ⟨rfl, rfl, rfl, by simp [World.setCell], ⟨[], by simp, by simp [nums]⟩, fun k _ hk => hother k (fun e => hk (e ▸ mem_nums hn))⟩
  refine ⟨⟨by simp [hr.len], ?_, ?_, fr.below hr.below (fun n hn => (hr.base n hn).1), ?_⟩, fr⟩
  · intro x y bx by_ m tx ty hx hy lx ly hmx hmy
    have key : ∀ (x : Nat) (bx : Blk), (h.set i { b with cells := b.cells.set off s })[x]? = some bx → bx.live = true → ∃ b', h[x]? = some b' ∧ b'.live = true := by
      intro x bx hx lx
      rw [List.getElem?_set] at hx
      by_cases e : i = x
      · subst e; exact ⟨b, hb, hl⟩
      · rw [if_neg e] at hx; exact ⟨bx, hx, lx⟩
    obtain ⟨b1, h1, l1⟩ := key x bx hx lx
    obtain ⟨b2, h2, l2⟩ := key y by_ hy ly
    exact hr.inj x y b1 b2 m tx ty h1 h2 l1 l2 hmx hmy
  · intro x bx m tx hx hm
    rw [List.getElem?_set] at hx
    by_cases e : i = x
    · subst e
      obtain ⟨rfl, rfl⟩ : n = m ∧ t = tx := by rw [hn] at hm; simpa using hm
      rw [if_pos rfl, if_pos (lt_of_get hb)] at hx
      simp at hx; subst hx
      intro _
      exact ⟨L.set off V, rest, hL.set off hV, hself, by simpa using ht⟩
    · rw [if_neg e] at hx
      intro hlx
      have hne : m ≠ n := fun e' => e (hr.inj i x b bx n t tx hb hx hl hlx hn (e' ▸ hm))
      rw [hother m hne]
      exact hr.blk x bx m tx hx hm hlx
  · intro m hm
    have := hr.base m hm
    exact ⟨this.1, Nat.lt_of_lt_of_le this.2 fr.size⟩
end

/-! ### The evaluator -/
def pureRun (P : Program) {α : Type} : Sem α → Option α
  | .pure a => some a
  | .program k => pureRun P (k P)
  | .mark _ k => pureRun P k
  | _ => none

def Sc.of? : Value → Option Sc
  | .agg _ => none
  | .tuple _ => none
  | .bool b => some (.v (.bool b))
  | .int k n => some (.v (.int k n))
  | .string y => some (.v (.string y))
  | x => some (.v x)
def scs? : List Value → Option (List Sc)
  | [] => some []
  | x :: l => match Sc.of? x with
    | some s => match scs? l with
      | some m => some (s :: m)
      | none => none
    | none => none
def Cp.of? : Value → Option Cp
  | .agg cs => match scs? cs.toList with
    | some l => some (.agg l)
    | none => none
  | .tuple _ => none
  | .bool b => some (.c (.v (.bool b)))
  | .int k n => some (.c (.v (.int k n)))
  | .string s => some (.c (.v (.string s)))
  | x => some (.c (.v x))
def cps? : List Value → Option (List Cp)
  | [] => some []
  | x :: l => match Cp.of? x with
    | some s => match cps? l with
      | some m => some (s :: m)
      | none => none
    | none => none
def AV.of? : Value → Option AV
  | .tuple vs => match cps? vs.toList with
    | some l => some (.tup l)
    | none => none
  | x => match Cp.of? x with
    | some c => some (.one c)
    | none => none

def Sc.val? : Sc → Option Value
  | .v x => some x
  | _ => none
def vals? : List Sc → Option (List Value)
  | [] => some []
  | s :: l => match s.val? with
    | some x => match vals? l with
      | some m => some (x :: m)
      | none => none
    | none => none
def Cp.val? : Cp → Option Value
  | .c s => s.val?
  | .agg l => match vals? l with
    | some L => some (.agg L.toArray)
    | none => none
def AV.val? : AV → Option Value
  | .one x => x.val?
  | .tup _ => none
def avals? : List AV → Option (List Value)
  | [] => some []
  | s :: l => match s.val? with
    | some x => match avals? l with
      | some m => some (x :: m)
      | none => none
    | none => none

/-- list access, by the recursor itself: the kernel goes fastest so -/
noncomputable def nth {α : Type} (l : List α) : Nat → Option α :=
  List.rec (motive := fun _ => Nat → Option α) (fun _ => none) (fun a _ ih n => Nat.rec (motive := fun _ => Option α) (some a) (fun m _ => ih m) n) l
noncomputable def setN {α : Type} (v : α) (l : List α) : Nat → List α :=
  List.rec (motive := fun _ => Nat → List α) (fun _ => []) (fun a t ih n => Nat.rec (motive := fun _ => List α) (v :: t) (fun m _ => a :: ih m) n) l
theorem nth_eq {α : Type} : ∀ (l : List α) (n : Nat), nth l n = l[n]?
  | [], n => by simp [nth]
  | a :: l, 0 => rfl
  | a :: l, n + 1 => by
    have := nth_eq l n
    simpa [nth] using this
theorem setN_eq {α : Type} (v : α) : ∀ (l : List α) (n : Nat), setN v l n = l.set n v
  | [], n => by simp [setN]
  | a :: l, 0 => rfl
  | a :: l, n + 1 => by
    have := setN_eq v l n
    simp only [List.set_cons_succ, ← this]; rfl

def undefA : AV := .tup []
noncomputable def getA (sl : List AV) : Operand → Option AV
  | .tmp t => nth sl t
  | .const v => AV.of? v
  | .func g => some (.one (.c (.f g [])))
  | .global _ => none
noncomputable def getAs (sl : List AV) : List Operand → Option (List AV)
  | [] => some []
  | x :: l => match getA sl x with
    | some a => match getAs sl l with
      | some m => some (a :: m)
      | none => none
    | none => none
noncomputable def putA (sl : List AV) : Option Tmp → AV → List AV
  | some d, v => setN v sl d
  | none, _ => sl
def AV.cells? : AV → Option (List Sc)
  | .one (.c s) => some [s]
  | .one (.agg l) => some l
  | .tup _ => none

section
variable (P : Program)
def isAgg? (t : TypeId) : Option Bool :=
  match P.underlying t with
  | some (.struct _) => some true
  | some (.array _ _) => some true
  | some _ => some false
  | none => none
def size? (t : TypeId) : Option Nat :=
  match P.info? t with
  | some i => some i.size
  | none => none
def zero? (t : TypeId) : Option (List Sc) :=
  match P.info? t with
  | some i => match i.zero with
    | some z => scs? z.cells.toList
    | none => none
  | none => none
def splice : List Sc → Nat → List Sc → List Sc
  | l, _, [] => l
  | l, off, c :: cs => splice (l.set off c) (off + 1) cs

def intsOf : IntKind → List Sc → Option (List Int)
  | _, [] => some []
  | k, .v (.int k' n) :: l => if k' = k then match intsOf k l with
      | some m => some (n :: m)
      | none => none
    else none
  | _, _ => none
def boolsOf : List Sc → Option (List Bool)
  | [] => some []
  | .v (.bool n) :: l => match boolsOf l with
      | some m => some (n :: m)
      | none => none
  | _ => none
def strsOf : List Sc → Option (List ByteArray)
  | [] => some []
  | .v (.string n) :: l => match strsOf l with
      | some m => some (n :: m)
      | none => none
  | _ => none
/-- one of some cells, by a number that may be a letter -/
def selSc (l : List Sc) (n : Nat) : Option Sc :=
  match l with
  | .v (.int k _) :: _ => match intsOf k l with
    | some xs => some (.v (.int k (xs.getD n 0)))
    | none => none
  | .v (.bool _) :: _ => match boolsOf l with
    | some xs => some (.v (.bool (xs.getD n false)))
    | none => none
  | .v (.string _) :: _ => match strsOf l with
    | some xs => some (.v (.string (xs.getD n ByteArray.empty)))
    | none => none
  | _ => none
def column (l : List Sc) (size j : Nat) : Nat → List Sc
  | 0 => []
  | r + 1 => (column l size j r) ++ [l.getD (r * size + j) (.p 0 0)]
def selRow (l : List Sc) (size len n : Nat) : Nat → Option (List Sc)
  | 0 => some []
  | j + 1 => match selRow l size len n j with
    | some m => match selSc (column l size j len) n with
      | some s => some (m ++ [s])
      | none => none
    | none => none

section
variable {R : Type}
abbrev KA (R : Type) := AV → List Blk → Option R

noncomputable def evLoad (t : TypeId) (x : AV) (h : List Blk) (k : KA R) : Option R :=
  match x with
  | .one (.c (.p i off)) => match nth h i with
    | some b => if b.live = true then
        match isAgg? P t with
        | some true => match size? P t with
          | some n => if off + n ≤ b.cells.length then k (.one (.agg ((b.cells.drop off).take n))) h else none
          | none => none
        | some false => match nth b.cells off with
          | some s => k (.one (.c s)) h
          | none => none
        | none => none
      else none
    | none => none
  | _ => none

noncomputable def evStore (t : TypeId) (x v : AV) (h : List Blk) : Option (List Blk) :=
  match x with
  | .one (.c (.p i off)) => match nth h i with
    | some b => if b.live = true ∧ b.ro = false then
        match v.cells?, size? P t with
        | some cs, some n => if cs.length = n ∧ off + n ≤ b.cells.length then some (h.set i { b with cells := splice b.cells off cs }) else none
        | _, _ => none
      else none
    | none => none
  | _ => none

noncomputable def evNew (t : TypeId) (cs : List Sc) (h : List Blk) (k : KA R) : Option R :=
  k (.one (.c (.p h.length 0))) (h ++ [{ cells := cs, elem := t }])

noncomputable def evFieldAddr (s : TypeId) (x : AV) (f : Nat) : Option AV :=
  match x, P.underlying s with
  | .one (.c (.p i off)), some (.struct fields) => match fields[f]? with
    | some fl => match size? P fl.type with
      | some n => if n = 0 then none else some (.one (.c (.p i (off + fl.offset))))
      | none => none
    | none => none
  | _, _ => none

noncomputable def evPart (t : TypeId) (l : List Sc) (off : Nat) : Option AV :=
  match isAgg? P t with
  | some true => match size? P t with
    | some n => if off + n ≤ l.length then some (.one (.agg ((l.drop off).take n))) else none
    | none => none
  | some false => match nth l off with
    | some s => some (.one (.c s))
    | none => none
  | none => none

noncomputable def evField (t : TypeId) (x : AV) (f : Nat) : Option AV :=
  match x, P.underlying t with
  | .one (.agg l), some (.struct fields) => match fields[f]? with
    | some fl => evPart P fl.type l fl.offset
    | none => none
  | _, _ => none

noncomputable def evIndexAddr (t : TypeId) (x ix : AV) (h : List Blk) (k : KA R) : Option R :=
  match x, ix, P.underlying t with
  | .one (.c (.p i off)), .one (.c (.v (.int _ n))), some (.array len elem) => match size? P elem with
    | some sz => if 0 ≤ n ∧ n < (len : Int) then k (.one (.c (.p i (off + n.toNat * sz)))) h else none
    | none => none
  | .one (.c (.s i off len _ _)), .one (.c (.v (.int _ n))), some (.slice elem) => match size? P elem with
    | some sz => if 0 ≤ n ∧ n < (len : Int) then k (.one (.c (.p i (off + n.toNat * sz)))) h else none
    | none => none
  | _, _, _ => none

noncomputable def evIndex (t : TypeId) (x ix : AV) (h : List Blk) (k : KA R) : Option R :=
  match x, ix, P.underlying t with
  | .one (.agg l), .one (.c (.v (.int _ n))), some (.array len elem) => match isAgg? P elem, size? P elem with
    | some true, some sz => if l.length = len * sz then match selRow l sz len n.toNat sz with
        | some cs => if 0 ≤ n ∧ n < (len : Int) then k (.one (.agg cs)) h else none
        | none => none
      else none
    | some false, some 1 => if l.length = len then match selSc l n.toNat with
        | some s => if 0 ≤ n ∧ n < (len : Int) then k (.one (.c s)) h else none
        | none => none
      else none
    | _, _ => none
  | .one (.c (.v (.string s))), .one (.c (.v (.int _ n))), some .string =>
    if 0 ≤ n ∧ n < (s.size : Int) then k (.one (.c (.v (.int .u8 ((s.data.toList.getD n.toNat 0).toNat : Int))))) h else none
  | _, _, _ => none

noncomputable def evExtract (x : AV) (i : Nat) : Option AV :=
  match x with
  | .tup l => match nth l i with
    | some c => some (.one c)
    | none => none
  | _ => none

def capsOf : List AV → Option (List (Nat × Nat))
  | [] => some []
  | .one (.c (.p i off)) :: l => match capsOf l with
    | some m => some ((i, off) :: m)
    | none => none
  | _ => none

noncomputable def evFill (size : Nat) : List Sc → List (Nat × AV) → Option (List Sc)
  | cells, [] => some cells
  | cells, (i, v) :: rest => match v.cells? with
    | some cs => if cs.length = size ∧ i * size + size ≤ cells.length then evFill size (splice cells (i * size) cs) rest else none
    | none => none
noncomputable def evFillS (fields : Array Field) : List Sc → List (Nat × AV) → Option (List Sc)
  | cells, [] => some cells
  | cells, (i, v) :: rest => match v.cells?, fields[i]? with
    | some cs, some f => match size? P f.type with
      | some size => if cs.length = size ∧ f.offset + size ≤ cells.length then evFillS fields (splice cells f.offset cs) rest else none
      | none => none
    | _, _ => none
noncomputable def getPs (sl : List AV) : List (Nat × Operand) → Option (List (Nat × AV))
  | [] => some []
  | (i, x) :: l => match getA sl x with
    | some a => match getPs sl l with
      | some m => some ((i, a) :: m)
      | none => none
    | none => none
def fieldsSized (fields : List Field) : Bool := fields.all fun f => (size? P f.type).isSome
noncomputable def evBuild (t : TypeId) (parts : List (Nat × AV)) : Option AV :=
  match zero? P t, P.underlying t with
  | some z, some (.struct fields) => if fieldsSized P fields.toList = true then match evFillS P fields z parts with
      | some cs => some (.one (.agg cs))
      | none => none
    else none
  | some z, some (.array _ elem) => match size? P elem with
    | some size => match evFill size z parts with
      | some cs => some (.one (.agg cs))
      | none => none
    | none => none
  | _, _ => none

/-- '==' of two plain cells -/
noncomputable def evEq1 (x y : Sc) : Option Bool :=
  match x, y with
  | .v (.int k a), .v (.int k' b) => if k = k' then some (a == b) else none
  | .v (.bool a), .v (.bool b) => some (a == b)
  | .v (.string a), .v (.string b) => some (a == b)
  | _, _ => none

noncomputable def evBin (op : BinOp) (t : TypeId) (ox oy : Operand) (x y : AV) : Option AV :=
  match x.val?, y.val? with
  | some a, some b => match pureRun P (do eqGuard op t ox oy a b; binOp op t a b) with
    | some r => AV.of? r
    | none => none
  | _, _ => none

def cycleA (z : List Sc) (n : Nat) : List Sc := (List.range n).map fun i => z.getD (i % z.length) (.p 0 0)
noncomputable def evBuildSlice (t : TypeId) (len : Nat) (parts : List (Nat × AV)) (h : List Blk) (k : KA R) : Option R :=
  match P.underlying t with
  | some (.slice elem) => match size? P elem, zero? P elem with
    | some sz, some z => if z.length = sz ∧ 0 < sz ∧ len * sz ≤ 16777216 then match evFill sz (cycleA z (len * sz)) parts with
        | some cs => k (.one (.c (.s h.length 0 len sz (some len)))) (h ++ [{ cells := cs, elem := elem }])
        | none => none
      else none
    | _, _ => none
  | _ => none

/-- the cells of a slice -/
noncomputable def rowOf (h : List Blk) (sz : Nat) (x : AV) : Option (Nat × List Sc) :=
  match x with
  | .one (.c (.v (.slice none 0 0))) => some (0, [])
  | .one (.c (.s i off len es _)) => match nth h i with
    | some b => if b.live = true ∧ es = sz ∧ off + len * sz ≤ b.cells.length then some (len, (b.cells.drop off).take (len * sz)) else none
    | none => none
  | _ => none

noncomputable def evAppend (tys : Array TypeId) (s x : AV) (h : List Blk) (k : KA R) : Option R :=
  match tys[0]?, tys[1]? with
  | some ts, some tx => match P.underlying ts, P.underlying tx with
    | some (.slice elem), some (.slice _) => match P.info? elem, zero? P elem with
      | some info, some z => if z.length = info.size ∧ 0 < info.size ∧ info.bytes ≤ 65536 then
          match rowOf h info.size s, rowOf h info.size x with
          | some (len, old), some (n, new) => if len + n ≤ 1048576 then
              match s with
              | .one (.c (.s i off _ _ (some c))) => match nth h i with
                | some b => if len + n ≤ c then
                    (if b.ro = false ∧ off + (len + n) * info.size ≤ b.cells.length then k (.one (.c (.s i off (len + n) info.size (some c)))) (h.set i { b with cells := splice b.cells (off + len * info.size) new }) else none)
                  else k (.one (.c (.s h.length 0 (len + n) info.size none))) (h ++ [{ cells := old ++ new, elem := elem }])
                | none => none
              | .one (.c (.s i off _ _ none)) => match nth h i with
                | some b => if b.ro = false ∧ off = 0 ∧ b.elem = elem then k (.one (.c (.s h.length 0 (len + n) info.size none))) (h.set i { b with live := false } ++ [{ cells := old ++ new, elem := elem }]) else none
                | none => none
              | .one (.c (.v (.slice none 0 0))) => if n = 0 then k (.one (.c (.v (.slice none 0 0)))) h
                  else k (.one (.c (.s h.length 0 (len + n) info.size none))) (h ++ [{ cells := old ++ new, elem := elem }])
              | _ => none
            else none
          | _, _ => none
        else none
      | _, _ => none
    | _, _ => none
  | _, _ => none

noncomputable def intA (x : Option AV) (d : Nat) : Option Int :=
  match x with
  | none => some d
  | some (.one (.c (.v (.int _ n)))) => some n
  | _ => none
noncomputable def evSlice (t : TypeId) (x : AV) (lo hi : Option AV) (h : List Blk) (k : KA R) : Option R :=
  match x, P.underlying t with
  | .one (.c (.p i off)), some (.array n elem) => match size? P elem, intA lo 0, intA hi n, nth h i with
    | some sz, some l, some u, some b => if b.live = true ∧ off + n * sz ≤ b.cells.length ∧ 0 ≤ l ∧ l ≤ u ∧ u ≤ (n : Int) ∧ l < (n : Int) then
        k (.one (.c (.s i (off + l.toNat * sz) (u.toNat - l.toNat) sz (some (n - l.toNat))))) h else none
    | _, _, _, _ => none
  | .one (.c (.s i off len es cap)), some (.slice elem) => match size? P elem, intA lo 0, intA hi len with
    | some sz, some l, some u => if es = sz ∧ 0 ≤ l ∧ l ≤ u ∧ u ≤ (len : Int) ∧ l < (len : Int) then
        k (.one (.c (.s i (off + l.toNat * sz) (u.toNat - l.toNat) sz (cap.map (· - l.toNat))))) h else none
    | _, _, _ => none
  | .one (.c (.v (.string s))), some .string => match intA lo 0, intA hi s.size with
    | some l, some u => if 0 ≤ l ∧ l ≤ u ∧ u ≤ (s.size : Int) then k (.one (.c (.v (.string (s.extract l.toNat u.toNat))))) h else none
    | _, _ => none
  | _, _ => none

/-- 'a[l:u:m]' of an array in memory -/
noncomputable def evSlice3 (t : TypeId) (x : AV) (lo hi mx : Option AV) (h : List Blk) (k : KA R) : Option R :=
  match x, P.underlying t with
  | .one (.c (.p i off)), some (.array n elem) => match size? P elem, intA lo 0, intA hi n, intA mx n, nth h i with
    | some sz, some l, some u, some m, some b => if b.live = true ∧ off + n * sz ≤ b.cells.length ∧ 0 ≤ l ∧ l ≤ u ∧ u ≤ m ∧ m ≤ (n : Int) ∧ (l < m ∨ l = 0) ∧ hi.isSome = true ∧ mx.isSome = true then
        k (.one (.c (.s i (off + l.toNat * sz) (u.toNat - l.toNat) sz (some (m.toNat - l.toNat))))) h else none
    | _, _, _, _, _ => none
  | _, _ => none

noncomputable def eqGo (rec : TypeId → List Sc → List Sc → Option Bool) (l m : List Sc) : List Field → Option Bool
  | [] => some true
  | f :: fs => if f.name = "_" then none else match isAgg? P f.type, size? P f.type with
    | some ag, some sz => if (ag = false → sz = 1) ∧ f.offset + sz ≤ l.length ∧ f.offset + sz ≤ m.length then
        match rec f.type ((l.drop f.offset).take sz) ((m.drop f.offset).take sz), eqGo rec l m fs with
        | some a, some b => some (a && b)
        | _, _ => none
      else none
    | _, _ => none
/-- '==' as the model takes it apart, by the type -/
noncomputable def eqv : Nat → TypeId → List Sc → List Sc → Option Bool
  | 0, _, _, _ => none
  | d + 1, t, l, m => match P.underlying t with
    | some (.int _) => match l, m with
      | [.v (.int k a)], [.v (.int k' b)] => if k = k' then some (a == b) else none
      | _, _ => none
    | some .bool => match l, m with
      | [.v (.bool a)], [.v (.bool b)] => some (a == b)
      | _, _ => none
    | some .string => match l, m with
      | [.v (.string a)], [.v (.string b)] => some (a == b)
      | _, _ => none
    | some (.struct fields) => if P.stoodInHeld t = true then none else eqGo P (eqv d) l m fields.toList
    | _ => none

noncomputable def evNil (t : TypeId) (x y : AV) : Bool :=
  match x, y, P.underlying t with
  | .one (.c (.s _ _ _ _ _)), .one (.c (.v (.slice none _ _))), some (.slice _) => true
  | .one (.c (.p _ _)), .one (.c (.v (.pointer none))), some (.pointer _) => true
  | .one (.c (.f _ _)), .one (.c (.v .nilFunc)), some (.func _ _ _) => true
  | _, _, _ => false
def bothAgg : AV → AV → Option (List Sc × List Sc)
  | .one (.agg l), .one (.agg m) => some (l, m)
  | _, _ => none
def asI : AV → Option (IntKind × Int)
  | .one (.c (.v (.int k n))) => some (k, n)
  | _ => none
def ivA (k : IntKind) (n : Int) : Option AV := some (.one (.c (.v (.int k n))))
def bvA (b : Bool) : Option AV := some (.one (.c (.v (.bool b))))
noncomputable def evInt (op : BinOp) (k : IntKind) (a : Int) (k' : IntKind) (b : Int) : Option AV :=
  match op with
  | .add => if k = k' then ivA k (k.wrap (a + b)) else none
  | .sub => if k = k' then ivA k (k.wrap (a - b)) else none
  | .mul => if k = k' then ivA k (k.wrap (a * b)) else none
  | .quo => if k = k' ∧ ¬ b = 0 then ivA k (k.wrap (a.tdiv b)) else none
  | .rem => if k = k' ∧ ¬ b = 0 then ivA k (a.tmod b) else none
  | .and => if k = k' then ivA k (bits .and k a b) else none
  | .or => if k = k' then ivA k (bits .or k a b) else none
  | .xor => if k = k' then ivA k (bits .xor k a b) else none
  | .andNot => if k = k' then ivA k (bits .andNot k a b) else none
  | .shl => if b < 0 then none else ivA k (k.wrap (a * 2 ^ min b.toNat k.bits))
  | .shr => if b < 0 then none else ivA k (a.fdiv (2 ^ min b.toNat k.bits))
  | .eql => if k = k' then bvA (a == b) else none
  | .neq => if k = k' then bvA (a != b) else none
  | .lss => if k = k' then bvA (decide (a < b)) else none
  | .leq => if k = k' then bvA (decide (a ≤ b)) else none
  | .gtr => if k = k' then bvA (decide (a > b)) else none
  | .geq => if k = k' then bvA (decide (a ≥ b)) else none
noncomputable def evBin3 (op : BinOp) (t : TypeId) (ox oy : Operand) (x y : AV) : Option AV :=
  match op with
  | .eql => match bothAgg x y with
    | some (l, m) => if isAgg? P t = some true ∧ P.eqGuardType P.depth t = false then match eqv P 20 t l m with
        | some b => some (.one (.c (.v (.bool b))))
        | none => none
      else none
    | none => if evNil P t x y = true then some (.one (.c (.v (.bool false)))) else evBin P op t ox oy x y
  | .neq => match bothAgg x y with
    | some (l, m) => if isAgg? P t = some true ∧ P.eqGuardType P.depth t = false then match eqv P 20 t l m with
        | some b => some (.one (.c (.v (.bool !b))))
        | none => none
      else none
    | none => if evNil P t x y = true then some (.one (.c (.v (.bool true)))) else evBin P op t ox oy x y
  | _ => evBin P op t ox oy x y

noncomputable def evBin2 (op : BinOp) (t : TypeId) (ox oy : Operand) (x y : AV) : Option AV :=
  match asI x, asI y with
  | some (k, a), some (k', b) => evInt op k a k' b
  | _, _ => evBin3 P op t ox oy x y

def nextVal : Next → Option AV
  | .value v => AV.of? v
  | _ => none
noncomputable def evBuiltin (b : Builtin) (tys : Array TypeId) (ty : TypeId) (consts : Array Bool) (args : List AV) (h : List Blk) (k : KA R) : Option R :=
  match b, args with
  | .append, [s, x] => evAppend P tys s x h k
  | .len, [.one (.c (.s _ _ len _ _))] => match tys[0]? with
    | some t => match P.underlying t with
      | some (.slice _) => k (.one (.c (.v (.int .i64 len)))) h
      | _ => none
    | none => none
  | _, _ => match avals? args with
    | some vs => match pureRun P (builtin b tys ty consts vs.toArray) with
      | some nx => match nextVal nx with
        | some r => k r h
        | none => none
      | none => none
    | none => none
noncomputable def optA (sl : List AV) : Option Operand → Option (Option AV)
  | none => some none
  | some x => match getA sl x with
    | some a => some (some a)
    | none => none

noncomputable def wantedA (ops : Array Oper) (sl : List AV) (o : Oper) : Option Bool :=
  match o.guard with
  | none => some true
  | some (j, want) => match ops[j]? with
    | some oj => match oj.dst with
      | some d => match nth sl d with
        | some (.one (.c (.v (.bool b)))) => some (b == want)
        | some (.tup _) => some false
        | _ => none
      | none => none
    | none => none

/-- behind a question whose answer is taken to be b, the slot that was asked holds the answer -/
noncomputable def sharp (ops : Array Oper) (sl : List AV) (o : Oper) (b : Bool) : List AV :=
  match o.guard with
  | none => sl
  | some (j, want) => match ops[j]? with
    | some oj => match oj.dst with
      | some d => match nth sl d with
        | some (.one (.c (.v (.bool _)))) => setN (.one (.c (.v (.bool (b == want))))) sl d
        | _ => sl
      | none => sl
    | none => sl
noncomputable def sharpC (c : Operand) (b : Bool) (sl : List AV) : List AV :=
  match c with
  | .tmp t => setN (.one (.c (.v (.bool b)))) sl t
  | _ => sl
noncomputable def evMoveO (sl : List AV) (h : List Blk) (k : KA R) (x : Operand) : Option R :=
  match getA sl x with
    | some a => k a h
    | none => none
noncomputable def evAssignO (sl : List AV) (h : List Blk) (k : KA R) (x : Operand) : Option R :=
  match getA sl x with
    | some a => k a h
    | none => none
noncomputable def evPickO (sl : List AV) (h : List Blk) (k : KA R) (c a b : Operand) : Option R :=
  match getA sl c, getA sl a, getA sl b with
    | some (.one (.c (.v (.bool t)))), some x, some y => if t = true then k x h else k y h
    | _, _, _ => none
noncomputable def evAllocO (sl : List AV) (h : List Blk) (k : KA R) (t : TypeId) : Option R :=
  match zero? P t with
    | some z => evNew t z h k
    | none => none
noncomputable def evBoxO (sl : List AV) (h : List Blk) (k : KA R) (t : TypeId) (x : Operand) : Option R :=
  match getA sl x with
    | some a => match a.cells? with
      | some cs => evNew t cs h k
      | none => none
    | none => none
noncomputable def evBuildO (sl : List AV) (h : List Blk) (k : KA R) (t : TypeId) (parts : Array (Nat × Operand)) : Option R :=
  match getPs sl parts.toList with
    | some ps => match evBuild P t ps with
      | some a => k a h
      | none => none
    | none => none
noncomputable def evLoadO (sl : List AV) (h : List Blk) (k : KA R) (t : TypeId) (x : Operand) : Option R :=
  match getA sl x with
    | some a => evLoad P t a h k
    | none => none
noncomputable def evStoreO (sl : List AV) (h : List Blk) (k : KA R) (t : TypeId) (x v : Operand) : Option R :=
  match getA sl x, getA sl v with
    | some a, some b => match evStore P t a b h with
      | some h' => k undefA h'
      | none => none
    | _, _ => none
noncomputable def evNilCheckO (sl : List AV) (h : List Blk) (k : KA R) (x : Operand) : Option R :=
  match getA sl x with
    | some (.one (.c (.p i off))) => k (.one (.c (.p i off))) h
    | _ => none
noncomputable def evBinOpO (sl : List AV) (h : List Blk) (k : KA R) (op : BinOp) (t : TypeId) (x y : Operand) : Option R :=
  match getA sl x, getA sl y with
    | some a, some b => match evBin2 P op t x y a b with
      | some r => k r h
      | none => none
    | _, _ => none
noncomputable def evUnOpO (sl : List AV) (h : List Blk) (k : KA R) (op : UnOp) (x : Operand) : Option R :=
  match getA sl x with
    | some a => match a.val? with
      | some v => match pureRun P (Op.unary op v) with
        | some r => match AV.of? r with
          | some r => k r h
          | none => none
        | none => none
      | none => none
    | none => none
noncomputable def evConvertO (sl : List AV) (h : List Blk) (k : KA R) (s d : TypeId) (x : Operand) : Option R :=
  match getA sl x with
    | some a => match a.val? with
      | some v => match pureRun P (convert s d v) with
        | some r => match AV.of? r with
          | some r => k r h
          | none => none
        | none => none
      | none => none
    | none => none
noncomputable def evFieldAddrO (sl : List AV) (h : List Blk) (k : KA R) (s : TypeId) (x : Operand) (f : Nat) : Option R :=
  match getA sl x with
    | some a => match evFieldAddr P s a f with
      | some r => k r h
      | none => none
    | none => none
noncomputable def evFieldO (sl : List AV) (h : List Blk) (k : KA R) (s : TypeId) (x : Operand) (f : Nat) : Option R :=
  match getA sl x with
    | some a => match evField P s a f with
      | some r => k r h
      | none => none
    | none => none
noncomputable def evIndexAddrO (sl : List AV) (h : List Blk) (k : KA R) (t : TypeId) (x i : Operand) : Option R :=
  match getA sl x, getA sl i with
    | some a, some b => evIndexAddr P t a b h k
    | _, _ => none
noncomputable def evIndexO (sl : List AV) (h : List Blk) (k : KA R) (t : TypeId) (x i : Operand) : Option R :=
  match getA sl x, getA sl i with
    | some a, some b => evIndex P t a b h k
    | _, _ => none
noncomputable def evExtractO (sl : List AV) (h : List Blk) (k : KA R) (x : Operand) (i : Nat) : Option R :=
  match getA sl x with
    | some a => match evExtract a i with
      | some r => k r h
      | none => none
    | none => none
noncomputable def evMakeFuncO (sl : List AV) (h : List Blk) (k : KA R) (g : FuncId) (first caps : Array Operand) : Option R :=
  if first.size = 0 then match getAs sl caps.toList with
      | some l => match capsOf l with
        | some cs => k (.one (.c (.f g cs))) h
        | none => none
      | none => none
    else none
noncomputable def evCallO (call : FuncId → List AV → List Blk → KA R → Option R) (sl : List AV) (h : List Blk) (k : KA R) (f : Operand) (args : Array Operand) : Option R :=
  match getA sl f, getAs sl args.toList with
    | some (.one (.c (.f g caps))), some l => call g (l ++ caps.map fun x => .one (.c (.p x.1 x.2))) h k
    | _, _ => none
noncomputable def evBuiltinO (sl : List AV) (h : List Blk) (k : KA R) (b : Builtin) (args : Array Operand) (argTypes : Array TypeId) (ty : TypeId) : Option R :=
  match getAs sl args.toList with
    | some l => evBuiltin P b argTypes ty (args.map fun | .const _ => true | _ => false) l h k
    | none => none
noncomputable def evBuildSliceO (sl : List AV) (h : List Blk) (k : KA R) (t : TypeId) (len : Nat) (parts : Array (Nat × Operand)) : Option R :=
  match getPs sl parts.toList with
    | some ps => evBuildSlice P t len ps h k
    | none => none
noncomputable def evSliceO (sl : List AV) (h : List Blk) (k : KA R) (t : TypeId) (x : Operand) (lo hi : Option Operand) : Option R :=
  match getA sl x, optA sl lo, optA sl hi with
    | some a, some l, some u => evSlice P t a l u h k
    | _, _, _ => none
noncomputable def evSlice3O (sl : List AV) (h : List Blk) (k : KA R) (t : TypeId) (x : Operand) (lo hi mx : Option Operand) : Option R :=
  match getA sl x, optA sl lo, optA sl hi, optA sl mx with
    | some a, some l, some u, some m => evSlice3 P t a l u m h k
    | _, _, _, _ => none
noncomputable def evOp (call : FuncId → List AV → List Blk → KA R → Option R) (o : Oper) (sl : List AV) (h : List Blk) (k : KA R) : Option R :=
  match o.op with
  | .move x => evMoveO sl h k x
  | .assign x => evAssignO sl h k x
  | .pick c a b => evPickO sl h k c a b
  | .alloc t => evAllocO P sl h k t
  | .box t x => evBoxO sl h k t x
  | .build t parts => evBuildO P sl h k t parts
  | .load t x => evLoadO P sl h k t x
  | .store t x v => evStoreO P sl h k t x v
  | .nilCheck x => evNilCheckO sl h k x
  | .binOp op t x y _ => evBinOpO P sl h k op t x y
  | .unOp op _ x => evUnOpO P sl h k op x
  | .convert s d x => evConvertO P sl h k s d x
  | .fieldAddr s x f => evFieldAddrO P sl h k s x f
  | .field s x f => evFieldO P sl h k s x f
  | .indexAddr t x i => evIndexAddrO P sl h k t x i
  | .index t x i => evIndexO P sl h k t x i
  | .extract x i => evExtractO sl h k x i
  | .makeFunc (.func g) first caps => evMakeFuncO sl h k g first caps
  | .call { callee := .value f, args, .. } => evCallO call sl h k f args
  | .call { callee := .builtin b, args, argTypes } => evBuiltinO P sl h k b args argTypes o.type
  | .buildSlice t len parts => evBuildSliceO P sl h k t len parts
  | .slice t x lo hi none => evSliceO P sl h k t x lo hi
  | .slice t x lo hi (some mx) => evSlice3O P sl h k t x lo hi (some mx)
  | _ => none

/-- the same list, its spine laid out -/
def forceL {α β : Type} : List α → (List α → β) → β
  | [], k => k []
  | a :: l, k => forceL l fun l' => k (a :: l')
noncomputable def evOps1 (call : FuncId → List AV → List Blk → KA R → Option R) (ops : Array Oper) (o : Oper) (ih : List AV → List Blk → (List AV → List Blk → Option R) → Option R) (sl : List AV) (h : List Blk) (k : List AV → List Blk → Option R) : Option R :=
  match wantedA ops sl o with
  | some b => if b = true then evOp P call o (sharp ops sl o true) h fun v h' => ih (putA (sharp ops sl o true) o.dst v) h' k
    else ih (putA (sharp ops sl o false) o.dst undefA) h k
  | none => none
noncomputable def evOps (call : FuncId → List AV → List Blk → KA R → Option R) (ops : Array Oper) (l : List Oper) : List AV → List Blk → (List AV → List Blk → Option R) → Option R :=
  List.rec (motive := fun _ => List AV → List Blk → (List AV → List Blk → Option R) → Option R) (fun sl h k => k sl h) (fun o _ ih sl h k => evOps1 P call ops o ih sl h k) l

/-- an operation that looks at no memory, and leaves it alone -/
def pureOp : Op → Bool
  | .move _ => true
  | .assign _ => true
  | .pick _ _ _ => true
  | .build _ _ => true
  | .nilCheck _ => true
  | .binOp _ _ _ _ _ => true
  | .unOp _ _ _ => true
  | .convert _ _ _ => true
  | .fieldAddr _ _ _ => true
  | .field _ _ _ => true
  | .indexAddr _ _ _ => true
  | .index _ _ _ => true
  | .extract _ _ => true
  | .makeFunc _ _ _ => true
  | _ => false
/-- an operation that looks only -/
def lookOp : Op → Bool
  | .load _ _ => true
  | .call { callee := .value _, .. } => true
  | _ => false
/-- a load of memory that nothing of the region turns is as quiet as a number -/
def isLoad : Op → Bool
  | .load _ _ => true
  | _ => false
/-- a call that looks only; the one whose result goes to Z may make memory -/
def lookZ (Z : Option Tmp) (o : Oper) : Bool := lookOp o.op && !(o.dst.isSome && o.dst == Z)
def isCall : Op → Bool
  | .call { callee := .value _, .. } => true
  | _ => false
def lastCall (l : List Oper) : Option Tmp := l.foldl (fun z o => if isCall o.op = true then o.dst else z) none
def pureIn (W : List Nat) (op : Op) : Bool := pureOp op || (isLoad op && !W.isEmpty)
def lookTmps (ops : Array Oper) (o : Oper) : List Tmp :=
  (o.op.operands.toList.filterMap fun | .tmp t => some t | _ => none) ++ (match o.guard with
    | some (j, _) => ((ops[j]?).bind (·.dst)).toList
    | none => [])
def reaches (l : List Oper) : Nat → Nat → Nat → Bool
  | 0, _, _ => false
  | d + 1, i, j => match l[i]? with
    | some o => o.after.any fun e => Region.binds .any e && (e.on == j || reaches l d e.on j)
    | none => false
/-- the order is open, and it doesn't matter -/
def drawB (W : List Nat) (Z : Option Tmp) (l : List Oper) : Bool :=
  (List.range l.length).all fun i => match l[i]? with
    | some o =>
      (o.after.all fun e => !Region.binds .any e || decide (e.on < i)) &&
      (match o.op with | .select _ _ => false | _ => true) &&
      ((List.range l.length).all fun j => match l[j]? with
        | some p => (match p.dst with
            | some d => (!(lookTmps l.toArray o).contains d || (decide (j < i) && reaches l l.length i j) || (decide (i < j) && reaches l l.length j i)) && (decide (j = i) || o.dst != some d)
            | none => true) &&
          (decide (i ≤ j) || pureIn W o.op || pureIn W p.op || (lookZ Z o && lookZ Z p) || reaches l l.length i j)
        | none => true)
    | none => true
def roH (h : List Blk) : List Blk := h.map fun b => { b with ro := true }
def Sc.within (n : Nat) : Sc → Bool
  | .v _ => true
  | .p i _ => decide (i < n)
  | .f _ caps => caps.all fun x => decide (x.1 < n)
  | .s i _ _ _ _ => decide (i < n)
def Cp.within (n : Nat) : Cp → Bool
  | .c x => x.within n
  | .agg l => l.all (Sc.within n)
def AV.within (n : Nat) : AV → Bool
  | .one x => x.within n
  | .tup l => l.all (Cp.within n)
noncomputable def evLoadW (W : List Nat) (op : Op) (sl : List AV) (h : List Blk) (k : KA R) : Option R :=
  match op with
  | .load t x => match getA sl x with
    | some (.one (.c (.p i off))) => if W.elem i = true then evLoad P t (.one (.c (.p i off))) h k else none
    | _ => none
  | _ => none
noncomputable def storesOut (W : List Nat) (op : Op) (sl : List AV) : Bool :=
  match op with
  | .store _ x _ => match getA sl x with
    | some (.one (.c (.p i _))) => !W.elem i
    | _ => false
  | _ => false
noncomputable def evDraw (W : List Nat) (Z : Option Tmp) (call : FuncId → List AV → List Blk → KA R → Option R) (ops : Array Oper) : List Oper → List AV → List Blk → (List AV → List Blk → Option R) → Option R
  | [], sl, h, k => k sl h
  | o :: rest, sl, h, k => match wantedA ops sl o with
    | some b => if b = true then
        (if pureOp o.op = true then evOp P call o sl h fun v _ => evDraw W Z call ops rest (putA sl o.dst v) h k
        else if pureIn W o.op = true then evLoadW P W o.op sl h fun v _ => evDraw W Z call ops rest (putA sl o.dst v) h k
        else if lookZ Z o = true then evOp P call o sl (roH h) fun v _ => if v.within h.length = true then evDraw W Z call ops rest (putA sl o.dst v) h k else none
        else if W.isEmpty = true ∨ storesOut W o.op sl = true then evOp P call o sl h fun v h' => evDraw W Z call ops rest (putA sl o.dst v) h' k else none)
      else evDraw W Z call ops rest (putA sl o.dst undefA) h k
    | none => none

/-- the blocks that a region's loads look at -/
noncomputable def loadBlocks : List Oper → List AV → List Nat
  | [], _ => []
  | o :: l, sl => match o.op with
    | .load _ x => match getA sl x with
      | some (.one (.c (.p i _))) => i :: loadBlocks l sl
      | _ => loadBlocks l sl
    | _ => loadBlocks l sl
inductive Ex where
  | normal
  | exit (id : Nat)
  | ret

abbrev KC (R : Type) := Ex → List AV → List Blk → Option R

noncomputable def loopE (body : List AV → List Blk → KC R → Option R) : Nat → List AV → List Blk → KC R → Option R
  | 0, _, _, _ => none
  | n + 1, sl, h, k => body sl h fun e sl' h' => match e with
    | .normal => forceL sl' fun sl' => forceL h' fun h' => loopE body n sl' h' k
    | .exit i => k (.exit i) sl' h'
    | .ret => k .ret sl' h'

noncomputable def evSeqK (f : List AV → List Blk → KC R → Option R) (k : KC R) (e : Ex) (sl : List AV) (h : List Blk) : Option R :=
  match e with
  | .normal => f sl h k
  | .exit i => k (.exit i) sl h
  | .ret => k .ret sl h
noncomputable def evBlockK (id : Nat) (k : KC R) (e : Ex) (sl : List AV) (h : List Blk) : Option R :=
  match e with
  | .normal => k .normal sl h
  | .exit i => if i = id then k .normal sl h else k (.exit i) sl h
  | .ret => k .ret sl h
noncomputable def evCondK (c : Option AV) (f g : Option R) : Option R :=
  match c with
  | some (.one (.c (.v (.bool t)))) => if t = true then f else g
  | _ => none
noncomputable def evRegion (call : FuncId → List AV → List Blk → KA R → Option R) (ops : Array Oper) (draw : Bool) (sl : List AV) (h : List Blk) (k : KC R) : Option R :=
  if draw = true then (if P.follows .mixedOrders = true ∧ (lastCall ops.toList).isSome = true ∧ drawB [] (lastCall ops.toList) ops.toList = true then evDraw P [] (lastCall ops.toList) call ops ops.toList sl h (k .normal)
    else if P.follows .mixedOrders = true ∧ drawB [] none ops.toList = true then evDraw P [] none call ops ops.toList sl h (k .normal)
    else match evOps P (fun _ _ _ (_ : KA (List Nat)) => none) ops ops.toList sl h (fun sl' _ => some (loadBlocks ops.toList sl')) with
      | some W => if P.follows .mixedOrders = true ∧ drawB W none ops.toList = true then evDraw P W none call ops ops.toList sl h (k .normal) else none
      | none => none)
  else evOps P call ops ops.toList sl h (k .normal)
noncomputable def evCode (call : FuncId → List AV → List Blk → KA R → Option R) (n : Nat) (c : Code) : List AV → List Blk → KC R → Option R :=
  Code.rec (motive := fun _ => List AV → List Blk → KC R → Option R)
    (fun sl h k => k .normal sl h)
    (fun _ ops draw sl h k => evRegion P call ops draw sl h k)
    (fun _ _ fa fb sl h k => fa sl h (evSeqK fb k))
    (fun c _ _ fa fb sl h k => evCondK (getA sl c) (fa (sharpC c true sl) h k) (fb (sharpC c false sl) h k))
    (fun id _ fb sl h k => fb sl h (evBlockK id k))
    (fun _ fb sl h k => loopE fb n sl h k)
    (fun _ _ _ _ _ _ _ _ _ => none)
    (fun id sl h k => k (.exit id) sl h)
    (fun _ _ _ _ _ => none)
    (fun _ sl h k => k .normal sl h)
    (fun _ _ _ _ => none)
    (fun sl h k => k .ret sl h)
    (fun _ _ _ _ => none) c

noncomputable def evRes (sl : List AV) (h : List Blk) : List ResultVar → Option (List Cp)
  | [] => some []
  | .tmp t :: l => match nth sl t with
    | some (.one c) => match evRes sl h l with
      | some m => some (c :: m)
      | none => none
    | _ => none
  | .cell a t :: l => match nth sl a with
    | some x => match (evLoad P t x h (fun v _ => some v)) with
      | some (.one c) => match evRes sl h l with
        | some m => some (c :: m)
        | none => none
      | _ => none
    | none => none
def resAV : List Cp → AV
  | [c] => .one c
  | l => .tup l

/-- a function of the table, walked -/
noncomputable def evFn (tbl : FuncId → Option Func) (call : FuncId → List AV → List Blk → KA R → Option R) (n : Nat) (g : FuncId) (args : List AV) (h : List Blk) (k : KA R) : Option R :=
  match tbl g with
  | some fn => match fn.body with
    | some c => evCode P call n c (args ++ List.replicate (fn.ntmps - args.length) undefA) h fun e sl' h' => match e with
      | .exit _ => none
      | _ => match evRes P sl' h' fn.results.toList with
        | some cs => k (resAV cs) h'
        | none => none
    | none => none
  | none => none

/-- calls are walked, too, d deep -/
noncomputable def evCall (tbl : FuncId → Option Func) (orc : FuncId → List AV → List Blk → KA R → Option R) (n : Nat) : Nat → FuncId → List AV → List Blk → KA R → Option R
  | 0, g, args, h, k => orc g args h k
  | d + 1, g, args, h, k => match tbl g with
    | some _ => evFn P tbl (evCall tbl orc n d) n g args h k
    | none => orc g args h k
end
end

end Go.Ev
