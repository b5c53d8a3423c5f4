/- Functions of the program as plain Lean, and what they come to. Conditions: none. -/
import Derived.Test.YtibgfodjecnnkaaEwD
import Derived.Test.YtibgfodjecnnkaaWalkO
open Go Go.Ew
namespace Go.Proofs.Ytibgfodjecnnkaa.E
set_option linter.unusedVariables false
set_option linter.unusedSimpArgs false
set_option maxRecDepth 100000

/-! objects_Order -/
abbrev O5 := Int × Int × Int × Int × Int
def lt5 (a b : O5) : Bool := decide (a.2.1 < b.2.1) || (decide (a.2.1 = b.2.1) && decide (a.2.2.2.2 < b.2.2.2.2))
def insRev (x : O5) : List O5 → List O5
  | [] => [x]
  | y :: r => if lt5 x y = true then y :: insRev x r else x :: y :: r
def insR (x : O5) (s : List O5) : List O5 := (insRev x s.reverse).reverse
theorem insR_nil (x : O5) : insR x [] = [x] := rfl
theorem insR_snoc (x y : O5) (t : List O5) : insR x (t ++ [y]) = if lt5 x y = true then insR x t ++ [y] else t ++ [y, x] := by
  unfold insR
  rw [List.reverse_append, List.reverse_singleton, List.singleton_append, insRev]
  split <;> simp
theorem insR_length (x : O5) (s : List O5) : (insR x s).length = s.length + 1 := by
  have key : ∀ r : List O5, (insRev x r).length = r.length + 1 := by
    intro r
    induction r with
    | nil => rfl
    | cons y r ih => unfold insRev; split <;> simp [ih]
  unfold insR
  rw [List.length_reverse, key, List.length_reverse]
def isort (l : List O5) : List O5 := l.foldl (fun s x => insR x s) []
theorem isort_snoc (l : List O5) (x : O5) : isort (l ++ [x]) = insR x (isort l) := by simp [isort, List.foldl_append]
theorem isort_length (l : List O5) : (isort l).length = l.length := by
  have : ∀ (l s : List O5), (l.foldl (fun s x => insR x s) s).length = s.length + l.length := by
    intro l
    induction l with
    | nil => intro s; simp
    | cons x l ih => intro s; simp only [List.foldl_cons, ih, insR_length, List.length_cons]; omega
  have h := this l []
  rw [List.length_nil, Nat.zero_add] at h
  exact h
theorem cmp_spec (a b : Int) : cmp_Compare.F (a, b, ()) = some (if a < b then -1 else if b < a then 1 else 0, ()) := by
  unfold cmp_Compare.F cmp_Compare.C cmp_Compare.G
  by_cases h : a < b
  · simp [h]
  · by_cases h2 : b < a <;> simp [h, h2]
abbrev Z5 : O5 := ((0 : Int), (0 : Int), (0 : Int), (0 : Int), (0 : Int))
theorem inner_step {a b i : Int} {n : Nat} {b0 m : List O5} {k : Nat} (hn : m.length = n) (hk : k < n) (h1 : a < (k : Int)) (h0 : 0 ≤ a) (hb : (n : Int) ≤ 268435456) :
    objects_Order1.L71_1.step cmp_Compare.F n a b i (k : Int) b0 m = if lt5 (m.getD k Z5) (m.getD (k - 1) Z5) = true
      then some (Sum.inl ((n, a, b, (), i, ((k - 1 : Nat) : Int), ()), ((b0, ()), ((m.set k (m.getD (k - 1) Z5)).set (k - 1) (m.getD k Z5), ()), ()), ()))
      else some (Sum.inr ((n, a, b, (), i, ()), ((b0, ()), (m, ()), ()), ())) := by
  unfold objects_Order1.L71_1.step
  have hk0 : 0 < k := by omega
  rw [w64 (n := (k : Int) - 1) (by omega), show (k : Int) - 1 = ((k - 1 : Nat) : Int) by omega]
  have g1 : (k : Int) > a := h1
  have g2 : (0 : Int) ≤ (k : Int) ∧ (k : Int) < (n : Int) := by omega
  have g3 : (0 : Int) ≤ ((k - 1 : Nat) : Int) ∧ ((k - 1 : Nat) : Int) < (n : Int) := by omega
  simp only [g1, decide_true, beq_self_eq_true, if_true, if_pos g2, if_pos g3, Int.toNat_natCast, Nat.zero_add, cmp_spec, Option.bind_some]
  generalize m.getD k Z5 = x
  generalize m.getD (k - 1) Z5 = y
  unfold lt5
  by_cases q1 : x.2.1 < y.2.1
  · simp [q1]
  · by_cases q2 : y.2.1 < x.2.1
    · have q3 : ¬ x.2.1 = y.2.1 := by omega
      simp [q1, q2, q3]
    · have q3 : x.2.1 = y.2.1 := by omega
      by_cases q4 : x.2.2.2.2 < y.2.2.2.2
      · simp [q1, q2, q3, q4]
      · by_cases q5 : y.2.2.2.2 < x.2.2.2.2 <;> simp [q1, q2, q3, q4, q5]
theorem inner_end {a b i j : Int} {n : Nat} {b0 m : List O5} (h1 : ¬ a < j) :
    objects_Order1.L71_1.step cmp_Compare.F n a b i j b0 m = some (Sum.inr ((n, a, b, (), i, ()), ((b0, ()), (m, ()), ()), ())) := by
  unfold objects_Order1.L71_1.step
  have g1 : ¬ j > a := h1
  simp [g1]
theorem getD_mid {p q : List O5} {x d : O5} : (p ++ x :: q).getD p.length d = x := by simp [List.getD_eq_getElem?_getD]
theorem inner_loop {b i : Int} {b0 : List O5} {p : List O5} {x : O5} : ∀ (n : Nat) (t : List O5), t.length = n → ∀ (u : List O5), ((p ++ t ++ x :: u).length : Int) ≤ 268435456 →
    objects_Order1.L71_1.F (((p ++ t ++ x :: u).length, (p.length : Int), b, (), i, ((p.length + t.length : Nat) : Int), ()), ((b0, ()), (p ++ t ++ x :: u, ()), ()), ()) =
      some (((p ++ t ++ x :: u).length, (p.length : Int), b, (), i, ()), ((b0, ()), (p ++ insR x t ++ u, ()), ()), ()) := by
  intro n
  induction n with
  | zero =>
    intro t ht u hu
    obtain rfl := List.length_eq_zero_iff.1 ht
    unfold objects_Order1.L71_1.F
    rw [iterU_eq]
    simp only [List.length_nil, Nat.add_zero]
    rw [inner_end (by omega)]
    simp [insR_nil]
  | succ n ih =>
    intro t ht u hu
    obtain ⟨s, y, rfl⟩ : ∃ s y, t = s ++ [y] := by
      rcases List.eq_nil_or_concat t with rfl | ⟨s, y, e⟩
      · simp at ht
      · exact ⟨s, y, by simpa using e⟩
    have hs : s.length = n := by simpa using ht
    unfold objects_Order1.L71_1.F
    rw [iterU_eq]
    simp only []
    rw [inner_step rfl (by simp) (by simp; omega) (by omega) (by simpa using hu)]
    have e1 : (p ++ (s ++ [y]) ++ x :: u).getD (p.length + (s ++ [y]).length) Z5 = x := by
      rw [← List.length_append]; exact getD_mid
    have e2 : (p ++ (s ++ [y]) ++ x :: u).getD (p.length + (s ++ [y]).length - 1) Z5 = y := by
      have : p ++ (s ++ [y]) ++ x :: u = (p ++ s) ++ y :: x :: u := by simp
      rw [this, show p.length + (s ++ [y]).length - 1 = (p ++ s).length by simp only [List.length_append, List.length_singleton]; omega]; exact getD_mid
    rw [e1, e2, insR_snoc]
    by_cases hlt : lt5 x y = true
    · rw [if_pos hlt, if_pos hlt]
      simp only []
      have e3 : ((p ++ (s ++ [y]) ++ x :: u).set (p.length + (s ++ [y]).length) y).set (p.length + (s ++ [y]).length - 1) x = p ++ s ++ x :: (y :: u) := by
        have : p ++ (s ++ [y]) ++ x :: u = (p ++ s) ++ y :: x :: u := by simp
        rw [this, show p.length + (s ++ [y]).length - 1 = (p ++ s).length by simp only [List.length_append, List.length_singleton]; omega, show p.length + (s ++ [y]).length = (p ++ s).length + 1 by simp only [List.length_append, List.length_singleton]; omega]
        rw [List.set_append_right _ _ (by omega), List.set_append_right _ _ (by omega)]
        simp
      have e4 : ((p ++ (s ++ [y]) ++ x :: u).length : Nat) = (p ++ s ++ x :: (y :: u)).length := by simp
      have e5 : p.length + (s ++ [y]).length - 1 = p.length + s.length := by simp only [List.length_append, List.length_singleton]; omega
      rw [e3, e4, e5]
      have := ih s hs (y :: u) (by rw [← e4]; exact hu)
      unfold objects_Order1.L71_1.F at this
      rw [this]
      simp
    · rw [if_neg hlt, if_neg hlt]
      simp
theorem outer_step {a b i : Int} {n : Nat} {b0 m : List O5} (h : i < b) (hi : 0 ≤ i ∧ i < 268435457) {m' : List O5} (hF : objects_Order1.L71_1.F ((n, a, b, (), i, i, ()), ((b0, ()), (m, ()), ()), ()) = some ((n, a, b, (), i, ()), ((b0, ()), (m', ()), ()), ())) :
    objects_Order1.L71_0.step objects_Order1.L71_1.F n a b i b0 m = some (Sum.inl ((n, a, b, (), i + 1, ()), ((b0, ()), (m', ()), ()), ())) := by
  unfold objects_Order1.L71_0.step
  simp only [h, decide_true, if_true, hF, Option.bind_some]
  rw [w64 (by omega)]
theorem outer_loop {b0 p q : List O5} : ∀ (k : Nat) (d r : List O5), r.length = k → ((p ++ d ++ r ++ q).length : Int) ≤ 268435456 →
    objects_Order1.L71_0.F (((p ++ d ++ r ++ q).length, (p.length : Int), ((p.length + (d ++ r).length : Nat) : Int), (), ((p.length + d.length : Nat) : Int), ()), ((b0, ()), (p ++ isort d ++ r ++ q, ()), ()), ()) =
      some ((), ((b0, ()), (p ++ isort (d ++ r) ++ q, ()), ()), ()) := by
  intro k
  induction k with
  | zero =>
    intro d r hr hl
    obtain rfl := List.length_eq_zero_iff.1 hr
    unfold objects_Order1.L71_0.F
    rw [iterU_eq]
    unfold objects_Order1.L71_0.step
    simp
  | succ k ih =>
    intro d r hr hl
    obtain ⟨x, r, rfl⟩ : ∃ x r', r = x :: r' := by
      cases r with
      | nil => simp at hr
      | cons x r => exact ⟨x, r, rfl⟩
    have hr' : r.length = k := by simpa using hr
    unfold objects_Order1.L71_0.F
    rw [iterU_eq]
    have hin := inner_loop (b := ((p.length + (d ++ x :: r).length : Nat) : Int)) (i := ((p.length + d.length : Nat) : Int)) (b0 := b0) (p := p) (x := x) (isort d).length (isort d) rfl (r ++ q) (by
      simp only [List.length_append, List.length_cons, isort_length] at hl ⊢; omega)
    have e1 : p ++ isort d ++ x :: (r ++ q) = p ++ isort d ++ (x :: r) ++ q := by simp
    have e2 : (p ++ isort d ++ x :: (r ++ q)).length = (p ++ d ++ (x :: r) ++ q).length := by simp [isort_length]
    rw [isort_length] at hin
    have hst := outer_step (a := (p.length : Int)) (b := ((p.length + (d ++ x :: r).length : Nat) : Int)) (i := ((p.length + d.length : Nat) : Int)) (by simp; omega) (by simp at hl; omega) hin
    rw [e2, e1] at hst
    simp only []
    rw [hst]
    simp only []
    have := ih (d ++ [x]) r hr' (by simpa using hl)
    unfold objects_Order1.L71_0.F at this
    rw [isort_snoc] at this
    have e3 : p ++ (d ++ [x]) ++ r ++ q = p ++ d ++ (x :: r) ++ q := by simp
    have e4 : p.length + (d ++ [x]).length = p.length + d.length + 1 := by simp; omega
    have e5 : d ++ [x] ++ r = d ++ x :: r := by simp
    rw [e3, e4, e5] at this
    have e6 : p ++ insR x (isort d) ++ (r ++ q) = p ++ insR x (isort d) ++ r ++ q := by simp
    rw [e6, show ((p.length + d.length : Nat) : Int) + 1 = ((p.length + d.length + 1 : Nat) : Int) by omega]
    exact this
theorem order1_spec (a : O5) (l : List O5) (h : (a :: l).length < 20) : objects_Order1.C (a, l, ()) = some (isort (a :: l), ()) := by
  unfold objects_Order1.C objects_Order1.G
  have h' : l.length + 1 < 20 := h
  rw [if_pos (by simp; omega)]
  have hA : objects_Order1.L65_0.F (((0 : Nat) + List.length (a :: l), (↑((0 : Nat) + List.length (a :: l)) : Int), (), (20 : Int), (0 : Int), (20 : Int), ()), (([], ()), (List.take (0 : Nat) (List.drop (0 : Nat) []) ++ a :: l, ()), ()), ()) =
      some (((a :: l).length, ((a :: l).length : Int), (), 20, 0, ()), (([], ()), (a :: l, ()), ()), ()) := by
    unfold objects_Order1.L65_0.F
    rw [iterU_eq]
    unfold objects_Order1.L65_0.step
    have : ¬ ((20 : Int) ≤ (l.length : Int) + 1) := by omega
    simp [this]
  have hB := outer_loop (b0 := []) (p := []) (q := []) l.length [a] l rfl (by simp; omega)
  simp only [hA, Option.bind_some]
  rw [w64 (by omega)]
  have e : isort [a] = [a] := rfl
  simp only [e, List.nil_append, List.append_nil, List.length_nil, List.singleton_append, List.length_singleton, Nat.zero_add, Int.ofNat_zero, Int.natCast_zero] at hB
  rw [show (0 : Int) + 1 = ((1 : Nat) : Int) by omega]
  rw [hB]
  simp only [Option.bind_some]
  have hC : objects_Order1.L65_1.F (((a :: l).length, ((a :: l).length : Int), (), 20, ()), (([], ()), (isort (a :: l), ()), ()), ()) = some ((), (([], ()), (isort (a :: l), ()), ()), ()) := by
    unfold objects_Order1.L65_1.F
    rw [iterU_eq]
    unfold objects_Order1.L65_1.step
    have : ¬ ((20 : Int) < (l.length : Int) + 1) := by omega
    simp [this]
  rw [hC]
  simp only [Option.bind_some, List.drop_zero]
  rw [List.take_of_length_le (by rw [isort_length]; simp)]
@[reducible] def objects_Order.as : List Shp := [.im ⟨.i .u8, [.i .u8, .i .u8, .i .u8, .i .u8]⟩]
@[reducible] def objects_Order.rs : List Shp := [.im ⟨.i .u8, [.i .u8, .i .u8, .i .u8, .i .u8]⟩]
noncomputable def objects_Order.F : (List O5 × Unit) → Option (List O5 × Unit) := fun x => match x.1 with
  | [] => some ([], ())
  | a :: l => objects_Order1.C (a, l, ())
noncomputable def tblO : FuncId → Option Func
  | 35 => some Go.Proofs.Try.f35
  | 50 => some Go.Proofs.Try.f50
  | 51 => some Go.Proofs.Try.f51
  | 65 => some Go.Proofs.Try.f65
  | 71 => some Go.Proofs.Try.f71
  | _ => none
theorem tblO_ok : TblOK Go.Proofs.Try.prog tblO := by
  intro g fn h
  unfold tblO at h
  split at h
  · simp only [Option.some.injEq] at h; subst h; exact ⟨Go.Proofs.Try.func35, by kernel_rfl⟩
  · simp only [Option.some.injEq] at h; subst h; exact ⟨Go.Proofs.Try.func50, by kernel_rfl⟩
  · simp only [Option.some.injEq] at h; subst h; exact ⟨Go.Proofs.Try.func51, by kernel_rfl⟩
  · simp only [Option.some.injEq] at h; subst h; exact ⟨Go.Proofs.Try.func65, by kernel_rfl⟩
  · simp only [Option.some.injEq] at h; subst h; exact ⟨Go.Proofs.Try.func71, by kernel_rfl⟩
  · simp at h
theorem order_nil1 : PureE Go.Proofs.Try.prog 35 (fun c : Nat => [.one (.c (.v (.slice none 0 c)))]) objects_Order.rs fun _ => some ([], ()) :=
  fnE_gen tblO_ok (ks := []) (ls := []) (n := 20) (d := 8) (by rfl) (fun c => by kernel_rfl)
theorem order_nil2 : PureE Go.Proofs.Try.prog 35 (fun c : Addr × Nat => [.one (.c (.v (.slice (some c.1) 0 c.2)))]) objects_Order.rs fun _ => some ([], ()) :=
  fnE_gen tblO_ok (ks := []) (ls := []) (n := 20) (d := 8) (by rfl) (fun c => by kernel_rfl)
theorem objects_Order.ok : PureOK Go.Proofs.Try.prog 35 objects_Order.as objects_Order.rs objects_Order.F :=
  (pure_list objects_Order1.ok order_nil1 order_nil2).of fun x y h => by
    obtain ⟨l, u⟩ := x
    cases l <;> exact h
theorem objects_Order_spec (l : List O5) (h : l.length < 20) : objects_Order.F (l, ()) = some (isort l, ()) := by
  cases l with
  | nil => rfl
  | cons a l => exact order1_spec a l h
end Go.Proofs.Ytibgfodjecnnkaa.E
