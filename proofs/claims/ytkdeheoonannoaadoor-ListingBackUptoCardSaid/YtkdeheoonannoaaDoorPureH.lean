/- Functions of the program as plain Lean, and what they come to. Conditions: none. -/
import Derived.Test.YtkdeheoonannoaaDoorEwD
import Derived.Test.YtkdeheoonannoaaDoorPureTz
open Go Go.Ew
namespace Go.Proofs.YtkdeheoonannoaaDoor.E
open Go.IntKind (wrap)
set_option linter.unusedVariables false
set_option linter.unusedSimpArgs false
set_option maxRecDepth 100000
/-! numbers out of texts -/
def hd (b : Nat) : Option Nat := if 48 ≤ b ∧ b ≤ 57 then some (b - 48) else if 65 ≤ b ∧ b ≤ 70 then some (b - 55) else if 97 ≤ b ∧ b ≤ 102 then some (b - 87) else none
def hexF : List UInt8 → Nat → Option Nat
  | [], acc => some acc
  | b :: l, acc => match hd b.toNat with
    | some d => hexF l (acc * 16 + d)
    | none => none
theorem hd_lt {b d : Nat} (h : hd b = some d) : d < 16 ∧ b < 128 := by
  unfold hd at h
  split at h
  · simp only [Option.some.injEq] at h; omega
  split at h
  · simp only [Option.some.injEq] at h; omega
  split at h
  · simp only [Option.some.injEq] at h; omega
  · simp at h
theorem digS_hd (c : Nat) : R.digS (c : Int) = match hd c with | some d => ((d : Int), true) | none => (0, false) := by
  unfold R.digS hd
  by_cases a : 48 ≤ c ∧ c ≤ 57
  · rw [if_pos (by omega), if_pos a]; simp only [Prod.mk.injEq, and_true]; omega
  rw [if_neg (by omega), if_neg a]
  by_cases b : 65 ≤ c ∧ c ≤ 70
  · rw [if_pos (by omega), if_pos b]; simp only [Prod.mk.injEq, and_true]; omega
  rw [if_neg (by omega), if_neg b]
  by_cases d : 97 ≤ c ∧ c ≤ 102
  · rw [if_pos (by omega), if_pos d]; simp only [Prod.mk.injEq, and_true]; omega
  rw [if_neg (by omega), if_neg d]
theorem hd_high {c : Nat} (h : 128 ≤ c) : hd c = none := by
  unfold hd
  rw [if_neg (by omega), if_neg (by omega), if_neg (by omega)]
theorem data_drop (s : ByteArray) (pos : Nat) (h : pos < s.size) : s.data.toList.drop pos = s[pos]'h :: s.data.toList.drop (pos + 1) := by
  rw [List.drop_eq_getElem_cons (by rw [Array.length_toList]; exact h)]
  rfl
theorem readL_eq (s : ByteArray) : ∀ (n pos acc : Nat), s.size ≤ pos + n → pos ≤ s.size → acc * 16 ^ (s.size - pos) < 65536 → (acc + 1) * 16 ^ (s.size - pos) ≤ 65536 →
    R.readL s n pos (acc : Int) = match hexF (s.data.toList.drop pos) acc with | some v => ((v : Int), 0) | none => (0, 6)
  | 0, pos, acc, h1, h2, h3, h4 => by
    have : s.data.toList.drop pos = [] := List.drop_eq_nil_of_le (by rw [Array.length_toList]; show s.size ≤ pos; omega)
    rw [this]; rfl
  | n + 1, pos, acc, h1, h2, h3, h4 => by
    rcases Nat.lt_or_ge pos s.size with hp | hp
    · rw [R.readL_go s n pos _ hp, data_drop s pos hp]
      by_cases ha : (s[pos]'hp).toNat < 128
      · rw [decode_ascii s pos hp ha]
        dsimp only
        rw [digS_hd]
        unfold hexF
        cases e : hd (s[pos]'hp).toNat with
        | none => rfl
        | some d =>
          have hd1 := (hd_lt e).1
          dsimp only
          rw [if_pos rfl]
          have e16 : 16 ^ (s.size - pos) = 16 * 16 ^ (s.size - (pos + 1)) := by
            rw [show s.size - pos = (s.size - (pos + 1)) + 1 by omega, Nat.pow_succ, Nat.mul_comm]
          have p1 : 1 ≤ 16 ^ (s.size - (pos + 1)) := Nat.one_le_pow _ _ (by decide)
          rw [e16] at h4
          have b4 : (acc * 16 + 16) * 16 ^ (s.size - (pos + 1)) ≤ 65536 := by
            rw [show (acc * 16 + 16) = (acc + 1) * 16 by omega, Nat.mul_assoc]; exact h4
          have b5 : (acc * 16 + d + 1) * 16 ^ (s.size - (pos + 1)) ≤ 65536 := Nat.le_trans (Nat.mul_le_mul_right _ (by omega)) b4
          have b6 : acc * 16 + d + 1 ≤ 65536 := Nat.le_trans (Nat.le_mul_of_pos_right _ p1) b5
          have eo : bits .or .u16 (wrap .u16 ((acc : Int) * 16)) (d : Int) = ((acc * 16 + d : Nat) : Int) := by
            rw [w16 (by omega)]
            have := join16 4 (a := acc) (b := d) (by omega) (by omega)
            rw [show ((acc : Int) * 16) = ((2 ^ 4 * acc : Nat) : Int) by omega, this]
            omega
          rw [eo]
          have b7 : (acc * 16 + d) * 16 ^ (s.size - (pos + 1)) < 65536 := by
            have : (acc * 16 + d + 1) * 16 ^ (s.size - (pos + 1)) = (acc * 16 + d) * 16 ^ (s.size - (pos + 1)) + 16 ^ (s.size - (pos + 1)) := by rw [Nat.add_mul, Nat.one_mul]
            omega
          exact readL_eq s n (pos + 1) (acc * 16 + d) (by omega) (by omega) b7 b5
      · have hh := decode_high s pos hp (by omega)
        have e0 : R.digS ((Utf8.decode s pos).1 : Int) = (0, false) := by rw [digS_hd, hd_high (by exact hh.1)]
        rw [e0]
        unfold hexF
        rw [hd_high (by omega)]
        rfl
    · rw [R.readL_end s _ pos _ (by omega)]
      have : s.data.toList.drop pos = [] := List.drop_eq_nil_of_le (by rw [Array.length_toList]; show s.size ≤ pos; omega)
      rw [this]; rfl
theorem readS_eq (s : ByteArray) {d : Nat} (h1 : 1 ≤ d) (h2 : d ≤ 4) : R.readS s (d : Int) = (if s.size = d then (match hexF s.data.toList 0 with | some v => ((v : Int), 0) | none => (0, 6)) else (0, 6) : Int × Int) := by
  unfold R.readS
  rw [if_neg (by omega)]
  by_cases e : s.size = d
  · rw [if_pos (by omega), if_pos e]
    have p : 16 ^ (s.size - 0) ≤ 65536 := Nat.le_trans (Nat.pow_le_pow_right (by decide) (show s.size - 0 ≤ 4 by omega)) (by decide)
    have := readL_eq s s.size 0 0 (by omega) (by omega) (by omega) (by omega)
    rw [List.drop_zero] at this
    exact this
  · rw [if_neg (by omega), if_neg e]
theorem hexF_ascii : ∀ {l : List UInt8} {a v : Nat}, hexF l a = some v → ∀ b ∈ l, b.toNat < 128
  | [], a, v, h, b, hb => nomatch hb
  | c :: l, a, v, h, b, hb => by
    unfold hexF at h
    cases e : hd c.toNat with
    | none => rw [e] at h; simp at h
    | some d =>
      rw [e] at h
      rcases List.mem_cons.1 hb with q | q
      · rw [q]; exact (hd_lt e).2
      · exact hexF_ascii h b q
theorem idx_spec (c : UInt8) : ∀ l : List UInt8, -1 ≤ Go.Lib.indexByte l c ∧ Go.Lib.indexByte l c < l.length
  | [] => ⟨by show (-1 : Int) ≤ -1; decide, by show (-1 : Int) < 0; decide⟩
  | b :: l => by
    obtain ⟨h1, h2⟩ := idx_spec c l
    unfold Go.Lib.indexByte
    simp only [List.length_cons]
    split
    · omega
    · split
      · omega
      · omega
def bareR (s : ByteArray) (d : Nat) (L : ByteArray) : ByteArray × Int × Bool :=
  if Go.Lib.indexByte s.data.toList 36 < 0 then (bs [], 0, false) else if (s.size : Int) < Go.Lib.indexByte s.data.toList 36 + 1 + d then (bs [], 0, false) else
  if (R.readS (s.extract (Go.Lib.indexByte s.data.toList 36 + 1).toNat (Go.Lib.indexByte s.data.toList 36 + 1 + d).toNat) d).2 = 0 then
    (if upB (s.extract (Go.Lib.indexByte s.data.toList 36 + 1).toNat (Go.Lib.indexByte s.data.toList 36 + 1 + d).toNat) = s.extract (Go.Lib.indexByte s.data.toList 36 + 1).toNat (Go.Lib.indexByte s.data.toList 36 + 1 + d).toNat then
      (joinB [s.extract 0 (Go.Lib.indexByte s.data.toList 36).toNat, L, s.extract (Go.Lib.indexByte s.data.toList 36 + 1 + d).toNat s.size] ByteArray.empty, (R.readS (s.extract (Go.Lib.indexByte s.data.toList 36 + 1).toNat (Go.Lib.indexByte s.data.toList 36 + 1 + d).toNat) d).1, true) else (bs [], 0, false)) else (bs [], 0, false)
theorem joinB_list (l : List ByteArray) : (joinB l ByteArray.empty).data.toList = (l.map (·.data.toList)).flatten := by
  unfold joinB Go.Lib.join
  show (List.intercalate ([] : List UInt8) _).toArray.toList = _
  rw [flat0]
theorem ext_list (s : ByteArray) (a b : Nat) : (s.extract a b).data.toList = (s.data.toList.drop a).take (b - a) := by
  rw [ByteArray.data_extract, Array.toList_extract, List.extract_eq_take_drop]
theorem sz_list (s : ByteArray) : s.size = s.data.toList.length := by rw [Array.length_toList]; rfl
theorem join3_size {s L : ByteArray} {a b : Nat} (h1 : a ≤ b) (h2 : b ≤ s.size) (hL : L.size = 1) : (joinB [s.extract 0 a, L, s.extract b s.size] ByteArray.empty).size = a + 1 + (s.size - b) := by
  rw [sz_list, joinB_list]
  simp only [List.map_cons, List.map_nil, List.flatten_cons, List.flatten_nil, List.append_nil, List.length_append, ext_list, List.length_take, List.length_drop, ← sz_list, hL]
  omega
theorem bareR_size {s L : ByteArray} {d : Nat} (hL : L.size = 1) (hd : 1 ≤ d) (hs : s.size ≤ 140737488355328) : (bareR s d L).1.size ≤ 140737488355328 := by
  obtain ⟨i1, i2⟩ := idx_spec 36 s.data.toList
  rw [← sz_list] at i2
  have e0 : (bs []).size ≤ 140737488355328 := by decide
  unfold bareR
  split
  · exact e0
  split
  · exact e0
  split
  · split
    · show (joinB _ _).size ≤ _
      rw [join3_size (by omega) (by omega) hL]
      omega
    · exact e0
  · exact e0
theorem bare_spec {s L : ByteArray} {d : Nat} (hd : d = 2 ∨ d = 4) (hL : L.size = 1) (hs : s.size ≤ 140737488355328) : listing_bare.F (s, (d : Int), L, ()) = some ((bareR s d L).1, (bareR s d L).2.1, (bareR s d L).2.2, ()) := by
  obtain ⟨i1, i2⟩ := idx_spec 36 s.data.toList
  rw [← sz_list] at i2
  unfold listing_bare.F listing_bare.C listing_bare.G bareR
  dsimp only
  refine (bind_eq (show strings_IndexByte.F (s, 36, ()) = some (Go.Lib.indexByte s.data.toList 36, ()) from rfl)).trans ?_
  obtain ⟨k, hk⟩ : ∃ k, Go.Lib.indexByte s.data.toList 36 = k := ⟨_, rfl⟩
  rw [hk] at i1 i2 ⊢
  dsimp only
  by_cases n0 : k < 0
  · rw [if_pos n0]
    exact if_neg (show ¬ (decide (k < 0) == false) = true by rw [decide_eq_true n0]; decide)
  rw [if_neg n0]
  refine (if_pos (show (decide (k < 0) == false) = true by rw [decide_eq_false n0]; rfl)).trans ?_
  have e1 : wrap .i64 (k + 1) = k + 1 := w64 (by omega)
  have e2 : wrap .i64 (k + 1 + (d : Int)) = k + 1 + d := w64 (by omega)
  rw [e1, e2]
  by_cases n1 : (s.size : Int) < k + 1 + d
  · rw [if_pos n1]
    exact if_pos (decide_eq_true n1)
  rw [if_neg n1]
  refine (if_neg (by rw [decide_eq_true_eq]; exact n1)).trans ?_
  refine (if_pos ⟨by omega, by omega, by omega⟩).trans ?_
  obtain ⟨n, hn⟩ : ∃ n, s.extract (k + 1).toNat (k + 1 + d).toNat = n := ⟨_, rfl⟩
  rw [hn]
  have nsz : n.size = d := by
    rw [sz_list, ← hn, ext_list, List.length_take, List.length_drop, ← sz_list]; omega
  refine (bind_eq (show word_Read.F (n, (d : Int), ()) = some ((R.readS n d).1, (R.readS n d).2, ()) from rfl)).trans ?_
  dsimp only
  by_cases n2 : (R.readS n d).2 = 0
  · rw [if_pos n2]
    refine (if_pos (by rw [n2]; rfl)).trans ?_
    have asc : n.data.toList.all (fun b => decide (b.toNat < 128)) = true := by
      rw [readS_eq n (by omega) (by omega), if_pos nsz] at n2
      cases e : hexF n.data.toList 0 with
      | none => rw [e] at n2; exact absurd n2 (by decide)
      | some v => exact List.all_eq_true.2 fun b hb => by simpa using hexF_ascii e b hb
    refine (bind_eq (show strings_ToUpper.F (n, ()) = some (upB n, ()) from if_pos ⟨by show n.size ≤ 1000; omega, asc⟩)).trans ?_
    by_cases n3 : upB n = n
    · rw [if_pos n3]
      refine (if_neg (by rw [sEq_iff.2 n3]; decide)).trans ?_
      refine (if_pos ⟨by omega, by omega, by omega⟩).trans ?_
      refine (if_pos ⟨by omega, by omega, by omega⟩).trans ?_
      rw [Int.toNat_natCast]
      have j : listing_join.F ([s.extract 0 k.toNat, L, s.extract (k + 1 + d).toNat s.size], ()) = some (joinB [s.extract 0 k.toNat, L, s.extract (k + 1 + d).toNat s.size] ByteArray.empty, ()) := by
        show Option.bind (strings_Join.F ([s.extract 0 k.toNat, L, s.extract (k + 1 + d).toNat s.size], ByteArray.empty, ())) _ = _
        have hj : strings_Join.F ([s.extract 0 k.toNat, L, s.extract (k + 1 + d).toNat s.size], ByteArray.empty, ()) = some (joinB [s.extract 0 k.toNat, L, s.extract (k + 1 + d).toNat s.size] ByteArray.empty, ()) := by
          unfold strings_Join.F
          refine if_pos ⟨by show 3 ≤ 1000; decide, ?_⟩
          show (joinB [s.extract 0 k.toNat, L, s.extract (k + 1 + d).toNat s.size] ByteArray.empty).size ≤ _
          rw [join3_size (by omega) (by omega) hL]
          omega
        exact (bind_eq hj).trans rfl
      refine (bind_eq j).trans rfl
    · rw [if_neg n3]
      exact if_pos (by rw [sEq_no n3]; rfl)
  · rw [if_neg n2]
    exact if_neg (by simpa using n2)
end Go.Proofs.YtkdeheoonannoaaDoor.E
