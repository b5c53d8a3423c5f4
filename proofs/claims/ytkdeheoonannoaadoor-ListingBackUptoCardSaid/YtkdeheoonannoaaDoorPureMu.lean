/- Functions of the program as plain Lean, and what they come to. Conditions: none. -/
import Derived.Test.YtkdeheoonannoaaDoorEwD
import Derived.Test.YtkdeheoonannoaaDoorPureM
open Go Go.Ew
namespace Go.Proofs.YtkdeheoonannoaaDoor.E
set_option linter.unusedVariables false
set_option linter.unusedSimpArgs false
set_option maxRecDepth 100000
/-! the texts as letters -/
def by8 (l : List Nat) : List UInt8 := l.map UInt8.ofNat
def hx (v : Nat) : List UInt8 := [UInt8.ofNat (digN (v / 16)), UInt8.ofNat (digN (v % 16))]
def zT (lo hi : Nat) : Nat → List UInt8
  | 0 => []
  | 1 => 36 :: hx lo
  | _ => 36 :: (hx hi ++ hx lo)
def zK : Nat → List UInt8
  | 0 => []
  | 1 => [98]
  | _ => [119]
def TX (i lo hi : Nat) : ByteArray := txS (i % 256) (decide (255 < i)) lo hi
def TL (i lo hi : Nat) : List UInt8 := (TX i lo hi).data.toList
def KL (i : Nat) : List UInt8 := (keyI i).data.toList
theorem evL_cs (B W : ByteArray) (l : List Nat) : evL B W (cs l) = by8 l := by
  unfold evL cs by8
  rw [List.flatMap_map]
  induction l with
  | nil => rfl
  | cons a l ih => simp only [List.flatMap_cons, List.map_cons, ih]; rfl
structure Info (i : Nat) : Prop where
  e : txI i = cs (txA i) ++ (zS (txZ i) ++ cs (txC i))
  a : ∀ n ∈ txA i, 0 < n ∧ n < 97
  c : ∀ n ∈ txC i, 0 < n ∧ n < 97
  z : txZ i < 3
  d : txZ i ≠ 0 → 36 ∉ txA i ∧ 36 ∉ txC i ∧ headok (txC i) = true
  n : txZ i = 0 → txC i = []
  l : if i < 256 then goodI i = true → lN i false = 1 + txZ i else txZ i = 0
theorem info {i : Nat} (h : i < 512) : Info i := by
  have := info_fin ⟨i, h⟩
  unfold infoB at this
  simp only [Bool.and_eq_true, decide_eq_true_eq, List.all_eq_true, plainC] at this
  obtain ⟨⟨⟨⟨⟨⟨h1, h2⟩, h3⟩, h4⟩, h5⟩, h6⟩, h7⟩ := this
  exact ⟨h1, h2, h3, h4, h5, h6, h7⟩
theorem TL_eq {i lo hi : Nat} (h : i < 512) : TL i lo hi = by8 (txA i) ++ (zT lo hi (txZ i) ++ by8 (txC i)) := by
  show (evL (dolB lo) (dolW hi lo) (txI i)).toArray.toList = _
  rw [(info h).e, evL_app, evL_app, evL_cs, evL_cs]
  have hz := (info h).z
  have : evL (dolB lo) (dolW hi lo) (zS (txZ i)) = zT lo hi (txZ i) := by
    match txZ i, hz with
    | 0, _ => rfl
    | 1, _ => rfl
    | 2, _ => rfl
  rw [this]
theorem KL_eq {i : Nat} (h : i < 512) : KL i = by8 (txA i) ++ (zK (txZ i) ++ by8 (txC i)) := by
  show (evL (bs [98]) (bs [119]) (txI i)).toArray.toList = _
  rw [(info h).e, evL_app, evL_app, evL_cs, evL_cs]
  have hz := (info h).z
  have : evL (bs [98]) (bs [119]) (zS (txZ i)) = zK (txZ i) := by
    match txZ i, hz with
    | 0, _ => rfl
    | 1, _ => rfl
    | 2, _ => rfl
  rw [this]
theorem by8_lt {l : List Nat} (h : ∀ n ∈ l, 0 < n ∧ n < 97) : ∀ c ∈ by8 l, 0 < c.toNat ∧ c.toNat < 97 := by
  intro c hc
  obtain ⟨n, hn, rfl⟩ := List.mem_map.1 hc
  have := h n hn
  rw [UInt8.toNat_ofNat', Nat.mod_eq_of_lt (by omega)]
  exact this
theorem by8_36 {l : List Nat} (h : ∀ n ∈ l, 0 < n ∧ n < 97) (h2 : 36 ∉ l) : (36 : UInt8) ∉ by8 l := by
  intro hc
  obtain ⟨n, hn, e⟩ := List.mem_map.1 hc
  have := h n hn
  have e2 := congrArg UInt8.toNat e
  rw [UInt8.toNat_ofNat', Nat.mod_eq_of_lt (by omega)] at e2
  have : n = 36 := e2
  exact h2 (this ▸ hn)
theorem dig_fin16 : ∀ n : Fin 16, (UInt8.ofNat (digN n.val)).toNat = digN n.val ∧ hexc (digN n.val) = true ∧ hd (digN n.val) = some n.val ∧ 0 < digN n.val ∧ digN n.val < 97 ∧ digN n.val ≠ 36 ∧ Go.Lib.upperB (UInt8.ofNat (digN n.val)) = UInt8.ofNat (digN n.val) := by decide +kernel
theorem hd_fin : ∀ c : Fin 256, ∀ x : Fin 16, hd c.val = some x.val → Go.Lib.upperB (UInt8.ofNat c.val) = UInt8.ofNat c.val → c.val = digN x.val := by decide +kernel
theorem hx_mem {v : Nat} (h : v < 256) : ∀ c ∈ hx v, 0 < c.toNat ∧ c.toNat < 97 ∧ c ≠ 36 ∧ hexc c.toNat = true := by
  intro c hc
  have f1 := dig_fin16 ⟨v / 16, by omega⟩
  have f2 := dig_fin16 ⟨v % 16, by omega⟩
  dsimp only at f1 f2
  unfold hx at hc
  rcases List.mem_cons.1 hc with e | e
  · rw [e, f1.1]; exact ⟨f1.2.2.2.1, f1.2.2.2.2.1, fun z => f1.2.2.2.2.2.1 (by rw [← f1.1, z]; rfl), f1.2.1⟩
  · rw [List.mem_singleton.1 e, f2.1]; exact ⟨f2.2.2.2.1, f2.2.2.2.2.1, fun z => f2.2.2.2.2.2.1 (by rw [← f2.1, z]; rfl), f2.2.1⟩
theorem hexF_cons (c : UInt8) (r : List UInt8) (acc : Nat) : hexF (c :: r) acc = match hd c.toNat with | some d => hexF r (acc * 16 + d) | none => none := rfl
theorem hexF_hx {v : Nat} (h : v < 256) (r : List UInt8) (acc : Nat) : hexF (hx v ++ r) acc = hexF r (acc * 256 + v) := by
  have f1 := dig_fin16 ⟨v / 16, by omega⟩
  have f2 := dig_fin16 ⟨v % 16, by omega⟩
  dsimp only at f1 f2
  show hexF (UInt8.ofNat (digN (v / 16)) :: UInt8.ofNat (digN (v % 16)) :: r) acc = _
  rw [hexF_cons, f1.1, f1.2.2.1]
  show hexF (UInt8.ofNat (digN (v % 16)) :: r) (acc * 16 + v / 16) = _
  rw [hexF_cons, f2.1, f2.2.2.1]
  show hexF r ((acc * 16 + v / 16) * 16 + v % 16) = _
  rw [show (acc * 16 + v / 16) * 16 + v % 16 = acc * 256 + v by omega]
theorem up_hx {v : Nat} (h : v < 256) : Go.Lib.toUpperA (hx v) = hx v := by
  have f1 := dig_fin16 ⟨v / 16, by omega⟩
  have f2 := dig_fin16 ⟨v % 16, by omega⟩
  dsimp only at f1 f2
  show [_, _] = [_, _]
  rw [f1.2.2.2.2.2.2, f2.2.2.2.2.2.2]
theorem dig_of {c : UInt8} {x : Nat} (h : hd c.toNat = some x) (hu : Go.Lib.upperB c = c) : x < 16 ∧ c = UInt8.ofNat (digN x) := by
  have hx := (hd_lt h).1
  refine ⟨hx, ?_⟩
  have := hd_fin ⟨c.toNat, c.toNat_lt⟩ ⟨x, hx⟩ h (by dsimp only; rw [UInt8.ofNat_toNat]; exact hu)
  dsimp only at this
  rw [← this, UInt8.ofNat_toNat]
theorem hexF2 {l : List UInt8} {v : Nat} (hl : l.length = 2) (h : hexF l 0 = some v) (hu : Go.Lib.toUpperA l = l) : v < 256 ∧ l = hx v := by
  match l, hl with
  | [a, b], _ =>
    have hu' : [Go.Lib.upperB a, Go.Lib.upperB b] = [a, b] := hu
    simp only [List.cons.injEq, and_true] at hu'
    unfold hexF at h
    cases e : hd a.toNat with
    | none => rw [e] at h; simp at h
    | some x =>
      rw [e] at h
      dsimp only at h
      unfold hexF at h
      cases e2 : hd b.toNat with
      | none => rw [e2] at h; simp at h
      | some y =>
        rw [e2] at h
        dsimp only [hexF] at h
        simp only [Option.some.injEq] at h
        obtain ⟨hx1, rfl⟩ := dig_of e hu'.1
        obtain ⟨hy1, rfl⟩ := dig_of e2 hu'.2
        subst h
        refine ⟨by omega, ?_⟩
        unfold hx
        rw [show ((0 * 16 + x) * 16 + y) / 16 = x by omega, show ((0 * 16 + x) * 16 + y) % 16 = y by omega]
theorem hexF4 {l : List UInt8} {v : Nat} (hl : l.length = 4) (h : hexF l 0 = some v) (hu : Go.Lib.toUpperA l = l) : v < 65536 ∧ l = hx (v / 256) ++ hx (v % 256) := by
  match l, hl with
  | [a, b, c, d], _ =>
    have hu' : [Go.Lib.upperB a, Go.Lib.upperB b, Go.Lib.upperB c, Go.Lib.upperB d] = [a, b, c, d] := hu
    simp only [List.cons.injEq, and_true] at hu'
    unfold hexF at h
    cases e : hd a.toNat with
    | none => rw [e] at h; simp at h
    | some x =>
      rw [e] at h
      dsimp only at h
      unfold hexF at h
      cases e2 : hd b.toNat with
      | none => rw [e2] at h; simp at h
      | some y =>
        rw [e2] at h
        dsimp only at h
        obtain ⟨hx1, rfl⟩ := dig_of e hu'.1
        obtain ⟨hy1, rfl⟩ := dig_of e2 hu'.2.1
        unfold hexF at h
        cases e3 : hd c.toNat with
        | none => rw [e3] at h; simp at h
        | some z =>
          rw [e3] at h
          dsimp only at h
          unfold hexF at h
          cases e4 : hd d.toNat with
          | none => rw [e4] at h; simp at h
          | some t =>
            rw [e4] at h
            dsimp only [hexF] at h
            simp only [Option.some.injEq] at h
            obtain ⟨hz1, rfl⟩ := dig_of e3 hu'.2.2.1
            obtain ⟨ht1, rfl⟩ := dig_of e4 hu'.2.2.2
            subst h
            refine ⟨by omega, ?_⟩
            have q1 : ((((0 * 16 + x) * 16 + y) * 16 + z) * 16 + t) / 256 / 16 = x := by omega
            have q2 : ((((0 * 16 + x) * 16 + y) * 16 + z) * 16 + t) / 256 % 16 = y := by omega
            have q3 : ((((0 * 16 + x) * 16 + y) * 16 + z) * 16 + t) % 256 / 16 = z := by omega
            have q4 : ((((0 * 16 + x) * 16 + y) * 16 + z) * 16 + t) % 256 % 16 = t := by omega
            unfold hx
            rw [q1, q2, q3, q4]
            rfl
theorem hexF_cut {p : List UInt8} {c : UInt8} (h : hd c.toNat = none) (r : List UInt8) : ∀ (acc : Nat), hexF (p ++ c :: r) acc = none := by
  induction p with
  | nil => intro acc; show hexF (c :: r) acc = none; unfold hexF; rw [h]
  | cons a p ih =>
    intro acc
    show hexF (a :: (p ++ c :: r)) acc = none
    unfold hexF
    cases hd a.toNat with
    | none => rfl
    | some d => exact ih _
theorem idx_at {p r : List UInt8} (h : (36 : UInt8) ∉ p) : Go.Lib.indexByte (p ++ 36 :: r) 36 = p.length := by
  induction p with
  | nil => rfl
  | cons a p ih =>
    show (if a == 36 then (0 : Int) else if Go.Lib.indexByte (p ++ 36 :: r) 36 == -1 then -1 else Go.Lib.indexByte (p ++ 36 :: r) 36 + 1) = _
    rw [ih (fun z => h (List.mem_cons_of_mem _ z)), if_neg (by rw [beq_iff_eq]; intro z; exact h (by rw [z]; exact List.mem_cons_self ..)), if_neg (by rw [beq_iff_eq]; omega)]
    simp
theorem idx_inv : ∀ {l : List UInt8}, 0 ≤ Go.Lib.indexByte l 36 → ∃ p r, l = p ++ 36 :: r ∧ (36 : UInt8) ∉ p
  | [], h => by exact absurd h (by decide)
  | a :: l, h => by
    have hh : 0 ≤ (if a == 36 then (0 : Int) else if Go.Lib.indexByte l 36 == -1 then -1 else Go.Lib.indexByte l 36 + 1) := h
    by_cases e : a = 36
    · exact ⟨[], l, by rw [e]; rfl, by simp⟩
    · rw [if_neg (by rw [beq_iff_eq]; exact e)] at hh
      by_cases e2 : Go.Lib.indexByte l 36 = -1
      · rw [if_pos (by rw [beq_iff_eq]; exact e2)] at hh; omega
      · have := (idx_spec 36 l).1
        obtain ⟨p, r, h1, h2⟩ := idx_inv (l := l) (by omega)
        exact ⟨a :: p, r, by rw [h1]; rfl, by simp only [List.mem_cons, not_or]; exact ⟨fun z => e z.symm, h2⟩⟩
theorem idx_none {l : List UInt8} (h : (36 : UInt8) ∉ l) : Go.Lib.indexByte l 36 < 0 := by
  rcases Int.lt_or_le (Go.Lib.indexByte l 36) 0 with g | g
  · exact g
  · obtain ⟨p, r, e, _⟩ := idx_inv g
    exact absurd (by rw [e]; simp) h
end Go.Proofs.YtkdeheoonannoaaDoor.E
