/- The document's question whether bits fit an opcode, for each of its rows. Conditions: none. -/
import Derived.Test.YtihngfbkkhneeaaBit
namespace Go.Proofs.Ytihngfbkkhneeaa.E
open Go Go.Ev Go.RowKit
set_option linter.unusedVariables false
set_option linter.unusedSimpArgs false
set_option maxRecDepth 100000
noncomputable def tblF : FuncId → Option Func
  | 25 => some Go.Proofs.Try.f25
  | _ => none
theorem tblF_ok : TblOK Go.Proofs.Try.prog tblF := by
  intro g fn h
  unfold tblF at h
  split at h
  · simp only [Option.some.injEq] at h; subst h; exact ⟨Go.Proofs.Try.func25, by kernel_rfl⟩
  · simp at h

/-- whether bits fit, and x and y, as it is reckoned, from place n down -/
def fitsM (m : Nat) : List Nat → Nat → Nat → Nat → Option AV
  | [], _, x, y => some (.tup [.c (.v (.bool true)), .c (.v (.int .i64 (.ofNat x))), .c (.v (.int .i64 (.ofNat y)))])
  | c :: l, n, x, y => if m < 256 ∧ n < 8 then
      (if c = 48 then (if m.testBit n = true then some (.tup [.c (.v (.bool false)), .c (.v (.int .i64 (.ofNat 0))), .c (.v (.int .i64 (.ofNat 0)))]) else fitsM m l (n - 1) x y)
       else if c = 49 then (if m.testBit n = true then fitsM m l (n - 1) x y else some (.tup [.c (.v (.bool false)), .c (.v (.int .i64 (.ofNat 0))), .c (.v (.int .i64 (.ofNat 0)))]))
       else if c = 120 then (if m.testBit n = true then fitsM m l (n - 1) (2 * x + 1) y else fitsM m l (n - 1) (2 * x) y)
       else (if m.testBit n = true then fitsM m l (n - 1) x (2 * y + 1) else fitsM m l (n - 1) x (2 * y))) else none
noncomputable def fitsE (s : ByteArray) (m : Nat) : Option AV := evCall Go.Proofs.Try.prog tblF (known knB) 300 3 25 [strA s, u8A (m : Int)] [] (fun v _ => some v)
theorem fits_00000000 (m : Nat) : fitsE { data := #[48, 48, 48, 48, 48, 48, 48, 48] } m = fitsM m [48, 48, 48, 48, 48, 48, 48, 48] 7 0 0 := by kernel_rfl
theorem fits_00001000 (m : Nat) : fitsE { data := #[48, 48, 48, 48, 49, 48, 48, 48] } m = fitsM m [48, 48, 48, 48, 49, 48, 48, 48] 7 0 0 := by kernel_rfl
theorem fits_00010000 (m : Nat) : fitsE { data := #[48, 48, 48, 49, 48, 48, 48, 48] } m = fitsM m [48, 48, 48, 49, 48, 48, 48, 48] 7 0 0 := by kernel_rfl
theorem fits_00011000 (m : Nat) : fitsE { data := #[48, 48, 48, 49, 49, 48, 48, 48] } m = fitsM m [48, 48, 48, 49, 49, 48, 48, 48] 7 0 0 := by kernel_rfl
theorem fits_001xx000 (m : Nat) : fitsE { data := #[48, 48, 49, 120, 120, 48, 48, 48] } m = fitsM m [48, 48, 49, 120, 120, 48, 48, 48] 7 0 0 := by kernel_rfl
theorem fits_00xx0001 (m : Nat) : fitsE { data := #[48, 48, 120, 120, 48, 48, 48, 49] } m = fitsM m [48, 48, 120, 120, 48, 48, 48, 49] 7 0 0 := by kernel_rfl
theorem fits_00xx1001 (m : Nat) : fitsE { data := #[48, 48, 120, 120, 49, 48, 48, 49] } m = fitsM m [48, 48, 120, 120, 49, 48, 48, 49] 7 0 0 := by kernel_rfl
theorem fits_00xx0010 (m : Nat) : fitsE { data := #[48, 48, 120, 120, 48, 48, 49, 48] } m = fitsM m [48, 48, 120, 120, 48, 48, 49, 48] 7 0 0 := by kernel_rfl
theorem fits_00xx1010 (m : Nat) : fitsE { data := #[48, 48, 120, 120, 49, 48, 49, 48] } m = fitsM m [48, 48, 120, 120, 49, 48, 49, 48] 7 0 0 := by kernel_rfl
theorem fits_00xx0011 (m : Nat) : fitsE { data := #[48, 48, 120, 120, 48, 48, 49, 49] } m = fitsM m [48, 48, 120, 120, 48, 48, 49, 49] 7 0 0 := by kernel_rfl
theorem fits_00xx1011 (m : Nat) : fitsE { data := #[48, 48, 120, 120, 49, 48, 49, 49] } m = fitsM m [48, 48, 120, 120, 49, 48, 49, 49] 7 0 0 := by kernel_rfl
theorem fits_00xxx100 (m : Nat) : fitsE { data := #[48, 48, 120, 120, 120, 49, 48, 48] } m = fitsM m [48, 48, 120, 120, 120, 49, 48, 48] 7 0 0 := by kernel_rfl
theorem fits_00xxx101 (m : Nat) : fitsE { data := #[48, 48, 120, 120, 120, 49, 48, 49] } m = fitsM m [48, 48, 120, 120, 120, 49, 48, 49] 7 0 0 := by kernel_rfl
theorem fits_00xxx110 (m : Nat) : fitsE { data := #[48, 48, 120, 120, 120, 49, 49, 48] } m = fitsM m [48, 48, 120, 120, 120, 49, 49, 48] 7 0 0 := by kernel_rfl
theorem fits_000xx111 (m : Nat) : fitsE { data := #[48, 48, 48, 120, 120, 49, 49, 49] } m = fitsM m [48, 48, 48, 120, 120, 49, 49, 49] 7 0 0 := by kernel_rfl
theorem fits_00100111 (m : Nat) : fitsE { data := #[48, 48, 49, 48, 48, 49, 49, 49] } m = fitsM m [48, 48, 49, 48, 48, 49, 49, 49] 7 0 0 := by kernel_rfl
theorem fits_00101111 (m : Nat) : fitsE { data := #[48, 48, 49, 48, 49, 49, 49, 49] } m = fitsM m [48, 48, 49, 48, 49, 49, 49, 49] 7 0 0 := by kernel_rfl
theorem fits_00110111 (m : Nat) : fitsE { data := #[48, 48, 49, 49, 48, 49, 49, 49] } m = fitsM m [48, 48, 49, 49, 48, 49, 49, 49] 7 0 0 := by kernel_rfl
theorem fits_00111111 (m : Nat) : fitsE { data := #[48, 48, 49, 49, 49, 49, 49, 49] } m = fitsM m [48, 48, 49, 49, 49, 49, 49, 49] 7 0 0 := by kernel_rfl
theorem fits_01110110 (m : Nat) : fitsE { data := #[48, 49, 49, 49, 48, 49, 49, 48] } m = fitsM m [48, 49, 49, 49, 48, 49, 49, 48] 7 0 0 := by kernel_rfl
theorem fits_01xxxyyy (m : Nat) : fitsE { data := #[48, 49, 120, 120, 120, 121, 121, 121] } m = fitsM m [48, 49, 120, 120, 120, 121, 121, 121] 7 0 0 := by kernel_rfl
theorem fits_10xxxyyy (m : Nat) : fitsE { data := #[49, 48, 120, 120, 120, 121, 121, 121] } m = fitsM m [49, 48, 120, 120, 120, 121, 121, 121] 7 0 0 := by kernel_rfl
theorem fits_110xx000 (m : Nat) : fitsE { data := #[49, 49, 48, 120, 120, 48, 48, 48] } m = fitsM m [49, 49, 48, 120, 120, 48, 48, 48] 7 0 0 := by kernel_rfl
theorem fits_11100000 (m : Nat) : fitsE { data := #[49, 49, 49, 48, 48, 48, 48, 48] } m = fitsM m [49, 49, 49, 48, 48, 48, 48, 48] 7 0 0 := by kernel_rfl
theorem fits_11101000 (m : Nat) : fitsE { data := #[49, 49, 49, 48, 49, 48, 48, 48] } m = fitsM m [49, 49, 49, 48, 49, 48, 48, 48] 7 0 0 := by kernel_rfl
theorem fits_11110000 (m : Nat) : fitsE { data := #[49, 49, 49, 49, 48, 48, 48, 48] } m = fitsM m [49, 49, 49, 49, 48, 48, 48, 48] 7 0 0 := by kernel_rfl
theorem fits_11111000 (m : Nat) : fitsE { data := #[49, 49, 49, 49, 49, 48, 48, 48] } m = fitsM m [49, 49, 49, 49, 49, 48, 48, 48] 7 0 0 := by kernel_rfl
theorem fits_11xx0001 (m : Nat) : fitsE { data := #[49, 49, 120, 120, 48, 48, 48, 49] } m = fitsM m [49, 49, 120, 120, 48, 48, 48, 49] 7 0 0 := by kernel_rfl
theorem fits_11001001 (m : Nat) : fitsE { data := #[49, 49, 48, 48, 49, 48, 48, 49] } m = fitsM m [49, 49, 48, 48, 49, 48, 48, 49] 7 0 0 := by kernel_rfl
theorem fits_11011001 (m : Nat) : fitsE { data := #[49, 49, 48, 49, 49, 48, 48, 49] } m = fitsM m [49, 49, 48, 49, 49, 48, 48, 49] 7 0 0 := by kernel_rfl
theorem fits_11101001 (m : Nat) : fitsE { data := #[49, 49, 49, 48, 49, 48, 48, 49] } m = fitsM m [49, 49, 49, 48, 49, 48, 48, 49] 7 0 0 := by kernel_rfl
theorem fits_11111001 (m : Nat) : fitsE { data := #[49, 49, 49, 49, 49, 48, 48, 49] } m = fitsM m [49, 49, 49, 49, 49, 48, 48, 49] 7 0 0 := by kernel_rfl
theorem fits_110xx010 (m : Nat) : fitsE { data := #[49, 49, 48, 120, 120, 48, 49, 48] } m = fitsM m [49, 49, 48, 120, 120, 48, 49, 48] 7 0 0 := by kernel_rfl
theorem fits_11100010 (m : Nat) : fitsE { data := #[49, 49, 49, 48, 48, 48, 49, 48] } m = fitsM m [49, 49, 49, 48, 48, 48, 49, 48] 7 0 0 := by kernel_rfl
theorem fits_11101010 (m : Nat) : fitsE { data := #[49, 49, 49, 48, 49, 48, 49, 48] } m = fitsM m [49, 49, 49, 48, 49, 48, 49, 48] 7 0 0 := by kernel_rfl
theorem fits_11110010 (m : Nat) : fitsE { data := #[49, 49, 49, 49, 48, 48, 49, 48] } m = fitsM m [49, 49, 49, 49, 48, 48, 49, 48] 7 0 0 := by kernel_rfl
theorem fits_11111010 (m : Nat) : fitsE { data := #[49, 49, 49, 49, 49, 48, 49, 48] } m = fitsM m [49, 49, 49, 49, 49, 48, 49, 48] 7 0 0 := by kernel_rfl
theorem fits_11000011 (m : Nat) : fitsE { data := #[49, 49, 48, 48, 48, 48, 49, 49] } m = fitsM m [49, 49, 48, 48, 48, 48, 49, 49] 7 0 0 := by kernel_rfl
theorem fits_11001011 (m : Nat) : fitsE { data := #[49, 49, 48, 48, 49, 48, 49, 49] } m = fitsM m [49, 49, 48, 48, 49, 48, 49, 49] 7 0 0 := by kernel_rfl
theorem fits_11110011 (m : Nat) : fitsE { data := #[49, 49, 49, 49, 48, 48, 49, 49] } m = fitsM m [49, 49, 49, 49, 48, 48, 49, 49] 7 0 0 := by kernel_rfl
theorem fits_11111011 (m : Nat) : fitsE { data := #[49, 49, 49, 49, 49, 48, 49, 49] } m = fitsM m [49, 49, 49, 49, 49, 48, 49, 49] 7 0 0 := by kernel_rfl
theorem fits_110xx100 (m : Nat) : fitsE { data := #[49, 49, 48, 120, 120, 49, 48, 48] } m = fitsM m [49, 49, 48, 120, 120, 49, 48, 48] 7 0 0 := by kernel_rfl
theorem fits_11xx0101 (m : Nat) : fitsE { data := #[49, 49, 120, 120, 48, 49, 48, 49] } m = fitsM m [49, 49, 120, 120, 48, 49, 48, 49] 7 0 0 := by kernel_rfl
theorem fits_11001101 (m : Nat) : fitsE { data := #[49, 49, 48, 48, 49, 49, 48, 49] } m = fitsM m [49, 49, 48, 48, 49, 49, 48, 49] 7 0 0 := by kernel_rfl
theorem fits_11xxx110 (m : Nat) : fitsE { data := #[49, 49, 120, 120, 120, 49, 49, 48] } m = fitsM m [49, 49, 120, 120, 120, 49, 49, 48] 7 0 0 := by kernel_rfl
theorem fits_11xxx111 (m : Nat) : fitsE { data := #[49, 49, 120, 120, 120, 49, 49, 49] } m = fitsM m [49, 49, 120, 120, 120, 49, 49, 49] 7 0 0 := by kernel_rfl
theorem fits_00xxxyyy (m : Nat) : fitsE { data := #[48, 48, 120, 120, 120, 121, 121, 121] } m = fitsM m [48, 48, 120, 120, 120, 121, 121, 121] 7 0 0 := by kernel_rfl
/-- the document's rows' bits -/
def rowsB : List (List Nat) := [[48, 48, 48, 48, 48, 48, 48, 48], [48, 48, 48, 48, 49, 48, 48, 48], [48, 48, 48, 49, 48, 48, 48, 48], [48, 48, 48, 49, 49, 48, 48, 48], [48, 48, 49, 120, 120, 48, 48, 48], [48, 48, 120, 120, 48, 48, 48, 49], [48, 48, 120, 120, 49, 48, 48, 49], [48, 48, 120, 120, 48, 48, 49, 48], [48, 48, 120, 120, 49, 48, 49, 48], [48, 48, 120, 120, 48, 48, 49, 49], [48, 48, 120, 120, 49, 48, 49, 49], [48, 48, 120, 120, 120, 49, 48, 48], [48, 48, 120, 120, 120, 49, 48, 49], [48, 48, 120, 120, 120, 49, 49, 48], [48, 48, 48, 120, 120, 49, 49, 49], [48, 48, 49, 48, 48, 49, 49, 49], [48, 48, 49, 48, 49, 49, 49, 49], [48, 48, 49, 49, 48, 49, 49, 49], [48, 48, 49, 49, 49, 49, 49, 49], [48, 49, 49, 49, 48, 49, 49, 48], [48, 49, 120, 120, 120, 121, 121, 121], [49, 48, 120, 120, 120, 121, 121, 121], [49, 49, 48, 120, 120, 48, 48, 48], [49, 49, 49, 48, 48, 48, 48, 48], [49, 49, 49, 48, 49, 48, 48, 48], [49, 49, 49, 49, 48, 48, 48, 48], [49, 49, 49, 49, 49, 48, 48, 48], [49, 49, 120, 120, 48, 48, 48, 49], [49, 49, 48, 48, 49, 48, 48, 49], [49, 49, 48, 49, 49, 48, 48, 49], [49, 49, 49, 48, 49, 48, 48, 49], [49, 49, 49, 49, 49, 48, 48, 49], [49, 49, 48, 120, 120, 48, 49, 48], [49, 49, 49, 48, 48, 48, 49, 48], [49, 49, 49, 48, 49, 48, 49, 48], [49, 49, 49, 49, 48, 48, 49, 48], [49, 49, 49, 49, 49, 48, 49, 48], [49, 49, 48, 48, 48, 48, 49, 49], [49, 49, 48, 48, 49, 48, 49, 49], [49, 49, 49, 49, 48, 48, 49, 49], [49, 49, 49, 49, 49, 48, 49, 49], [49, 49, 48, 120, 120, 49, 48, 48], [49, 49, 120, 120, 48, 49, 48, 49], [49, 49, 48, 48, 49, 49, 48, 49], [49, 49, 120, 120, 120, 49, 49, 48], [49, 49, 120, 120, 120, 49, 49, 49], [48, 48, 120, 120, 120, 121, 121, 121]]
def codesOf (s : ByteArray) : List Nat := s.data.toList.map UInt8.toNat
theorem codes_inj {s t : ByteArray} (h : codesOf s = codesOf t) : s = t := by
  obtain ⟨⟨a⟩⟩ := s; obtain ⟨⟨b⟩⟩ := t
  simp only [codesOf] at h
  have := List.map_inj_right (f := UInt8.toNat) (fun a b => UInt8.toNat_inj.1) |>.1 h
  rw [this]
theorem fits_all {s : ByteArray} (h : rowsB.elem (codesOf s) = true) (m : Nat) : fitsE s m = fitsM m (codesOf s) 7 0 0 := by
  have h := List.elem_iff.1 h
  simp only [rowsB, List.mem_cons, List.not_mem_nil, or_false] at h
  rcases h with h | h | h | h | h | h | h | h | h | h | h | h | h | h | h | h | h | h | h | h | h | h | h | h | h | h | h | h | h | h | h | h | h | h | h | h | h | h | h | h | h | h | h | h | h | h | h
  · have e : s = { data := #[48, 48, 48, 48, 48, 48, 48, 48] } := codes_inj h
    rw [e]; exact fits_00000000 m
  · have e : s = { data := #[48, 48, 48, 48, 49, 48, 48, 48] } := codes_inj h
    rw [e]; exact fits_00001000 m
  · have e : s = { data := #[48, 48, 48, 49, 48, 48, 48, 48] } := codes_inj h
    rw [e]; exact fits_00010000 m
  · have e : s = { data := #[48, 48, 48, 49, 49, 48, 48, 48] } := codes_inj h
    rw [e]; exact fits_00011000 m
  · have e : s = { data := #[48, 48, 49, 120, 120, 48, 48, 48] } := codes_inj h
    rw [e]; exact fits_001xx000 m
  · have e : s = { data := #[48, 48, 120, 120, 48, 48, 48, 49] } := codes_inj h
    rw [e]; exact fits_00xx0001 m
  · have e : s = { data := #[48, 48, 120, 120, 49, 48, 48, 49] } := codes_inj h
    rw [e]; exact fits_00xx1001 m
  · have e : s = { data := #[48, 48, 120, 120, 48, 48, 49, 48] } := codes_inj h
    rw [e]; exact fits_00xx0010 m
  · have e : s = { data := #[48, 48, 120, 120, 49, 48, 49, 48] } := codes_inj h
    rw [e]; exact fits_00xx1010 m
  · have e : s = { data := #[48, 48, 120, 120, 48, 48, 49, 49] } := codes_inj h
    rw [e]; exact fits_00xx0011 m
  · have e : s = { data := #[48, 48, 120, 120, 49, 48, 49, 49] } := codes_inj h
    rw [e]; exact fits_00xx1011 m
  · have e : s = { data := #[48, 48, 120, 120, 120, 49, 48, 48] } := codes_inj h
    rw [e]; exact fits_00xxx100 m
  · have e : s = { data := #[48, 48, 120, 120, 120, 49, 48, 49] } := codes_inj h
    rw [e]; exact fits_00xxx101 m
  · have e : s = { data := #[48, 48, 120, 120, 120, 49, 49, 48] } := codes_inj h
    rw [e]; exact fits_00xxx110 m
  · have e : s = { data := #[48, 48, 48, 120, 120, 49, 49, 49] } := codes_inj h
    rw [e]; exact fits_000xx111 m
  · have e : s = { data := #[48, 48, 49, 48, 48, 49, 49, 49] } := codes_inj h
    rw [e]; exact fits_00100111 m
  · have e : s = { data := #[48, 48, 49, 48, 49, 49, 49, 49] } := codes_inj h
    rw [e]; exact fits_00101111 m
  · have e : s = { data := #[48, 48, 49, 49, 48, 49, 49, 49] } := codes_inj h
    rw [e]; exact fits_00110111 m
  · have e : s = { data := #[48, 48, 49, 49, 49, 49, 49, 49] } := codes_inj h
    rw [e]; exact fits_00111111 m
  · have e : s = { data := #[48, 49, 49, 49, 48, 49, 49, 48] } := codes_inj h
    rw [e]; exact fits_01110110 m
  · have e : s = { data := #[48, 49, 120, 120, 120, 121, 121, 121] } := codes_inj h
    rw [e]; exact fits_01xxxyyy m
  · have e : s = { data := #[49, 48, 120, 120, 120, 121, 121, 121] } := codes_inj h
    rw [e]; exact fits_10xxxyyy m
  · have e : s = { data := #[49, 49, 48, 120, 120, 48, 48, 48] } := codes_inj h
    rw [e]; exact fits_110xx000 m
  · have e : s = { data := #[49, 49, 49, 48, 48, 48, 48, 48] } := codes_inj h
    rw [e]; exact fits_11100000 m
  · have e : s = { data := #[49, 49, 49, 48, 49, 48, 48, 48] } := codes_inj h
    rw [e]; exact fits_11101000 m
  · have e : s = { data := #[49, 49, 49, 49, 48, 48, 48, 48] } := codes_inj h
    rw [e]; exact fits_11110000 m
  · have e : s = { data := #[49, 49, 49, 49, 49, 48, 48, 48] } := codes_inj h
    rw [e]; exact fits_11111000 m
  · have e : s = { data := #[49, 49, 120, 120, 48, 48, 48, 49] } := codes_inj h
    rw [e]; exact fits_11xx0001 m
  · have e : s = { data := #[49, 49, 48, 48, 49, 48, 48, 49] } := codes_inj h
    rw [e]; exact fits_11001001 m
  · have e : s = { data := #[49, 49, 48, 49, 49, 48, 48, 49] } := codes_inj h
    rw [e]; exact fits_11011001 m
  · have e : s = { data := #[49, 49, 49, 48, 49, 48, 48, 49] } := codes_inj h
    rw [e]; exact fits_11101001 m
  · have e : s = { data := #[49, 49, 49, 49, 49, 48, 48, 49] } := codes_inj h
    rw [e]; exact fits_11111001 m
  · have e : s = { data := #[49, 49, 48, 120, 120, 48, 49, 48] } := codes_inj h
    rw [e]; exact fits_110xx010 m
  · have e : s = { data := #[49, 49, 49, 48, 48, 48, 49, 48] } := codes_inj h
    rw [e]; exact fits_11100010 m
  · have e : s = { data := #[49, 49, 49, 48, 49, 48, 49, 48] } := codes_inj h
    rw [e]; exact fits_11101010 m
  · have e : s = { data := #[49, 49, 49, 49, 48, 48, 49, 48] } := codes_inj h
    rw [e]; exact fits_11110010 m
  · have e : s = { data := #[49, 49, 49, 49, 49, 48, 49, 48] } := codes_inj h
    rw [e]; exact fits_11111010 m
  · have e : s = { data := #[49, 49, 48, 48, 48, 48, 49, 49] } := codes_inj h
    rw [e]; exact fits_11000011 m
  · have e : s = { data := #[49, 49, 48, 48, 49, 48, 49, 49] } := codes_inj h
    rw [e]; exact fits_11001011 m
  · have e : s = { data := #[49, 49, 49, 49, 48, 48, 49, 49] } := codes_inj h
    rw [e]; exact fits_11110011 m
  · have e : s = { data := #[49, 49, 49, 49, 49, 48, 49, 49] } := codes_inj h
    rw [e]; exact fits_11111011 m
  · have e : s = { data := #[49, 49, 48, 120, 120, 49, 48, 48] } := codes_inj h
    rw [e]; exact fits_110xx100 m
  · have e : s = { data := #[49, 49, 120, 120, 48, 49, 48, 49] } := codes_inj h
    rw [e]; exact fits_11xx0101 m
  · have e : s = { data := #[49, 49, 48, 48, 49, 49, 48, 49] } := codes_inj h
    rw [e]; exact fits_11001101 m
  · have e : s = { data := #[49, 49, 120, 120, 120, 49, 49, 48] } := codes_inj h
    rw [e]; exact fits_11xxx110 m
  · have e : s = { data := #[49, 49, 120, 120, 120, 49, 49, 49] } := codes_inj h
    rw [e]; exact fits_11xxx111 m
  · have e : s = { data := #[48, 48, 120, 120, 120, 121, 121, 121] } := codes_inj h
    rw [e]; exact fits_00xxxyyy m
/-- the question is known, too -/
noncomputable def knF {R : Type} (g : FuncId) (args : List AV) (k : KA R) : Option R :=
  if g = 25 then (match args with
    | [.one (.c (.v (.string s))), .one (.c (.v (.int .u8 (.ofNat m))))] => if rowsB.elem (codesOf s) = true then (match fitsM m (codesOf s) 7 0 0 with
        | some v => if v.free = true then k v [] else none
        | none => none) else none
    | _ => none)
  else knB g args k
theorem knF_ok {R : Type} : KnownOK Go.Proofs.Try.prog (knF (R := R)) := by
  intro g args k r h
  unfold knF at h
  split at h
  · rename_i e; subst e
    split at h
    · rename_i s m
      split at h
      · rename_i hs
        split at h
        · rename_i v hv
          split at h
          · rename_i hf
            refine ⟨v, _, h, fun w => pure_of_evalK (orc := known knB) tblF_ok (fun _ => known_ok knB_ok) (n := 300) (d := 3) hf ?_ w⟩
            exact (fits_all hs m).trans hv
          · simp at h
        · simp at h
      · simp at h
    · simp at h
  · exact knB_ok g args k r h

end Go.Proofs.Ytihngfbkkhneeaa.E
