/- The law ObjectsRows comes to true for every input. Conditions: none. -/
import Derived.Test.YtfpepeembbpncaaPureRows
namespace Go.Proofs.Ytfpepeembbpncaa.E
open Go Go.RowKit Go.Proofs.Ytfpepeembbpncaa.P
set_option linter.unusedVariables false
theorem in8_of {a : Int} (h : (Lit.int .u8 a).wf = true) : in8 a := by
  simp [Lit.wf, IntKind.min, IntKind.max, IntKind.signed, IntKind.bits] at h; unfold in8; omega
theorem in64_of {a : Int} (h : (Lit.int .i64 a).wf = true) : in64 a := by
  simp [Lit.wf, IntKind.min, IntKind.max, IntKind.signed, IntKind.bits] at h; unfold in64; omega
theorem objectsRows_walk (y x t f n line a : Int) (w : World) (hy : (Lit.int .u8 y).wf = true) (hx : (Lit.int .u8 x).wf = true) (ht : (Lit.int .u8 t).wf = true) (hf : (Lit.int .u8 f).wf = true) (hn : (Lit.int .u8 n).wf = true) (hl : (Lit.int .i64 line).wf = true) (ha : (Lit.int .i64 a).wf = true) :
    Calls Try.prog 4 #[.agg #[.int .u8 y, .int .u8 x, .int .u8 t, .int .u8 f, .int .u8 n], .int .i64 line, .int .i64 a] w fun e w' => e = .returned (.bool true) ∧ Below w.heap.size w w' :=
  whirligiglaw16_ObjectsRows.calls 22 y x t f n line a true w (objectsRows_pure y x t f n line a (in8_of hy) (in8_of hx) (in8_of ht) (in8_of hf) (in64_of hl) (in64_of ha))
end Go.Proofs.Ytfpepeembbpncaa.E
