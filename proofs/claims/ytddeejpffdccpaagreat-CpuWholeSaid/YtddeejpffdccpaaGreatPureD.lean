/- Functions of the program as plain Lean, and what they come to. Conditions: none. -/
import Derived.Test.YtddeejpffdccpaaGreatEwD
import Derived.Test.YtddeejpffdccpaaGreatPureC
open Go Go.Ew
namespace Go.Proofs.YtddeejpffdccpaaGreat.E
set_option maxRecDepth 100000
theorem sok_of {c : CC} (h : wfS (.agg ⟨.i .u8, [.i .u8, .i .u8, .i .u8, .i .u8, .i .u8, .i .u8, .i .u8, .i .u16, .i .u16, .b, .b, .b, .i .u8, .i .u8, .b, .i .u8, .i .u8, .i .u8]⟩) c) : sok (ofC c) := by
 obtain ⟨h1, h2, h3, h4, h5, h6, h7, h8, h9, h10, -, -, -, h11, h12, -, h13, h14, h15⟩ := h
 exact ⟨⟨wf_u8.1 h1, wf_u8.1 h2, wf_u8.1 h3, wf_u8.1 h4, wf_u8.1 h5, wf_u8.1 h6, wf_u8.1 h7, wf_u8.1 h8, wf_u16.1 h9, wf_u16.1 h10⟩, wf_u8.1 h12, wf_u8.1 h13, wf_u8.1 h14, wf_u8.1 h15⟩
end Go.Proofs.YtddeejpffdccpaaGreat.E
