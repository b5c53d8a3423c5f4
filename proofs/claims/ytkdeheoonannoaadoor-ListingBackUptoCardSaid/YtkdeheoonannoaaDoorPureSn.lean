/- Functions of the program as plain Lean, and what they come to. Conditions: none. -/
import Derived.Test.YtkdeheoonannoaaDoorEwD
import Derived.Test.YtkdeheoonannoaaDoorPureSf
open Go Go.Ew
namespace Go.Proofs.YtkdeheoonannoaaDoor.E
set_option linter.unusedVariables false
set_option linter.unusedSimpArgs false
set_option maxRecDepth 100000
theorem asm_F {s : ByteArray} (hs : s.size ≤ 140737488355328) : listing_Assemble.F (s, ()) = some ((asmR s).1, (asmR s).2, ()) := if_pos hs
theorem assembles_true {s : ByteArray} (hs : s.size ≤ 140737488355328) : law06_ListingAssembles.F (s, ()) = some (true, ()) := by
  unfold law06_ListingAssembles.F law06_ListingAssembles.C law06_ListingAssembles.G
  refine (bind_eq shown_true).trans ((bind_eq (asm_F hs)).trans ((bind_eq (asm_ref hs)).trans ?_))
  refine (if_pos rfl).trans ((if_pos (by rw [sEq_iff.2 rfl]; rfl)).trans ?_)
  rw [beq_self_eq_true]
theorem assembles_walk : LawIf Tryd.prog 5 law06_ListingAssembles.as (fun x => ByteArray.size x.1 ≤ 140737488355328) := .of law06_ListingAssembles.ok fun x h hB => assembles_true hB
end Go.Proofs.YtkdeheoonannoaaDoor.E
