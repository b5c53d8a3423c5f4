/- What the document says of each opcode is what the table has; so it may be taken as known. Conditions: none. -/
import Derived.Test.YtihngfbkkhneeaaRef0
import Derived.Test.YtihngfbkkhneeaaRef1
import Derived.Test.YtihngfbkkhneeaaRef2
import Derived.Test.YtihngfbkkhneeaaRef3
import Derived.Test.YtihngfbkkhneeaaRef4
import Derived.Test.YtihngfbkkhneeaaRef5
import Derived.Test.YtihngfbkkhneeaaRef6
import Derived.Test.YtihngfbkkhneeaaRef7
namespace Go.Proofs.Ytihngfbkkhneeaa.E
open Go Go.Ev Go.RowKit
set_option linter.unusedVariables false
set_option linter.unusedSimpArgs false
set_option maxRecDepth 100000

theorem ref_ok {m : Nat} (hm : m < 256) : ∃ l, nth decTab m = some l ∧ ∀ w, PureGoes Go.Proofs.Try.prog w 13 [u8A (m : Int)] (formA l) := by
  have h : m ∈ List.range' 0 32 ∨ m ∈ List.range' 32 32 ∨ m ∈ List.range' 64 32 ∨ m ∈ List.range' 96 32 ∨ m ∈ List.range' 128 32 ∨ m ∈ List.range' 160 32 ∨ m ∈ List.range' 192 32 ∨ m ∈ List.range' 224 32 := by simp only [List.mem_range'_1]; omega
  rcases h with h | h | h | h | h | h | h | h
  · exact ref0_ok h
  · exact ref1_ok h
  · exact ref2_ok h
  · exact ref3_ok h
  · exact ref4_ok h
  · exact ref5_ok h
  · exact ref6_ok h
  · exact ref7_ok h
/-- the document's reader is known, too -/
noncomputable def knR {R : Type} (g : FuncId) (args : List AV) (k : KA R) : Option R := if g = 13 then ask decTab args k else knB g args k
theorem knR_ok {R : Type} : KnownOK Go.Proofs.Try.prog (knR (R := R)) := by
  intro g args k r h
  unfold knR at h
  split at h
  · rename_i e; subst e; exact ask_ok ref_ok h
  · exact knB_ok g args k r h

end Go.Proofs.Ytihngfbkkhneeaa.E
