/- The law ObjectsExtras comes to true for every input. Conditions: none. -/
import Derived.Test.YtfpepeembbpncaaPureExtras
import Derived.Test.YtfpepeembbpncaaOpenSl
import Derived.Test.YtfpepeembbpncaaRowsW
namespace Go.Proofs.Ytfpepeembbpncaa.E
open Go Go.RowKit Go.Proofs.Ytfpepeembbpncaa.P Go.Proofs.YtfpepeembbpncaaW.PrintWords
set_option linter.unusedVariables false
theorem objectsExtras_walk (A0 : Option Addr) (c0 : Nat) (l0 : List S29) (a1 : Int) (w : World) (hr : Kd.C k29 w A0 l0.length l0) (hc : l0.length ≤ c0) (hm : l0.length ≤ maxLen) (hq : ∀ x ∈ l0, wfS x) (h1 : (Lit.int .u8 a1).wf = true) :
    Calls Try.prog 5 #[.slice A0 l0.length c0, .int .u8 a1] w fun e w' => e = .returned (.bool true) ∧ Below w.heap.size w w' :=
  whirligiglaw16_ObjectsExtras.calls (l0.length + 1) A0 c0 l0 a1 true w hr hc (objectsExtras_pure l0 a1 (fun x hx => in8_of (hq x hx).2.1) (in8_of h1) (by unfold maxLen at hm; omega))
end Go.Proofs.Ytfpepeembbpncaa.E
