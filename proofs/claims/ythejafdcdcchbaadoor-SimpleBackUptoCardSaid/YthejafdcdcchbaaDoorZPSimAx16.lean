-- PRINTED by print.py (a twelfth state) out of the translation. Not trusted: Lean checks it.
import Derived.Test.YthejafdcdcchbaaDoorZPSimAx0
import Derived.Test.YthejafdcdcchbaaDoorZXSimW
namespace Go.Proofs.YthejafdcdcchbaaDoor.PSimA
open Go.RowKit Go.Proofs.YthejafdcdcchbaaDoorW.PrintWords Go.Proofs.YthejafdcdcchbaaDoorW.PrintLast Go.Proofs.YthejafdcdcchbaaDoorW.PrintMore
open Go.Proofs.YthejafdcdcchbaaDoorX
attribute [local go_sem] max2_int min2_int max_two min_two max_three min_three max_four min_four   -- for this text's walks alone
set_option linter.unusedVariables false
set_option linter.unusedSimpArgs false

/-! ### tangramlaw03_wakes: function 11 -/
def tangramlaw03_wakes.f  : Option (Bool) := some true
theorem tangramlaw03_wakes.calls  (r : Bool) (w : World) (hT : TabW w) (h : tangramlaw03_wakes.f  = some r) :
  Calls Tryd.prog 11 #[] w fun e w' => e = .returned (.bool r) ∧ Below w.heap.size w w' := by
 obtain rfl : true = r := Option.some.inj h; exact wakes_c w hT

end Go.Proofs.YthejafdcdcchbaaDoor.PSimA
