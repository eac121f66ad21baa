-- PRINTED by print.py (a twelfth state) out of the translation. Not trusted: Lean checks it.
import Derived.Test.YtjgaicdieddekaaDoorZPNumAx0
import Derived.Test.YtjgaicdieddekaaDoorZXNumB
import Derived.Test.YtjgaicdieddekaaDoorZPNumAx1
namespace Go.Proofs.YtjgaicdieddekaaDoor.PNumA
open Go.RowKit Go.Proofs.YtjgaicdieddekaaDoorW.PrintWords Go.Proofs.YtjgaicdieddekaaDoorW.PrintLast Go.Proofs.YtjgaicdieddekaaDoorW.PrintMore
open Go.Proofs.YtjgaicdieddekaaDoorX
attribute [local go_sem] max2_int min2_int max_two min_two max_three min_three max_four min_four   -- for this text's walks alone
set_option linter.unusedVariables false
set_option linter.unusedSimpArgs false

attribute [local go_sem high] eqA34
/-! ### tangramlaw01_awake: function 10 -/
def tangramlaw01_awake.f (k : Nat)  : Option (Bool) := some true
theorem tangramlaw01_awake.mono : ∀ k, LeO (tangramlaw01_awake.f k) (tangramlaw01_awake.f (k + 1)) := fun _ => LeO.refl _
theorem tangramlaw01_awake.calls (k : Nat)  (r : Bool) (w : World) (hT : TabW w) (h : tangramlaw01_awake.f k  = some r) :
  Calls Tryd.prog 10 #[] w fun e w' => e = .returned (.bool r) ∧ Below w.heap.size w w' := by
 obtain rfl : true = r := Option.some.inj h; exact awake_c w hT

end Go.Proofs.YtjgaicdieddekaaDoor.PNumA
