-- PRINTED by print.py (a twelfth state) out of the translation. Not trusted: Lean checks it.
import Derived.Test.YtjgaicdieddekaaZPParAx0
import Derived.Test.YtjgaicdieddekaaZXFix
import Derived.Test.YtjgaicdieddekaaZPParAx1
import Derived.Test.YtjgaicdieddekaaZPParAx2
namespace Go.Proofs.Ytjgaicdieddekaa.PParA
open Go.RowKit Go.Proofs.YtjgaicdieddekaaW.PrintWords Go.Proofs.YtjgaicdieddekaaW.PrintLast Go.Proofs.YtjgaicdieddekaaW.PrintMore
open Go.Proofs.YtjgaicdieddekaaX
attribute [local go_sem] max2_int min2_int max_two min_two max_three min_three max_four min_four   -- for this text's walks alone
set_option linter.unusedVariables false
set_option linter.unusedSimpArgs false

attribute [local go_sem high] eqA29 eqA40
/-! ### tangramlaw02_fixed: function 6 -/
def tangramlaw02_fixed.f (k : Nat)  : Option (Bool) := some true
theorem tangramlaw02_fixed.mono : ∀ k, LeO (tangramlaw02_fixed.f k ) (tangramlaw02_fixed.f (k + 1) ) := fun _ => LeO.refl _
theorem tangramlaw02_fixed.calls (k : Nat)  (r : Bool) (w : World) (h : tangramlaw02_fixed.f k  = some r) :
  Calls Try.prog 6 #[] w fun e w' => e = .returned (.bool r) ∧ Below w.heap.size w w' := by
 obtain rfl : true = r := Option.some.inj h; exact fixed_c w

end Go.Proofs.Ytjgaicdieddekaa.PParA
