import Derived.Test.YthfoliejhdpbaaaZPCroAx0
import Derived.Test.YthfoliejhdpbaaaZXProp
namespace Go.Proofs.Ythfoliejhdpbaaa.PCroA
open Go.RowKit Go.Proofs.YthfoliejhdpbaaaW.PrintWords Go.Proofs.YthfoliejhdpbaaaW.PrintLast Go.Proofs.YthfoliejhdpbaaaW.PrintMore
open Go.Proofs.YthfoliejhdpbaaaX
attribute [local go_sem] max2_int min2_int max_two min_two max_three min_three max_four min_four
set_option linter.unusedVariables false
set_option linter.unusedSimpArgs false

/-! ### comps_Sets_has: function 71 -/
def comps_Sets_has.f (l0 : List (S23)) (a1_0 : Int) (a1_1 : Int) : Option (Int × Bool) := hasF l0 a1_0 a1_1

end Go.Proofs.Ythfoliejhdpbaaa.PCroA
