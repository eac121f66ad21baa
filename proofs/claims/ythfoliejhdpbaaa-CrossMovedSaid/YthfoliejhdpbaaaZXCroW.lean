-- Plain facts: the examples that each statement of layer 26 asks first.
import Derived.Test.YthfoliejhdpbaaaZXCroB
import Derived.Test.YthfoliejhdpbaaaZPCroAx30
set_option linter.unusedVariables false
set_option linter.unusedSimpArgs false
namespace Go.Proofs.Ythfoliejhdpbaaa.Pure
open Go.RowKit Go.Proofs.Ythfoliejhdpbaaa.PCroA Go.Proofs.YthfoliejhdpbaaaW.PrintWords Go.Proofs.YthfoliejhdpbaaaW.PrintLast Go.Proofs.YthfoliejhdpbaaaW.PrintMore Go.Proofs.YthfoliejhdpbaaaX
set_option maxRecDepth 100000 in
theorem awake_ev : Ev (fun k => tangramlaw26_awake.f k) true := Ev.of (fun k => tangramlaw26_awake.mono k) (k := 100) (by kernel_rfl)
end Go.Proofs.Ythfoliejhdpbaaa.Pure
