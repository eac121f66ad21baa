/- The law NumsNames of the given program holds: a closed sentence that calls nothing; no condition. -/
import Derived.Test.YtndmdapgeegodaaPNumsNamesx1
namespace Go.Proofs.Ytndmdapgeegodaa.Pure
open Go.RowKit Go.Proofs.Ytndmdapgeegodaa.PNumsNames Go.Proofs.YtndmdapgeegodaaW.PrintWords Go.Proofs.YtndmdapgeegodaaW.PrintLast

/-- YOURS: tangramlaw01_NumsNames.f  = some true
What it reaches (each with k first where it has rounds; `.mono`: more rounds tell the same; `.l0`, ..: its loops, with `.mono_l`): tangramlaw01_NumsNames.f -/
theorem NumsNames : tangramlaw01_NumsNames.Pure := by
  rfl

end Go.Proofs.Ytndmdapgeegodaa.Pure
