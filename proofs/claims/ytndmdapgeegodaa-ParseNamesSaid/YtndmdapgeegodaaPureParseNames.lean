/- The law ParseNames of the given program holds: a closed sentence that calls nothing; no condition. -/
import Derived.Test.YtndmdapgeegodaaPParseNamesx1
namespace Go.Proofs.Ytndmdapgeegodaa.Pure
open Go.RowKit Go.Proofs.Ytndmdapgeegodaa.PParseNames Go.Proofs.YtndmdapgeegodaaW.PrintWords Go.Proofs.YtndmdapgeegodaaW.PrintLast

/-- YOURS: tangramlaw02_ParseNames.f  = some true
What it reaches (each with k first where it has rounds; `.mono`: more rounds tell the same; `.l0`, ..: its loops, with `.mono_l`): tangramlaw02_ParseNames.f -/
theorem ParseNames : tangramlaw02_ParseNames.Pure := by
  rfl

end Go.Proofs.Ytndmdapgeegodaa.Pure
