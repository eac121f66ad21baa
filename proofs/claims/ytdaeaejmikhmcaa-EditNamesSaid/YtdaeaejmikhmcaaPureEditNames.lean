/- The law EditNames of the given program holds: a closed sentence that calls nothing; no condition. -/
import Derived.Test.YtdaeaejmikhmcaaPEditNamesx1
namespace Go.Proofs.Ytdaeaejmikhmcaa.Pure
open Go.RowKit Go.Proofs.Ytdaeaejmikhmcaa.PEditNames Go.Proofs.YtdaeaejmikhmcaaW.PrintWords Go.Proofs.YtdaeaejmikhmcaaW.PrintLast

/-- YOURS: tangramlaw14_EditNames.f  = some true
What it reaches (each with k first where it has rounds; `.mono`: more rounds tell the same; `.l0`, ..: its loops, with `.mono_l`): tangramlaw14_EditNames.f -/
theorem EditNames : tangramlaw14_EditNames.Pure := by
  rfl

end Go.Proofs.Ytdaeaejmikhmcaa.Pure
