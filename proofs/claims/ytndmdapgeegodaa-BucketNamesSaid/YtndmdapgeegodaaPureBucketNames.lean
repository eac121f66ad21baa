/- The law BucketNames of the given program holds: a closed sentence that calls nothing; no condition. -/
import Derived.Test.YtndmdapgeegodaaPBucketNamesx1
namespace Go.Proofs.Ytndmdapgeegodaa.Pure
open Go.RowKit Go.Proofs.Ytndmdapgeegodaa.PBucketNames Go.Proofs.YtndmdapgeegodaaW.PrintWords Go.Proofs.YtndmdapgeegodaaW.PrintLast

/-- YOURS: tangramlaw06_BucketNames.f  = some true
What it reaches (each with k first where it has rounds; `.mono`: more rounds tell the same; `.l0`, ..: its loops, with `.mono_l`): tangramlaw06_BucketNames.f -/
theorem BucketNames : tangramlaw06_BucketNames.Pure := by
  rfl

end Go.Proofs.Ytndmdapgeegodaa.Pure
