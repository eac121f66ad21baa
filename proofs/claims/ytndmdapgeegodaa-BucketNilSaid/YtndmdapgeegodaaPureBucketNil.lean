/- The law BucketNil holds: bucket.Sort at a nil function answers nothing and ErrRange, for all items and every bound; no condition. -/
import Derived.Test.YtndmdapgeegodaaXBucket
import Derived.Test.YtndmdapgeegodaaPBucketAx6
namespace Go.Proofs.Ytndmdapgeegodaa.Pure
open Go.RowKit Go.Proofs.Ytndmdapgeegodaa.PBucketA Go.Proofs.YtndmdapgeegodaaW.PrintWords Go.Proofs.YtndmdapgeegodaaW.PrintLast Go.Proofs.YtndmdapgeegodaaX

theorem BucketNil : tangramlaw06_BucketNil.Pure := by
  intro l a hm h8 hw ha
  refine Ev.rounds ?_
  unfold tangramlaw06_BucketNil.f
  refine Ev.andThen wakes_ev (Ev.tt (Ev.andThen' rfl (Ev.pos (by simp; omega) ?_)))
  exact Ev.andThen' rfl (Ev.pos rfl (Ev.val rfl))

end Go.Proofs.Ytndmdapgeegodaa.Pure
