/- The law BucketRanks holds: bucket.Ranks answers as the document's Ranks, for every list of keys and every bound; no condition. -/
import Derived.Test.YtndmdapgeegodaaXBucket
namespace Go.Proofs.Ytndmdapgeegodaa.Pure
open Go.RowKit Go.Proofs.Ytndmdapgeegodaa.PBucketA Go.Proofs.YtndmdapgeegodaaW.PrintWords Go.Proofs.YtndmdapgeegodaaW.PrintLast Go.Proofs.YtndmdapgeegodaaX

theorem BucketRanks : tangramlaw06_BucketRanks.Pure := by
  intro l a hm h8 hw ha
  refine Ev.rounds ?_
  unfold tangramlaw06_BucketRanks.f
  refine Ev.andThen wakes_ev (Ev.tt (Ev.andThen (refRanks_ev l a (by omega)) (Ev.andThen' rfl (Ev.pos (by simp; omega) ?_))))
  rw [List.nil_append]
  refine Ev.andThen (Ranks_ev l a (by omega)) (Ev.andThen (SameInts_ev _ ?_) (Ev.tt (Ev.val (by simp))))
  dsimp only
  split
  · rw [ranksOf_length]; omega
  · simp

end Go.Proofs.Ytndmdapgeegodaa.Pure
