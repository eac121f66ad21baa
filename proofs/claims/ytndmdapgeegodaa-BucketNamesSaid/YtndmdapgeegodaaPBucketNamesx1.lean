-- PRINTED BY print.sh 35421559b90ae4d0a3588c463048766b98c2df88dd9212a6774a882060cdf62d: not written by this session
import Derived.Test.YtndmdapgeegodaaPBucketNamesx0
namespace Go.Proofs.Ytndmdapgeegodaa.PBucketNames
open Go.RowKit Go.Proofs.YtndmdapgeegodaaW.PrintWords Go.Proofs.YtndmdapgeegodaaW.PrintLast Go.Proofs.YtndmdapgeegodaaW.PrintMore
attribute [local go_sem] max2_int min2_int max_two min_two max_three min_three max_four min_four   -- for this text's walks alone
set_option linter.unusedVariables false
set_option linter.unusedSimpArgs false

/-! ### tangramlaw06_BucketNames: function 5 -/
def tangramlaw06_BucketNames.f  : Option (Bool) := some true
set_option maxHeartbeats 8000000 in
set_option maxRecDepth 100000 in
theorem tangramlaw06_BucketNames.calls  (r : Bool) (w : World) (h : tangramlaw06_BucketNames.f  = some r) :
    Calls Try.prog 5 #[] w fun e w' => e = .returned (.bool r) ∧ Drawn0 w w' := by
  have H : (some true) = some r := h
  clear h
  obtain rfl := Option.some.inj H
  go_enter Try.func5, Try.ntmps5
  go_wp2
  go_ret
  exact ⟨by first | rfl | (simp; done) | (simp [*]; done), by repeat (first | exact Drawn0.refl _ | apply Drawn0.step)⟩

/-- THE ONE PURE STATEMENT of tangramlaw06_BucketNames: yours. -/
def tangramlaw06_BucketNames.Pure : Prop := tangramlaw06_BucketNames.f  = some true
theorem tangramlaw06_BucketNames.walk (P : tangramlaw06_BucketNames.Pure)  (w : World)  :
    Calls Try.prog 5 #[] w fun e w' => e = .returned (.bool true) ∧ Below w.heap.size w w' := by
  have h := P  
  refine (tangramlaw06_BucketNames.calls  true w h).mono ?_
  rintro e w' ⟨rfl, hd⟩
  exact ⟨rfl, hd.below⟩

end Go.Proofs.Ytndmdapgeegodaa.PBucketNames
