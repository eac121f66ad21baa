/- The law TopNumbers of the given program holds: the limits, errors and kinds have their numbers; no condition. -/
import Derived.Test.YtndmdapgeegodaaPTopNumbersx1
namespace Go.Proofs.Ytndmdapgeegodaa.Pure
open Go.RowKit Go.Proofs.Ytndmdapgeegodaa.PTopNumbers Go.Proofs.YtndmdapgeegodaaW.PrintWords Go.Proofs.YtndmdapgeegodaaW.PrintLast

/-- YOURS: ∃ k, tangramtop_TopNumbers.f k  = some true
What it reaches (each with k first where it has rounds; `.mono`: more rounds tell the same; `.l0`, ..: its loops, with `.mono_l`): tangramtop_sameInts.f, tangramtop_limits.f, tangramtop_errors.f, tangramtop_kinds.f, tangramtop_TopNumbers.f -/
theorem TopNumbers : tangramtop_TopNumbers.Pure := by
  exact ⟨200, by decide +kernel⟩

end Go.Proofs.Ytndmdapgeegodaa.Pure
