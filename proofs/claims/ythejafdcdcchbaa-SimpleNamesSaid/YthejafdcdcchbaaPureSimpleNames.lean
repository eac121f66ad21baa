/- The closed law of the limits and errors: its pure face tells true by computing. -/
import Derived.Test.YthejafdcdcchbaaPSimpleNamesx1
namespace Go.Proofs.Ythejafdcdcchbaa.Pure
open Go.RowKit Go.Proofs.Ythejafdcdcchbaa.PSimpleNames Go.Proofs.YthejafdcdcchbaaW.PrintWords Go.Proofs.YthejafdcdcchbaaW.PrintLast

/-- YOURS: tangramlaw03_SimpleNames.f  = some true
What it reaches (each with k first where it has rounds; `.mono`: more rounds tell the same; `.l0`, ..: its loops, with `.mono_l`): tangramlaw03_SimpleNames.f -/
theorem SimpleNames : tangramlaw03_SimpleNames.Pure := by
  rfl

end Go.Proofs.Ythejafdcdcchbaa.Pure
