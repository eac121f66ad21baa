-- PRINTED by print.py (a twelfth state) out of the translation. Not trusted: Lean checks it.
import Derived.Test.YtdaeaejmikhmcaaZPEditCx0
namespace Go.Proofs.Ytdaeaejmikhmcaa.PEditC
open Go.RowKit Go.Proofs.YtdaeaejmikhmcaaW.PrintWords Go.Proofs.YtdaeaejmikhmcaaW.PrintLast Go.Proofs.YtdaeaejmikhmcaaW.PrintMore
open Go.Proofs.YtdaeaejmikhmcaaX
attribute [local go_sem] max2_int min2_int max_two min_two max_three min_three max_four min_four   -- for this text's walks alone
set_option linter.unusedVariables false
set_option linter.unusedSimpArgs false

/-! ### x_mkbox: stands for the variable that the closure shares -/
def x_mkbox.f (a0 : Int) : Option (Int) := some a0

end Go.Proofs.Ytdaeaejmikhmcaa.PEditC
