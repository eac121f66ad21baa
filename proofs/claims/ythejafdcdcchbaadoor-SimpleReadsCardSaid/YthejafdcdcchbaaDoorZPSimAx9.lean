-- PRINTED by print.py (a twelfth state) out of the translation. Not trusted: Lean checks it.
import Derived.Test.YthejafdcdcchbaaDoorZPSimAx0
import Derived.Test.YthejafdcdcchbaaDoorZXSimN
namespace Go.Proofs.YthejafdcdcchbaaDoor.PSimA
open Go.RowKit Go.Proofs.YthejafdcdcchbaaDoorW.PrintWords Go.Proofs.YthejafdcdcchbaaDoorW.PrintLast Go.Proofs.YthejafdcdcchbaaDoorW.PrintMore
open Go.Proofs.YthejafdcdcchbaaDoorX
attribute [local go_sem] max2_int min2_int max_two min_two max_three min_three max_four min_four   -- for this text's walks alone
set_option linter.unusedVariables false
set_option linter.unusedSimpArgs false

/-! ### nums_Text: function 54 -/
def nums_Text.f (a0 : Int) : Option (ByteArray) := if -9223372036854775808 ≤ a0 ∧ a0 ≤ 9223372036854775807 then some (⟨(Lib.itoa a0).toArray⟩ : ByteArray) else none
theorem nums_Text.calls (a0 : Int) (r : ByteArray) (w : World) (hT : TabW w) (h : nums_Text.f a0 = some r) :
  Calls Tryd.prog 54 #[.int .i64 a0] w fun e w' => e = .returned (.string r) ∧ Below w.heap.size w w' := by
 unfold nums_Text.f at h
 by_cases hl : -9223372036854775808 ≤ a0 ∧ a0 ≤ 9223372036854775807
 · rw [if_pos hl] at h; obtain rfl := Option.some.inj h; exact text_c a0 hl.1 hl.2 w hT
 · rw [if_neg hl] at h; cases h

end Go.Proofs.YthejafdcdcchbaaDoor.PSimA
