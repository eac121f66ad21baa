-- PRINTED by print.py (a twelfth state) out of the translation. Not trusted: Lean checks it.
import Derived.Test.YthejafdcdcchbaaDoorZPSimAx0
import Derived.Test.YthejafdcdcchbaaDoorZXSimT
import Derived.Test.YthejafdcdcchbaaDoorZPSimAx8
namespace Go.Proofs.YthejafdcdcchbaaDoor.PSimA
open Go.RowKit Go.Proofs.YthejafdcdcchbaaDoorW.PrintWords Go.Proofs.YthejafdcdcchbaaDoorW.PrintLast Go.Proofs.YthejafdcdcchbaaDoorW.PrintMore
open Go.Proofs.YthejafdcdcchbaaDoorX
attribute [local go_sem] max2_int min2_int max_two min_two max_three min_three max_four min_four   -- for this text's walks alone
set_option linter.unusedVariables false
set_option linter.unusedSimpArgs false

/-! ### simple_Text: function 17 -/
def simple_Text.f (k : Nat) (a0_0 : Int) (l0_1 : List (S42)) : Option (ByteArray × Int) := (simple_Valid.f k a0_0 l0_1).bind fun v => some (textF v a0_0 l0_1)
theorem simple_Text.mono : ∀ a0 a1 k, LeO (simple_Text.f k a0 a1) (simple_Text.f (k + 1) a0 a1) := fun a0_0 l0_1 k => LeO.bind (simple_Valid.mono a0_0 l0_1 k) (fun _ => LeO.refl _)
theorem simple_Text.calls (k : Nat) (a0_0 : Int) (A0_1 : Option Addr) (c0_1 : Nat) (l0_1 : List (S42)) (r1 : ByteArray) (r2 : Int) (w : World) (hT : TabW w) (hr0_1 : Kd.C k42 w A0_1 l0_1.length l0_1) (hc0_1 : l0_1.length ≤ c0_1) (h : simple_Text.f k a0_0 l0_1 = some (r1, r2)) :
  Calls Tryd.prog 17 #[.agg #[.int .i64 a0_0, .slice A0_1 l0_1.length c0_1]] w fun e w' => e = .returned (.tuple #[.string r1, .int .i64 r2]) ∧ Below w.heap.size w w' := by
 unfold simple_Text.f at h
 obtain ⟨v, hv, h⟩ := Option.bind_eq_some_iff.mp h; have e_ := Option.some.inj h; refine (simpleText_c k a0_0 A0_1 c0_1 l0_1 v w hT hr0_1 hc0_1 hv).mono ?_; intro e w' hP; rw [e_] at hP; exact hP

end Go.Proofs.YthejafdcdcchbaaDoor.PSimA
