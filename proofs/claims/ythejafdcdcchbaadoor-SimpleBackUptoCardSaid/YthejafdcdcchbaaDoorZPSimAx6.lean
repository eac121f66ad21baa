-- PRINTED by print.py (a twelfth state) out of the translation. Not trusted: Lean checks it.
import Derived.Test.YthejafdcdcchbaaDoorZPSimAx0
import Derived.Test.YthejafdcdcchbaaDoorZXSimC
namespace Go.Proofs.YthejafdcdcchbaaDoor.PSimA
open Go.RowKit Go.Proofs.YthejafdcdcchbaaDoorW.PrintWords Go.Proofs.YthejafdcdcchbaaDoorW.PrintLast Go.Proofs.YthejafdcdcchbaaDoorW.PrintMore
open Go.Proofs.YthejafdcdcchbaaDoorX
attribute [local go_sem] max2_int min2_int max_two min_two max_three min_three max_four min_four   -- for this text's walks alone
set_option linter.unusedVariables false
set_option linter.unusedSimpArgs false

/-! ### simple_Make: function 13 -/
def simple_Make.f (k : Nat) (a0 : Int) (l1 : List (S53)) : Option (Int × (List (S42)) × Int) := if l1.length ≤ 8796093022208 then some (makeF a0 l1) else none
theorem simple_Make.mono : ∀ a0 a1 k, LeO (simple_Make.f k a0 a1) (simple_Make.f (k + 1) a0 a1) := fun _ _ _ => LeO.refl _
theorem simple_Make.calls (k : Nat) (a0 : Int) (A1 : Option Addr) (c1 : Nat) (l1 : List (S53)) (r1 : Int) (r2 : List (S42)) (r3 : Int) (w : World) (hr1 : Kd.C k53 w A1 l1.length l1) (hc1 : l1.length ≤ c1) (h : simple_Make.f k a0 l1 = some (r1, r2, r3)) :
  Calls Tryd.prog 13 #[.int .i64 a0, .slice A1 l1.length c1] w fun e w' => ∃ v1_ : Value, e = .returned (.tuple #[.agg #[.int .i64 r1, v1_], .int .i64 r3]) ∧ Kd.R k42 42 w' w.heap.size (fun _ => True) v1_ r2 ∧ Below w.heap.size w w' := by
 unfold simple_Make.f at h
 by_cases hl : l1.length ≤ 8796093022208
 · rw [if_pos hl] at h; have e_ := Option.some.inj h; refine (make_c a0 A1 c1 l1 w hr1 hl).mono ?_; intro e w' hP; rw [e_] at hP; exact hP
 · rw [if_neg hl] at h; cases h

end Go.Proofs.YthejafdcdcchbaaDoor.PSimA
