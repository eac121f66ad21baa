-- PRINTED by print.py (a twelfth state) out of the translation. Not trusted: Lean checks it.
import Derived.Test.YthejafdcdcchbaaDoorZPSimAx0
import Derived.Test.YthejafdcdcchbaaDoorZXRaw
namespace Go.Proofs.YthejafdcdcchbaaDoor.PSimA
open Go.RowKit Go.Proofs.YthejafdcdcchbaaDoorW.PrintWords Go.Proofs.YthejafdcdcchbaaDoorW.PrintLast Go.Proofs.YthejafdcdcchbaaDoorW.PrintMore
open Go.Proofs.YthejafdcdcchbaaDoorX
attribute [local go_sem] max2_int min2_int max_two min_two max_three min_three max_four min_four   -- for this text's walks alone
set_option linter.unusedVariables false
set_option linter.unusedSimpArgs false

/-! ### parse_Raw: function 32 -/
def parse_Raw.f (k : Nat) (l0 : List Int) : Option (Int × (List (S53)) × Int × Int) := if l0.length ≤ 140737488355328 then some (rawF l0) else none
theorem parse_Raw.mono : ∀ a0 k, LeO (parse_Raw.f k a0) (parse_Raw.f (k + 1) a0) := fun _ _ => LeO.refl _
theorem parse_Raw.calls (k : Nat) (A0 : Option Addr) (c0 : Nat) (l0 : List Int) (r1 : Int) (r2 : List (S53)) (r3 : Int) (r4 : Int) (w : World) (hr0 : Kd.C (Kd.int .u8) w A0 l0.length l0) (hc0 : l0.length ≤ c0) (h : parse_Raw.f k l0 = some (r1, r2, r3, r4)) :
  Calls Tryd.prog 32 #[.slice A0 l0.length c0] w fun e w' => ∃ v1_ : Value, e = .returned (.tuple #[.agg #[.int .i64 r1, v1_], .agg #[.int .i64 r3, .int .i64 r4]]) ∧ Kd.R k53 53 w' w.heap.size (fun _ => True) v1_ r2 ∧ Below w.heap.size w w' := by
 unfold parse_Raw.f at h
 by_cases hl : l0.length ≤ 140737488355328
 · rw [if_pos hl] at h; have e_ := Option.some.inj h; refine (raw_c hr0 hl).mono ?_; intro e w' hP; rw [e_] at hP; exact hP
 · rw [if_neg hl] at h; cases h

end Go.Proofs.YthejafdcdcchbaaDoor.PSimA
