-- PRINTED by print.py (a twelfth state) out of the translation. Not trusted: Lean checks it.
import Derived.Test.YtjgaicdieddekaaDoorZPNumAx0
import Derived.Test.YtjgaicdieddekaaDoorZXScanD
namespace Go.Proofs.YtjgaicdieddekaaDoor.PNumA
open Go.RowKit Go.Proofs.YtjgaicdieddekaaDoorW.PrintWords Go.Proofs.YtjgaicdieddekaaDoorW.PrintLast Go.Proofs.YtjgaicdieddekaaDoorW.PrintMore
open Go.Proofs.YtjgaicdieddekaaDoorX
attribute [local go_sem] max2_int min2_int max_two min_two max_three min_three max_four min_four   -- for this text's walks alone
set_option linter.unusedVariables false
set_option linter.unusedSimpArgs false

/-! ### nums_Scan: function 11 -/
def nums_Scan.f (k : Nat) (l0 : List Int) : Option ((List (S34)) × Int × Int) := if l0.length ≤ 140737488355328 then (match scanF l0 with | .ok ts => some (ts, 0, 0) | .error ab => some ([], ab.1, ab.2)) else none
theorem nums_Scan.mono : ∀ a0 k, LeO (nums_Scan.f k a0) (nums_Scan.f (k + 1) a0) := fun _ _ => LeO.refl _
theorem nums_Scan.calls (k : Nat) (A0 : Option Addr) (c0 : Nat) (l0 : List Int) (r1 : List (S34)) (r2 : Int) (r3 : Int) (w : World) (hr0 : Kd.C (Kd.int .u8) w A0 l0.length l0) (hc0 : l0.length ≤ c0) (h : nums_Scan.f k l0 = some (r1, r2, r3)) :
  Calls Tryd.prog 11 #[.slice A0 l0.length c0] w fun e w' => ∃ v0_ : Value, e = .returned (.tuple #[v0_, .int .i64 r2, .int .i64 r3]) ∧ Kd.R k34 34 w' w.heap.size (fun _ => True) v0_ r1 ∧ Below w.heap.size w w' := by
 unfold nums_Scan.f at h
 by_cases hl : l0.length ≤ 140737488355328
 · rw [if_pos hl] at h
   refine (scan_c hr0 hl).mono ?_; intro e w' hP
   cases hR : scanF l0 with
   | ok ts => rw [hR] at h hP; simp only [Option.some.injEq, Prod.mk.injEq] at h; obtain ⟨rfl, rfl, rfl⟩ := h; exact hP
   | error ab => obtain ⟨a, b⟩ := ab; rw [hR] at h hP; simp only [Option.some.injEq, Prod.mk.injEq] at h; obtain ⟨rfl, rfl, rfl⟩ := h; obtain ⟨rfl, hb⟩ := hP; exact ⟨_, rfl, Kd.R_nil _ _ _ _ _, hb⟩
 · rw [if_neg hl] at h; cases h

end Go.Proofs.YtjgaicdieddekaaDoor.PNumA
