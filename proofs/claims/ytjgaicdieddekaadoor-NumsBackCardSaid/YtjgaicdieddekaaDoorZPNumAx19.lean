-- PRINTED by print.py (a twelfth state) out of the translation. Not trusted: Lean checks it.
import Derived.Test.YtjgaicdieddekaaDoorZPNumAx0
import Derived.Test.YtjgaicdieddekaaDoorZXNumC
namespace Go.Proofs.YtjgaicdieddekaaDoor.PNumA
open Go.RowKit Go.Proofs.YtjgaicdieddekaaDoorW.PrintWords Go.Proofs.YtjgaicdieddekaaDoorW.PrintLast Go.Proofs.YtjgaicdieddekaaDoorW.PrintMore
open Go.Proofs.YtjgaicdieddekaaDoorX
attribute [local go_sem] max2_int min2_int max_two min_two max_three min_three max_four min_four   -- for this text's walks alone
set_option linter.unusedVariables false
set_option linter.unusedSimpArgs false

/-! ### nums_scanner_all: function 23 -/
def nums_scanner_all.f (k : Nat) (a0 : ByteArray) : Option ((List (S34)) × Int × Int) := if a0.size ≤ 140737488355328 then (match scanF (a0.data.toList.map fun c => (c.toNat : Int)) with | .ok ts => some (ts, 0, 0) | .error ab => some ([], ab.1, ab.2)) else none
theorem nums_scanner_all.mono : ∀ a0 k, LeO (nums_scanner_all.f k a0) (nums_scanner_all.f (k + 1) a0) := fun _ _ => LeO.refl _
theorem nums_scanner_all.calls (k : Nat) (a0 : ByteArray) (r1 : List (S34)) (r2 : Int) (r3 : Int) (w : World) (h : nums_scanner_all.f k a0 = some (r1, r2, r3)) :
  Calls Tryd.prog 11 #[.slice (some ⟨w.heap.size, 0, none⟩) a0.size (grownCap w a0.size 0 5)] (Lib.bytesWorld w 5 a0) fun e w' => ∃ v0_ : Value, e = .returned (.tuple #[v0_, .int .i64 r2, .int .i64 r3]) ∧ Kd.R k34 34 w' w.heap.size (fun _ => True) v0_ r1 ∧ Below w.heap.size w w' := by
 unfold nums_scanner_all.f at h
 by_cases hl : a0.size ≤ 140737488355328
 · rw [if_pos hl] at h
   have hP := scan_text a0 hl w
   cases hR : scanF (a0.data.toList.map fun c => (c.toNat : Int)) with
   | ok ts => rw [hR] at h hP; simp only [Option.some.injEq, Prod.mk.injEq] at h; obtain ⟨rfl, rfl, rfl⟩ := h; exact hP
   | error ab => obtain ⟨a, b⟩ := ab; rw [hR] at h hP; simp only [Option.some.injEq, Prod.mk.injEq] at h; obtain ⟨rfl, rfl, rfl⟩ := h; exact hP.mono fun e w' ⟨he, hb⟩ => ⟨_, he, Kd.R_nil _ _ _ _ _, hb⟩
 · rw [if_neg hl] at h; cases h

end Go.Proofs.YtjgaicdieddekaaDoor.PNumA
