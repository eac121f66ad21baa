-- PRINTED by print.py (a twelfth state) out of the translation. Not trusted: Lean checks it.
import Derived.Test.YtjgaicdieddekaaDoorZPNumAx0
import Derived.Test.YtjgaicdieddekaaDoorZXNumA
namespace Go.Proofs.YtjgaicdieddekaaDoor.PNumA
open Go.RowKit Go.Proofs.YtjgaicdieddekaaDoorW.PrintWords Go.Proofs.YtjgaicdieddekaaDoorW.PrintLast Go.Proofs.YtjgaicdieddekaaDoorW.PrintMore
open Go.Proofs.YtjgaicdieddekaaDoorX
attribute [local go_sem] max2_int min2_int max_two min_two max_three min_three max_four min_four   -- for this text's walks alone
set_option linter.unusedVariables false
set_option linter.unusedSimpArgs false

/-! ### strings_Join: function 27 -/
def strings_Join.f (k : Nat) (l0 : List ByteArray) (a1 : ByteArray) : Option (ByteArray) := if l0.length ≤ 140737488355328 ∧ (Lib.join (l0.map (·.data.toList)) a1.data.toList).length ≤ 140737488355328 then some (⟨(Lib.join (l0.map (·.data.toList)) a1.data.toList).toArray⟩ : ByteArray) else none
theorem strings_Join.mono : ∀ a0 a1 k, LeO (strings_Join.f k a0 a1) (strings_Join.f (k + 1) a0 a1) := fun _ _ _ => LeO.refl _
theorem strings_Join.calls (k : Nat) (A0 : Option Addr) (c0 : Nat) (l0 : List ByteArray) (a1 : ByteArray) (r : ByteArray) (w : World) (hr0 : Kd.C Kd.string w A0 l0.length l0) (hc0 : l0.length ≤ c0) (h : strings_Join.f k l0 a1 = some r) :
  Calls Tryd.prog 27 #[.slice A0 l0.length c0, .string a1] w fun e w' => e = .returned (.string r) ∧ Below w.heap.size w w' := by
 unfold strings_Join.f at h
 by_cases hl : l0.length ≤ 140737488355328 ∧ (Lib.join (l0.map (·.data.toList)) a1.data.toList).length ≤ 140737488355328
 · rw [if_pos hl] at h; obtain rfl := Option.some.inj h; exact join_c hr0 hc0 hl.1 hl.2
 · rw [if_neg hl] at h; cases h

end Go.Proofs.YtjgaicdieddekaaDoor.PNumA
