-- By hand: slices.Grow of a nil row.
import Derived.Test.YthfoliejhdpbaaaZPCroAx0
import Derived.Test.YthfoliejhdpbaaaZXPure
set_option linter.unusedVariables false
set_option linter.unusedSimpArgs false
namespace Go.Proofs.Ythfoliejhdpbaaa.PCroA
open Go.RowKit Go.Proofs.YthfoliejhdpbaaaW.PrintWords Go.Proofs.YthfoliejhdpbaaaW.PrintLast Go.Proofs.YthfoliejhdpbaaaW.PrintMore Go.Proofs.YthfoliejhdpbaaaX
set_option maxHeartbeats 4000000 in
set_option maxRecDepth 100000 in
theorem grow_c (n : Int) (h0 : 0 ≤ n) (h1 : n.toNat ≤ 17592186044416) (w : World) : Calls Try.prog 91 #[.slice none 0 0, .int .i64 n] w fun e w' => ∃ v, e = .returned v ∧ Kd.R (Kd.int .i64) 3 w' w.heap.size (fun _ => True) v [] ∧ Below w.heap.size w w' := by
  have c0 : decide (n < 0) = false := decide_eq_false (by omega)
  have e0 : wrap64 (n - 0) = n := by rw [w64 (by omega) (by omega)]; omega
  by_cases cn : 0 < n
  · have c1 : decide (0 < n) = true := decide_eq_true cn
    go_enter Try.func91, Try.ntmps91
    go_wp2_with ((with_reducible refine gate_builtin (b := .append) (xs := #[.tmp 20, .tmp 21]) rfl ?_); at_builtin; refine Kd.R_append_zeros (Kd.int .i64) (w0 := w) w.heap.size rfl (.tmp 20) (.tmp 21) 49 3 3 (.int .i64 0) 8 rfl Try.underlying49 Try.underlying3 info3 rfl (by decide) (by omega) (.slice none 0 0) ([] : List Int) 0 n (fun _ => True) rfl rfl rfl (fun _ _ => trivial) (Kd.R_nil _ _ _ _ _) h0 (Below.refl _ _) (Nat.le_refl _) (by simp; omega) ?_; intro v1 w1 ho hb hg hat; obtain ⟨A, c, rfl⟩ := Kd.R_slice ho; have HO := Aside0.mk ho; have HB := Aside0.mk hb; clear ho hb hg hat)
    go_ret
    refine ⟨_, rfl, ?_, HB.out⟩
    exact Kd.R_take (m := 0) HO.out (Nat.zero_le _)
  · have c1 : decide (0 < n) = false := decide_eq_false cn
    go_enter Try.func91, Try.ntmps91
    go_wp2
    go_ret
    exact ⟨_, rfl, Kd.R_nil _ _ _ _ _, Below.refl _ _⟩
end Go.Proofs.Ythfoliejhdpbaaa.PCroA
