import Derived.Test.YtjgaicdieddekaaDoorZXScan
set_option linter.unusedVariables false
set_option linter.unusedSimpArgs false
namespace Go.Proofs.YtjgaicdieddekaaDoor.PNumA
open Go.RowKit Go.Proofs.YtjgaicdieddekaaDoorW.PrintWords Go.Proofs.YtjgaicdieddekaaDoorW.PrintLast Go.Proofs.YtjgaicdieddekaaDoorW.PrintMore Go.Proofs.YtjgaicdieddekaaDoorX
set_option maxHeartbeats 4000000 in
set_option maxRecDepth 100000 in
theorem catch_idle (a1 a2 a3 : Addr) (w : World) : CallsD Tryd.prog 22 #[.pointer (some a1), .pointer (some a2), .pointer (some a3)] .returning w fun e u' w' => e = .returned (.tuple #[]) ∧ u' = .returning ∧ w' = w := by
  refine callsD_of_wpS Tryd.func22 rfl fun c₀ cs hu => ?_
  apply wpS_seq
  apply wpS_region
  simp [wpOpsS, go_sem, recoverD, hu, Tryd.ntmps22, Exit.thenS]
  refine wpS_of_wp ?_
  simp only [Array.replicate_succ, Array.replicate_zero, List.push_toArray, List.append_toArray, List.nil_append, List.cons_append, List.setIfInBounds_toArray, List.set_cons_succ, List.set_cons_zero]
  go_wp2
  cases c₀
  simp at hu
  simp [bodyPostS, results, Tryd.results22, hu]
theorem as60 (a b : Int) (w : World) : (Instr.typeAssert (.iface 59 (.agg #[.int .i64 a, .int .i64 b])) 20 59 true).run Tryd.prog w = .ok (.tuple #[.agg #[.int .i64 a, .int .i64 b], .bool true]) w := by kernel_rfl
end Go.Proofs.YtjgaicdieddekaaDoor.PNumA
