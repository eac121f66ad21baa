import Derived.Test.YthejafdcdcchbaaDoorZPSimAx25
import Derived.Test.YthejafdcdcchbaaDoorZXSimF
namespace Go.Proofs.YthejafdcdcchbaaDoor.Pure
open Go.RowKit Go.Proofs.YthejafdcdcchbaaDoor.PSimA Go.Proofs.YthejafdcdcchbaaDoorW.PrintWords Go.Proofs.YthejafdcdcchbaaDoorW.PrintLast Go.Proofs.YthejafdcdcchbaaDoorX

def SimpleAsksP : Prop := ∀ (a0_0 : Int) (l0_1 : List (S42)) (a1_0 : Int) (a1_1 : Int) (a2 : Int), (Lit.int .i64 a0_0).wf = true → l0_1.length ≤ maxLen → l0_1.length * 16 ≤ 140737488351232 → (∀ x ∈ l0_1, (Lit.int .i64 x.f0).wf = true ∧ (Lit.int .i64 x.f1).wf = true) → (Lit.int .i64 a1_0).wf = true → (Lit.int .i64 a1_1).wf = true → (Lit.int .i64 a2).wf = true → ∃ k, tangramlaw03_SimpleAsks.f k a0_0 l0_1 a1_0 a1_1 a2 = some true
theorem SimpleAsks : SimpleAsksP := by
  intro n l a b f _ _ hl _ _ _ wf
  have hf : f ≤ 9223372036854775807 := by
    simp [Lit.wf, IntKind.min, IntKind.max, IntKind.bits, IntKind.signed] at wf
    omega
  refine Ev.out (?_ : Ev (fun k => tangramlaw03_SimpleAsks.f k n l a b f) true)
  have cp := copy_ev n l (by omega)
  obtain ⟨r, hr, _, hv, hw⟩ := degs n l
  obtain ⟨s, hs, ht⟩ := finds n l a b
  unfold tangramlaw03_SimpleAsks.f
  refine Ev.andThen' (show tangramlaw03_wakes.f = some true from rfl) (Ev.pos rfl ?_)
  refine Ev.andThen cp (Ev.andThen (ends_ev n l f hf) (Ev.andThen (ends3_ev n l f hf) (Ev.andThen cp (Ev.andThen hv (Ev.andThen hw ?_)))))
  refine Ev.pos rfl (Ev.pos rfl (Ev.neg (by simp) (Ev.pos rfl (Ev.andThen (ints_ev r.1 hr) (Ev.succ ?_)))))
  simp only [tangramlaw03_SimpleAsks.j0]
  refine Ev.neg (by simp) (Ev.andThen cp (Ev.andThen (valid_ev n l) (Ev.andThen (valid3_ev n l) (Ev.pos (by simp) (Ev.andThen cp (Ev.andThen hs (Ev.andThen ht (Ev.val (by simp)))))))))
end Go.Proofs.YthejafdcdcchbaaDoor.Pure
