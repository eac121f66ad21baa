import Derived.Test.YthfoliejhdpbaaaZPCroAx51
import Derived.Test.YthfoliejhdpbaaaZXCroW
import Derived.Test.YthfoliejhdpbaaaZXCroK
namespace Go.Proofs.Ythfoliejhdpbaaa.Pure
open Go.RowKit Go.Proofs.Ythfoliejhdpbaaa.PCroA Go.Proofs.YthfoliejhdpbaaaW.PrintWords Go.Proofs.YthfoliejhdpbaaaW.PrintLast Go.Proofs.YthfoliejhdpbaaaX

def CrossFirstP : Prop := ∀ (a0_0 : Int) (l0_1 : List (S62)) (l1 : List (S23)), (Lit.int .i64 a0_0).wf = true → l0_1.length ≤ maxLen → l0_1.length * 16 ≤ 140737488351232 → (∀ x ∈ l0_1, (Lit.int .i64 x.f0).wf = true ∧ (Lit.int .i64 x.f1).wf = true) → l1.length ≤ maxLen → l1.length * 16 ≤ 140737488351232 → (∀ x ∈ l1, (Lit.int .i64 x.f0).wf = true ∧ (Lit.int .i64 x.f1).wf = true) → ∃ k, tangramlaw26_CrossFirst.f k a0_0 l0_1 l1 = some true
theorem CrossFirst : CrossFirstP := by
  intro n l p _ _ hl _ _ hp _
  refine Ev.out (?_ : Ev (fun k => tangramlaw26_CrossFirst.f k n l p) true)
  unfold tangramlaw26_CrossFirst.f
  refine Ev.andThen awake_ev (Ev.pos rfl (Ev.andThen' (graph_eq n l (by omega)) (Ev.andThen' (points_eq p (by omega)) ?_)))
  refine Ev.andThen (first_ev n l p (by omega)) (Ev.andThen (first2_ev n l p (by omega)) (Ev.pos rfl (Ev.pos rfl (Ev.pos rfl ?_))))
  refine Ev.andThen (proper_ev n l p (by omega)) (Ev.andThen (proper2_ev n l p (by omega)) ?_)
  rw [bne_self_eq_false]
  exact Ev.ff (Ev.andThen (kept_ev n l p (by omega) (by omega)) (Ev.now _))
end Go.Proofs.Ythfoliejhdpbaaa.Pure
