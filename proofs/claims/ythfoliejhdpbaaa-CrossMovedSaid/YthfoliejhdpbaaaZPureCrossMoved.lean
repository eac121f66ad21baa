import Derived.Test.YthfoliejhdpbaaaZPCroAx53
import Derived.Test.YthfoliejhdpbaaaZXCroW
import Derived.Test.YthfoliejhdpbaaaZXCroS
namespace Go.Proofs.Ythfoliejhdpbaaa.Pure
open Go.RowKit Go.Proofs.Ythfoliejhdpbaaa.PCroA Go.Proofs.YthfoliejhdpbaaaW.PrintWords Go.Proofs.YthfoliejhdpbaaaW.PrintLast Go.Proofs.YthfoliejhdpbaaaX

def CrossMovedP : Prop := ∀ (a0_0 : Int) (l0_1 : List (S62)) (l1 : List (S23)) (a2 : Int) (a3 : Int) (a4 : Int), (Lit.int .i64 a0_0).wf = true → l0_1.length ≤ maxLen → l0_1.length * 16 ≤ 140737488351232 → (∀ x ∈ l0_1, (Lit.int .i64 x.f0).wf = true ∧ (Lit.int .i64 x.f1).wf = true) → l1.length ≤ maxLen → l1.length * 16 ≤ 140737488351232 → (∀ x ∈ l1, (Lit.int .i64 x.f0).wf = true ∧ (Lit.int .i64 x.f1).wf = true) → (Lit.int .i64 a2).wf = true → (Lit.int .i64 a3).wf = true → (Lit.int .i64 a4).wf = true → ∃ k, tangramlaw26_CrossMoved.f k a0_0 l0_1 l1 a2 a3 a4 = some true
theorem CrossMoved : CrossMovedP := by
  intro n l p dx dy t _ _ hl _ _ hp _ _ _ _
  refine Ev.out (?_ : Ev (fun k => tangramlaw26_CrossMoved.f k n l p dx dy t) true)
  have yes : Ev (fun k => tangramlaw26_CrossMoved.j0 k p dx dy t true n l) true := by
    refine Ev.succ ?_
    simp only [tangramlaw26_CrossMoved.j0]
    exact Ev.pos trivial (Ev.now _)
  unfold tangramlaw26_CrossMoved.f
  refine Ev.andThen awake_ev (Ev.pos rfl ?_)
  refine Ev.ite (fun _ => yes) (fun h1 => Ev.ite (fun _ => yes) (fun h2 => Ev.ite (fun _ => yes) (fun h3 => Ev.ite (fun _ => yes) (fun h4 => Ev.ite (fun _ => yes) (fun h5 => ?_)))))
  by_cases h6 : dy > 1000
  · rw [decide_eq_true h6]; exact yes
  · rw [decide_eq_false h6]
    refine Ev.succ ?_
    simp only [tangramlaw26_CrossMoved.j0]
    refine Ev.neg (by decide) (Ev.andThen' (points_eq p (by omega)) ?_)
    have := moved_l0 (n := n) (l := l) (p := p) (t := t) (dx := dx) (dy := dy) (by omega) (by omega) (by omega) (by omega) (by omega) p.length 0 (by omega) (fun j hj => absurd hj (by omega))
    rw [mvA_0] at this
    exact this
end Go.Proofs.Ythfoliejhdpbaaa.Pure
