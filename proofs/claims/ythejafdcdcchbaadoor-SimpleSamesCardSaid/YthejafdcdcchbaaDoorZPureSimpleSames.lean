import Derived.Test.YthejafdcdcchbaaDoorZPSimAx30
import Derived.Test.YthejafdcdcchbaaDoorZXSimE
namespace Go.Proofs.YthejafdcdcchbaaDoor.Pure
open Go.RowKit Go.Proofs.YthejafdcdcchbaaDoor.PSimA Go.Proofs.YthejafdcdcchbaaDoorW.PrintWords Go.Proofs.YthejafdcdcchbaaDoorW.PrintLast Go.Proofs.YthejafdcdcchbaaDoorX

def SimpleSamesP : Prop := ∀ (a0_0 : Int) (l0_1 : List (S42)) (a1_0 : Int) (l1_1 : List (S42)), (Lit.int .i64 a0_0).wf = true → l0_1.length ≤ maxLen → l0_1.length * 16 ≤ 140737488351232 → (∀ x ∈ l0_1, (Lit.int .i64 x.f0).wf = true ∧ (Lit.int .i64 x.f1).wf = true) → (Lit.int .i64 a1_0).wf = true → l1_1.length ≤ maxLen → l1_1.length * 16 ≤ 140737488351232 → (∀ x ∈ l1_1, (Lit.int .i64 x.f0).wf = true ∧ (Lit.int .i64 x.f1).wf = true) → ∃ k, tangramlaw03_SimpleSames.f k a0_0 l0_1 a1_0 l1_1 = some true
theorem SimpleSames : SimpleSamesP := by
  intro n l m q _ _ hl _ _ _ hq _
  refine Ev.out (?_ : Ev (fun k => tangramlaw03_SimpleSames.f k n l m q) true)
  unfold tangramlaw03_SimpleSames.f
  refine Ev.andThen' (show tangramlaw03_wakes.f = some true from rfl) (Ev.pos rfl ?_)
  refine Ev.andThen (same3_ev n m l q (by omega)) (Ev.andThen (copy_ev n l (by omega)) (Ev.andThen (copy_ev m q (by omega)) (Ev.andThen (same_ev n m l q (by omega)) ?_)))
  refine Ev.pos (by simp) ?_
  refine Ev.andThen (copy_ev m q (by omega)) (Ev.andThen (copy_ev n l (by omega)) (Ev.andThen (same_ev m n q l (by omega)) (Ev.val ?_)))
  rw [sameR_symm m n q l]
  simp
end Go.Proofs.YthejafdcdcchbaaDoor.Pure
