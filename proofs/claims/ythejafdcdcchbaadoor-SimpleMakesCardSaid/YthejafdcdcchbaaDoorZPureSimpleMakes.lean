import Derived.Test.YthejafdcdcchbaaDoorZPSimAx33
import Derived.Test.YthejafdcdcchbaaDoorZXSimG
namespace Go.Proofs.YthejafdcdcchbaaDoor.Pure
open Go.RowKit Go.Proofs.YthejafdcdcchbaaDoor.PSimA Go.Proofs.YthejafdcdcchbaaDoorW.PrintWords Go.Proofs.YthejafdcdcchbaaDoorW.PrintLast Go.Proofs.YthejafdcdcchbaaDoorX

def SimpleMakesP : Prop := ∀ (a0 : Int) (l1 : List (S53)), (Lit.int .i64 a0).wf = true → l1.length ≤ maxLen → l1.length * 16 ≤ 140737488351232 → (∀ x ∈ l1, (Lit.int .i64 x.f0).wf = true ∧ (Lit.int .i64 x.f1).wf = true) → ∃ k, tangramlaw03_SimpleMakes.f k a0 l1 = some true
theorem SimpleMakes : SimpleMakesP := by
  intro n ps _ _ hl _
  refine Ev.out (?_ : Ev (fun k => tangramlaw03_SimpleMakes.f k n ps) true)
  unfold tangramlaw03_SimpleMakes.f
  refine Ev.andThen' (show tangramlaw03_wakes.f = some true from rfl) (Ev.pos rfl ?_)
  have ec : tangramlaw03_copied.f ps = some ps := by
    unfold tangramlaw03_copied.f
    rw [Option.bind_some, if_pos (by simp; omega)]
    simp
  have em : ∀ k, simple_Make.f k n ps = some (makeF n ps) := fun k => by
    unfold simple_Make.f
    rw [if_pos (by omega)]
  have em' : Ev (fun k => simple_Make.f k n ps) (makeF n ps) := by
    simp only [em]
    exact Ev.val rfl
  have h := makeF_len n ps
  refine Ev.andThen (make_ev n ps (by omega)) (Ev.andThen' ec (Ev.andThen em' (Ev.andThen (equal_ev _ _ _ _ (by omega)) ?_)))
  exact Ev.pos (by simp) (Ev.val (by simp))
end Go.Proofs.YthejafdcdcchbaaDoor.Pure
