import Derived.Test.YthejafdcdcchbaaDoorZPSimAx36
import Derived.Test.YthejafdcdcchbaaDoorZXSimH
namespace Go.Proofs.YthejafdcdcchbaaDoor.Pure
open Go.RowKit Go.Proofs.YthejafdcdcchbaaDoor.PSimA Go.Proofs.YthejafdcdcchbaaDoorW.PrintWords Go.Proofs.YthejafdcdcchbaaDoorW.PrintLast Go.Proofs.YthejafdcdcchbaaDoorX

def SimpleTextsP : Prop := ∀ (a0_0 : Int) (l0_1 : List (S42)), (Lit.int .i64 a0_0).wf = true → l0_1.length ≤ maxLen → l0_1.length * 16 ≤ 140737488351232 → (∀ x ∈ l0_1, (Lit.int .i64 x.f0).wf = true ∧ (Lit.int .i64 x.f1).wf = true) → ∃ k, tangramlaw03_SimpleTexts.f k a0_0 l0_1 = some true
theorem SimpleTexts : SimpleTextsP := by
  intro n l _ _ hl _
  refine Ev.out (?_ : Ev (fun k => tangramlaw03_SimpleTexts.f k n l) true)
  unfold tangramlaw03_SimpleTexts.f
  have st : Ev (fun k => simple_Text.f k n l) (textF (decide (Ok n l)) n l) := by
    unfold simple_Text.f
    exact Ev.andThen (valid_ev n l) (Ev.val rfl)
  refine Ev.andThen' (show tangramlaw03_wakes.f = some true from rfl) (Ev.pos rfl ?_)
  exact Ev.andThen (text3_ev n l) (Ev.andThen (copy_ev n l (by omega)) (Ev.andThen st (Ev.pos rfl (Ev.val (by simp)))))
end Go.Proofs.YthejafdcdcchbaaDoor.Pure
