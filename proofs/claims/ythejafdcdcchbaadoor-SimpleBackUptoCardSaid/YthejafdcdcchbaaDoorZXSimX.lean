-- layer 3 (simple), pure: Read.
import Derived.Test.YthejafdcdcchbaaDoorZXSimG
import Derived.Test.YthejafdcdcchbaaDoorZXSimR
import Derived.Test.YthejafdcdcchbaaDoorZPSimAx41
set_option linter.unusedVariables false
set_option linter.unusedSimpArgs false
namespace Go.Proofs.YthejafdcdcchbaaDoor.Pure
open Go.RowKit Go.Proofs.YthejafdcdcchbaaDoor.PSimA Go.Proofs.YthejafdcdcchbaaDoorW.PrintWords Go.Proofs.YthejafdcdcchbaaDoorW.PrintLast Go.Proofs.YthejafdcdcchbaaDoorX
theorem read_ev (l : List Int) (hl : l.length ≤ 140737488355328) : Ev (fun k => simple_Read.f k l) (if (rawF l).2.2.1 = 0 then ((makeF (rawF l).1 (rawF l).2.1).1, (makeF (rawF l).1 (rawF l).2.1).2.1, 0, 0) else (0, [], (rawF l).2.2.1, (rawF l).2.2.2)) := by
  have er : ∀ k, parse_Raw.f k l = some (rawF l) := fun k => by
    unfold parse_Raw.f
    rw [if_pos (by omega)]
  have er' : Ev (fun k => parse_Raw.f k l) (rawF l) := by
    simp only [er]
    exact Ev.val rfl
  have hk := rawF_ok l
  unfold simple_Read.f
  refine Ev.andThen er' ?_
  by_cases c : (rawF l).2.2.1 = 0
  · rw [if_pos c]
    obtain ⟨_, _, hb, _⟩ := hk c
    have em : ∀ k, simple_Make.f k (rawF l).1 (rawF l).2.1 = some (makeF (rawF l).1 (rawF l).2.1) := fun k => by
      unfold simple_Make.f
      rw [if_pos (by omega)]
    refine Ev.pos c (Ev.andThen (a := makeF (rawF l).1 (rawF l).2.1) ?_ (Ev.val rfl))
    simp only [em]
    exact Ev.val rfl
  · rw [if_neg c]
    exact Ev.neg c (Ev.val rfl)
end Go.Proofs.YthejafdcdcchbaaDoor.Pure
