import Derived.Test.YthejafdcdcchbaaDoorZPSimAx43
import Derived.Test.YthejafdcdcchbaaDoorZXSimG
import Derived.Test.YthejafdcdcchbaaDoorZXSimR
namespace Go.Proofs.YthejafdcdcchbaaDoor.Pure
open Go.RowKit Go.Proofs.YthejafdcdcchbaaDoor.PSimA Go.Proofs.YthejafdcdcchbaaDoorW.PrintWords Go.Proofs.YthejafdcdcchbaaDoorW.PrintLast Go.Proofs.YthejafdcdcchbaaDoorX

theorem SimpleReads : tangramlaw03_SimpleReads.Pure := by
  intro l _ hl _
  refine Ev.out (?_ : Ev (fun k => tangramlaw03_SimpleReads.f k l) true)
  unfold tangramlaw03_SimpleReads.f
  refine Ev.andThen' (show tangramlaw03_wakes.f = some true from rfl) (Ev.pos rfl ?_)
  have er : ∀ k, parse_Raw.f k ([] ++ l) = some (rawF l) := fun k => by
    unfold parse_Raw.f
    rw [List.nil_append, if_pos (by omega)]
  have er' : Ev (fun k => parse_Raw.f k ([] ++ l)) (rawF l) := by
    simp only [er]
    exact Ev.val rfl
  have hk := rawF_ok l
  have ed : Ev (fun k => simple_Read.f k ([] ++ l)) (if (rawF l).2.2.1 = 0 then ((makeF (rawF l).1 (rawF l).2.1).1, (makeF (rawF l).1 (rawF l).2.1).2.1, 0, 0) else (0, [], (rawF l).2.2.1, (rawF l).2.2.2)) := by
    unfold simple_Read.f
    refine Ev.andThen er' ?_
    by_cases c : (rawF l).2.2.1 = 0
    · rw [if_pos c]
      obtain ⟨_, _, hb, _⟩ := hk c
      have em : ∀ k, simple_Make.f k (rawF l).1 (rawF l).2.1 = some (makeF (rawF l).1 (rawF l).2.1) := fun k => by
        unfold simple_Make.f
        rw [if_pos (by omega)]
      refine Ev.pos c (Ev.andThen (a := makeF (rawF l).1 (rawF l).2.1) ?_ (Ev.val rfl))
      simp only [em]
      exact Ev.val rfl
    · rw [if_neg c]
      exact Ev.neg c (Ev.val rfl)
  refine Ev.andThen' (show (some (([] : List Int) : List Int)) = some [] from rfl) (Ev.pos (by simp; omega) (Ev.andThen er' (Ev.andThen' (show (some (([] : List Int) : List Int)) = some [] from rfl) (Ev.pos (by simp; omega) (Ev.andThen ed ?_)))))
  by_cases c : (rawF l).2.2.1 = 0
  · obtain ⟨ha, hN, hb, hp⟩ := hk c
    rw [if_pos c]
    refine Ev.neg (by simp [c, ha]) (Ev.pos c ?_)
    have hm : (makeF (rawF l).1 (rawF l).2.1).2.2 = 0 := by
      unfold makeF
      rw [if_neg (by omega), if_neg, if_neg]
      · have := mkE_len (rawF l).2.1
        omega
      · intro e
        obtain ⟨p, hp1, hp2⟩ := List.any_eq_true.1 e
        obtain ⟨⟨q0, q1⟩, q2, q3⟩ := hp p hp1
        unfold badP at hp2
        simp only [Bool.or_eq_true, decide_eq_true_eq] at hp2
        omega
    have h := makeF_len (rawF l).1 (rawF l).2.1
    refine Ev.andThen (make_ev _ _ (by omega)) (Ev.pos hm (Ev.andThen (equal_ev _ _ _ _ (by dsimp only; omega)) ?_))
    exact Ev.val (by simp)
  · rw [if_neg c]
    refine Ev.neg (by simp) (Ev.neg c (Ev.andThen (equal_ev _ _ _ _ (by simp)) ?_))
    exact Ev.val (by simp)
end Go.Proofs.YthejafdcdcchbaaDoor.Pure
