/- Every Text and Line of nums is the document's; two numbers of one Text are one; where what is read is of bulk at most 1048576. -/
import Derived.Test.YtjgaicdieddekaaDoorZPNumAx18
import Derived.Test.YtjgaicdieddekaaDoorZXNumQ
set_option linter.unusedVariables false
namespace Go.Proofs.YtjgaicdieddekaaDoor.Pure
open Go.RowKit Go.Proofs.YtjgaicdieddekaaDoor.PNumA Go.Proofs.YtjgaicdieddekaaDoorW.PrintWords Go.Proofs.YtjgaicdieddekaaDoorW.PrintLast
open Go.Proofs.YtjgaicdieddekaaDoorX
theorem NumsTexts : tangramlaw01_NumsTexts.Pure := by
  intro l0 a1 a2 hm hl hw h1 h2
  have hb := ints_of hw
  have hb1 := ints_of (l := [a1]) (by simpa using h1) a1 (by simp)
  have hb2 := ints_of (l := [a2]) (by simpa using h2) a2 (by simp)
  refine Ev.out ?_
  unfold tangramlaw01_NumsTexts.f tangramlaw01_awake.f
  simp only [Option.bind_some, List.nil_append, List.length_nil]
  refine Ev.pos (by simp) (Ev.pos (by omega) ?_)
  refine Ev.bind (nums_line l0 hb (by omega)) (Ev.bind (ref_row l0 hb (by omega)) ?_)
  refine Ev.pos rfl ?_
  simp only [nums_text a1 hb1.1 hb1.2, Option.bind_some]
  refine Ev.bind (ref_text a1 hb1.1 hb1.2) ?_
  refine Ev.succ ?_
  simp only [tangramlaw01_NumsTexts.j0, nums_text a1 hb1.1 hb1.2, nums_text a2 hb2.1 hb2.2, Option.bind_some]
  refine Ev.neg (by simp) (Ev.val ?_)
  by_cases c : a1 = a2
  · subst c; simp
  · have e : ¬ Lib.itoa a1 = Lib.itoa a2 := fun h => c (itoa_inj _ _ h)
    rw [bs_toList, bs_toList]
    rw [beq_eq_false_iff_ne.mpr e, beq_eq_false_iff_ne.mpr c]
    rfl
end Go.Proofs.YtjgaicdieddekaaDoor.Pure
