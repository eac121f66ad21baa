/- Every Scan of nums is the document's: its tokens, its place, its error; whatever the bytes. -/
import Derived.Test.YtjgaicdieddekaaDoorZPNumAx10
import Derived.Test.YtjgaicdieddekaaDoorZXNumP
set_option linter.unusedVariables false
namespace Go.Proofs.YtjgaicdieddekaaDoor.Pure
open Go.RowKit Go.Proofs.YtjgaicdieddekaaDoor.PNumA Go.Proofs.YtjgaicdieddekaaDoorW.PrintWords Go.Proofs.YtjgaicdieddekaaDoorW.PrintLast
open Go.Proofs.YtjgaicdieddekaaDoorX
theorem NumsScans : tangramlaw01_NumsScans.Pure := by
  intro l0 hm hl hw
  have hb := bytes_of hw
  refine Ev.out ?_
  unfold tangramlaw01_NumsScans.f tangramlaw01_awake.f
  simp only [Option.bind_some, List.nil_append, List.length_nil]
  refine Ev.pos (by simp) (Ev.pos (by omega) ?_)
  simp only [nums_scan l0 (by omega), Option.bind_some]
  refine Ev.bind (ref_scan l0 hb) ?_
  refine Ev.bind (same_tokens _ (by have := ans_len l0; omega)) ?_
  refine Ev.pos (by simp) (Ev.pos rfl (Ev.val ?_))
  simp
end Go.Proofs.YtjgaicdieddekaaDoor.Pure
