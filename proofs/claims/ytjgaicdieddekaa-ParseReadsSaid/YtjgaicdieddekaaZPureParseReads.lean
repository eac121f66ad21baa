/- ParseReads: what Raw and Accepts answer of any bytes is what the document says. -/
import Derived.Test.YtjgaicdieddekaaZPParAx15
import Derived.Test.YtjgaicdieddekaaZXParS
import Derived.Test.YtjgaicdieddekaaZXPure
set_option linter.unusedVariables false
set_option linter.unusedSimpArgs false
namespace Go.Proofs.Ytjgaicdieddekaa.Pure
open Go.RowKit Go.Proofs.Ytjgaicdieddekaa.PParA Go.Proofs.YtjgaicdieddekaaW.PrintWords Go.Proofs.YtjgaicdieddekaaW.PrintLast
open Go.Proofs.YtjgaicdieddekaaX
theorem reads_ev (l : List Int) (hw : ∀ x ∈ l, 0 ≤ x ∧ x ≤ 255) (hl : l.length ≤ 140737488351232) : Ev (fun k => tangramlaw02_ParseReads.f k l) true := by
  simp only [tangramlaw02_ParseReads.f, tangramlaw02_fixed.f, Option.bind_some]
  refine Ev.pos trivial (Ev.pos (by simp; omega) ?_)
  rw [List.nil_append]
  refine Ev.andThen (Ev.of (raw_f 0 l (by omega)) (hg := fun k => parse_Raw.mono l k)) ?_
  refine Ev.andThen (ref_raw l hw) ?_
  refine Ev.andThen (same_ev (rawF l).1 (rawF l).2.1 (rawF l).2.2.1 (rawF l).2.2.2 (rawF_len l)) ?_
  refine Ev.pos rfl (Ev.pos (by simp; omega) ?_)
  refine Ev.andThen (Ev.of (acc_f 0 l (by omega)) (hg := fun k => parse_Accepts.mono l k)) (Ev.val ?_)
  exact beq_self_eq_true _
theorem ParseReads : tangramlaw02_ParseReads.Pure := by
  intro l0 _ hb hw
  exact (reads_ev l0 (bytes_of hw) (by omega)).rounds
end Go.Proofs.Ytjgaicdieddekaa.Pure
