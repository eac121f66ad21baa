-- By hand: an element of an array of two arrays (cross.wrong).
import Derived.Test.YthfoliejhdpbaaaZPCroAx0
set_option linter.unusedVariables false
set_option linter.unusedSimpArgs false
namespace Go.Proofs.Ythfoliejhdpbaaa.PCroA
open Go.RowKit Go.Proofs.YthfoliejhdpbaaaW.PrintWords Go.Proofs.YthfoliejhdpbaaaW.PrintLast Go.Proofs.YthfoliejhdpbaaaW.PrintMore Go.Proofs.YthfoliejhdpbaaaX
theorem idx0 (W : World) (a b c d : Int) : (Instr.index 92 (.agg #[.int .i64 a, .int .i64 b, .int .i64 c, .int .i64 d]) (.int .i64 0)).run Try.prog W = .ok (.agg #[.int .i64 a, .int .i64 b]) W := by
  unfold Instr.index
  simp [go_sem, asIntOf, part, Try.underlying92, Try.underlying91]
theorem idx1 (W : World) (a b c d : Int) : (Instr.index 92 (.agg #[.int .i64 a, .int .i64 b, .int .i64 c, .int .i64 d]) (.int .i64 1)).run Try.prog W = .ok (.agg #[.int .i64 c, .int .i64 d]) W := by
  unfold Instr.index
  simp [go_sem, asIntOf, part, Try.underlying92, Try.underlying91]
def pickF (a b c d i : Int) : Option (Int × Int) := if i = 0 then some (a, b) else if i = 1 then some (c, d) else none
theorem idx_run {a b c d i r1 r2 : Int} (h : pickF a b c d i = some (r1, r2)) (W : World) : (Instr.index 92 (.agg #[.int .i64 a, .int .i64 b, .int .i64 c, .int .i64 d]) (.int .i64 i)).run Try.prog W = .ok (.agg #[.int .i64 r1, .int .i64 r2]) W := by
  unfold pickF at h
  by_cases c0 : i = 0
  · rw [if_pos c0] at h
    simp only [Option.some.injEq, Prod.mk.injEq] at h
    obtain ⟨rfl, rfl⟩ := h
    subst c0
    exact idx0 W _ _ _ _
  · rw [if_neg c0] at h
    by_cases c1 : i = 1
    · rw [if_pos c1] at h
      simp only [Option.some.injEq, Prod.mk.injEq] at h
      obtain ⟨rfl, rfl⟩ := h
      subst c1
      exact idx1 W _ _ _ _
    · rw [if_neg c1] at h
      cases h
end Go.Proofs.Ythfoliejhdpbaaa.PCroA
