/- A slice against nil, and lengths of own rows. -/
import Derived.Test.YtdaeaejmikhmcaaZXSort
import Derived.Test.YtdaeaejmikhmcaaZXWords
set_option linter.unusedVariables false
set_option linter.unusedSimpArgs false
namespace Go.Proofs.YtdaeaejmikhmcaaX
open Go.RowKit Go.Proofs.YtdaeaejmikhmcaaW.PrintWords
section
variable {P : Program}
theorem run_eql_slice_nil (w : World) (t e : TypeId) (h : P.underlying t = some (.slice e)) (a : Addr) (n c : Nat) :
    (binOp .eql t (.slice (some a) n c) (.slice none 0 0)).run P w = .ok (.bool false) w := by
  have h' : ∀ d : Nat, (Op.equalIn (d + 1) t (.slice (some a) n c) (.slice none 0 0)).run P w = .ok false w := fun d => by
    simp [Op.equalIn, run_underlying h]
  simp only [binOp]
  simp [Op.equal, Op.maxDepth, h' 9999]
theorem run_eql_nil_slice (w : World) (t e : TypeId) (h : P.underlying t = some (.slice e)) (n c : Nat) :
    (binOp .eql t (.slice none n c) (.slice none 0 0)).run P w = .ok (.bool true) w := by
  have h' : ∀ d : Nat, (Op.equalIn (d + 1) t (.slice none n c) (.slice none 0 0)).run P w = .ok true w := fun d => by
    simp [Op.equalIn, run_underlying h]
  simp only [binOp]
  simp [Op.equal, Op.maxDepth, h' 9999]
end
theorem C_nil {α : Type} {d : Kd α} {w : World} {n : Nat} {xs : List α} (h : Kd.C d w none n xs) : xs = [] := by
  rcases Nat.eq_zero_or_pos n with h0 | h0
  · exact List.eq_nil_of_length_eq_zero (h.1.trans h0)
  · obtain ⟨_, he, _⟩ := h.2.2 h0
    cases he
end Go.Proofs.YtdaeaejmikhmcaaX
