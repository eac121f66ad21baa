-- openings (own): an array of two parts, as a pair.
import Derived.Test.YthejafdcdcchbaaDoorZXOpen
import Derived.OpenShut
set_option linter.unusedVariables false
set_option linter.unusedSimpArgs false
namespace Go.Proofs.YthejafdcdcchbaaDoorX
open Go.RowKit Go.Proofs.YthejafdcdcchbaaDoorW.PrintWords Go.WideShapes
variable {P : Program} {α : Type}
theorem OpenK.arr2 {t e : TypeId} {a : Kd α} {wa : α → Prop} (h0 : OpenK P e a wa) (ht : P.underlying t = some (.array 2 e)) (s0 : P.cellsOf e = a.sz) (s : P.cellsOf t = a.sz + a.sz) :
    OpenK P t (Kd.pair a a) (fun x => wa x.1 ∧ wa x.2) := by
  intro H enc w base sp held fuel cs x h hn
  obtain ⟨xs, n, _, rfl, hl, hlen, hf⟩ := DataW.trod_array ht h
  match xs, hlen with
  | [x0, x1], _ =>
    have q0 := hf 0 (by omega)
    have q1 := hf 1 (by omega)
    rw [s0] at q0 q1
    simp only [Nat.zero_mul, Nat.one_mul, List.drop_zero, List.getElem?_cons_zero, List.getElem?_cons_succ] at q0 q1
    have hw : ∀ n, n ∈ x0.1.weights P e ∨ n ∈ x1.1.weights P e → n ≤ reachBytes := by
      intro n h_
      refine hn n ?_
      simp only [DataW.weights, ht, List.map_cons, List.map_nil, DataW.weightsAll, List.mem_append, List.not_mem_nil, or_false]
      exact h_
    obtain ⟨u0, k0, w0⟩ := h0 H enc w base sp held n _ _ q0 (fun n hn => hw n (.inl hn))
    obtain ⟨u1, k1, w1⟩ := h0 H enc w base sp held n _ _ q1 (fun n hn => hw n (.inr hn))
    refine ⟨(u0, u1), ⟨cs.take a.sz, cs.drop a.sz, (List.take_append_drop _ _).symm, k0, ?_⟩, w0, w1⟩
    have : (cs.drop a.sz).take a.sz = cs.drop a.sz := List.take_of_length_le (by rw [List.length_drop, hl, s]; omega)
    rw [this] at k1
    exact k1
end Go.Proofs.YthejafdcdcchbaaDoorX
