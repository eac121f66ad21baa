-- Plain facts on the printed functions of layer 26 (cross): what was handed in stays.
import Derived.Test.YthfoliejhdpbaaaZXCroE
import Derived.Test.YthfoliejhdpbaaaZPCroAx50
set_option linter.unusedVariables false
set_option linter.unusedSimpArgs false
namespace Go.Proofs.Ythfoliejhdpbaaa.Pure
open Go.RowKit Go.Proofs.Ythfoliejhdpbaaa.PCroA Go.Proofs.YthfoliejhdpbaaaW.PrintWords Go.Proofs.YthfoliejhdpbaaaW.PrintLast Go.Proofs.YthfoliejhdpbaaaW.PrintMore Go.Proofs.YthfoliejhdpbaaaX
theorem same_i (a : Int) : (!(a == a)) = false := by simp
theorem kept_l1 (p : List S23) (hp : p.length ≤ 8796093022208) : ∀ (d i : Nat), i + d = p.length → Ev (fun k => tangramlaw26_kept.l1 k p p (i : Int)) true := by
  intro d
  induction d with
  | zero =>
    intro i hi
    refine Ev.succ ?_
    simp only [tangramlaw26_kept.l1]
    exact Ev.neg (by omega) (Ev.now _)
  | succ d ih =>
    intro i hi
    refine Ev.succ ?_
    simp only [tangramlaw26_kept.l1]
    refine Ev.pos (by omega) (Ev.pos (by omega) (Ev.pos (by omega) (Ev.neg (by simp) ?_)))
    rw [wi' i p.length hp (by omega)]
    exact ih (i + 1) (by omega)
theorem kept_l0 (n m : Int) (l : List S62) (p : List S23) (hp : p.length ≤ 8796093022208) (hl : l.length ≤ 8796093022208) : ∀ (d i : Nat), i + d = l.length → Ev (fun k => tangramlaw26_kept.l0 k p p (i : Int) n l m l) true := by
  intro d
  induction d with
  | zero =>
    intro i hi
    refine Ev.succ ?_
    simp only [tangramlaw26_kept.l0]
    exact Ev.neg (by omega) (kept_l1 p hp p.length 0 (by omega))
  | succ d ih =>
    intro i hi
    refine Ev.succ ?_
    simp only [tangramlaw26_kept.l0]
    refine Ev.pos (by omega) (Ev.pos (by omega) (Ev.pos (by omega) (Ev.neg (by simp) ?_)))
    rw [wi' i l.length hl (by omega)]
    exact ih (i + 1) (by omega)
theorem kept_ev (n : Int) (l : List S62) (p : List S23) (hp : p.length ≤ 8796093022208) (hl : l.length ≤ 8796093022208) : Ev (fun k => tangramlaw26_kept.f k n l n l p p) true := by
  unfold tangramlaw26_kept.f
  refine Ev.pos rfl (Ev.pos rfl ?_)
  rw [bne_self_eq_false]
  refine Ev.succ ?_
  simp only [tangramlaw26_kept.j0]
  exact Ev.neg (by decide) (kept_l0 n n l p hp hl l.length 0 (by omega))
end Go.Proofs.Ythfoliejhdpbaaa.Pure
