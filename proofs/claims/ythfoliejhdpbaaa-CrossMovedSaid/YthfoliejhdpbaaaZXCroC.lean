-- Plain facts on the printed functions of layer 26 (cross): copies, drawings, areas.
import Derived.Test.YthfoliejhdpbaaaZXCroB
import Derived.Test.YthfoliejhdpbaaaZPCroAx27
import Derived.Test.YthfoliejhdpbaaaZPCroAx40
import Derived.Test.YthfoliejhdpbaaaZPCroAx42
import Derived.Test.YthfoliejhdpbaaaZPCroAx44
set_option linter.unusedVariables false
set_option linter.unusedSimpArgs false
namespace Go.Proofs.Ythfoliejhdpbaaa.Pure
open Go.RowKit Go.Proofs.Ythfoliejhdpbaaa.PCroA Go.Proofs.YthfoliejhdpbaaaW.PrintWords Go.Proofs.YthfoliejhdpbaaaW.PrintLast Go.Proofs.YthfoliejhdpbaaaW.PrintMore Go.Proofs.YthfoliejhdpbaaaX
theorem points_eq (l : List S23) (h : l.length < 8796093022208) : tangramlaw26_points.f l = some l := by
  unfold tangramlaw26_points.f
  simp only [Option.bind_some]
  rw [if_pos (by simpa using h)]
  rfl
theorem graph_eq (n : Int) (l : List S62) (h : l.length < 8796093022208) : tangramlaw26_graph.f n l = some (n, l) := by
  unfold tangramlaw26_graph.f
  simp only [Option.bind_some]
  rw [if_pos (by simpa using h)]
  rfl
theorem wi' (i n : Nat) (hn : n ≤ 8796093022208) (hi : i < n) : wrap64 ((i : Int) + 1) = ((i + 1 : Nat) : Int) := by
  rw [w64 (by omega) (by omega)]; omega
theorem drawing_l0 (l : List S23) (hl : l.length ≤ 8796093022208) : ∀ (d i : Nat), i + d = l.length →
    Ev (fun k => tangramref26_Drawing.l0 k l (i : Int)) (decide (∀ j, j < l.length → i ≤ j → In (P l j))) := by
  intro d
  induction d with
  | zero =>
    intro i hi
    refine Ev.succ ?_
    simp only [tangramref26_Drawing.l0]
    refine Ev.neg (by omega) (Ev.val ?_)
    rw [eq_comm, decide_eq_true_eq]
    intro j hj h1
    omega
  | succ d ih =>
    intro i hi
    have hi' : i < l.length := by omega
    refine Ev.succ ?_
    simp only [tangramref26_Drawing.l0, rdP]
    refine Ev.pos (by omega) (Ev.pos (by omega) ?_)
    by_cases c : In (P l i)
    · refine Ev.andThen' (out_no c) (Ev.ff ?_)
      rw [wi' i l.length hl hi']
      have e : decide (∀ j, j < l.length → i ≤ j → In (P l j)) = decide (∀ j, j < l.length → i + 1 ≤ j → In (P l j)) := by
        rw [decide_eq_decide]
        refine ⟨fun h j hj h1 => h j hj (by omega), fun h j hj h1 => ?_⟩
        by_cases q : j = i
        · subst q; exact c
        · exact h j hj (by omega)
      rw [e]
      exact ih (i + 1) (by omega)
    · refine Ev.andThen' (out_yes c) (Ev.tt (Ev.val ?_))
      rw [decide_eq_false fun h => c (h i hi' (Nat.le_refl _))]
theorem drawing_ev (n : Int) (l : List S23) (hl : l.length ≤ 8796093022208) : Ev (fun k => tangramref26_Drawing.f k n l) (decide ((l.length : Int) = n ∧ InAll l)) := by
  unfold tangramref26_Drawing.f
  refine Ev.ite (fun h => ?_) (fun h => Ev.val (by rw [decide_eq_false fun k => h k.1]))
  have := drawing_l0 l hl l.length 0 (by omega)
  have e : decide ((l.length : Int) = n ∧ InAll l) = decide (∀ j, j < l.length → 0 ≤ j → In (P l j)) := by
    rw [decide_eq_decide]
    exact ⟨fun k j hj _ => k.2 j hj, fun k => ⟨h, fun j hj => k j hj (Nat.zero_le _)⟩⟩
  rw [e]
  exact this
/-! Area -/
def arT (l : List S23) (i : Nat) : Int := (P l i).f0 * (P l ((i + 1) % l.length)).f1 - (P l ((i + 1) % l.length)).f0 * (P l i).f1
/-- the sum, from piece i on -/
def arF (l : List S23) : Nat → Nat → Int → Int
  | 0, _, s => s
  | d + 1, i, s => arF l d (i + 1) (wrap64 (s + arT l i))
theorem tmod_nat (i n : Nat) (hn : 0 < n) : Int.tmod ((i : Nat) : Int) (n : Int) = ((i % n : Nat) : Int) := by
  rw [Int.tmod_eq_emod_of_nonneg (by omega)]
  exact (Int.natCast_emod i n).symm
theorem area_l0 (l : List S23) (hl : l.length ≤ 8796093022208) : ∀ (d i : Nat) (s : Int), i + d = l.length →
    Ev (fun k => cross_Area.l0 k l s l (l.length : Int) (i : Int)) (arF l d i s, 0) := by
  intro d
  induction d with
  | zero =>
    intro i s hi
    refine Ev.succ ?_
    simp only [cross_Area.l0]
    exact Ev.neg (by omega) (Ev.val rfl)
  | succ d ih =>
    intro i s hi
    have hi' : i < l.length := by omega
    refine Ev.succ ?_
    simp only [cross_Area.l0]
    rw [wi' i l.length hl hi', tmod_nat _ _ (by omega)]
    have hm : (i + 1) % l.length < l.length := Nat.mod_lt _ (by omega)
    simp only [rdP]
    refine Ev.pos (by omega) (Ev.pos (by omega) (Ev.pos (by omega) (Ev.neg (by omega) (Ev.pos (by omega) (Ev.pos (by omega) ?_)))))
    have := ih (i + 1) (wrap64 (s + arT l i)) (by omega)
    refine Ev.congr (fun k => ?_) this
    congr 1
    unfold arT
    unfold wrap64
    omega
theorem area2_l0 (l : List S23) (hl : l.length ≤ 8796093022208) : ∀ (d i : Nat) (s : Int), i + d = l.length →
    Ev (fun k => tangramref26_Area.l0 k l s (i : Int)) (arF l d i s, 0) := by
  intro d
  induction d with
  | zero =>
    intro i s hi
    refine Ev.succ ?_
    simp only [tangramref26_Area.l0]
    exact Ev.neg (by omega) (Ev.val rfl)
  | succ d ih =>
    intro i s hi
    have hi' : i < l.length := by omega
    refine Ev.succ ?_
    simp only [tangramref26_Area.l0]
    rw [wi' i l.length hl hi', tmod_nat _ _ (by omega)]
    have hm : (i + 1) % l.length < l.length := Nat.mod_lt _ (by omega)
    simp only [rdP]
    refine Ev.pos (by omega) (Ev.pos (by omega) (Ev.neg (by omega) (Ev.pos (by omega) (Ev.pos (by omega) ?_))))
    have := ih (i + 1) (wrap64 (s + arT l i)) (by omega)
    refine Ev.congr (fun k => ?_) this
    congr 1
    unfold arT
    unfold wrap64
    omega
def areaV (l : List S23) : Int × Int := if l.length ≤ 4096 ∧ InAll l then (arF l l.length 0 0, 0) else (0, 260)
theorem area_ev (l : List S23) (hl : l.length ≤ 8796093022208) : Ev (fun k => cross_Area.f k l) (areaV l) := by
  have bad : ¬ (l.length ≤ 4096 ∧ InAll l) → Ev (fun k => cross_Area.j0 k l true) (areaV l) := fun h => by
    refine Ev.succ ?_
    simp only [cross_Area.j0, if_true]
    exact Ev.val (by unfold areaV; rw [if_neg h])
  unfold cross_Area.f
  refine Ev.ite (fun h => bad fun k => by omega) (fun h => ?_)
  refine Ev.andThen (beyond_ev l hl) ?_
  by_cases c : InAll l
  · rw [decide_eq_false (Classical.not_not.2 c)]
    refine Ev.succ ?_
    simp only [cross_Area.j0]
    refine Ev.ff ?_
    unfold areaV
    rw [if_pos ⟨by omega, c⟩]
    exact area_l0 l hl l.length 0 0 (by omega)
  · rw [decide_eq_true (show ¬ InAll l from c)]
    exact bad fun k => c k.2
theorem area2_ev (l : List S23) (hl : l.length ≤ 8796093022208) : Ev (fun k => tangramref26_Area.f k l) (areaV l) := by
  have bad : ¬ (l.length ≤ 4096 ∧ InAll l) → Ev (fun k => tangramref26_Area.j0 k l true) (areaV l) := fun h => by
    refine Ev.succ ?_
    simp only [tangramref26_Area.j0, if_true]
    exact Ev.val (by unfold areaV; rw [if_neg h])
  unfold tangramref26_Area.f
  refine Ev.ite (fun h => bad fun k => by omega) (fun h => ?_)
  refine Ev.andThen (drawing_ev (l.length : Int) l hl) ?_
  by_cases c : InAll l
  · rw [decide_eq_true (show ((l.length : Int) = (l.length : Int) ∧ InAll l) from ⟨rfl, c⟩), Bool.not_true]
    refine Ev.succ ?_
    simp only [tangramref26_Area.j0]
    refine Ev.ff ?_
    unfold areaV
    rw [if_pos ⟨by omega, c⟩]
    exact area2_l0 l hl l.length 0 0 (by omega)
  · rw [decide_eq_false (show ¬ ((l.length : Int) = (l.length : Int) ∧ InAll l) from fun k => c k.2), Bool.not_false]
    exact bad fun k => c k.2
end Go.Proofs.Ythfoliejhdpbaaa.Pure
