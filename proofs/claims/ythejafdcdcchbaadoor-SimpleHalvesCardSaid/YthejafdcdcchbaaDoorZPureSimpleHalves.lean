import Derived.Test.YthejafdcdcchbaaDoorZPSimAx31
import Derived.Test.YthejafdcdcchbaaDoorZXSimF
namespace Go.Proofs.YthejafdcdcchbaaDoor.Pure
open Go.RowKit Go.Proofs.YthejafdcdcchbaaDoor.PSimA Go.Proofs.YthejafdcdcchbaaDoorW.PrintWords Go.Proofs.YthejafdcdcchbaaDoorW.PrintLast Go.Proofs.YthejafdcdcchbaaDoorX

def SimpleHalvesP : Prop := ∀ (a0_0 : Int) (l0_1 : List (S42)), (Lit.int .i64 a0_0).wf = true → l0_1.length ≤ maxLen → l0_1.length * 16 ≤ 140737488351232 → (∀ x ∈ l0_1, (Lit.int .i64 x.f0).wf = true ∧ (Lit.int .i64 x.f1).wf = true) → ∃ k, tangramlaw03_SimpleHalves.f k a0_0 l0_1 = some true
theorem rdE (l : List S42) (i : Nat) (f : Int) (h : f / 2 = (i : Int)) : rd_T42 l (f / 2) = G l i := by rw [h]; rfl
theorem halves_l0 (n : Int) (l : List S42) (h : Ok n l) : ∀ (d i : Nat), i + d = l.length → Ev (fun k => tangramlaw03_SimpleHalves.l0 k (i : Int) n l) true := by
  have hl := h.2.1
  have cp := copy_ev n l (by omega)
  intro d
  induction d with
  | zero =>
    intro i hi
    refine Ev.succ ?_
    simp only [tangramlaw03_SimpleHalves.l0]
    refine Ev.neg (by omega) ?_
    have e : wrap64 (2 * (l.length : Int)) = 2 * (l.length : Int) := w64 (by omega) (by omega)
    have e1 := ends_ev n l (-1) (by omega)
    have e2 := ends_ev n l (wrap64 (2 * (l.length : Int))) (by rw [e]; omega)
    rw [EndsR, if_neg (by omega)] at e1
    have e3 : EndsR n l (wrap64 (2 * (l.length : Int))) = (0, 0, false) := by rw [EndsR, if_neg (by omega)]
    rw [e3] at e2
    refine Ev.andThen cp (Ev.andThen e1 (Ev.andThen cp (Ev.andThen e2 (Ev.neg (by simp) (Ev.val (by simp))))))
  | succ d ih =>
    intro i hi
    have hi' : i < l.length := by omega
    have ed : Ed n (G l i) := by rw [G_get l i hi']; exact h.get i hi'
    unfold Ed at ed
    have w0 : wrap64 (2 * (i : Int)) = 2 * (i : Int) := w64 (by omega) (by omega)
    have w1 : wrap64 (2 * (i : Int) + 1) = 2 * (i : Int) + 1 := w64 (by omega) (by omega)
    have e0 : EndsR n l (2 * (i : Int)) = ((G l i).f0, (G l i).f1, true) := by
      rw [EndsR, if_pos ⟨h, by omega, by omega⟩, if_neg (by omega), rdE l i _ (by omega)]
    have e1 : EndsR n l (2 * (i : Int) + 1) = ((G l i).f1, (G l i).f0, true) := by
      rw [EndsR, if_pos ⟨h, by omega, by omega⟩, if_pos (by omega), rdE l i _ (by omega)]
    have v0 := ends_ev n l (2 * (i : Int)) (by omega)
    have v1 := ends_ev n l (2 * (i : Int) + 1) (by omega)
    rw [e0] at v0
    rw [e1] at v1
    obtain ⟨r, hr, hv⟩ := find_ev n l (G l i).f0 (G l i).f1 h
    obtain ⟨s, hs, hw⟩ := find_ev n l (G l i).f1 (G l i).f0 h
    obtain rfl : r = (i : Int) := Fnd.uniq h hr (.inr ⟨i, rfl, hi', rfl⟩)
    obtain rfl : s = -1 := Fnd.uniq h hs (.inl ⟨rfl, fun hm => by
      have := h.mem hm
      unfold Ed at this
      simp only at this
      omega⟩)
    refine Ev.succ ?_
    simp only [tangramlaw03_SimpleHalves.l0, w0, w1]
    refine Ev.pos (by omega) (Ev.andThen cp (Ev.andThen v0 (Ev.andThen cp (Ev.andThen v1 ?_))))
    refine Ev.pos rfl (Ev.pos rfl (Ev.pos rfl (Ev.pos rfl (Ev.neg (by simp only; omega) ?_))))
    refine Ev.andThen cp (Ev.andThen hv (Ev.pos rfl (Ev.andThen cp (Ev.andThen hw (Ev.pos rfl ?_)))))
    rw [wi i l (by omega) hi']
    exact ih (i + 1) (by omega)
theorem SimpleHalves : SimpleHalvesP := by
  intro n l _ _ hl _
  refine Ev.out (?_ : Ev (fun k => tangramlaw03_SimpleHalves.f k n l) true)
  have cp := copy_ev n l (by omega)
  unfold tangramlaw03_SimpleHalves.f
  refine Ev.andThen' (show tangramlaw03_wakes.f = some true from rfl) (Ev.pos rfl ?_)
  refine Ev.andThen cp (Ev.andThen (valid_ev n l) ?_)
  by_cases h : Ok n l
  · rw [decide_eq_true h]
    exact Ev.pos rfl (halves_l0 n l h l.length 0 (by omega))
  · rw [decide_eq_false h]
    obtain ⟨r, hr, hd, hv, hw⟩ := degs n l
    have e0 := ends_ev n l 0 (by omega)
    rw [EndsR, if_neg (fun o => h o.1)] at e0
    have hs := same_ev n n l l (by omega)
    have e1 : SameR n l n l = false := by unfold SameR; rw [decide_eq_false h, Bool.false_and]
    rw [e1] at hs
    refine Ev.neg (by simp) (Ev.andThen cp (Ev.andThen e0 (Ev.andThen cp (Ev.andThen hv (Ev.neg (by simp) (Ev.pos (hd h) (Ev.andThen cp (Ev.andThen cp (Ev.andThen hs (Ev.val rfl))))))))))
end Go.Proofs.YthejafdcdcchbaaDoor.Pure
