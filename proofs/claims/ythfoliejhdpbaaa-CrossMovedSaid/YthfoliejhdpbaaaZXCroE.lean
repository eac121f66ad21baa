-- Plain facts on the printed functions of layer 26 (cross): Proper, by the program and by the document.
import Derived.Test.YthfoliejhdpbaaaZXCroD
import Derived.Test.YthfoliejhdpbaaaZPCroAx18
set_option linter.unusedVariables false
set_option linter.unusedSimpArgs false
namespace Go.Proofs.Ythfoliejhdpbaaa.Pure
open Go.RowKit Go.Proofs.Ythfoliejhdpbaaa.PCroA Go.Proofs.YthfoliejhdpbaaaW.PrintWords Go.Proofs.YthfoliejhdpbaaaW.PrintLast Go.Proofs.YthfoliejhdpbaaaW.PrintMore Go.Proofs.YthfoliejhdpbaaaX
def badE (p : List S23) (l : List S62) (v e : Nat) : Prop := ¬ (G l e).f0 = (v : Int) ∧ ¬ (G l e).f1 = (v : Int) ∧ OnV (Q p (G l e).f0) (Q p (G l e).f1) (P p v)
instance (p : List S23) (l : List S62) (v e : Nat) : Decidable (badE p l v e) := inferInstanceAs (Decidable (_ ∧ _ ∧ _))
def TwoF (p : List S23) (v : Nat) : Prop := ∀ w, w < v → ¬ P p v = P p w
def OffF (p : List S23) (l : List S62) (v : Nat) : Prop := ∀ e, e < l.length → ¬ badE p l v e
instance (p : List S23) (v : Nat) : Decidable (TwoF p v) := inferInstanceAs (Decidable (∀ w, w < v → ¬ P p v = P p w))
instance (p : List S23) (l : List S62) (v : Nat) : Decidable (OffF p l v) := inferInstanceAs (Decidable (∀ e, e < l.length → ¬ badE p l v e))
def ProperV (n : Int) (l : List S62) (p : List S23) : Prop := (Ok n l ∧ Dw n p) ∧ ((∀ v, v < p.length → TwoF p v) ∧ ∀ v, v < p.length → OffF p l v) ∧ (outerF p l l.length 0).1 < 0
instance (n : Int) (l : List S62) (p : List S23) : Decidable (ProperV n l p) := inferInstanceAs (Decidable (_ ∧ _ ∧ _))
theorem from_step {A : Nat → Prop} (n i : Nat) (hi : i < n) : (∀ j, j < n → i ≤ j → A j) ↔ A i ∧ ∀ j, j < n → i + 1 ≤ j → A j :=
  ⟨fun h => ⟨h i hi (Nat.le_refl _), fun j hj h1 => h j hj (by omega)⟩, fun h j hj h1 => by
    by_cases e : j = i
    · subst e; exact h.1
    · exact h.2 j hj (by omega)⟩
theorem from_end {A : Nat → Prop} (n : Nat) : ∀ j, j < n → n ≤ j → A j := fun j h1 h2 => absurd h1 (by omega)
theorem wf_of {n : Int} (h : -4194304 ≤ n ∧ n ≤ 4194304) : wfi n := by
  unfold wfi
  simp [Lit.wf, IntKind.min, IntKind.max, IntKind.bits, IntKind.signed]; omega
theorem mem_take {p : List S23} {x : S23} {i : Nat} (hi : i ≤ p.length) : x ∈ p.take i ↔ ∃ w, w < i ∧ P p w = x := by
  rw [List.mem_take_iff_getElem]
  constructor
  · rintro ⟨j, hj, rfl⟩
    exact ⟨j, by omega, P_get p j (by omega)⟩
  · rintro ⟨w, hw, rfl⟩
    exact ⟨w, by omega, (P_get p w (by omega)).symm⟩
/-! the program -/
section
variable {n : Int} {l : List S62} {p : List S23}
theorem prop_l2 (h : Ok n l) (hd : Dw n p) (v : Nat) (hv : v < p.length) (r : Bool) (x : Int)
    (hr : Ev (fun k => cross_Proper.l1 k p p (p.length : Int) (wrap64 (x + 1)) n l) r) : ∀ (d e : Nat), e + d = l.length →
    ∀ b : Bool, (b = true ↔ (∀ j, j < l.length → e ≤ j → ¬ badE p l v j) ∧ r = true) →
    Ev (fun k => cross_Proper.l2 k p (v : Int) p (p.length : Int) x l (l.length : Int) (e : Int) n l (P p v).f0 (P p v).f1) b := by
  intro d
  induction d with
  | zero =>
    intro e he b hb
    refine Ev.succ ?_
    simp only [cross_Proper.l2]
    refine Ev.neg (by omega) ?_
    have : b = r := Bool.eq_iff_iff.2 (hb.trans ⟨fun q => q.2, fun q => ⟨fun j h1 h2 => absurd h1 (by omega), q⟩⟩)
    rw [this]; exact hr
  | succ d ih =>
    intro e he b hb
    have he' : e < l.length := by omega
    have go : ¬ badE p l v e → Ev (fun k => cross_Proper.l2 k p (v : Int) p (p.length : Int) x l (l.length : Int) (wrap64 ((e : Int) + 1)) n l (P p v).f0 (P p v).f1) b := fun hc => by
      rw [wi e l (by have := h.2.1; omega) he']
      refine ih (e + 1) (by omega) b (hb.trans ?_)
      rw [from_step l.length e he']
      exact ⟨fun q => ⟨q.1.2, q.2⟩, fun q => ⟨⟨hc, q.1⟩, q.2⟩⟩
    have hE := inE_of h hd.1 e he'
    refine Ev.succ ?_
    simp only [cross_Proper.l2, rdG]
    refine Ev.pos (by omega) (Ev.pos (by omega) (Ev.pos (by omega) ?_))
    refine Ev.ite (fun c => go (fun q => q.1 c)) (fun c1 => ?_)
    refine Ev.ite (fun c => go (fun q => q.2.1 c)) (fun c2 => ?_)
    refine Ev.pos hE.1.1 (Ev.pos hE.1.2 (Ev.pos hE.2.1 (Ev.pos hE.2.2 ?_)))
    simp only [rdQ]
    refine Ev.andThen' (on_eq (inQ hd.2 hE.1) (inQ hd.2 hE.2) (hd.2 v hv)) ?_
    rw [onV_of (inQ hd.2 hE.1) (inQ hd.2 hE.2) (hd.2 v hv)]
    refine Ev.ite (fun c => Ev.val ?_) (fun c => go (fun q => c (decide_eq_true q.2.2)))
    refine (Bool.eq_false_iff.2 fun q => (hb.1 q).1 e he' (Nat.le_refl _) ⟨c1, c2, of_decide_eq_true c⟩).symm
theorem prop_l1 (h : Ok n l) (hd : Dw n p) (hp : p.length ≤ 8796093022208) : ∀ (d v : Nat), v + d = p.length →
    ∀ b : Bool, (b = true ↔ (∀ j, j < p.length → v ≤ j → OffF p l j) ∧ (outerF p l l.length 0).1 < 0) →
    Ev (fun k => cross_Proper.l1 k p p (p.length : Int) (v : Int) n l) b := by
  intro d
  induction d with
  | zero =>
    intro v hv b hb
    refine Ev.succ ?_
    simp only [cross_Proper.l1]
    refine Ev.neg (by omega) (Ev.andThen (first_ev n l p hp) (Ev.val ?_))
    unfold firstV
    rw [if_pos h, if_pos hd]
    rw [Bool.eq_iff_iff, decide_eq_true_eq, hb]
    exact ⟨fun q => ⟨fun j h1 h2 => absurd h1 (by omega), q⟩, fun q => q.2⟩
  | succ d ih =>
    intro v hv b hb
    have hv' : v < p.length := by omega
    refine Ev.succ ?_
    simp only [cross_Proper.l1, rdP]
    refine Ev.pos (by omega) (Ev.pos (by omega) (Ev.pos (by omega) ?_))
    have e := wi' v p.length hp hv'
    refine prop_l2 h hd v hv' (decide ((∀ j, j < p.length → v + 1 ≤ j → OffF p l j) ∧ (outerF p l l.length 0).1 < 0)) (v : Int) ?_ l.length 0 (by omega) b ?_
    · rw [e]
      exact ih (v + 1) (by omega) _ decide_eq_true_iff
    · rw [hb, from_step p.length v hv', decide_eq_true_iff]
      exact ⟨fun q => ⟨fun j hj _ => q.1.1 j hj, q.1.2, q.2⟩, fun q => ⟨⟨fun j hj => q.1 j hj (Nat.zero_le _), q.2.1⟩, q.2.2⟩⟩
theorem prop_l0 (h : Ok n l) (hd : Dw n p) (hp : p.length < 8796093022208) (r : Bool) (hr : Ev (fun k => cross_Proper.l1 k p p (p.length : Int) 0 n l) r) : ∀ (d v : Nat), v + d = p.length →
    ∀ b : Bool, (b = true ↔ (∀ j, j < p.length → v ≤ j → TwoF p j) ∧ r = true) →
    Ev (fun k => cross_Proper.l0 k p (p.take v) p (p.length : Int) (v : Int) n l) b := by
  intro d
  induction d with
  | zero =>
    intro v hv b hb
    refine Ev.succ ?_
    simp only [cross_Proper.l0]
    refine Ev.neg (by omega) ?_
    have : b = r := Bool.eq_iff_iff.2 (hb.trans ⟨fun q => q.2, fun q => ⟨fun j h1 h2 => absurd h1 (by omega), q⟩⟩)
    rw [this]; exact hr
  | succ d ih =>
    intro v hv b hb
    have hv' : v < p.length := by omega
    refine Ev.succ ?_
    simp only [cross_Proper.l0, rdP]
    refine Ev.pos (by omega) (Ev.pos (by omega) (Ev.pos (by omega) ?_))
    have hi := hd.2 v hv'
    unfold In at hi
    have hh : comps_Sets_has.f (p.take v) (P p v).f0 (P p v).f1 = some (0, decide ((⟨(P p v).f0, (P p v).f1⟩ : S23) ∈ p.take v)) := by
      unfold comps_Sets_has.f hasF
      rw [if_pos ⟨wf_of hi.1, wf_of hi.2⟩]
    refine Ev.andThen' hh ?_
    refine Ev.ite (fun c => Ev.val ?_) (fun c => ?_)
    · obtain ⟨w, hw, e⟩ := (mem_take (by omega)).1 (of_decide_eq_true c)
      exact (Bool.eq_false_iff.2 fun q => (hb.1 q).1 v hv' (Nat.le_refl _) w hw e.symm).symm
    · refine Ev.pos (by rw [List.length_take]; omega) ?_
      have e : p.take v ++ [(⟨(P p v).f0, (P p v).f1⟩ : S23)] = p.take (v + 1) := by
        rw [List.take_add_one, List.getElem?_eq_getElem hv', P_get p v hv']; rfl
      rw [e, wi' v p.length (by omega) hv']
      refine ih (v + 1) (by omega) b (hb.trans ?_)
      rw [from_step p.length v hv']
      refine ⟨fun q => ⟨q.1.2, q.2⟩, fun q => ⟨⟨fun w hw ew => c (decide_eq_true ((mem_take (by omega)).2 ⟨w, hw, ew.symm⟩)), q.1⟩, q.2⟩⟩
end
theorem proper_ev (n : Int) (l : List S62) (p : List S23) (hp : p.length < 8796093022208) : Ev (fun k => cross_Proper.f k n l p) (decide (ProperV n l p)) := by
  unfold cross_Proper.f
  refine Ev.andThen (drawn_ev n l p (by omega)) ?_
  unfold drawnV
  by_cases h : Ok n l
  · by_cases h2 : Dw n p
    · rw [if_pos h, if_pos h2]
      refine Ev.pos rfl ?_
      have h1 := prop_l1 h h2 (by omega) p.length 0 (by omega) (decide ((∀ j, j < p.length → OffF p l j) ∧ (outerF p l l.length 0).1 < 0)) (by
        rw [decide_eq_true_iff]
        exact ⟨fun q => ⟨fun j hj _ => q.1 j hj, q.2⟩, fun q => ⟨fun j hj => q.1 j hj (Nat.zero_le _), q.2⟩⟩)
      refine prop_l0 h h2 hp _ h1 p.length 0 (by omega) _ ?_
      rw [decide_eq_true_iff, decide_eq_true_iff]
      unfold ProperV
      exact ⟨fun q => ⟨fun j hj _ => q.2.1.1 j hj, q.2.1.2, q.2.2⟩, fun q => ⟨⟨h, h2⟩, ⟨fun j hj => q.1 j hj (Nat.zero_le _), q.2.1⟩, q.2.2⟩⟩
    · rw [if_pos h, if_neg h2]
      exact Ev.neg (by decide) (Ev.val (by rw [decide_eq_false fun q => h2 q.1.2]))
  · rw [if_neg h]
    exact Ev.neg (by decide) (Ev.val (by rw [decide_eq_false fun q => h q.1.1]))
end Go.Proofs.Ythfoliejhdpbaaa.Pure
