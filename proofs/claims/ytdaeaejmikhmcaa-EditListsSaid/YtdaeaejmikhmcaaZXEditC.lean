-- Plain facts on the printed functions of layer 14 (edit): Relabel, Degrees, Bare.
import Derived.Test.YtdaeaejmikhmcaaZXEditI
import Derived.Test.YtdaeaejmikhmcaaZPEditCx8
import Derived.Test.YtdaeaejmikhmcaaZPEditCx9
import Derived.Test.YtdaeaejmikhmcaaZPEditCx30
set_option linter.unusedVariables false
set_option linter.unusedSimpArgs false
namespace Go.Proofs.Ytdaeaejmikhmcaa.Pure
open Go.RowKit Go.Proofs.Ytdaeaejmikhmcaa.PEditC Go.Proofs.YtdaeaejmikhmcaaW.PrintWords Go.Proofs.YtdaeaejmikhmcaaW.PrintLast Go.Proofs.YtdaeaejmikhmcaaX
/-! Relabel -/
def rl (t : List Int) (e : S46) : S46 := ⟨rd t e.f0, rd t e.f1⟩
def Gp (n : Int) (t : List Int) (j : Nat) : Prop := 0 ≤ rd t (j : Int) ∧ rd t (j : Int) < n ∧ rd t (j : Int) ∉ t.take j
instance (n : Int) (t : List Int) (j : Nat) : Decidable (Gp n t j) := by unfold Gp; infer_instance
def PermP (n : Int) (t : List Int) : Prop := ∀ j, j < t.length → Gp n t j
instance (n : Int) (t : List Int) : Decidable (PermP n t) := by unfold PermP; infer_instance
theorem relabel_l1 (n : Int) (l : List S46) (t : List Int) (h : Ok n l) (ht : (t.length : Int) = n) : ∀ (d i : Nat), i + d = l.length →
    Ev (fun k => edit_Relabel.l1 k t ((l.take i).map (rl t)) l (l.length : Int) (i : Int) n l) (n, api_Edge_51.srt ((l.map (rl t)).map norm), 0) := by
  have hl := h.2.1
  intro d
  induction d with
  | zero =>
    intro i hi
    refine Ev.succ ?_
    simp only [edit_Relabel.l1]
    refine Ev.neg (by omega) ?_
    rw [List.take_of_length_le (show l.length ≤ i by omega)]
    exact Ev.andThen (made_ev _ _ (by simp; omega)) (Ev.val rfl)
  | succ d ih =>
    intro i hi
    have hb := h.get i (by omega)
    rw [← G_get l i (by omega)] at hb
    unfold Ed at hb
    refine Ev.succ ?_
    simp only [edit_Relabel.l1, rdG]
    have hx : ((l.take i).map (rl t)).length < 8796093022208 := by simp; omega
    rw [wi i l (by omega) (by omega)]
    refine Ev.pos (by omega) (Ev.pos (by omega) (Ev.pos (by omega) (Ev.pos (by omega) (Ev.pos (by omega) (Ev.pos (by omega) (Ev.pos (by omega) (Ev.pos hx ?_)))))))
    have e : (l.take i).map (rl t) ++ [(⟨rd t (G l i).f0, rd t (G l i).f1⟩ : S46)] = (l.take (i + 1)).map (rl t) := take_map l (rl t) i (by omega)
    rw [e]
    exact ih (i + 1) (by omega)
theorem rdOf_set (x : List Bool) (i j : Nat) (v : Bool) (h : i < x.length) : rdOf false (x.set i v) (j : Int) = if i = j then v else rdOf false x (j : Int) := by
  simp only [rdOf, Int.toNat_natCast, List.getD_eq_getElem?_getD, List.getElem?_set]
  by_cases e : i = j
  · subst e; simp [h]
  · simp [e]
theorem rdOf_replicate (n : Nat) (j : Nat) : rdOf false (List.replicate n false) (j : Int) = false := by
  simp only [rdOf, Int.toNat_natCast, List.getD_eq_getElem?_getD, List.getElem?_replicate]
  split <;> rfl
noncomputable def relR (n : Int) (l : List S46) (t : List Int) : Int × List S46 × Int := (n, api_Edge_51.srt ((l.map (rl t)).map norm), 0)
theorem relabel_l0 (n : Int) (l : List S46) (t : List Int) (h : Ok n l) (ht : (t.length : Int) = n) : ∀ (d i : Nat) (x6 : List Bool), i + d = t.length → (x6.length : Int) = n →
    (∀ v : Nat, (v : Int) < n → (rdOf false x6 (v : Int) = true ↔ (v : Int) ∈ t.take i)) →
    Ev (fun k => edit_Relabel.l0 k t x6 t (t.length : Int) (i : Int) n l) (if ∀ j, j < t.length → i ≤ j → Gp n t j then relR n l t else (0, [], 2)) := by
  have hn := h.1
  intro d
  induction d with
  | zero =>
    intro i x6 hi h6 hx
    refine Ev.succ ?_
    simp only [edit_Relabel.l0]
    rw [if_pos (fun j hj h1 => by omega)]
    refine Ev.neg (by omega) ?_
    have := relabel_l1 n l t h ht l.length 0 (by omega)
    rw [List.take_zero, List.map_nil] at this
    exact this
  | succ d ih =>
    intro i x6 hi h6 hx
    have hi' : i < t.length := by omega
    have step : (∀ j, j < t.length → i ≤ j → Gp n t j) ↔ Gp n t i ∧ ∀ j, j < t.length → i + 1 ≤ j → Gp n t j :=
      ⟨fun h => ⟨h i hi' (Nat.le_refl _), fun j hj h1 => h j hj (by omega)⟩, fun h j hj h1 => by
        by_cases e : j = i
        · subst e; exact h.1
        · exact h.2 j hj (by omega)⟩
    have no : ¬ Gp n t i → ((0, [], 2) : Int × List S46 × Int) = (if ∀ j, j < t.length → i ≤ j → Gp n t j then relR n l t else (0, [], 2)) := fun hg => by
      rw [if_neg (fun x => hg (step.1 x).1)]
    refine Ev.succ ?_
    simp only [edit_Relabel.l0]
    refine Ev.pos (by omega) (Ev.pos (by omega) (Ev.pos (by omega) ?_))
    refine Ev.ite (fun c => Ev.val (no fun g => by have := g.1; omega)) (fun c0 => ?_)
    refine Ev.ite (fun c => Ev.val (no fun g => by have := g.2.1; omega)) (fun c1 => ?_)
    refine Ev.pos (by omega) (Ev.pos (by omega) ?_)
    have hv := hx (rd t (i : Int)).toNat (by omega)
    rw [show ((rd t (i : Int)).toNat : Int) = rd t (i : Int) by omega] at hv
    refine Ev.ite (fun c => Ev.val (no fun g => g.2.2 (hv.1 c))) (fun c2 => ?_)
    have hg : Gp n t i := ⟨by omega, by omega, fun x => c2 (hv.2 x)⟩
    rw [show wrap64 ((i : Int) + 1) = ((i + 1 : Nat) : Int) by rw [w64 (by omega) (by omega)]; omega]
    have e : (if ∀ j, j < t.length → i ≤ j → Gp n t j then relR n l t else (0, [], 2)) = (if ∀ j, j < t.length → i + 1 ≤ j → Gp n t j then relR n l t else (0, [], 2)) := by
      by_cases q : ∀ j, j < t.length → i + 1 ≤ j → Gp n t j
      · rw [if_pos q, if_pos (step.2 ⟨hg, q⟩)]
      · rw [if_neg q, if_neg (fun x => q (step.1 x).2)]
    rw [e]
    refine ih (i + 1) _ (by omega) (by rw [List.length_set]; exact h6) (fun v hv' => ?_)
    rw [rdOf_set x6 _ v true (by omega), List.take_succ_eq_append_getElem hi', List.mem_append, List.mem_singleton, ← rd_nat t i hi']
    by_cases q : (rd t (i : Int)).toNat = v
    · rw [if_pos q]
      exact ⟨fun _ => .inr (by omega), fun _ => rfl⟩
    · rw [if_neg q, hx v hv']
      exact ⟨.inl, fun x => x.elim id (fun x => absurd x (by omega))⟩
noncomputable def relF (n : Int) (l : List S46) (t : List Int) : Int × List S46 × Int :=
  if Ok n l then (if (t.length : Int) = n ∧ PermP n t then relR n l t else (0, [], 2)) else (0, [], 1)
theorem relabel_ev (n : Int) (l : List S46) (t : List Int) : Ev (fun k => edit_Relabel.f k n l t) (relF n l t) := by
  unfold edit_Relabel.f relF
  refine Ev.andThen (valid_ev n l) ?_
  by_cases h : Ok n l
  · have hn := h.1
    rw [decide_eq_true h, if_pos h]
    refine Ev.pos rfl ?_
    refine Ev.ite (fun c => ?_) (fun c => Ev.val (by rw [if_neg (fun x => c x.1)]))
    refine Ev.pos (by omega) (Ev.pos (by omega) ?_)
    have := relabel_l0 n l t h c t.length 0 (List.replicate n.toNat false) (by omega) (by simp; omega) (fun v hv => by rw [rdOf_replicate]; simp)
    have e : (if (t.length : Int) = n ∧ PermP n t then relR n l t else (0, [], 2)) = (if ∀ j, j < t.length → 0 ≤ j → Gp n t j then relR n l t else (0, [], 2)) := by
      by_cases q : PermP n t
      · rw [if_pos ⟨c, q⟩, if_pos (fun j hj _ => q j hj)]
      · rw [if_neg (fun x => q x.2), if_neg (fun x => q (fun j hj => x j hj (Nat.zero_le _)))]
    rw [e]
    exact this
  · rw [decide_eq_false h, if_neg h]
    exact Ev.neg (by decide) (Ev.val rfl)
/-! Degrees, Bare -/
def inc (l : List S46) (v : Int) : Prop := ∃ e ∈ l, e.f0 = v ∨ e.f1 = v
instance (l : List S46) (v : Int) : Decidable (inc l v) := by unfold inc; infer_instance
theorem inc_take (l : List S46) (i : Nat) (hi : i < l.length) (v : Int) : inc (l.take (i + 1)) v ↔ inc (l.take i) v ∨ (G l i).f0 = v ∨ (G l i).f1 = v := by
  unfold inc
  rw [List.take_succ_eq_append_getElem hi, ← G_get l i hi]
  constructor
  · rintro ⟨e, he, h⟩
    rcases List.mem_append.1 he with h1 | h1
    · exact .inl ⟨e, h1, h⟩
    · rw [List.mem_singleton] at h1
      subst h1
      exact .inr h
  · rintro (⟨e, he, h⟩ | h)
    · exact ⟨e, List.mem_append.2 (.inl he), h⟩
    · exact ⟨G l i, List.mem_append.2 (.inr (List.mem_singleton.2 rfl)), h⟩
theorem degrees_l0 (n : Int) (l : List S46) (h : Ok n l) : ∀ (d i : Nat) (x4 : List Int), i + d = l.length → (x4.length : Int) = n →
    (∀ v : Nat, (v : Int) < n → 0 ≤ rd x4 (v : Int) ∧ rd x4 (v : Int) ≤ 2 * i ∧ (rd x4 (v : Int) > 0 ↔ inc (l.take i) v)) →
    ∃ r : List Int, Ev (fun k => simple_Degrees.l0 k x4 l (l.length : Int) (i : Int)) (r, 0) ∧ (r.length : Int) = n ∧ ∀ v : Nat, (v : Int) < n → (rd r (v : Int) > 0 ↔ inc l v) := by
  have hl := h.2.1
  intro d
  induction d with
  | zero =>
    intro i x4 hi h4 hx
    refine ⟨x4, Ev.succ ?_, h4, fun v hv => ?_⟩
    · simp only [simple_Degrees.l0]
      exact Ev.neg (by omega) (Ev.val rfl)
    · have := (hx v hv).2.2
      rwa [List.take_of_length_le (show l.length ≤ i by omega)] at this
  | succ d ih =>
    intro i x4 hi h4 hx
    have hi' : i < l.length := by omega
    have hb := h.get i hi'
    rw [← G_get l i hi'] at hb
    unfold Ed at hb
    have q0 := hx (G l i).f0.toNat (by omega)
    have q1 := hx (G l i).f1.toNat (by omega)
    rw [show ((G l i).f0.toNat : Int) = (G l i).f0 by omega] at q0
    rw [show ((G l i).f1.toNat : Int) = (G l i).f1 by omega] at q1
    obtain ⟨r, hr, h2⟩ := ih (i + 1) ((x4.set (G l i).f0.toNat (rd x4 (G l i).f0 + 1)).set (G l i).f1.toNat (rd x4 (G l i).f1 + 1)) (by omega) (by simp only [List.length_set]; exact h4) (fun v hv => by
      have qv := hx v hv
      rw [rd_set _ _ v _ (by simp only [List.length_set]; omega), rd_set _ _ v _ (by omega), inc_take l i hi']
      by_cases e1 : (G l i).f1.toNat = v
      · rw [if_pos e1]
        exact ⟨by omega, by omega, fun _ => .inr (.inr (by omega)), fun _ => by omega⟩
      · rw [if_neg e1]
        by_cases e0 : (G l i).f0.toNat = v
        · rw [if_pos e0]
          exact ⟨by omega, by omega, fun _ => .inr (.inl (by omega)), fun _ => by omega⟩
        · rw [if_neg e0]
          exact ⟨by omega, by omega, fun x => .inl (qv.2.2.1 x), fun x => x.elim qv.2.2.2 (fun x => by omega)⟩)
    refine ⟨r, Ev.succ ?_, h2⟩
    simp only [simple_Degrees.l0, rdG]
    refine Ev.pos (by omega) (Ev.pos (by omega) (Ev.pos (by omega) (Ev.pos (by omega) (Ev.pos (by omega) (Ev.andThen' rfl ?_)))))
    refine Ev.pos (by omega) (Ev.pos (by omega) ?_)
    have e : rd (x4.set (G l i).f0.toNat (wrap64 (rd x4 (G l i).f0 + 1))) (G l i).f1 = rd x4 (G l i).f1 := by
      have := rd_set x4 (G l i).f0.toNat (G l i).f1.toNat (wrap64 (rd x4 (G l i).f0 + 1)) (by omega)
      rw [show ((G l i).f1.toNat : Int) = (G l i).f1 by omega, if_neg (by omega)] at this
      exact this
    rw [e, w64 (x := rd x4 (G l i).f0 + 1) (by omega) (by omega), w64 (x := rd x4 (G l i).f1 + 1) (by omega) (by omega), wi i l (by omega) hi']
    exact hr
theorem degrees_ev (n : Int) (l : List S46) (h : Ok n l) : ∃ r : List Int, Ev (fun k => simple_Degrees.f k n l) (r, 0) ∧ (r.length : Int) = n ∧ ∀ v : Nat, (v : Int) < n → (rd r (v : Int) > 0 ↔ inc l v) := by
  have hn := h.1
  obtain ⟨r, hr, h2⟩ := degrees_l0 n l h l.length 0 (List.replicate n.toNat 0) (by omega) (by simp; omega) (fun v hv => by rw [rd_replicate]; exact ⟨by omega, by omega, fun x => by omega, fun x => by obtain ⟨e, he, _⟩ := x; simp at he⟩)
  refine ⟨r, ?_, h2⟩
  unfold simple_Degrees.f
  refine Ev.andThen (valid_ev n l) ?_
  rw [decide_eq_true h]
  exact Ev.pos rfl (Ev.pos (by omega) (Ev.pos (by omega) hr))
end Go.Proofs.Ytdaeaejmikhmcaa.Pure
