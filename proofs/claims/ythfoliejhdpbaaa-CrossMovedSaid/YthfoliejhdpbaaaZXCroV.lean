-- Plain facts on the printed functions of layer 26 (cross): validity.
import Derived.Test.YthfoliejhdpbaaaZXPure
import Derived.Test.YthfoliejhdpbaaaZPCroAx12
import Derived.Test.YthfoliejhdpbaaaZPCroAx45
set_option linter.unusedVariables false
set_option linter.unusedSimpArgs false
namespace Go.Proofs.Ythfoliejhdpbaaa.Pure
open Go.RowKit Go.Proofs.Ythfoliejhdpbaaa.PCroA Go.Proofs.YthfoliejhdpbaaaW.PrintWords Go.Proofs.YthfoliejhdpbaaaW.PrintLast Go.Proofs.YthfoliejhdpbaaaX
def Lt (x y : S62) : Prop := x.f0 < y.f0 ∨ (x.f0 = y.f0 ∧ x.f1 < y.f1)
instance (x y : S62) : Decidable (Lt x y) := by unfold Lt; infer_instance
def G (l : List S62) (j : Nat) : S62 := rd_T62 l (j : Int)
theorem rdG (l : List S62) (j : Nat) : rd_T62 l (j : Int) = G l j := rfl
theorem G_get (l : List S62) (j : Nat) (h : j < l.length) : G l j = l[j] := by
  simp [G, rd_T62, List.getD_eq_getElem?_getD, h]
def Ed (n : Int) (e : S62) : Prop := 0 ≤ e.f0 ∧ e.f0 < e.f1 ∧ e.f1 < n
def Good (n : Int) (l : List S62) (j : Nat) : Prop := Ed n (G l j) ∧ (0 < j → Lt (G l (j - 1)) (G l j))
instance (n : Int) (l : List S62) (j : Nat) : Decidable (Good n l j) := by unfold Good Ed; infer_instance
def Ok (n : Int) (l : List S62) : Prop := (0 ≤ n ∧ n ≤ 1048576) ∧ l.length ≤ 4194304 ∧ ∀ j, j < l.length → Good n l j
instance (n : Int) (l : List S62) : Decidable (Ok n l) := by unfold Ok; infer_instance
theorem all_step (n : Int) (l : List S62) (i : Nat) (hi : i < l.length) : (∀ j, j < l.length → i ≤ j → Good n l j) ↔ Good n l i ∧ ∀ j, j < l.length → i + 1 ≤ j → Good n l j :=
  ⟨fun h => ⟨h i hi (Nat.le_refl _), fun j hj h1 => h j hj (by omega)⟩, fun h j hj h1 => by
    by_cases e : j = i
    · subst e; exact h.1
    · exact h.2 j hj (by omega)⟩
theorem wi (i : Nat) (l : List S62) (hl : l.length ≤ 8796093022208) (hi : i < l.length) : wrap64 ((i : Int) + 1) = ((i + 1 : Nat) : Int) := by
  rw [w64 (by omega) (by omega)]; omega
theorem valid_l0 (n : Int) (l : List S62) (hn : n ≤ 1048576) (hl : l.length ≤ 4194304) : ∀ (d i : Nat), i + d = l.length → (0 < i → Ed n (G l (i - 1))) →
    Ev (fun k => simple_Valid.l0 k l (l.length : Int) (i : Int) n l) (decide (∀ j, j < l.length → i ≤ j → Good n l j)) := by
  intro d
  induction d with
  | zero =>
    intro i hi hp
    refine Ev.succ ?_
    simp only [simple_Valid.l0]
    refine Ev.neg (by omega) (Ev.val ?_)
    rw [eq_comm, decide_eq_true_eq]
    intro j hj h1
    omega
  | succ d ih =>
    intro i hi hp
    have hi' : i < l.length := by omega
    have step := all_step n l i hi'
    have no : ¬ Good n l i → some false = some (decide (∀ j, j < l.length → i ≤ j → Good n l j)) := fun h => by
      rw [decide_eq_false (fun hh => h (step.1 hh).1)]
    have go : Good n l i → Ev (fun k => simple_Valid.l0 k l (l.length : Int) (wrap64 ((i : Int) + 1)) n l) (decide (∀ j, j < l.length → i ≤ j → Good n l j)) := fun h => by
      rw [wi i l (by omega) hi']
      have := ih (i + 1) (by omega) (fun _ => by simpa using h.1)
      have e : decide (∀ j, j < l.length → i ≤ j → Good n l j) = decide (∀ j, j < l.length → i + 1 ≤ j → Good n l j) := by
        rw [decide_eq_decide, step]
        exact ⟨fun h => h.2, fun h2 => ⟨h, h2⟩⟩
      rw [e]; exact this
    refine Ev.succ ?_
    simp only [simple_Valid.l0, rdG]
    refine Ev.pos (by omega) (Ev.pos (by omega) (Ev.pos (by omega) ?_))
    refine Ev.ite (fun h => Ev.val (Option.some.inj (no fun g => by have := g.1.1; omega))) (fun h0 => ?_)
    refine Ev.ite (fun h => Ev.val (Option.some.inj (no fun g => by have := g.1.2.1; omega))) (fun h1 => ?_)
    refine Ev.ite (fun h => Ev.val (Option.some.inj (no fun g => by have := g.1.2.2; omega))) (fun h2 => ?_)
    have he : Ed n (G l i) := by unfold Ed; omega
    refine Ev.ite (fun h3 => ?_) (fun h3 => go ⟨he, fun h => absurd h (by omega)⟩)
    have e1 : wrap64 ((i : Int) - 1) = ((i - 1 : Nat) : Int) := by rw [w64 (by omega) (by omega)]; omega
    rw [e1]
    simp only [rdG]
    refine Ev.pos (by omega) (Ev.pos (by omega) ?_)
    have hq := hp (by omega)
    have hb1 : (G l (i - 1)).f0 < 1048576 ∧ (G l (i - 1)).f1 < 1048576 ∧ 0 ≤ (G l (i - 1)).f0 ∧ 0 ≤ (G l (i - 1)).f1 := by unfold Ed at hq; omega
    have hb2 : (G l i).f0 < 1048576 ∧ (G l i).f1 < 1048576 ∧ 0 ≤ (G l i).f0 ∧ 0 ≤ (G l i).f1 := by unfold Ed at he; omega
    simp only [simple_compare.f]
    have key : ∀ t : Int, (t ≥ 0 ↔ ¬ Lt (G l (i - 1)) (G l i)) → Ev (fun k => if t ≥ 0 then some false else simple_Valid.l0 k l (l.length : Int) (wrap64 ((i : Int) + 1)) n l) (decide (∀ j, j < l.length → i ≤ j → Good n l j)) := by
      intro t ht
      refine Ev.ite (fun h => Ev.val (Option.some.inj (no fun g => (ht.1 h) (g.2 (by omega))))) (fun h => go ⟨he, fun _ => ?_⟩)
      by_cases hL : Lt (G l (i - 1)) (G l i)
      · exact hL
      · exact absurd (ht.2 hL) h
    by_cases c : (G l (i - 1)).f0 = (G l i).f0
    · rw [if_pos c]
      refine Ev.andThen' rfl (key _ ?_)
      rw [w64 (by omega) (by omega)]
      unfold Lt
      omega
    · rw [if_neg c]
      refine Ev.andThen' rfl (key _ ?_)
      rw [w64 (by omega) (by omega)]
      unfold Lt
      omega
theorem valid_ev (n : Int) (l : List S62) : Ev (fun k => simple_Valid.f k n l) (decide (Ok n l)) := by
  have bad : ¬ Ok n l → Ev (fun k => simple_Valid.j0 k true n l) (decide (Ok n l)) := fun h => by
    refine Ev.succ ?_
    simp only [simple_Valid.j0, if_true]
    exact Ev.val (by rw [decide_eq_false h])
  unfold simple_Valid.f
  refine Ev.ite (fun h => bad fun o => by have := o.1; omega) (fun h1 => ?_)
  refine Ev.ite (fun h => bad fun o => by have := o.1; omega) (fun h2 => ?_)
  by_cases h3 : (l.length : Int) > 4194304
  · rw [decide_eq_true h3]
    exact bad fun o => by have := o.2.1; omega
  · rw [decide_eq_false h3]
    refine Ev.succ ?_
    simp only [simple_Valid.j0]
    refine Ev.ff ?_
    have := valid_l0 n l (by omega) (by omega) l.length 0 (by omega) (fun h => absurd h (by omega))
    have e : decide (Ok n l) = decide (∀ j, j < l.length → 0 ≤ j → Good n l j) := by
      rw [decide_eq_decide]
      exact ⟨fun o j hj _ => o.2.2 j hj, fun o => ⟨by omega, by omega, fun j hj => o j hj (Nat.zero_le _)⟩⟩
    rw [e]
    exact this
/-! the reference's Valid -/
theorem valid3_l0 (n : Int) (l : List S62) (hn : n ≤ 1048576) (hl : l.length ≤ 4194304) : ∀ (d i : Nat), i + d = l.length →
    Ev (fun k => tangramref03_Valid.l0 k (i : Int) n l) (decide (∀ j, j < l.length → i ≤ j → Good n l j)) := by
  intro d
  induction d with
  | zero =>
    intro i hi
    refine Ev.succ ?_
    simp only [tangramref03_Valid.l0]
    refine Ev.neg (by omega) (Ev.val ?_)
    rw [eq_comm, decide_eq_true_eq]
    intro j hj h1
    omega
  | succ d ih =>
    intro i hi
    have hi' : i < l.length := by omega
    have step := all_step n l i hi'
    have no : ¬ Good n l i → some false = some (decide (∀ j, j < l.length → i ≤ j → Good n l j)) := fun h => by
      rw [decide_eq_false (fun hh => h (step.1 hh).1)]
    have go : Good n l i → Ev (fun k => tangramref03_Valid.l0 k (wrap64 ((i : Int) + 1)) n l) (decide (∀ j, j < l.length → i ≤ j → Good n l j)) := fun h => by
      rw [wi i l (by omega) hi']
      have := ih (i + 1) (by omega)
      have e : decide (∀ j, j < l.length → i ≤ j → Good n l j) = decide (∀ j, j < l.length → i + 1 ≤ j → Good n l j) := by
        rw [decide_eq_decide, step]
        exact ⟨fun h => h.2, fun h2 => ⟨h, h2⟩⟩
      rw [e]; exact this
    have bad : ¬ Good n l i → Ev (fun k => tangramref03_Valid.j2 k (i : Int) true n l (G l i).f0 (G l i).f1) (decide (∀ j, j < l.length → i ≤ j → Good n l j)) := fun h => by
      refine Ev.succ ?_
      simp only [tangramref03_Valid.j2]
      exact Ev.pos (by trivial) (Ev.val (Option.some.inj (no h)))
    refine Ev.succ ?_
    simp only [tangramref03_Valid.l0]
    refine Ev.pos (by omega) (Ev.pos (by omega) ?_)
    refine Ev.ite (fun h => bad fun g => by have := g.1.1; have h' : (G l i).f0 < 0 := h; omega) (fun h0 => ?_)
    refine Ev.ite (fun h => bad fun g => by have := g.1.2.1; have h' : (G l i).f0 ≥ (G l i).f1 := h; omega) (fun h1 => ?_)
    replace h0 : ¬ (G l i).f0 < 0 := h0
    replace h1 : ¬ (G l i).f0 ≥ (G l i).f1 := h1
    by_cases h2 : (rd_T62 l (i : Int)).f1 ≥ n
    · rw [decide_eq_true h2]
      exact bad fun g => by have := g.1.2.2; have h' : (G l i).f1 ≥ n := h2; omega
    · rw [decide_eq_false h2]
      replace h2 : ¬ (G l i).f1 ≥ n := h2
      have he : Ed n (G l i) := by unfold Ed; omega
      refine Ev.succ ?_
      simp only [tangramref03_Valid.j2, rdG]
      refine Ev.neg (by simp) (Ev.ite (fun h3 => ?_) (fun h3 => go ⟨he, fun h => absurd h (by omega)⟩))
      have e1 : wrap64 ((i : Int) - 1) = ((i - 1 : Nat) : Int) := by rw [w64 (by omega) (by omega)]; omega
      rw [e1]
      simp only [rdG]
      refine Ev.pos (by omega) (Ev.pos (by omega) ?_)
      have ht : tangramref03_Less.f (G l (i - 1)).f0 (G l (i - 1)).f1 (G l i).f0 (G l i).f1 = some (decide (Lt (G l (i - 1)) (G l i))) := by
        unfold tangramref03_Less.f
        by_cases c1 : (G l (i - 1)).f0 < (G l i).f0
        · rw [if_pos c1, decide_eq_true (show Lt _ _ from Or.inl c1)]
        · rw [if_neg c1]
          by_cases c2 : (G l (i - 1)).f0 = (G l i).f0
          · rw [if_pos c2]
            congr 1
            rw [decide_eq_decide]
            unfold Lt
            omega
          · rw [if_neg c2, decide_eq_false (show ¬ Lt _ _ from by unfold Lt; omega)]
      refine Ev.andThen' ht ?_
      by_cases hL : Lt (G l (i - 1)) (G l i)
      · rw [decide_eq_true hL]
        exact Ev.pos rfl (go ⟨he, fun _ => hL⟩)
      · rw [decide_eq_false hL]
        exact Ev.neg (by decide) (Ev.val (Option.some.inj (no fun g => hL (g.2 (by omega)))))
theorem valid3_ev (n : Int) (l : List S62) : Ev (fun k => tangramref03_Valid.f k n l) (decide (Ok n l)) := by
  have bad : ¬ Ok n l → Ev (fun k => tangramref03_Valid.j0 k true n l) (decide (Ok n l)) := fun h => by
    refine Ev.succ ?_
    simp only [tangramref03_Valid.j0, if_true]
    exact Ev.val (by rw [decide_eq_false h])
  unfold tangramref03_Valid.f
  refine Ev.ite (fun h => bad fun o => by have := o.1; omega) (fun h1 => ?_)
  refine Ev.ite (fun h => bad fun o => by have := o.1; omega) (fun h2 => ?_)
  by_cases h3 : (l.length : Int) > 4194304
  · rw [decide_eq_true h3]
    exact bad fun o => by have := o.2.1; omega
  · rw [decide_eq_false h3]
    refine Ev.succ ?_
    simp only [tangramref03_Valid.j0]
    refine Ev.ff ?_
    have := valid3_l0 n l (by omega) (by omega) l.length 0 (by omega)
    have e : decide (Ok n l) = decide (∀ j, j < l.length → 0 ≤ j → Good n l j) := by
      rw [decide_eq_decide]
      exact ⟨fun o j hj _ => o.2.2 j hj, fun o => ⟨by omega, by omega, fun j hj => o j hj (Nat.zero_le _)⟩⟩
    rw [e]
    exact this
end Go.Proofs.Ythfoliejhdpbaaa.Pure
