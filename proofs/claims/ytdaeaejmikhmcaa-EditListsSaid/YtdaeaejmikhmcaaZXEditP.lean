-- Plain facts on the printed functions of layer 14 (edit): the document's put.
import Derived.Test.YtdaeaejmikhmcaaZXEditA
import Derived.Test.YtdaeaejmikhmcaaZPEditCx37
set_option linter.unusedVariables false
set_option linter.unusedSimpArgs false
namespace Go.Proofs.Ytdaeaejmikhmcaa.Pure
open Go.RowKit Go.Proofs.Ytdaeaejmikhmcaa.PEditC Go.Proofs.YtdaeaejmikhmcaaW.PrintWords Go.Proofs.YtdaeaejmikhmcaaW.PrintLast Go.Proofs.YtdaeaejmikhmcaaX
theorem take_G (l : List S46) (i : Nat) (hi : i < l.length) : l.take (i + 1) = l.take i ++ [G l i] := by
  rw [List.take_add_one, List.getElem?_eq_getElem hi, G_get l i hi]
  rfl
/-! put -/
theorem tri (x y : S46) : Lt x y ∨ x = y ∨ Lt y x := by
  cases x
  cases y
  unfold Lt
  simp only [S46.mk.injEq]
  omega
theorem less_eq (a b c d : Int) : tangramref14_less.f a b c d = some (decide (Lt ⟨a, b⟩ ⟨c, d⟩)) := by
  unfold tangramref14_less.f
  by_cases h : Lt ⟨a, b⟩ ⟨c, d⟩
  · rw [decide_eq_true h]
    unfold Lt at h
    simp only at h
    split
    · rfl
    · split
      · exact congrArg some (decide_eq_true (by omega))
      · omega
  · rw [decide_eq_false h]
    unfold Lt at h
    simp only at h
    split
    · omega
    · split
      · exact congrArg some (decide_eq_false (by omega))
      · rfl
theorem put_done (l : List S46) (a b : Int) (hl : l.length < 4294967296) : ∀ (d i : Nat) (acc : List S46), i + d = l.length → acc.length ≤ i + 1 →
    Ev (fun k => tangramref14_put.l0 k l acc true (i : Int) a b) (acc ++ l.drop i) := by
  intro d
  induction d with
  | zero =>
    intro i acc hi ha
    refine Ev.succ ?_
    simp only [tangramref14_put.l0]
    refine Ev.neg (by omega) (Ev.val ?_)
    rw [List.drop_of_length_le (by omega), List.append_nil]
  | succ d ih =>
    intro i acc hi ha
    refine Ev.succ ?_
    simp only [tangramref14_put.l0, rdG]
    rw [wi i l (by omega) (by omega)]
    refine Ev.pos (by omega) (Ev.pos (by simp) (Ev.pos (by omega) (Ev.pos (by omega) ?_)))
    have := ih (i + 1) (acc ++ [G l i]) (by omega) (by simp; omega)
    rw [List.append_assoc] at this
    have e : [G l i] ++ l.drop (i + 1) = l.drop i := by
      rw [G_get l i (by omega), List.singleton_append, List.getElem_cons_drop]
    rw [e] at this
    exact this
/-- e put into its place. -/
theorem ins_ok {l : List S46} (hs : l.Pairwise Lt) (e : S46) (i : Nat) (h1 : ∀ x ∈ l.take i, Lt x e) (h2 : ∀ x ∈ l.drop i, Lt e x) : (l.take i ++ e :: l.drop i).Perm (l ++ [e]) ∧ (l.take i ++ e :: l.drop i).Pairwise Lt := by
  constructor
  · have := @List.perm_middle _ e (l.take i) (l.drop i)
    rw [List.take_append_drop] at this
    exact this.trans (List.perm_append_singleton e l).symm
  · have hs' := hs
    rw [← List.take_append_drop i l, List.pairwise_append] at hs'
    obtain ⟨p1, p2, p3⟩ := hs'
    refine List.pairwise_append.2 ⟨p1, List.pairwise_cons.2 ⟨h2, p2⟩, fun x hx y hy => ?_⟩
    rcases List.mem_cons.1 hy with rfl | hy
    · exact h1 x hx
    · exact p3 x hx y hy
theorem put_l0 (l : List S46) (a b : Int) (hl : l.length < 4294967296) (hs : l.Pairwise Lt) (hn : (⟨a, b⟩ : S46) ∉ l) (hz : ∃ x ∈ l, Lt ⟨a, b⟩ x) : ∀ (d i : Nat), i + d = l.length → (∀ x ∈ l.take i, Lt x ⟨a, b⟩) →
    ∃ m, m.Perm (l ++ [(⟨a, b⟩ : S46)]) ∧ m.Pairwise Lt ∧ Ev (fun k => tangramref14_put.l0 k l (l.take i) false (i : Int) a b) m := by
  intro d
  induction d with
  | zero =>
    intro i hi hx
    exfalso
    obtain ⟨x, hx1, hx2⟩ := hz
    rw [List.take_of_length_le (by omega)] at hx
    have := hx x hx1
    unfold Lt at this hx2
    omega
  | succ d ih =>
    intro i hi hx
    have hi' : i < l.length := by omega
    by_cases c : Lt ⟨a, b⟩ (G l i)
    · obtain ⟨h1, h2⟩ := ins_ok hs ⟨a, b⟩ i hx (fun x hx => by
        have p := hs.sublist (List.drop_sublist i l)
        rw [← List.getElem_cons_drop hi', ← G_get l i hi', List.pairwise_cons] at p
        rw [← List.getElem_cons_drop hi', ← G_get l i hi'] at hx
        rcases List.mem_cons.1 hx with rfl | hx
        · exact c
        · exact Lt.trans c (p.1 x hx))
      refine ⟨_, h1, h2, Ev.succ ?_⟩
      simp only [tangramref14_put.l0, rdG, less_eq]
      rw [wi i l (by omega) hi']
      refine Ev.pos (by omega) (Ev.neg (by simp) (Ev.pos (by omega) (Ev.andThen' rfl ?_)))
      rw [decide_eq_true (show Lt ⟨a, b⟩ ⟨(G l i).f0, (G l i).f1⟩ from c)]
      refine Ev.pos (by simp) (Ev.pos (by simp; omega) (Ev.andThen' rfl (Ev.pos (by simp; omega) ?_)))
      have := put_done l a b hl d (i + 1) (l.take i ++ [(⟨a, b⟩ : S46)] ++ [G l i]) (by omega) (by simp; omega)
      have e : l.take i ++ [(⟨a, b⟩ : S46)] ++ [G l i] ++ l.drop (i + 1) = l.take i ++ ⟨a, b⟩ :: l.drop i := by
        rw [G_get l i hi', ← List.getElem_cons_drop hi']
        simp
      rw [e] at this
      exact this
    · have lt : Lt (G l i) ⟨a, b⟩ := by
        rcases tri (G l i) ⟨a, b⟩ with q | q | q
        · exact q
        · exact absurd (q ▸ (G_get l i hi' ▸ List.getElem_mem hi')) hn
        · exact absurd q c
      obtain ⟨m, h1, h2, h3⟩ := ih (i + 1) (by omega) (fun x hx' => by
        rw [take_G l i hi'] at hx'
        rcases List.mem_append.1 hx' with q | q
        · exact hx x q
        · rw [List.mem_singleton.1 q]
          exact lt)
      refine ⟨m, h1, h2, Ev.succ ?_⟩
      simp only [tangramref14_put.l0, rdG, less_eq]
      rw [wi i l (by omega) hi']
      refine Ev.pos (by omega) (Ev.neg (by simp) (Ev.pos (by omega) (Ev.andThen' rfl ?_)))
      rw [decide_eq_false (show ¬ Lt ⟨a, b⟩ ⟨(G l i).f0, (G l i).f1⟩ from c)]
      refine Ev.neg (by simp) (Ev.pos (by simp; omega) ?_)
      rw [take_G l i hi'] at h3
      exact h3
theorem put_ev (l : List S46) (a b : Int) (hab : a < b) (hl : l.length < 4294967296) (hs : l.Pairwise Lt) (hn : (⟨a, b⟩ : S46) ∉ l) :
    ∃ m, m.Perm (l ++ [(⟨a, b⟩ : S46)]) ∧ m.Pairwise Lt ∧ Ev (fun k => tangramref14_put.f k l a b) m := by
  have e1 : mn a b = a := by unfold mn; omega
  have e2 : mx a b = b := by unfold mx; omega
  have end_ (h : ∀ x ∈ l, Lt x ⟨a, b⟩) : ∃ m, m.Perm (l ++ [(⟨a, b⟩ : S46)]) ∧ m.Pairwise Lt ∧ Ev (fun k => tangramref14_put.j0 k l true a b) m := by
    refine ⟨_, List.Perm.refl _, List.pairwise_append.2 ⟨hs, List.pairwise_singleton _ _, fun x hx y hy => ?_⟩, Ev.succ ?_⟩
    · rw [List.mem_singleton.1 hy]
      exact h x hx
    · simp only [tangramref14_put.j0]
      exact Ev.pos (by simp) (Ev.pos (by omega) (Ev.val rfl))
  unfold tangramref14_put.f
  simp only [e1, e2]
  by_cases c : l.length = 0
  · obtain ⟨m, h1, h2, h3⟩ := end_ (fun x hx => by rw [List.length_eq_zero_iff.1 c] at hx; cases hx)
    exact ⟨m, h1, h2, Ev.pos (by omega) h3⟩
  · have hw : wrap64 ((l.length : Int) - 1) = ((l.length - 1 : Nat) : Int) := by rw [w64 (by omega) (by omega)]; omega
    have hi : l.length - 1 < l.length := by omega
    simp only [hw, rdG, less_eq]
    have last : ∀ x ∈ l, x = G l (l.length - 1) ∨ Lt x (G l (l.length - 1)) := by
      intro x hx
      obtain ⟨j, hj, rfl⟩ := List.getElem_of_mem hx
      rw [G_get l _ hi]
      by_cases q : j = l.length - 1
      · subst q
        exact .inl rfl
      · exact .inr (List.pairwise_iff_getElem.1 hs j (l.length - 1) hj hi (by omega))
    by_cases q : Lt (G l (l.length - 1)) ⟨a, b⟩
    · obtain ⟨m, h1, h2, h3⟩ := end_ (fun x hx => by
        rcases last x hx with rfl | h
        · exact q
        · exact Lt.trans h q)
      refine ⟨m, h1, h2, Ev.neg (by omega) (Ev.pos (by omega) (Ev.pos (by omega) (Ev.andThen' rfl ?_)))⟩
      rw [decide_eq_true (show Lt ⟨(G l (l.length - 1)).f0, (G l (l.length - 1)).f1⟩ ⟨a, b⟩ from q)]
      exact h3
    · have hm : G l (l.length - 1) ∈ l := by rw [G_get l _ hi]; exact List.getElem_mem hi
      have q2 : Lt ⟨a, b⟩ (G l (l.length - 1)) := by
        rcases tri (G l (l.length - 1)) ⟨a, b⟩ with p | p | p
        · exact absurd p q
        · exact absurd (p ▸ hm) hn
        · exact p
      obtain ⟨m, h1, h2, h3⟩ := put_l0 l a b hl hs hn ⟨_, hm, q2⟩ l.length 0 (by omega) (by simp)
      refine ⟨m, h1, h2, Ev.neg (by omega) (Ev.pos (by omega) (Ev.pos (by omega) (Ev.andThen' rfl ?_)))⟩
      rw [decide_eq_false (show ¬ Lt ⟨(G l (l.length - 1)).f0, (G l (l.length - 1)).f1⟩ ⟨a, b⟩ from q)]
      refine Ev.succ ?_
      simp only [tangramref14_put.j0]
      exact Ev.neg (by simp) (by simpa using h3)
end Go.Proofs.Ytdaeaejmikhmcaa.Pure
