-- Plain facts on the printed functions of layer 14 (edit): validity, sorted edges, made, Same, from.
import Derived.Test.YtdaeaejmikhmcaaZXPure
import Derived.Test.YtdaeaejmikhmcaaZPEditCx3
import Derived.Test.YtdaeaejmikhmcaaZPEditCx5
import Derived.Test.YtdaeaejmikhmcaaZPEditCx20
import Derived.Test.YtdaeaejmikhmcaaZPEditCx21
import Derived.Test.YtdaeaejmikhmcaaZPEditCx24
import Derived.Test.YtdaeaejmikhmcaaZPEditCx26
import Derived.Test.YtdaeaejmikhmcaaZPEditCx28
set_option linter.unusedVariables false
set_option linter.unusedSimpArgs false
namespace Go.Proofs.Ytdaeaejmikhmcaa.Pure
open Go.RowKit Go.Proofs.Ytdaeaejmikhmcaa.PEditC Go.Proofs.YtdaeaejmikhmcaaW.PrintWords Go.Proofs.YtdaeaejmikhmcaaW.PrintLast Go.Proofs.YtdaeaejmikhmcaaX
def Lt (x y : S46) : Prop := x.f0 < y.f0 ∨ (x.f0 = y.f0 ∧ x.f1 < y.f1)
instance (x y : S46) : Decidable (Lt x y) := by unfold Lt; infer_instance
def G (l : List S46) (j : Nat) : S46 := rd_T46 l (j : Int)
theorem rdG (l : List S46) (j : Nat) : rd_T46 l (j : Int) = G l j := rfl
theorem G_get (l : List S46) (j : Nat) (h : j < l.length) : G l j = l[j] := by
  simp [G, rd_T46, List.getD_eq_getElem?_getD, h]
def Ed (n : Int) (e : S46) : Prop := 0 ≤ e.f0 ∧ e.f0 < e.f1 ∧ e.f1 < n
def Good (n : Int) (l : List S46) (j : Nat) : Prop := Ed n (G l j) ∧ (0 < j → Lt (G l (j - 1)) (G l j))
instance (n : Int) (l : List S46) (j : Nat) : Decidable (Good n l j) := by unfold Good Ed; infer_instance
def Ok (n : Int) (l : List S46) : Prop := (0 ≤ n ∧ n ≤ 1048576) ∧ l.length ≤ 4194304 ∧ ∀ j, j < l.length → Good n l j
instance (n : Int) (l : List S46) : Decidable (Ok n l) := by unfold Ok; infer_instance
theorem all_step (n : Int) (l : List S46) (i : Nat) (hi : i < l.length) : (∀ j, j < l.length → i ≤ j → Good n l j) ↔ Good n l i ∧ ∀ j, j < l.length → i + 1 ≤ j → Good n l j :=
  ⟨fun h => ⟨h i hi (Nat.le_refl _), fun j hj h1 => h j hj (by omega)⟩, fun h j hj h1 => by
    by_cases e : j = i
    · subst e; exact h.1
    · exact h.2 j hj (by omega)⟩
theorem wi (i : Nat) (l : List S46) (hl : l.length ≤ 8796093022208) (hi : i < l.length) : wrap64 ((i : Int) + 1) = ((i + 1 : Nat) : Int) := by
  rw [w64 (by omega) (by omega)]; omega
theorem valid_l0 (n : Int) (l : List S46) (hn : n ≤ 1048576) (hl : l.length ≤ 4194304) : ∀ (d i : Nat), i + d = l.length → (0 < i → Ed n (G l (i - 1))) →
    Ev (fun k => simple_Valid.l0 k l (l.length : Int) (i : Int) n l) (decide (∀ j, j < l.length → i ≤ j → Good n l j)) := by
  intro d
  induction d with
  | zero =>
    intro i hi hp
    refine Ev.succ ?_
    simp only [simple_Valid.l0]
    refine Ev.neg (by omega) (Ev.val ?_)
    rw [eq_comm, decide_eq_true_eq]
    intro j hj h1
    omega
  | succ d ih =>
    intro i hi hp
    have hi' : i < l.length := by omega
    have step := all_step n l i hi'
    have no : ¬ Good n l i → some false = some (decide (∀ j, j < l.length → i ≤ j → Good n l j)) := fun h => by
      rw [decide_eq_false (fun hh => h (step.1 hh).1)]
    have go : Good n l i → Ev (fun k => simple_Valid.l0 k l (l.length : Int) (wrap64 ((i : Int) + 1)) n l) (decide (∀ j, j < l.length → i ≤ j → Good n l j)) := fun h => by
      rw [wi i l (by omega) hi']
      have := ih (i + 1) (by omega) (fun _ => by simpa using h.1)
      have e : decide (∀ j, j < l.length → i ≤ j → Good n l j) = decide (∀ j, j < l.length → i + 1 ≤ j → Good n l j) := by
        rw [decide_eq_decide, step]
        exact ⟨fun h => h.2, fun h2 => ⟨h, h2⟩⟩
      rw [e]; exact this
    refine Ev.succ ?_
    simp only [simple_Valid.l0, rdG]
    refine Ev.pos (by omega) (Ev.pos (by omega) (Ev.pos (by omega) ?_))
    refine Ev.ite (fun h => Ev.val (Option.some.inj (no fun g => by have := g.1.1; omega))) (fun h0 => ?_)
    refine Ev.ite (fun h => Ev.val (Option.some.inj (no fun g => by have := g.1.2.1; omega))) (fun h1 => ?_)
    refine Ev.ite (fun h => Ev.val (Option.some.inj (no fun g => by have := g.1.2.2; omega))) (fun h2 => ?_)
    have he : Ed n (G l i) := by unfold Ed; omega
    refine Ev.ite (fun h3 => ?_) (fun h3 => go ⟨he, fun h => absurd h (by omega)⟩)
    have e1 : wrap64 ((i : Int) - 1) = ((i - 1 : Nat) : Int) := by rw [w64 (by omega) (by omega)]; omega
    rw [e1]
    simp only [rdG]
    refine Ev.pos (by omega) (Ev.pos (by omega) ?_)
    have hq := hp (by omega)
    have hb1 : (G l (i - 1)).f0 < 1048576 ∧ (G l (i - 1)).f1 < 1048576 ∧ 0 ≤ (G l (i - 1)).f0 ∧ 0 ≤ (G l (i - 1)).f1 := by unfold Ed at hq; omega
    have hb2 : (G l i).f0 < 1048576 ∧ (G l i).f1 < 1048576 ∧ 0 ≤ (G l i).f0 ∧ 0 ≤ (G l i).f1 := by unfold Ed at he; omega
    simp only [simple_compare.f]
    have key : ∀ t : Int, (t ≥ 0 ↔ ¬ Lt (G l (i - 1)) (G l i)) → Ev (fun k => if t ≥ 0 then some false else simple_Valid.l0 k l (l.length : Int) (wrap64 ((i : Int) + 1)) n l) (decide (∀ j, j < l.length → i ≤ j → Good n l j)) := by
      intro t ht
      refine Ev.ite (fun h => Ev.val (Option.some.inj (no fun g => (ht.1 h) (g.2 (by omega))))) (fun h => go ⟨he, fun _ => ?_⟩)
      by_cases hL : Lt (G l (i - 1)) (G l i)
      · exact hL
      · exact absurd (ht.2 hL) h
    by_cases c : (G l (i - 1)).f0 = (G l i).f0
    · rw [if_pos c]
      refine Ev.andThen' rfl (key _ ?_)
      rw [w64 (by omega) (by omega)]
      unfold Lt
      omega
    · rw [if_neg c]
      refine Ev.andThen' rfl (key _ ?_)
      rw [w64 (by omega) (by omega)]
      unfold Lt
      omega
theorem valid_ev (n : Int) (l : List S46) : Ev (fun k => simple_Valid.f k n l) (decide (Ok n l)) := by
  have bad : ¬ Ok n l → Ev (fun k => simple_Valid.j0 k true n l) (decide (Ok n l)) := fun h => by
    refine Ev.succ ?_
    simp only [simple_Valid.j0, if_true]
    exact Ev.val (by rw [decide_eq_false h])
  unfold simple_Valid.f
  refine Ev.ite (fun h => bad fun o => by have := o.1; omega) (fun h1 => ?_)
  refine Ev.ite (fun h => bad fun o => by have := o.1; omega) (fun h2 => ?_)
  by_cases h3 : (l.length : Int) > 4194304
  · rw [decide_eq_true h3]
    exact bad fun o => by have := o.2.1; omega
  · rw [decide_eq_false h3]
    refine Ev.succ ?_
    simp only [simple_Valid.j0]
    refine Ev.ff ?_
    have := valid_l0 n l (by omega) (by omega) l.length 0 (by omega) (fun h => absurd h (by omega))
    have e : decide (Ok n l) = decide (∀ j, j < l.length → 0 ≤ j → Good n l j) := by
      rw [decide_eq_decide]
      exact ⟨fun o j hj _ => o.2.2 j hj, fun o => ⟨by omega, by omega, fun j hj => o j hj (Nat.zero_le _)⟩⟩
    rw [e]
    exact this
/-! the reference's Valid -/
theorem valid3_l0 (n : Int) (l : List S46) (hn : n ≤ 1048576) (hl : l.length ≤ 4194304) : ∀ (d i : Nat), i + d = l.length →
    Ev (fun k => tangramref03_Valid.l0 k (i : Int) n l) (decide (∀ j, j < l.length → i ≤ j → Good n l j)) := by
  intro d
  induction d with
  | zero =>
    intro i hi
    refine Ev.succ ?_
    simp only [tangramref03_Valid.l0]
    refine Ev.neg (by omega) (Ev.val ?_)
    rw [eq_comm, decide_eq_true_eq]
    intro j hj h1
    omega
  | succ d ih =>
    intro i hi
    have hi' : i < l.length := by omega
    have step := all_step n l i hi'
    have no : ¬ Good n l i → some false = some (decide (∀ j, j < l.length → i ≤ j → Good n l j)) := fun h => by
      rw [decide_eq_false (fun hh => h (step.1 hh).1)]
    have go : Good n l i → Ev (fun k => tangramref03_Valid.l0 k (wrap64 ((i : Int) + 1)) n l) (decide (∀ j, j < l.length → i ≤ j → Good n l j)) := fun h => by
      rw [wi i l (by omega) hi']
      have := ih (i + 1) (by omega)
      have e : decide (∀ j, j < l.length → i ≤ j → Good n l j) = decide (∀ j, j < l.length → i + 1 ≤ j → Good n l j) := by
        rw [decide_eq_decide, step]
        exact ⟨fun h => h.2, fun h2 => ⟨h, h2⟩⟩
      rw [e]; exact this
    have bad : ¬ Good n l i → Ev (fun k => tangramref03_Valid.j2 k (i : Int) true n l (G l i).f0 (G l i).f1) (decide (∀ j, j < l.length → i ≤ j → Good n l j)) := fun h => by
      refine Ev.succ ?_
      simp only [tangramref03_Valid.j2]
      exact Ev.pos (by trivial) (Ev.val (Option.some.inj (no h)))
    refine Ev.succ ?_
    simp only [tangramref03_Valid.l0]
    refine Ev.pos (by omega) (Ev.pos (by omega) ?_)
    refine Ev.ite (fun h => bad fun g => by have := g.1.1; have h' : (G l i).f0 < 0 := h; omega) (fun h0 => ?_)
    refine Ev.ite (fun h => bad fun g => by have := g.1.2.1; have h' : (G l i).f0 ≥ (G l i).f1 := h; omega) (fun h1 => ?_)
    replace h0 : ¬ (G l i).f0 < 0 := h0
    replace h1 : ¬ (G l i).f0 ≥ (G l i).f1 := h1
    by_cases h2 : (rd_T46 l (i : Int)).f1 ≥ n
    · rw [decide_eq_true h2]
      exact bad fun g => by have := g.1.2.2; have h' : (G l i).f1 ≥ n := h2; omega
    · rw [decide_eq_false h2]
      replace h2 : ¬ (G l i).f1 ≥ n := h2
      have he : Ed n (G l i) := by unfold Ed; omega
      refine Ev.succ ?_
      simp only [tangramref03_Valid.j2, rdG]
      refine Ev.neg (by simp) (Ev.ite (fun h3 => ?_) (fun h3 => go ⟨he, fun h => absurd h (by omega)⟩))
      have e1 : wrap64 ((i : Int) - 1) = ((i - 1 : Nat) : Int) := by rw [w64 (by omega) (by omega)]; omega
      rw [e1]
      simp only [rdG]
      refine Ev.pos (by omega) (Ev.pos (by omega) ?_)
      have ht : tangramref03_Less.f (G l (i - 1)).f0 (G l (i - 1)).f1 (G l i).f0 (G l i).f1 = some (decide (Lt (G l (i - 1)) (G l i))) := by
        unfold tangramref03_Less.f
        by_cases c1 : (G l (i - 1)).f0 < (G l i).f0
        · rw [if_pos c1, decide_eq_true (show Lt _ _ from Or.inl c1)]
        · rw [if_neg c1]
          by_cases c2 : (G l (i - 1)).f0 = (G l i).f0
          · rw [if_pos c2]
            congr 1
            rw [decide_eq_decide]
            unfold Lt
            omega
          · rw [if_neg c2, decide_eq_false (show ¬ Lt _ _ from by unfold Lt; omega)]
      refine Ev.andThen' ht ?_
      by_cases hL : Lt (G l (i - 1)) (G l i)
      · rw [decide_eq_true hL]
        exact Ev.pos rfl (go ⟨he, fun _ => hL⟩)
      · rw [decide_eq_false hL]
        exact Ev.neg (by decide) (Ev.val (Option.some.inj (no fun g => hL (g.2 (by omega)))))
theorem valid3_ev (n : Int) (l : List S46) : Ev (fun k => tangramref03_Valid.f k n l) (decide (Ok n l)) := by
  have bad : ¬ Ok n l → Ev (fun k => tangramref03_Valid.j0 k true n l) (decide (Ok n l)) := fun h => by
    refine Ev.succ ?_
    simp only [tangramref03_Valid.j0, if_true]
    exact Ev.val (by rw [decide_eq_false h])
  unfold tangramref03_Valid.f
  refine Ev.ite (fun h => bad fun o => by have := o.1; omega) (fun h1 => ?_)
  refine Ev.ite (fun h => bad fun o => by have := o.1; omega) (fun h2 => ?_)
  by_cases h3 : (l.length : Int) > 4194304
  · rw [decide_eq_true h3]
    exact bad fun o => by have := o.2.1; omega
  · rw [decide_eq_false h3]
    refine Ev.succ ?_
    simp only [tangramref03_Valid.j0]
    refine Ev.ff ?_
    have := valid3_l0 n l (by omega) (by omega) l.length 0 (by omega)
    have e : decide (Ok n l) = decide (∀ j, j < l.length → 0 ≤ j → Good n l j) := by
      rw [decide_eq_decide]
      exact ⟨fun o j hj _ => o.2.2 j hj, fun o => ⟨by omega, by omega, fun j hj => o j hj (Nat.zero_le _)⟩⟩
    rw [e]
    exact this
/-! Same, told, Copy, Clone, from -/
theorem same_l0 (n m : Int) (l : List S46) (hl : l.length ≤ 8796093022208) : ∀ (d i : Nat), i + d = l.length → Ev (fun k => tangramref14_Same.l0 k (i : Int) n l m l) true := by
  intro d
  induction d with
  | zero =>
    intro i hi
    refine Ev.succ ?_
    simp only [tangramref14_Same.l0]
    exact Ev.neg (by omega) (Ev.val rfl)
  | succ d ih =>
    intro i hi
    refine Ev.succ ?_
    simp only [tangramref14_Same.l0]
    refine Ev.pos (by omega) (Ev.pos (by omega) (Ev.pos (by omega) (Ev.neg (by simp) ?_)))
    rw [wi i l hl (by omega)]
    exact ih (i + 1) (by omega)
theorem same_ev (n : Int) (l : List S46) (hl : l.length ≤ 8796093022208) : Ev (fun k => tangramref14_Same.f k n l n l) true := by
  unfold tangramref14_Same.f
  refine Ev.pos rfl (Ev.succ ?_)
  simp only [tangramref14_Same.j0, bne_self_eq_false]
  exact Ev.ff (same_l0 n n l hl l.length 0 (by omega))
theorem told_ev (n : Int) (l : List S46) (e : Int) (hl : l.length ≤ 8796093022208) : Ev (fun k => tangramlaw14_told.f k n l e n l e) true := by
  unfold tangramlaw14_told.f
  exact Ev.pos rfl (Ev.andThen (same_ev n l hl) (Ev.val rfl))
theorem copy_eq (n : Int) (l : List S46) (hl : l.length < 8796093022208) : tangramref14_Copy.f n l = some (n, l) := by
  simp [tangramref14_Copy.f, tangramref14_kept.f, hl]
theorem kept_eq (l : List S46) (hl : l.length < 8796093022208) : tangramref14_kept.f l = some l := by
  simp [tangramref14_kept.f, hl]
theorem clone_eq (l : List S46) (hl : l.length < 8796093022208) : api_Edge_40.f l = some l := by
  simp [api_Edge_40.f, hl]
def fromL (a : Int) (n : Nat) : List Int := (List.range n).map fun i : Nat => a + (i : Int)
theorem from_l0 (a : Int) (n : Nat) (ha : 0 ≤ a) (h : a + n ≤ 1048576) : ∀ (d i : Nat), i + d = n → Ev (fun k => tangramlaw14_from.l0 k a (n : Int) (fromL a i) (i : Int)) (fromL a n) := by
  intro d
  induction d with
  | zero =>
    intro i hi
    refine Ev.succ ?_
    simp only [tangramlaw14_from.l0]
    refine Ev.neg (by omega) (Ev.val ?_)
    rw [show i = n by omega]
  | succ d ih =>
    intro i hi
    refine Ev.succ ?_
    simp only [tangramlaw14_from.l0]
    have hlen : (fromL a i).length = i := by simp [fromL]
    refine Ev.pos (by omega) (Ev.pos (by omega) ?_)
    have e : fromL a i ++ [wrap64 (a + (i : Int))] = fromL a (i + 1) := by
      rw [w64 (by omega) (by omega)]
      simp [fromL, List.range_succ]
    rw [e, show wrap64 ((i : Int) + 1) = ((i + 1 : Nat) : Int) by rw [w64 (by omega) (by omega)]; omega]
    exact ih (i + 1) (by omega)
theorem from_ev (a : Int) (n : Nat) (ha : 0 ≤ a) (h : a + n ≤ 1048576) : Ev (fun k => tangramlaw14_from.f k a (n : Int)) (fromL a n) := by
  unfold tangramlaw14_from.f
  exact from_l0 a n ha h n 0 (by omega)
/-! made -/
def norm (e : S46) : S46 := ⟨mn e.f0 e.f1, mx e.f0 e.f1⟩
theorem norm_id (e : S46) (h : e.f0 < e.f1) : norm e = e := by
  cases e
  simp only [norm, S46.mk.injEq]
  simp only at h
  unfold mn mx
  omega
theorem norm_map_id (l : List S46) (h : ∀ e ∈ l, e.f0 < e.f1) : l.map norm = l := by
  induction l with
  | nil => rfl
  | cons a l ih => rw [List.map_cons, norm_id a (h a List.mem_cons_self), ih fun e he => h e (List.mem_cons_of_mem _ he)]
theorem srt_id : ∀ (l : List S46), l.Pairwise Lt → api_Edge_51.srt l = l
  | [], _ => rfl
  | [x], _ => rfl
  | x :: y :: l, h => by
    obtain ⟨h1, h2⟩ := List.pairwise_cons.1 h
    show api_Edge_51.ins x (api_Edge_51.srt (y :: l)) = _
    rw [srt_id (y :: l) h2]
    have := h1 y List.mem_cons_self
    unfold Lt at this
    rw [api_Edge_51.ins, if_pos (by omega)]
theorem take_map {β : Type} (l : List S46) (f : S46 → β) (i : Nat) (h : i < l.length) : (l.take i).map f ++ [f (G l i)] = (l.take (i + 1)).map f := by
  rw [G_get l i h, List.take_succ_eq_append_getElem h, List.map_append]
  rfl
theorem made_l0 (n : Int) (l : List S46) (hl : l.length < 8796093022208) : ∀ (d i : Nat), i + d = l.length →
    Ev (fun k => edit_made.l0 k n ((l.take i).map norm) l (l.length : Int) (i : Int)) (n, api_Edge_51.srt (l.map norm)) := by
  intro d
  induction d with
  | zero =>
    intro i hi
    refine Ev.succ ?_
    simp only [edit_made.l0]
    refine Ev.neg (by omega) ?_
    have e : api_Edge_51.f ((l.take i).map norm) 0 = some (api_Edge_51.srt (l.map norm)) := by
      rw [List.take_of_length_le (by omega)]
      simp only [api_Edge_51.f, List.length_map]
      rw [if_pos (by omega)]
    exact Ev.andThen' e (Ev.val rfl)
  | succ d ih =>
    intro i hi
    refine Ev.succ ?_
    simp only [edit_made.l0, rdG]
    have hlen : ((l.take i).map norm).length ≤ i := by simp; omega
    refine Ev.pos (by omega) (Ev.pos (by omega) (Ev.pos (by omega) (Ev.pos (by omega) ?_)))
    rw [wi i l (by omega) (by omega)]
    have e : (l.take i).map norm ++ [(⟨mn (G l i).f0 (G l i).f1, mx (G l i).f0 (G l i).f1⟩ : S46)] = (l.take (i + 1)).map norm := take_map l norm i (by omega)
    rw [e]
    exact ih (i + 1) (by omega)
theorem made_ev (n : Int) (l : List S46) (hl : l.length < 8796093022208) : Ev (fun k => edit_made.f k n l) (n, api_Edge_51.srt (l.map norm)) := by
  unfold edit_made.f
  refine Ev.pos (by omega) (Ev.pos (by omega) ?_)
  exact made_l0 n l hl l.length 0 (by omega)
theorem made_id (n : Int) (l : List S46) (hl : l.length < 8796093022208) (h : ∀ e ∈ l, e.f0 < e.f1) (hs : l.Pairwise Lt) : Ev (fun k => edit_made.f k n l) (n, l) := by
  have := made_ev n l hl
  rwa [norm_map_id l h, srt_id l hs] at this
theorem Lt.trans {x y z : S46} (h1 : Lt x y) (h2 : Lt y z) : Lt x z := by unfold Lt at *; omega
theorem Ok.get {n : Int} {l : List S46} (h : Ok n l) (j : Nat) (hj : j < l.length) : Ed n l[j] := by
  have := (h.2.2 j hj).1
  rwa [G_get l j hj] at this
theorem Ok.mem {n : Int} {l : List S46} (h : Ok n l) {e : S46} (he : e ∈ l) : Ed n e := by
  obtain ⟨j, hj, rfl⟩ := List.mem_iff_getElem.1 he
  exact h.get j hj
theorem Ok.sorted {n : Int} {l : List S46} (h : Ok n l) : l.Pairwise Lt := by
  rw [List.pairwise_iff_getElem]
  have key : ∀ (d i : Nat) (hi : i + d + 1 < l.length), Lt (l[i]'(by omega)) (l[i + d + 1]) := by
    intro d
    induction d with
    | zero =>
      intro i hi
      have := (h.2.2 (i + 1) (by omega)).2 (by omega)
      rw [G_get l (i + 1) (by omega), show i + 1 - 1 = i by omega, G_get l i (by omega)] at this
      exact this
    | succ d ih =>
      intro i hi
      have h1 := ih i (by omega)
      have := (h.2.2 (i + d + 1 + 1) (by omega)).2 (by omega)
      rw [G_get l (i + d + 1 + 1) (by omega), show i + d + 1 + 1 - 1 = i + d + 1 by omega, G_get l (i + d + 1) (by omega)] at this
      exact h1.trans this
  intro i j hi hj hij
  have := key (j - i - 1) i (by omega)
  simpa [show i + (j - i - 1) + 1 = j by omega] using this
theorem Ok.of {n : Int} {l : List S46} (h0 : 0 ≤ n) (h1 : n ≤ 1048576) (h2 : l.length ≤ 4194304) (h3 : ∀ e ∈ l, Ed n e) (h4 : l.Pairwise Lt) : Ok n l := by
  refine ⟨⟨h0, h1⟩, h2, fun j hj => ⟨?_, fun h => ?_⟩⟩
  · rw [G_get l j hj]
    exact h3 _ (List.getElem_mem hj)
  · rw [G_get l j hj, G_get l (j - 1) (by omega)]
    exact List.pairwise_iff_getElem.1 h4 (j - 1) j (by omega) hj (by omega)
theorem srt_eq {l m : List S46} (hp : m.Perm l) (hs : m.Pairwise Lt) : api_Edge_51.srt l = m := by
  refine List.Perm.eq_of_pairwise (le := api_Edge_51.Le) (fun a b _ _ h1 h2 => ?_) (api_Edge_51.srt_sorted l) (hs.imp (fun {a b} h => ?_)) ((api_Edge_51.srt_perm l).trans hp.symm)
  · unfold api_Edge_51.Le at h1 h2
    cases a; cases b
    simp only [S46.mk.injEq]
    simp only at h1 h2
    omega
  · unfold Lt at h
    unfold api_Edge_51.Le
    omega
end Go.Proofs.Ytdaeaejmikhmcaa.Pure
