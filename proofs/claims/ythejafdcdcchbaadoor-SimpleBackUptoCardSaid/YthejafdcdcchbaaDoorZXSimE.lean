-- layer 3 (simple), pure: copies, equality.
import Derived.Test.YthejafdcdcchbaaDoorZXSimP
import Derived.Test.YthejafdcdcchbaaDoorZPSimAx17
import Derived.Test.YthejafdcdcchbaaDoorZPSimAx27
set_option linter.unusedVariables false
set_option linter.unusedSimpArgs false
namespace Go.Proofs.YthejafdcdcchbaaDoor.Pure
open Go.RowKit Go.Proofs.YthejafdcdcchbaaDoor.PSimA Go.Proofs.YthejafdcdcchbaaDoorW.PrintWords Go.Proofs.YthejafdcdcchbaaDoorW.PrintLast Go.Proofs.YthejafdcdcchbaaDoorX
theorem s42_ext {x y : S42} : x = y ↔ x.f0 = y.f0 ∧ x.f1 = y.f1 := by
  obtain ⟨a, b⟩ := x
  obtain ⟨c, d⟩ := y
  simp
instance : DecidableEq S42 := fun x y => decidable_of_iff _ s42_ext.symm
theorem drop_G (l : List S42) (i : Nat) (h : i < l.length) : l.drop i = G l i :: l.drop (i + 1) := by
  rw [G_get l i h, List.drop_eq_getElem_cons h]
theorem take_G (l : List S42) (i : Nat) (h : i < l.length) : l.take (i + 1) = l.take i ++ [G l i] := by
  rw [G_get l i h, List.take_succ_eq_append_getElem h]
theorem copy_l0 (n : Int) (l : List S42) (hl : l.length ≤ 8796093022208) : ∀ (d i : Nat), i + d = l.length →
    Ev (fun k => tangramref03_Copy.l0 k (l.take i) (i : Int) n l) (n, l) := by
  intro d
  induction d with
  | zero =>
    intro i hi
    refine Ev.succ ?_
    simp only [tangramref03_Copy.l0]
    refine Ev.neg (by omega) (Ev.val ?_)
    rw [List.take_of_length_le (by omega)]
  | succ d ih =>
    intro i hi
    have hi' : i < l.length := by omega
    refine Ev.succ ?_
    simp only [tangramref03_Copy.l0, rdG]
    refine Ev.pos (by omega) (Ev.pos (by omega) (Ev.pos (by rw [List.length_take]; omega) ?_))
    rw [wi i l hl hi']
    have := ih (i + 1) (by omega)
    rw [take_G l i hi'] at this
    exact this
theorem copy_ev (n : Int) (l : List S42) (hl : l.length ≤ 8796093022208) : Ev (fun k => tangramref03_Copy.f k n l) (n, l) := by
  have := copy_l0 n l hl l.length 0 (by omega)
  rw [List.take_zero] at this
  exact this
theorem eqs_step (l q : List S42) (i : Nat) (h : i < l.length) (h' : i < q.length) : (l.drop i = q.drop i) ↔ ((G l i).f0 = (G q i).f0 ∧ (G l i).f1 = (G q i).f1) ∧ l.drop (i + 1) = q.drop (i + 1) := by
  rw [drop_G l i h, drop_G q i h', List.cons.injEq, s42_ext]
theorem equal_l0 (n m : Int) (l q : List S42) (hl : l.length ≤ 8796093022208) (he : l.length = q.length) : ∀ (d i : Nat), i + d = l.length →
    Ev (fun k => tangramref03_Equal.l0 k (i : Int) n l m q) (decide (l.drop i = q.drop i)) := by
  intro d
  induction d with
  | zero =>
    intro i hi
    refine Ev.succ ?_
    simp only [tangramref03_Equal.l0]
    refine Ev.neg (by omega) (Ev.val ?_)
    rw [List.drop_of_length_le (by omega), List.drop_of_length_le (by omega), decide_eq_true rfl]
  | succ d ih =>
    intro i hi
    have hi' : i < l.length := by omega
    have st := eqs_step l q i hi' (by omega)
    refine Ev.succ ?_
    simp only [tangramref03_Equal.l0, rdG]
    refine Ev.pos (by omega) (Ev.pos (by omega) (Ev.pos (by omega) ?_))
    refine Ev.ite (fun h0 => Ev.ite (fun h1 => ?_) (fun h1 => Ev.val ?_)) (fun h0 => Ev.val ?_)
    · rw [wi i l hl hi']
      have e : decide (l.drop i = q.drop i) = decide (l.drop (i + 1) = q.drop (i + 1)) := by
        rw [decide_eq_decide, st]
        exact ⟨fun h => h.2, fun h => ⟨⟨h0, h1⟩, h⟩⟩
      rw [e]
      exact ih (i + 1) (by omega)
    · rw [decide_eq_false fun h => h1 (st.1 h).1.2]
    · rw [decide_eq_false fun h => h0 (st.1 h).1.1]
theorem equal_ev (n m : Int) (l q : List S42) (hl : l.length ≤ 8796093022208) : Ev (fun k => tangramref03_Equal.f k n l m q) (decide (n = m ∧ l = q)) := by
  unfold tangramref03_Equal.f
  have bad : ¬ (n = m ∧ l = q) → Ev (fun k => tangramref03_Equal.j0 k true n l m q) (decide (n = m ∧ l = q)) := fun h => by
    refine Ev.succ ?_
    simp only [tangramref03_Equal.j0, if_true]
    exact Ev.val (by rw [decide_eq_false h])
  refine Ev.ite (fun h => ?_) (fun h => bad fun o => h o.1)
  by_cases he : l.length = q.length
  · have e : ((l.length : Int) != (q.length : Int)) = false := by rw [he]; simp
    rw [e]
    refine Ev.succ ?_
    simp only [tangramref03_Equal.j0]
    refine Ev.ff ?_
    have := equal_l0 n m l q hl he l.length 0 (by omega)
    rw [List.drop_zero, List.drop_zero] at this
    have e2 : decide (n = m ∧ l = q) = decide (l = q) := by
      rw [decide_eq_decide]
      exact ⟨fun o => o.2, fun o => ⟨h, o⟩⟩
    rw [e2]
    exact this
  · have e : ((l.length : Int) != (q.length : Int)) = true := by simp; omega
    rw [e]
    exact bad fun o => he (by rw [o.2])
theorem seq_l0 (l q : List S42) (hl : l.length ≤ 8796093022208) (he : l.length = q.length) : ∀ (d i : Nat), i + d = l.length →
    Ev (fun k => api_Edge_47.l0 k l q (l.length : Int) (i : Int)) (decide (l.drop i = q.drop i)) := by
  intro d
  induction d with
  | zero =>
    intro i hi
    refine Ev.succ ?_
    simp only [api_Edge_47.l0]
    refine Ev.neg (by omega) (Ev.val ?_)
    rw [List.drop_of_length_le (by omega), List.drop_of_length_le (by omega), decide_eq_true rfl]
  | succ d ih =>
    intro i hi
    have hi' : i < l.length := by omega
    have st := eqs_step l q i hi' (by omega)
    refine Ev.succ ?_
    simp only [api_Edge_47.l0, rdG]
    refine Ev.pos (by omega) (Ev.pos (by omega) (Ev.pos (by omega) (Ev.pos (by omega) ?_)))
    refine Ev.ite (fun h0 => Ev.val ?_) (fun h0 => ?_)
    · rw [decide_eq_false]
      intro h
      obtain ⟨⟨e0, e1⟩, _⟩ := st.1 h
      rw [e0, e1] at h0
      simp at h0
    · have h1 : (G l i).f0 = (G q i).f0 ∧ (G l i).f1 = (G q i).f1 := by simpa using h0
      rw [wi i l hl hi']
      have e : decide (l.drop i = q.drop i) = decide (l.drop (i + 1) = q.drop (i + 1)) := by
        rw [decide_eq_decide, st]
        exact ⟨fun h => h.2, fun h => ⟨h1, h⟩⟩
      rw [e]
      exact ih (i + 1) (by omega)
theorem seq_ev (l q : List S42) (hl : l.length ≤ 8796093022208) : Ev (fun k => api_Edge_47.f k l q) (decide (l = q)) := by
  unfold api_Edge_47.f
  refine Ev.ite (fun h => ?_) (fun h => Ev.val ?_)
  · have := seq_l0 l q hl (by omega) l.length 0 (by omega)
    rw [List.drop_zero, List.drop_zero] at this
    exact this
  · rw [decide_eq_false fun o => h (by rw [o])]
def SameR (n : Int) (l : List S42) (m : Int) (q : List S42) : Bool := decide (Ok n l) && (decide (Ok m q) && decide (n = m ∧ l = q))
theorem same_ev (n m : Int) (l q : List S42) (hl : l.length ≤ 8796093022208) : Ev (fun k => simple_Same.f k n l m q) (SameR n l m q) := by
  unfold simple_Same.f SameR
  refine Ev.andThen (valid_ev n l) ?_
  refine Ev.ite (fun h1 => ?_) (fun h1 => Ev.val ?_)
  · rw [h1, Bool.true_and]
    refine Ev.andThen (valid_ev m q) ?_
    refine Ev.ite (fun h2 => ?_) (fun h2 => Ev.val ?_)
    · rw [h2, Bool.true_and]
      refine Ev.ite (fun h3 => ?_) (fun h3 => Ev.val ?_)
      · refine Ev.andThen (seq_ev l q hl) (Ev.val ?_)
        rw [decide_eq_decide]
        exact ⟨fun h => ⟨h3, h⟩, fun h => h.2⟩
      · rw [decide_eq_false fun o => h3 o.1]
    · rw [show decide (Ok m q) = false by simpa using h2, Bool.false_and]
  · rw [show decide (Ok n l) = false by simpa using h1, Bool.false_and]
theorem same3_ev (n m : Int) (l q : List S42) (hl : l.length ≤ 8796093022208) : Ev (fun k => tangramref03_Same.f k n l m q) (SameR n l m q) := by
  unfold tangramref03_Same.f SameR
  refine Ev.andThen (valid3_ev n l) (Ev.andThen (valid3_ev m q) (Ev.andThen (equal_ev n m l q hl) ?_))
  refine Ev.ite (fun h1 => ?_) (fun h1 => Ev.val ?_)
  · rw [h1, Bool.true_and]
    refine Ev.ite (fun h2 => Ev.val ?_) (fun h2 => Ev.val ?_)
    · rw [h2, Bool.true_and]
    · rw [show decide (Ok m q) = false by simpa using h2, Bool.false_and]
  · rw [show decide (Ok n l) = false by simpa using h1, Bool.false_and]
theorem sameR_symm (n m : Int) (l q : List S42) : SameR n l m q = SameR m q n l := by
  unfold SameR
  rw [Bool.eq_iff_iff]
  simp only [Bool.and_eq_true, decide_eq_true_eq]
  exact ⟨fun h => ⟨h.2.1, h.1, h.2.2.1.symm, h.2.2.2.symm⟩, fun h => ⟨h.2.1, h.1, h.2.2.1.symm, h.2.2.2.symm⟩⟩
end Go.Proofs.YthejafdcdcchbaaDoor.Pure
