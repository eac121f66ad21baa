-- layer 3 (simple), pure: the document's Make answers as makeF.
import Derived.Test.YthejafdcdcchbaaDoorZXSimE
import Derived.Test.YthejafdcdcchbaaDoorZXSimB
import Derived.Test.YthejafdcdcchbaaDoorZPSimAx3
set_option linter.unusedVariables false
set_option linter.unusedSimpArgs false
namespace Go.Proofs.YthejafdcdcchbaaDoor.Pure
open Go.RowKit Go.Proofs.YthejafdcdcchbaaDoor.PSimA Go.Proofs.YthejafdcdcchbaaDoorW.PrintWords Go.Proofs.YthejafdcdcchbaaDoorW.PrintLast Go.Proofs.YthejafdcdcchbaaDoorX
theorem less_eq (x e : S42) : tangramref03_Less.f x.f0 x.f1 e.f0 e.f1 = some (decide (lt42 x e)) := by
  unfold tangramref03_Less.f
  by_cases c1 : x.f0 < e.f0
  · rw [if_pos c1, decide_eq_true (show lt42 x e from by unfold lt42; omega)]
  · rw [if_neg c1]
    by_cases c2 : x.f0 = e.f0
    · rw [if_pos c2]
      congr 1
      rw [decide_eq_decide]
      unfold lt42
      omega
    · rw [if_neg c2, decide_eq_false (show ¬ lt42 x e from by unfold lt42; omega)]
theorem putE_len (e : S42) : ∀ l : List S42, (putE l e).length ≤ l.length + 1
  | [] => by simp [putE]
  | x :: r => by
    have := putE_len e r
    unfold putE
    split
    · simp only [List.length_cons]
      omega
    · split <;> simp
theorem stepE_len (l : List S42) (p : S53) : (stepE l p).length ≤ l.length + 1 := by
  unfold stepE
  split
  · exact putE_len _ _
  · split
    · exact putE_len _ _
    · omega
theorem mkE_len (ps : List S53) : (mkE ps).length ≤ ps.length := by
  unfold mkE
  have : ∀ (ps : List S53) (l : List S42), (ps.foldl stepE l).length ≤ l.length + ps.length := by
    intro ps
    induction ps with
    | nil => intro l; simp
    | cons p ps ih =>
      intro l
      have h1 := ih (stepE l p)
      have h2 := stepE_len l p
      rw [List.foldl_cons, List.length_cons]
      omega
  have h := this ps []
  simpa using h
theorem put_split (e : S42) (q : List S42) : ∀ p : List S42, (∀ x ∈ p, lt42 x e) → putE (p ++ q) e = p ++ putE q e
  | [], _ => rfl
  | x :: p, h => by
    rw [List.cons_append, putE, if_pos (h x (List.mem_cons_self ..)), put_split e q p fun y hy => h y (List.mem_cons_of_mem _ hy)]
    rfl
theorem put_l1 (l : List S42) (hl : l.length < 8796093022207) : ∀ (d i : Nat) (p : List S42), i + d = l.length → p.length + d ≤ 8796093022207 →
    Ev (fun k => tangramref03_Put.l1 k l p (i : Int)) (p ++ l.drop i) := by
  intro d
  induction d with
  | zero =>
    intro i p hi hp
    refine Ev.succ ?_
    simp only [tangramref03_Put.l1]
    refine Ev.neg (by omega) (Ev.val ?_)
    rw [List.drop_of_length_le (by omega), List.append_nil]
  | succ d ih =>
    intro i p hi hp
    have hi' : i < l.length := by omega
    refine Ev.succ ?_
    simp only [tangramref03_Put.l1, rdG]
    refine Ev.pos (by omega) (Ev.pos (by omega) (Ev.pos (by omega) ?_))
    rw [wi i l (by omega) hi']
    have := ih (i + 1) (p ++ [G l i]) (by omega) (by simp; omega)
    rw [List.append_assoc, List.singleton_append, ← drop_G l i hi'] at this
    exact this
theorem put_l0 (l : List S42) (e : S42) (hl : l.length < 8796093022207) : ∀ (d i : Nat), i + d = l.length → (∀ x ∈ l.take i, lt42 x e) →
    Ev (fun k => tangramref03_Put.l0 k l (l.take i) (i : Int) e.f0 e.f1) (putE l e) := by
  intro d
  induction d with
  | zero =>
    intro i hi hx
    have r := put_l1 l hl 0 i (l.take i ++ [e]) (by omega) (by rw [List.length_append, List.length_take]; simp; omega)
    have ep : putE l e = l.take i ++ [e] ++ l.drop i := by
      have := put_split e (l.drop i) (l.take i) hx
      rw [List.take_append_drop] at this
      rw [this, List.drop_of_length_le (by omega)]
      simp [putE]
    rw [← ep] at r
    refine Ev.succ ?_
    simp only [tangramref03_Put.l0]
    refine Ev.neg (by omega) (Ev.succ ?_)
    simp only [tangramref03_Put.j1]
    refine Ev.neg (by omega) (Ev.succ ?_)
    simp only [tangramref03_Put.j2]
    refine Ev.neg (by simp) (Ev.pos (by rw [List.length_take]; omega) r)
  | succ d ih =>
    intro i hi hx
    have hi' : i < l.length := by omega
    have ep : putE l e = l.take i ++ putE (G l i :: l.drop (i + 1)) e := by
      have := put_split e (l.drop i) (l.take i) hx
      rw [List.take_append_drop] at this
      rw [this, drop_G l i hi']
    refine Ev.succ ?_
    simp only [tangramref03_Put.l0, rdG]
    refine Ev.pos (by omega) (Ev.pos (by omega) (Ev.andThen' (less_eq (G l i) e) ?_))
    by_cases c : lt42 (G l i) e
    · rw [decide_eq_true c]
      refine Ev.pos rfl (Ev.pos (by rw [List.length_take]; omega) ?_)
      rw [wi i l (by omega) hi']
      have := ih (i + 1) (by omega) (fun x hx' => by
        rw [take_G l i hi'] at hx'
        rcases List.mem_append.1 hx' with q | q
        · exact hx x q
        · rw [List.mem_singleton.1 q]
          exact c)
      rw [take_G l i hi'] at this
      exact this
    · rw [decide_eq_false c]
      refine Ev.neg (by simp) (Ev.succ ?_)
      simp only [tangramref03_Put.j1, rdG]
      refine Ev.pos (by omega) (Ev.pos (by omega) (Ev.succ ?_))
      simp only [tangramref03_Put.j2]
      refine Ev.ite (fun c2 => Ev.val ?_) (fun c2 => Ev.pos (by rw [List.length_take]; omega) ?_)
      · have c3 : G l i = e := by
          rw [s42_ext]
          simpa using c2
        rw [ep, putE, if_neg c, if_pos c3, ← drop_G l i hi', List.take_append_drop]
      · have c3 : ¬ G l i = e := by
          rw [s42_ext]
          simpa using c2
        have r := put_l1 l hl (d + 1) i (l.take i ++ [e]) (by omega) (by rw [List.length_append, List.length_take]; simp; omega)
        have e2 : putE l e = l.take i ++ [e] ++ l.drop i := by
          rw [ep, putE, if_neg c, if_neg c3, ← drop_G l i hi']
          simp
        rw [← e2] at r
        exact r
theorem put_ev (l : List S42) (e : S42) (hl : l.length < 8796093022207) : Ev (fun k => tangramref03_Put.f k l e.f0 e.f1) (putE l e) := by
  have := put_l0 l e hl l.length 0 (by omega) (fun x hx => by simp at hx)
  rw [List.take_zero] at this
  exact this
def P (l : List S53) (j : Nat) : S53 := rd_T53 l (j : Int)
theorem rdP (l : List S53) (j : Nat) : rd_T53 l (j : Int) = P l j := rfl
theorem P_get (l : List S53) (j : Nat) (h : j < l.length) : P l j = l[j] := by
  unfold P rd_T53
  rw [Int.toNat_natCast, List.getD_eq_getElem?_getD, List.getElem?_eq_getElem h]
  rfl
theorem drop_P (l : List S53) (i : Nat) (h : i < l.length) : l.drop i = P l i :: l.drop (i + 1) := by rw [P_get l i h, List.drop_eq_getElem_cons h]
theorem take_P (l : List S53) (i : Nat) (h : i < l.length) : l.take (i + 1) = l.take i ++ [P l i] := by rw [P_get l i h, List.take_succ_eq_append_getElem h]
theorem wp (i : Nat) (l : List S53) (hl : l.length ≤ 8796093022208) (hi : i < l.length) : wrap64 ((i : Int) + 1) = ((i + 1 : Nat) : Int) := by rw [w64 (by omega) (by omega)]; omega
def tailF (n : Int) (ps : List S53) : Int × List S42 × Int := if 4194304 < (mkE ps).length then (0, [], 141) else (n, mkE ps, 0)
theorem make_l1 (n : Int) (ps : List S53) (hl : ps.length ≤ 8796093021952) : ∀ (d i : Nat), i + d = ps.length → Ev (fun k => tangramref03_Make.l1 k n ps (mkE (ps.take i)) (i : Int)) (tailF n ps) := by
  intro d
  induction d with
  | zero =>
    intro i hi
    refine Ev.succ ?_
    simp only [tangramref03_Make.l1]
    rw [List.take_of_length_le (by omega)]
    refine Ev.neg (by omega) (Ev.ite (fun c => Ev.val ?_) (fun c => Ev.val ?_))
    · rw [tailF, if_pos (by omega)]
    · rw [tailF, if_neg (by omega)]
  | succ d ih =>
    intro i hi
    have hi' : i < ps.length := by omega
    have st : mkE (ps.take (i + 1)) = stepE (mkE (ps.take i)) (P ps i) := by rw [take_P ps i hi', mkE_snoc]
    have r := ih (i + 1) (by omega)
    rw [st] at r
    have hb : (mkE (ps.take i)).length < 8796093022207 := by
      have h1 := mkE_len (ps.take i)
      rw [List.length_take] at h1
      omega
    refine Ev.succ ?_
    simp only [tangramref03_Make.l1, rdP]
    rw [wp i ps (by omega) hi']
    refine Ev.pos (by omega) (Ev.pos (by omega) (Ev.ite (fun c => ?_) (fun c => Ev.ite (fun c2 => ?_) (fun c2 => ?_))))
    · rw [stepE, if_pos c] at r
      exact Ev.andThen (put_ev _ ⟨(P ps i).f0, (P ps i).f1⟩ hb) (Ev.neg (by omega) r)
    · rw [stepE, if_neg c, if_pos c2] at r
      exact Ev.andThen (put_ev _ ⟨(P ps i).f1, (P ps i).f0⟩ hb) r
    · rw [stepE, if_neg c, if_neg c2] at r
      exact r
theorem make_l0 (n : Int) (ps : List S53) (hl : ps.length ≤ 8796093021952) : ∀ (d i : Nat), i + d = ps.length →
    Ev (fun k => tangramref03_Make.l0 k n ps (i : Int)) (if (ps.drop i).any (badP n) = true then (0, [], 2) else tailF n ps) := by
  intro d
  induction d with
  | zero =>
    intro i hi
    refine Ev.succ ?_
    simp only [tangramref03_Make.l0]
    rw [List.drop_of_length_le (by omega), if_neg (by simp)]
    have := make_l1 n ps hl ps.length 0 (by omega)
    exact Ev.neg (by omega) this
  | succ d ih =>
    intro i hi
    have hi' : i < ps.length := by omega
    have r := ih (i + 1) (by omega)
    have no : (P ps i).f0 < 0 ∨ (P ps i).f0 ≥ n ∨ (P ps i).f1 < 0 ∨ (P ps i).f1 ≥ n → ((0, [], 2) : Int × List S42 × Int) = if (ps.drop i).any (badP n) = true then (0, [], 2) else tailF n ps := fun h => by
      rw [if_pos]
      rw [drop_P ps i hi', List.any_cons]
      have : badP n (P ps i) = true := by
        unfold badP
        rw [Bool.or_eq_true, decide_eq_true_eq, decide_eq_true_eq]
        omega
      rw [this, Bool.true_or]
    refine Ev.succ ?_
    simp only [tangramref03_Make.l0, rdP]
    refine Ev.pos (by omega) (Ev.pos (by omega) (Ev.ite (fun c => Ev.val (no (by omega))) (fun c => Ev.ite (fun c => Ev.val (no (by omega))) (fun c2 => Ev.ite (fun c => Ev.val (no (by omega))) (fun c3 => Ev.ite (fun c => Ev.val (no (by omega))) (fun c4 => ?_))))))
    rw [wp i ps (by omega) hi']
    have e : (ps.drop i).any (badP n) = (ps.drop (i + 1)).any (badP n) := by
      rw [drop_P ps i hi', List.any_cons]
      have : badP n (P ps i) = false := by
        unfold badP
        rw [Bool.or_eq_false_iff, decide_eq_false_iff_not, decide_eq_false_iff_not]
        omega
      rw [this, Bool.false_or]
    rw [e]
    exact r
theorem make_ev (n : Int) (ps : List S53) (hl : ps.length ≤ 8796093021952) : Ev (fun k => tangramref03_Make.f k n ps) (makeF n ps) := by
  have bad : (n < 0 ∨ 1048576 < n) → Ev (fun k => tangramref03_Make.j0 k n ps true) (makeF n ps) := fun h => by
    refine Ev.succ ?_
    simp only [tangramref03_Make.j0]
    exact Ev.pos (by simp) (Ev.val (by rw [makeF, if_pos h]))
  unfold tangramref03_Make.f
  refine Ev.ite (fun c => bad (.inl c)) (fun c => ?_)
  by_cases c2 : n > 1048576
  · rw [decide_eq_true c2]
    exact bad (.inr c2)
  · rw [decide_eq_false c2]
    refine Ev.succ ?_
    simp only [tangramref03_Make.j0]
    have r := make_l0 n ps hl ps.length 0 (by omega)
    rw [List.drop_zero] at r
    have e : makeF n ps = if ps.any (badP n) = true then (0, [], 2) else tailF n ps := by
      rw [makeF, if_neg (by omega)]
      rfl
    rw [e]
    exact Ev.neg (by simp) r
theorem makeF_len (n : Int) (ps : List S53) : (makeF n ps).2.1.length ≤ ps.length := by
  have := mkE_len ps
  unfold makeF
  repeat' split
  all_goals first | exact this | simp
end Go.Proofs.YthejafdcdcchbaaDoor.Pure
