-- Plain facts on the printed functions of layer 14 (edit): Without, With, Divide, Apex and the document's.
import Derived.Test.YtdaeaejmikhmcaaZXEditA
import Derived.Test.YtdaeaejmikhmcaaZPEditCx10
import Derived.Test.YtdaeaejmikhmcaaZPEditCx14
import Derived.Test.YtdaeaejmikhmcaaZPEditCx17
import Derived.Test.YtdaeaejmikhmcaaZPEditCx32
import Derived.Test.YtdaeaejmikhmcaaZPEditCx35
import Derived.Test.YtdaeaejmikhmcaaZPEditCx38
import Derived.Test.YtdaeaejmikhmcaaZPEditCx39
import Derived.Test.YtdaeaejmikhmcaaZPEditCx40
import Derived.Test.YtdaeaejmikhmcaaZPEditCx41
set_option linter.unusedVariables false
set_option linter.unusedSimpArgs false
namespace Go.Proofs.Ytdaeaejmikhmcaa.Pure
open Go.RowKit Go.Proofs.Ytdaeaejmikhmcaa.PEditC Go.Proofs.YtdaeaejmikhmcaaW.PrintWords Go.Proofs.YtdaeaejmikhmcaaW.PrintLast Go.Proofs.YtdaeaejmikhmcaaX
theorem take_G (l : List S46) (i : Nat) (hi : i < l.length) : l.take (i + 1) = l.take i ++ [G l i] := by
  rw [List.take_add_one, List.getElem?_eq_getElem hi, G_get l i hi]
  rfl
theorem erase_take (l : List S46) (e i : Nat) (hi : i < l.length) : (l.take (i + 1)).eraseIdx e = if i = e then (l.take i).eraseIdx e else (l.take i).eraseIdx e ++ [G l i] := by
  have hl : (l.take i).length = i := by rw [List.length_take]; omega
  rw [take_G l i hi]
  by_cases h : e < i
  · rw [List.eraseIdx_append_of_lt_length (by omega), if_neg (by omega)]
  · rw [List.eraseIdx_append_of_length_le (by omega), hl, List.eraseIdx_of_length_le (l := l.take i) (by omega)]
    by_cases h2 : i = e
    · subst h2
      simp
    · rw [if_neg h2]
      have : e - i = (e - i - 1) + 1 := by omega
      rw [this]
      simp
theorem erase_len (l : List S46) (e : Nat) : (l.eraseIdx e).length ≤ l.length := by
  rw [List.length_eraseIdx]
  split <;> omega
theorem kept_l0 (l : List S46) (e : Nat) (hl : l.length ≤ 4194304) : ∀ (d i : Nat), i + d = l.length →
    Ev (fun k => edit_kept.l0 k ((l.take i).eraseIdx e) l (l.length : Int) (i : Int) (e : Int)) (l.eraseIdx e, (e : Int)) := by
  intro d
  induction d with
  | zero =>
    intro i hi
    refine Ev.succ ?_
    simp only [edit_kept.l0]
    refine Ev.neg (by omega) ?_
    rw [List.take_of_length_le (show l.length ≤ i by omega)]
    exact Ev.val rfl
  | succ d ih =>
    intro i hi
    refine Ev.succ ?_
    simp only [edit_kept.l0, rdG]
    rw [wi i l (by omega) (by omega)]
    refine Ev.pos (by omega) (Ev.pos (by omega) (Ev.pos (by omega) (Ev.andThen' rfl ?_)))
    have hb := erase_take l e i (by omega)
    have hx := erase_len (l.take i) e
    rw [List.length_take] at hx
    have ih' := ih (i + 1) (by omega)
    by_cases c : i = e
    · rw [if_pos c] at hb
      rw [hb] at ih'
      exact Ev.neg (by simp; omega) ih'
    · rw [if_neg c] at hb
      rw [hb] at ih'
      exact Ev.pos (by simp; omega) (Ev.pos (by omega) ih')
theorem keptD_l0 (l : List S46) (e : Nat) (hl : l.length ≤ 4194304) : ∀ (d i : Nat), i + d = l.length →
    Ev (fun k => edit_keptDivide.l0 k ((l.take i).eraseIdx e) l (l.length : Int) (i : Int) (e : Int)) (l.eraseIdx e, (e : Int)) := by
  intro d
  induction d with
  | zero =>
    intro i hi
    refine Ev.succ ?_
    simp only [edit_keptDivide.l0]
    refine Ev.neg (by omega) ?_
    rw [List.take_of_length_le (show l.length ≤ i by omega)]
    exact Ev.val rfl
  | succ d ih =>
    intro i hi
    refine Ev.succ ?_
    simp only [edit_keptDivide.l0, rdG]
    rw [wi i l (by omega) (by omega)]
    refine Ev.pos (by omega) (Ev.pos (by omega) (Ev.pos (by omega) (Ev.andThen' rfl ?_)))
    have hb := erase_take l e i (by omega)
    have hx := erase_len (l.take i) e
    rw [List.length_take] at hx
    have ih' := ih (i + 1) (by omega)
    by_cases c : i = e
    · rw [if_pos c] at hb
      rw [hb] at ih'
      exact Ev.neg (by simp; omega) ih'
    · rw [if_neg c] at hb
      rw [hb] at ih'
      exact Ev.pos (by simp; omega) (Ev.pos (by omega) ih')
theorem kept_ev (n : Int) (l : List S46) (e : Nat) (hl : l.length ≤ 4194304) : Ev (fun k => edit_kept.f k n l (e : Int)) (l.eraseIdx e, (e : Int)) := by
  have := kept_l0 l e hl l.length 0 (by omega)
  simpa [edit_kept.f] using this
theorem keptD_ev (n : Int) (l : List S46) (e : Nat) (hl : l.length ≤ 4194304) : Ev (fun k => edit_keptDivide.f k n l (e : Int)) (l.eraseIdx e, (e : Int)) := by
  have := keptD_l0 l e hl l.length 0 (by omega)
  simpa [edit_keptDivide.f] using this
def edgeR (n : Int) (l : List S46) (e : Int) : Int := if Ok n l then (if e < 0 then 2 else if e ≥ (l.length : Int) then 2 else 0) else 1
theorem edge_ev (n : Int) (l : List S46) (e : Int) : Ev (fun k => edit_edge.f k n l e) (edgeR n l e) := by
  unfold edit_edge.f edgeR
  refine Ev.andThen (valid_ev n l) ?_
  by_cases h : Ok n l
  · rw [decide_eq_true h, if_pos h]
    refine Ev.pos (by simp) (Ev.ite (fun c => Ev.val (by rw [if_pos c])) (fun c => Ev.ite (fun c2 => Ev.val (by rw [if_neg c, if_pos c2])) (fun c2 => Ev.val (by rw [if_neg c, if_neg c2]))))
  · rw [decide_eq_false h, if_neg h]
    exact Ev.neg (by simp) (Ev.val rfl)
theorem erase_ed {n : Int} {l : List S46} (h : Ok n l) (e : Nat) : (∀ x ∈ l.eraseIdx e, Ed n x) ∧ (l.eraseIdx e).Pairwise Lt :=
  ⟨fun x hx => h.mem ((List.eraseIdx_sublist l e).mem hx), h.sorted.sublist (List.eraseIdx_sublist l e)⟩
def withoutR (n : Int) (l : List S46) (e : Int) : Int × List S46 × Int := if edgeR n l e = 0 then (n, l.eraseIdx e.toNat, 0) else (0, [], edgeR n l e)
theorem edge_ok {n : Int} {l : List S46} {e : Int} (h : edgeR n l e = 0) : Ok n l ∧ 0 ≤ e ∧ e < l.length := by
  unfold edgeR at h
  split at h
  · rename_i q
    split at h
    · omega
    · split at h
      · omega
      · exact ⟨q, by omega, by omega⟩
  · omega
theorem without_ev (n : Int) (l : List S46) (e : Int) : Ev (fun k => edit_Without.f k n l e) (withoutR n l e) := by
  unfold edit_Without.f withoutR
  refine Ev.andThen' rfl (Ev.andThen (edge_ev n l e) ?_)
  by_cases c : edgeR n l e = 0
  · obtain ⟨h, h0, h1⟩ := edge_ok c
    rw [if_pos c]
    obtain ⟨i, rfl⟩ := Int.eq_ofNat_of_zero_le h0
    have hl := h.2.1
    have hx := erase_len l i
    have he := erase_ed h i
    refine Ev.pos c (Ev.andThen (kept_ev n l i hl) (Ev.andThen (made_id n _ (by show (l.eraseIdx i).length < _; omega) (fun x hx => by have := he.1 x hx; unfold Ed at this; omega) he.2) (Ev.val ?_)))
    rfl
  · rw [if_neg c]
    exact Ev.neg c (Ev.val rfl)
theorem erase_eq (l : List S46) (i : Nat) : l.take i ++ l.drop (i + 1) = l.eraseIdx i := (List.eraseIdx_eq_take_drop_succ l i).symm
theorem without14_ev (n : Int) (l : List S46) (e : Int) : Ev (fun k => tangramref14_Without.f k n l e) (withoutR n l e) := by
  unfold tangramref14_Without.f withoutR edgeR
  refine Ev.andThen (valid3_ev n l) ?_
  by_cases h : Ok n l
  · rw [decide_eq_true h, if_pos h]
    refine Ev.pos (by simp) (Ev.ite (fun c => Ev.val (by simp only [if_pos c]; rfl)) (fun c => Ev.ite (fun c2 => Ev.val (by simp only [if_neg c, if_pos c2]; rfl)) (fun c2 => ?_)))
    have hl := h.2.1
    simp only [if_neg c, if_neg c2]
    obtain ⟨i, rfl⟩ := Int.eq_ofNat_of_zero_le (show 0 ≤ e by omega)
    have hi : i < l.length := by omega
    rw [wi i l (by omega) hi]
    refine Ev.pos (by omega) (Ev.pos (by omega) (Ev.andThen' (kept_eq _ (by simp; omega)) (Ev.pos (by omega) (Ev.pos (by omega) (Ev.andThen' rfl (Ev.pos (by simp; omega) (Ev.val ?_)))))))
    simp only [Int.toNat_natCast, erase_eq]
    rfl
  · rw [decide_eq_false h, if_neg h]
    exact Ev.neg (by simp) (Ev.val rfl)
/-! put -/
theorem tri (x y : S46) : Lt x y ∨ x = y ∨ Lt y x := by
  cases x
  cases y
  unfold Lt
  simp only [S46.mk.injEq]
  omega
theorem less_eq (a b c d : Int) : tangramref14_less.f a b c d = some (decide (Lt ⟨a, b⟩ ⟨c, d⟩)) := by
  unfold tangramref14_less.f
  by_cases h : Lt ⟨a, b⟩ ⟨c, d⟩
  · rw [decide_eq_true h]
    unfold Lt at h
    simp only at h
    split
    · rfl
    · split
      · exact congrArg some (decide_eq_true (by omega))
      · omega
  · rw [decide_eq_false h]
    unfold Lt at h
    simp only at h
    split
    · omega
    · split
      · exact congrArg some (decide_eq_false (by omega))
      · rfl
theorem put_done (l : List S46) (a b : Int) (hl : l.length < 4294967296) : ∀ (d i : Nat) (acc : List S46), i + d = l.length → acc.length ≤ i + 1 →
    Ev (fun k => tangramref14_put.l0 k l acc true (i : Int) a b) (acc ++ l.drop i) := by
  intro d
  induction d with
  | zero =>
    intro i acc hi ha
    refine Ev.succ ?_
    simp only [tangramref14_put.l0]
    refine Ev.neg (by omega) (Ev.val ?_)
    rw [List.drop_of_length_le (by omega), List.append_nil]
  | succ d ih =>
    intro i acc hi ha
    refine Ev.succ ?_
    simp only [tangramref14_put.l0, rdG]
    rw [wi i l (by omega) (by omega)]
    refine Ev.pos (by omega) (Ev.pos (by simp) (Ev.pos (by omega) (Ev.pos (by omega) ?_)))
    have := ih (i + 1) (acc ++ [G l i]) (by omega) (by simp; omega)
    rw [List.append_assoc] at this
    have e : [G l i] ++ l.drop (i + 1) = l.drop i := by
      rw [G_get l i (by omega), List.singleton_append, List.getElem_cons_drop]
    rw [e] at this
    exact this
/-- e put into its place. -/
theorem ins_ok {l : List S46} (hs : l.Pairwise Lt) (e : S46) (i : Nat) (h1 : ∀ x ∈ l.take i, Lt x e) (h2 : ∀ x ∈ l.drop i, Lt e x) : (l.take i ++ e :: l.drop i).Perm (l ++ [e]) ∧ (l.take i ++ e :: l.drop i).Pairwise Lt := by
  constructor
  · have := @List.perm_middle _ e (l.take i) (l.drop i)
    rw [List.take_append_drop] at this
    exact this.trans (List.perm_append_singleton e l).symm
  · have hs' := hs
    rw [← List.take_append_drop i l, List.pairwise_append] at hs'
    obtain ⟨p1, p2, p3⟩ := hs'
    refine List.pairwise_append.2 ⟨p1, List.pairwise_cons.2 ⟨h2, p2⟩, fun x hx y hy => ?_⟩
    rcases List.mem_cons.1 hy with rfl | hy
    · exact h1 x hx
    · exact p3 x hx y hy
theorem put_l0 (l : List S46) (a b : Int) (hl : l.length < 4294967296) (hs : l.Pairwise Lt) (hn : (⟨a, b⟩ : S46) ∉ l) (hz : ∃ x ∈ l, Lt ⟨a, b⟩ x) : ∀ (d i : Nat), i + d = l.length → (∀ x ∈ l.take i, Lt x ⟨a, b⟩) →
    ∃ m, m.Perm (l ++ [(⟨a, b⟩ : S46)]) ∧ m.Pairwise Lt ∧ Ev (fun k => tangramref14_put.l0 k l (l.take i) false (i : Int) a b) m := by
  intro d
  induction d with
  | zero =>
    intro i hi hx
    exfalso
    obtain ⟨x, hx1, hx2⟩ := hz
    rw [List.take_of_length_le (by omega)] at hx
    have := hx x hx1
    unfold Lt at this hx2
    omega
  | succ d ih =>
    intro i hi hx
    have hi' : i < l.length := by omega
    by_cases c : Lt ⟨a, b⟩ (G l i)
    · obtain ⟨h1, h2⟩ := ins_ok hs ⟨a, b⟩ i hx (fun x hx => by
        have p := hs.sublist (List.drop_sublist i l)
        rw [← List.getElem_cons_drop hi', ← G_get l i hi', List.pairwise_cons] at p
        rw [← List.getElem_cons_drop hi', ← G_get l i hi'] at hx
        rcases List.mem_cons.1 hx with rfl | hx
        · exact c
        · exact Lt.trans c (p.1 x hx))
      refine ⟨_, h1, h2, Ev.succ ?_⟩
      simp only [tangramref14_put.l0, rdG, less_eq]
      rw [wi i l (by omega) hi']
      refine Ev.pos (by omega) (Ev.neg (by simp) (Ev.pos (by omega) (Ev.andThen' rfl ?_)))
      rw [decide_eq_true (show Lt ⟨a, b⟩ ⟨(G l i).f0, (G l i).f1⟩ from c)]
      refine Ev.pos (by simp) (Ev.pos (by simp; omega) (Ev.andThen' rfl (Ev.pos (by simp; omega) ?_)))
      have := put_done l a b hl d (i + 1) (l.take i ++ [(⟨a, b⟩ : S46)] ++ [G l i]) (by omega) (by simp; omega)
      have e : l.take i ++ [(⟨a, b⟩ : S46)] ++ [G l i] ++ l.drop (i + 1) = l.take i ++ ⟨a, b⟩ :: l.drop i := by
        rw [G_get l i hi', ← List.getElem_cons_drop hi']
        simp
      rw [e] at this
      exact this
    · have lt : Lt (G l i) ⟨a, b⟩ := by
        rcases tri (G l i) ⟨a, b⟩ with q | q | q
        · exact q
        · exact absurd (q ▸ (G_get l i hi' ▸ List.getElem_mem hi')) hn
        · exact absurd q c
      obtain ⟨m, h1, h2, h3⟩ := ih (i + 1) (by omega) (fun x hx' => by
        rw [take_G l i hi'] at hx'
        rcases List.mem_append.1 hx' with q | q
        · exact hx x q
        · rw [List.mem_singleton.1 q]
          exact lt)
      refine ⟨m, h1, h2, Ev.succ ?_⟩
      simp only [tangramref14_put.l0, rdG, less_eq]
      rw [wi i l (by omega) hi']
      refine Ev.pos (by omega) (Ev.neg (by simp) (Ev.pos (by omega) (Ev.andThen' rfl ?_)))
      rw [decide_eq_false (show ¬ Lt ⟨a, b⟩ ⟨(G l i).f0, (G l i).f1⟩ from c)]
      refine Ev.neg (by simp) (Ev.pos (by simp; omega) ?_)
      rw [take_G l i hi'] at h3
      exact h3
theorem put_ev (l : List S46) (a b : Int) (hab : a < b) (hl : l.length < 4294967296) (hs : l.Pairwise Lt) (hn : (⟨a, b⟩ : S46) ∉ l) :
    ∃ m, m.Perm (l ++ [(⟨a, b⟩ : S46)]) ∧ m.Pairwise Lt ∧ Ev (fun k => tangramref14_put.f k l a b) m := by
  have e1 : mn a b = a := by unfold mn; omega
  have e2 : mx a b = b := by unfold mx; omega
  have end_ (h : ∀ x ∈ l, Lt x ⟨a, b⟩) : ∃ m, m.Perm (l ++ [(⟨a, b⟩ : S46)]) ∧ m.Pairwise Lt ∧ Ev (fun k => tangramref14_put.j0 k l true a b) m := by
    refine ⟨_, List.Perm.refl _, List.pairwise_append.2 ⟨hs, List.pairwise_singleton _ _, fun x hx y hy => ?_⟩, Ev.succ ?_⟩
    · rw [List.mem_singleton.1 hy]
      exact h x hx
    · simp only [tangramref14_put.j0]
      exact Ev.pos (by simp) (Ev.pos (by omega) (Ev.val rfl))
  unfold tangramref14_put.f
  simp only [e1, e2]
  by_cases c : l.length = 0
  · obtain ⟨m, h1, h2, h3⟩ := end_ (fun x hx => by rw [List.length_eq_zero_iff.1 c] at hx; cases hx)
    exact ⟨m, h1, h2, Ev.pos (by omega) h3⟩
  · have hw : wrap64 ((l.length : Int) - 1) = ((l.length - 1 : Nat) : Int) := by rw [w64 (by omega) (by omega)]; omega
    have hi : l.length - 1 < l.length := by omega
    simp only [hw, rdG, less_eq]
    have last : ∀ x ∈ l, x = G l (l.length - 1) ∨ Lt x (G l (l.length - 1)) := by
      intro x hx
      obtain ⟨j, hj, rfl⟩ := List.getElem_of_mem hx
      rw [G_get l _ hi]
      by_cases q : j = l.length - 1
      · subst q
        exact .inl rfl
      · exact .inr (List.pairwise_iff_getElem.1 hs j (l.length - 1) hj hi (by omega))
    by_cases q : Lt (G l (l.length - 1)) ⟨a, b⟩
    · obtain ⟨m, h1, h2, h3⟩ := end_ (fun x hx => by
        rcases last x hx with rfl | h
        · exact q
        · exact Lt.trans h q)
      refine ⟨m, h1, h2, Ev.neg (by omega) (Ev.pos (by omega) (Ev.pos (by omega) (Ev.andThen' rfl ?_)))⟩
      rw [decide_eq_true (show Lt ⟨(G l (l.length - 1)).f0, (G l (l.length - 1)).f1⟩ ⟨a, b⟩ from q)]
      exact h3
    · have hm : G l (l.length - 1) ∈ l := by rw [G_get l _ hi]; exact List.getElem_mem hi
      have q2 : Lt ⟨a, b⟩ (G l (l.length - 1)) := by
        rcases tri (G l (l.length - 1)) ⟨a, b⟩ with p | p | p
        · exact absurd p q
        · exact absurd (p ▸ hm) hn
        · exact p
      obtain ⟨m, h1, h2, h3⟩ := put_l0 l a b hl hs hn ⟨_, hm, q2⟩ l.length 0 (by omega) (by simp)
      refine ⟨m, h1, h2, Ev.neg (by omega) (Ev.pos (by omega) (Ev.pos (by omega) (Ev.andThen' rfl ?_)))⟩
      rw [decide_eq_false (show ¬ Lt ⟨(G l (l.length - 1)).f0, (G l (l.length - 1)).f1⟩ ⟨a, b⟩ from q)]
      refine Ev.succ ?_
      simp only [tangramref14_put.j0]
      exact Ev.neg (by simp) (by simpa using h3)
/-! With -/
instance decS (x y : S46) : Decidable (x = y) := decidable_of_iff (x.f0 = y.f0 ∧ x.f1 = y.f1) (by
  cases x
  cases y
  simp only [S46.mk.injEq])
theorem cmp_eq (x : S46) (a b : Int) : simple_compare.f x.f0 x.f1 a b = some (if x.f0 = a then wrap64 (x.f1 - b) else wrap64 (x.f0 - a)) := by
  unfold simple_compare.f
  split <;> rfl
def cm (x : S46) (a b : Int) : Int := if x.f0 = a then wrap64 (x.f1 - b) else wrap64 (x.f0 - a)
theorem cm_lt {n : Int} (x : S46) (a b : Int) (hx : Ed n x) (hn : n ≤ 1048576) (ha : 0 ≤ a) (hb : 0 ≤ b) (ha' : a < n) (hb' : b < n) : (cm x a b < 0 ↔ Lt x ⟨a, b⟩) ∧ (cm x a b = 0 ↔ x = ⟨a, b⟩) := by
  unfold Ed at hx
  unfold cm Lt
  cases x
  simp only [S46.mk.injEq] at *
  split
  · rw [w64 (by omega) (by omega)]
    omega
  · rw [w64 (by omega) (by omega)]
    omega
theorem mid_eq (x y : Int) (h0 : 0 ≤ x) (h1 : 0 ≤ y) (hx : x ≤ 4194304) (hy : y ≤ 4194304) : wrap64 ((IntKind.u64.wrap (wrap64 (x + y))) / 2) = (x + y) / 2 := by
  rw [w64 (x := x + y) (by omega) (by omega)]
  have : IntKind.u64.wrap (x + y) = x + y := by
    have hb : IntKind.u64.bits = 64 := rfl
    simp only [IntKind.wrap, hb]
    first | omega | (simp; omega)
  rw [this, w64 (by omega) (by omega)]
theorem bs_l0 (n : Int) (l : List S46) (a b : Int) (h : Ok n l) (ha : 0 ≤ a) (hb : 0 ≤ b) (ha' : a < n) (hb' : b < n) : ∀ (d lo hi : Nat), hi - lo ≤ d → lo ≤ hi → hi ≤ l.length →
    (∀ j, (hj : j < l.length) → j < lo → Lt l[j] ⟨a, b⟩) → (∀ j, (hj : j < l.length) → hi ≤ j → ¬ Lt l[j] ⟨a, b⟩) →
    ∃ r : Int, 0 ≤ r ∧ Ev (fun k => api_Edge_55.l0 k l (l.length : Int) (lo : Int) (hi : Int) a b) (r, decide ((⟨a, b⟩ : S46) ∈ l)) := by
  have hn := h.1
  have hl := h.2.1
  intro d
  induction d with
  | zero =>
    intro lo hi hd h1 h2 hA hB
    have e : hi = lo := by omega
    subst e
    refine ⟨(hi : Int), by omega, Ev.succ ?_⟩
    simp only [api_Edge_55.l0, rdG, cmp_eq]
    refine Ev.neg (by omega) (Ev.ite (fun c => ?_) (fun c => Ev.val ?_))
    · have hh : hi < l.length := by omega
      have ed := h.get hi hh
      have q := cm_lt (n := n) l[hi] a b ed (by omega) ha hb ha' hb'
      refine Ev.pos (by omega) (Ev.pos (by omega) (Ev.andThen' rfl (Ev.val ?_)))
      show ((hi : Int), (cm (G l hi) a b == 0)) = _
      rw [G_get l hi hh]
      congr 1
      rw [Bool.eq_iff_iff, beq_iff_eq, decide_eq_true_eq, q.2]
      constructor
      · intro e
        rw [← e]
        exact List.getElem_mem hh
      · intro hm
        obtain ⟨j, hj, ej⟩ := List.getElem_of_mem hm
        rcases Nat.lt_trichotomy j hi with o | o | o
        · have := hA j hj o
          rw [ej] at this
          unfold Lt at this
          omega
        · subst o
          exact ej
        · have := List.pairwise_iff_getElem.1 h.sorted hi j hh hj o
          rw [ej] at this
          exact absurd this (hB hi hh (by omega))
    · congr 1
      rw [eq_comm, decide_eq_false_iff_not]
      intro hm
      obtain ⟨j, hj, ej⟩ := List.getElem_of_mem hm
      have := hA j hj (by omega)
      rw [ej] at this
      unfold Lt at this
      omega
  | succ d ih =>
    intro lo hi hd h1 h2 hA hB
    by_cases c : lo < hi
    · have em : wrap64 ((IntKind.u64.wrap (wrap64 ((lo : Int) + (hi : Int)))) / 2) = (((lo + hi) / 2 : Nat) : Int) := by
        rw [mid_eq _ _ (by omega) (by omega) (by omega) (by omega)]
        omega
      have hm : (lo + hi) / 2 < l.length := by omega
      have ed := h.get _ hm
      have q := cm_lt (n := n) l[(lo + hi) / 2] a b ed (by omega) ha hb ha' hb'
      by_cases c2 : Lt l[(lo + hi) / 2] ⟨a, b⟩
      · obtain ⟨r, hr, hv⟩ := ih ((lo + hi) / 2 + 1) hi (by omega) (by omega) h2 (fun j hj hlt => by
          by_cases e : j = (lo + hi) / 2
          · subst e
            exact c2
          · exact Lt.trans (List.pairwise_iff_getElem.1 h.sorted j _ hj hm (by omega)) c2) hB
        refine ⟨r, hr, Ev.succ ?_⟩
        simp only [api_Edge_55.l0, em, rdG, cmp_eq]
        rw [wi ((lo + hi) / 2) l (by omega) hm]
        refine Ev.pos (by omega) (Ev.pos (by omega) (Ev.pos (by omega) (Ev.andThen' rfl (Ev.pos ?_ hv))))
        show cm (G l ((lo + hi) / 2)) a b < 0
        rw [G_get l _ hm]
        exact q.1.2 c2
      · obtain ⟨r, hr, hv⟩ := ih lo ((lo + hi) / 2) (by omega) (by omega) (by omega) hA (fun j hj hlt x => by
          by_cases e : j = (lo + hi) / 2
          · subst e
            exact c2 x
          · exact c2 (Lt.trans (List.pairwise_iff_getElem.1 h.sorted _ j hm hj (by omega)) x))
        refine ⟨r, hr, Ev.succ ?_⟩
        simp only [api_Edge_55.l0, em, rdG, cmp_eq]
        refine Ev.pos (by omega) (Ev.pos (by omega) (Ev.pos (by omega) (Ev.andThen' rfl (Ev.neg ?_ hv))))
        show ¬ cm (G l ((lo + hi) / 2)) a b < 0
        rw [G_get l _ hm]
        exact fun x => c2 (q.1.1 x)
    · exact ih lo hi (by omega) h1 h2 hA hB
theorem find_ev (n : Int) (l : List S46) (a b : Int) (h : Ok n l) (ha : 0 ≤ a) (hb : 0 ≤ b) (ha' : a < n) (hb' : b < n) :
    ∃ r : Int, (r ≥ 0 ↔ (⟨a, b⟩ : S46) ∈ l) ∧ Ev (fun k => simple_Find.f k n l a b) r := by
  obtain ⟨r, hr, hv⟩ := bs_l0 n l a b h ha hb ha' hb' l.length 0 l.length (by omega) (by omega) (by omega) (fun j _ q => by omega) (fun j hj q => by omega)
  have hv' : Ev (fun k => api_Edge_55.f k l a b 0) (r, decide ((⟨a, b⟩ : S46) ∈ l)) := by simpa [api_Edge_55.f] using hv
  by_cases c : (⟨a, b⟩ : S46) ∈ l
  · refine ⟨r, ⟨fun _ => c, fun _ => hr⟩, ?_⟩
    unfold simple_Find.f
    refine Ev.andThen (valid_ev n l) ?_
    rw [decide_eq_true h]
    refine Ev.pos (by simp) (Ev.neg (by omega) (Ev.neg (by omega) (Ev.neg (by omega) ?_)))
    rw [decide_eq_false (show ¬ b ≥ n by omega)]
    refine Ev.succ ?_
    simp only [simple_Find.j0]
    refine Ev.neg (by simp) (Ev.andThen hv' ?_)
    rw [decide_eq_true c]
    exact Ev.pos (by simp) (Ev.val rfl)
  · refine ⟨-1, ⟨fun x => by omega, fun x => absurd x c⟩, ?_⟩
    unfold simple_Find.f
    refine Ev.andThen (valid_ev n l) ?_
    rw [decide_eq_true h]
    refine Ev.pos (by simp) (Ev.neg (by omega) (Ev.neg (by omega) (Ev.neg (by omega) ?_)))
    rw [decide_eq_false (show ¬ b ≥ n by omega)]
    refine Ev.succ ?_
    simp only [simple_Find.j0]
    refine Ev.neg (by simp) (Ev.andThen hv' ?_)
    rw [decide_eq_false c]
    exact Ev.neg (by simp) (Ev.val rfl)
noncomputable def withR (n : Int) (l : List S46) (a b : Int) : Int × List S46 × Int :=
  if Ok n l then (if 0 ≤ a ∧ a < b ∧ b < n then (if (⟨a, b⟩ : S46) ∈ l then (0, [], 140) else if (l.length : Int) ≥ 4194304 then (0, [], 141) else (n, api_Edge_51.srt (l ++ [⟨a, b⟩]), 0)) else (0, [], 2)) else (0, [], 1)
theorem norm1 {l : List S46} {n a b : Int} (h : ∀ e ∈ l, Ed n e) (hab : a < b) : (l ++ [(⟨a, b⟩ : S46)]).map norm = l ++ [⟨a, b⟩] :=
  norm_map_id _ (fun e he => by
    rcases List.mem_append.1 he with q | q
    · have := h e q
      unfold Ed at this
      omega
    · rw [List.mem_singleton.1 q]
      exact hab)
theorem with_ev (n : Int) (l : List S46) (a b : Int) : Ev (fun k => edit_With.f k n l a b) (withR n l a b) := by
  have bad : Ok n l → ¬ (0 ≤ a ∧ a < b ∧ b < n) → Ev (fun k => edit_With.j0 k true n l a b) (withR n l a b) := fun h c => by
    refine Ev.succ ?_
    simp only [edit_With.j0]
    refine Ev.pos (by simp) (Ev.val ?_)
    rw [withR, if_pos h, if_neg c]
  unfold edit_With.f
  refine Ev.andThen (valid_ev n l) ?_
  by_cases h : Ok n l
  · rw [decide_eq_true h]
    have hn := h.1
    have hl := h.2.1
    refine Ev.pos (by simp) (Ev.ite (fun c => bad h (by omega)) (fun c => Ev.ite (fun c2 => bad h (by omega)) (fun c2 => ?_)))
    by_cases c3 : b ≥ n
    · rw [decide_eq_true c3]
      exact bad h (by omega)
    · rw [decide_eq_false c3]
      refine Ev.succ ?_
      simp only [edit_With.j0]
      obtain ⟨r, hr, hv⟩ := find_ev n l a b h (by omega) (by omega) (by omega) (by omega)
      refine Ev.neg (by simp) (Ev.andThen hv (Ev.ite (fun q => Ev.val ?_) (fun q => Ev.ite (fun q2 => Ev.val ?_) (fun q2 => ?_))))
      · rw [withR, if_pos h, if_pos (by omega), if_pos (hr.1 q)]
      · rw [withR, if_pos h, if_pos (by omega), if_neg (fun x => q (hr.2 x)), if_pos q2]
      · rw [withR, if_pos h, if_pos (by omega), if_neg (fun x => q (hr.2 x)), if_neg q2]
        refine Ev.andThen' (clone_eq l (by omega)) (Ev.andThen' rfl (Ev.pos (by simp; omega) ?_))
        have := made_ev n (l ++ [(⟨a, b⟩ : S46)]) (by simp; omega)
        rw [norm1 (fun e he => h.mem he) (by omega)] at this
        exact Ev.andThen this (Ev.val rfl)
  · rw [decide_eq_false h]
    exact Ev.neg (by simp) (Ev.val (by rw [withR, if_neg h]))
theorem with14_l0 (n : Int) (l : List S46) (a b : Int) (h : Ok n l) (h1 : 0 ≤ a ∧ a < b ∧ b < n) : ∀ (d i : Nat), i + d = l.length → (⟨a, b⟩ : S46) ∉ l.take i →
    Ev (fun k => tangramref14_With.l0 k (i : Int) n l a b) (withR n l a b) := by
  have hl := h.2.1
  intro d
  induction d with
  | zero =>
    intro i hi hm
    rw [List.take_of_length_le (by omega)] at hm
    refine Ev.succ ?_
    simp only [tangramref14_With.l0]
    refine Ev.neg (by omega) (Ev.ite (fun q2 => Ev.val ?_) (fun q2 => ?_))
    · rw [withR, if_pos h, if_pos h1, if_neg hm, if_pos q2]
    · rw [withR, if_pos h, if_pos h1, if_neg hm, if_neg q2]
      obtain ⟨m, p1, p2, p3⟩ := put_ev l a b h1.2.1 (by omega) h.sorted hm
      rw [srt_eq p1 p2]
      exact Ev.andThen' (kept_eq l (by omega)) (Ev.andThen p3 (Ev.val rfl))
  | succ d ih =>
    intro i hi hm
    have hi' : i < l.length := by omega
    refine Ev.succ ?_
    simp only [tangramref14_With.l0, rdG]
    rw [wi i l (by omega) hi']
    refine Ev.pos (by omega) (Ev.pos (by omega) (Ev.ite (fun c => Ev.val ?_) (fun c => ih (i + 1) (by omega) (fun x => ?_))))
    · have : (⟨a, b⟩ : S46) ∈ l := by
        have e : G l i = ⟨a, b⟩ := by
          have : (G l i).f0 = a ∧ (G l i).f1 = b := by simpa using c
          obtain ⟨rfl, rfl⟩ := this
          rfl
        rw [← e, G_get l i hi']
        exact List.getElem_mem hi'
      rw [withR, if_pos h, if_pos h1, if_pos this]
    · rw [take_G l i hi'] at x
      rcases List.mem_append.1 x with q | q
      · exact hm q
      · refine c ?_
        rw [← List.mem_singleton.1 q]
        simp
theorem with14_ev (n : Int) (l : List S46) (a b : Int) : Ev (fun k => tangramref14_With.f k n l a b) (withR n l a b) := by
  have bad : Ok n l → ¬ (0 ≤ a ∧ a < b ∧ b < n) → Ev (fun k => tangramref14_With.j0 k true n l a b) (withR n l a b) := fun h c => by
    refine Ev.succ ?_
    simp only [tangramref14_With.j0]
    refine Ev.pos (by simp) (Ev.val ?_)
    rw [withR, if_pos h, if_neg c]
  unfold tangramref14_With.f
  refine Ev.andThen (valid3_ev n l) ?_
  by_cases h : Ok n l
  · rw [decide_eq_true h]
    refine Ev.pos (by simp) (Ev.ite (fun c => bad h (by omega)) (fun c => Ev.ite (fun c2 => bad h (by omega)) (fun c2 => ?_)))
    by_cases c3 : b ≥ n
    · rw [decide_eq_true c3]
      exact bad h (by omega)
    · rw [decide_eq_false c3]
      refine Ev.succ ?_
      simp only [tangramref14_With.j0]
      exact Ev.neg (by simp) (with14_l0 n l a b h (by omega) l.length 0 (by omega) (by simp))
  · rw [decide_eq_false h]
    exact Ev.neg (by simp) (Ev.val (by rw [withR, if_neg h]))
/-! Divide -/
noncomputable def divR (n : Int) (l : List S46) (e : Int) : Int × List S46 × Int :=
  if edgeR n l e = 0 then (if n ≥ 1048576 ∨ (l.length : Int) ≥ 4194304 then (0, [], 141) else (n + 1, api_Edge_51.srt (l.eraseIdx e.toNat ++ [⟨(rd_T46 l e).f0, n⟩, ⟨(rd_T46 l e).f1, n⟩]), 0)) else (0, [], edgeR n l e)
theorem divide_ev (n : Int) (l : List S46) (e : Int) : Ev (fun k => edit_Divide.f k n l e) (divR n l e) := by
  unfold edit_Divide.f
  refine Ev.andThen' rfl (Ev.andThen (edge_ev n l e) ?_)
  by_cases c : edgeR n l e = 0
  · obtain ⟨h, h0, h1⟩ := edge_ok c
    have hn := h.1
    have hl := h.2.1
    have bad : (n ≥ 1048576 ∨ (l.length : Int) ≥ 4194304) → Ev (fun k => edit_Divide.j0 k true n l e) (divR n l e) := fun q => by
      refine Ev.succ ?_
      simp only [edit_Divide.j0]
      refine Ev.pos (by simp) (Ev.val ?_)
      rw [divR, if_pos c, if_pos q]
    refine Ev.pos c (Ev.ite (fun q => bad (.inl q)) (fun q => ?_))
    by_cases q2 : (l.length : Int) ≥ 4194304
    · rw [decide_eq_true q2]
      exact bad (.inr q2)
    · rw [decide_eq_false q2, divR, if_pos c, if_neg (by omega)]
      obtain ⟨i, rfl⟩ := Int.eq_ofNat_of_zero_le h0
      have hx := erase_len l i
      have he := erase_ed h i
      have hi : i < l.length := by omega
      have ed := h.get i hi
      rw [← G_get l i hi] at ed
      unfold Ed at ed
      refine Ev.succ ?_
      simp only [edit_Divide.j0, rdG]
      refine Ev.neg (by simp) (Ev.pos (by omega) (Ev.pos (by omega) (Ev.andThen (keptD_ev n l i hl) (Ev.andThen' rfl (Ev.pos (by simp; omega) ?_)))))
      rw [w64 (x := n + 1) (by omega) (by omega)]
      have := made_ev (n + 1) (l.eraseIdx i ++ [(⟨(G l i).f0, n⟩ : S46), ⟨(G l i).f1, n⟩]) (by simp; omega)
      rw [norm_map_id (l.eraseIdx i ++ [(⟨(G l i).f0, n⟩ : S46), ⟨(G l i).f1, n⟩]) (fun x hx => by
        rcases List.mem_append.1 hx with p | p
        · have := he.1 x p
          unfold Ed at this
          omega
        · simp only [List.mem_cons, List.not_mem_nil, or_false] at p
          rcases p with rfl | rfl
          · show (G l i).f0 < n
            omega
          · show (G l i).f1 < n
            omega)] at this
      exact Ev.andThen this (Ev.val rfl)
  · exact Ev.neg c (Ev.val (by rw [divR, if_neg c]))
theorem out_of {n : Int} {m : List S46} (h : ∀ e ∈ m, Ed n e) (x : Int) : (⟨x, n⟩ : S46) ∉ m := fun hm => by
  have := h _ hm
  unfold Ed at this
  simp only at this
  omega
theorem divide14_ev (n : Int) (l : List S46) (e : Int) : Ev (fun k => tangramref14_Divide.f k n l e) (divR n l e) := by
  have bad : Ok n l → (e < 0 ∨ e ≥ (l.length : Int)) → Ev (fun k => tangramref14_Divide.j0 k e true n l) (divR n l e) := fun h c => by
    have q : edgeR n l e = 2 := by
      unfold edgeR
      rw [if_pos h]
      split
      · rfl
      · rw [if_pos (by omega)]
    refine Ev.succ ?_
    simp only [tangramref14_Divide.j0]
    refine Ev.pos (by simp) (Ev.val ?_)
    rw [divR, if_neg (by omega), q]
  unfold tangramref14_Divide.f
  refine Ev.andThen (valid3_ev n l) ?_
  by_cases h : Ok n l
  · rw [decide_eq_true h]
    have hn := h.1
    have hl := h.2.1
    refine Ev.pos (by simp) (Ev.ite (fun c => bad h (.inl c)) (fun c => ?_))
    by_cases c2 : e ≥ (l.length : Int)
    · rw [decide_eq_true c2]
      exact bad h (.inr c2)
    · rw [decide_eq_false c2]
      have c0 : edgeR n l e = 0 := by
        unfold edgeR
        rw [if_pos h, if_neg c, if_neg c2]
      have bad2 : (n ≥ 1048576 ∨ (l.length : Int) ≥ 4194304) → Ev (fun k => tangramref14_Divide.j1 k e true n l) (divR n l e) := fun q => by
        refine Ev.succ ?_
        simp only [tangramref14_Divide.j1]
        refine Ev.pos (by simp) (Ev.val ?_)
        rw [divR, if_pos c0, if_pos q]
      refine Ev.succ ?_
      simp only [tangramref14_Divide.j0]
      refine Ev.neg (by simp) (Ev.ite (fun q => bad2 (.inl q)) (fun q => ?_))
      by_cases q2 : (l.length : Int) ≥ 4194304
      · rw [decide_eq_true q2]
        exact bad2 (.inr q2)
      · rw [decide_eq_false q2, divR, if_pos c0, if_neg (by omega)]
        obtain ⟨i, rfl⟩ := Int.eq_ofNat_of_zero_le (show 0 ≤ e by omega)
        have hx := erase_len l i
        have he := erase_ed h i
        have hi : i < l.length := by omega
        have ed := h.get i hi
        rw [← G_get l i hi] at ed
        unfold Ed at ed
        refine Ev.succ ?_
        simp only [tangramref14_Divide.j1, rdG]
        rw [wi i l (by omega) hi, w64 (x := n + 1) (by omega) (by omega)]
        refine Ev.neg (by simp) (Ev.pos (by omega) (Ev.pos (by omega) (Ev.andThen' (kept_eq _ (by simp; omega)) (Ev.pos (by omega) (Ev.pos (by omega) (Ev.andThen' rfl (Ev.pos (by simp; omega) (Ev.pos (by omega) ?_))))))))
        simp only [Int.toNat_natCast, erase_eq]
        obtain ⟨m, p1, p2, p3⟩ := put_ev (l.eraseIdx i) (G l i).f0 n (by omega) (by omega) he.2 (out_of he.1 _)
        have hm : m.length = (l.eraseIdx i).length + 1 := by rw [p1.length_eq]; simp
        obtain ⟨m2, r1, r2, r3⟩ := put_ev m (G l i).f1 n (by omega) (by omega) p2 (fun x => by
          have := p1.mem_iff.1 x
          rcases List.mem_append.1 this with y | y
          · exact out_of he.1 _ y
          · have := List.mem_singleton.1 y
            simp only [S46.mk.injEq] at this
            omega)
        have pp : m2.Perm (l.eraseIdx i ++ [(⟨(G l i).f0, n⟩ : S46), ⟨(G l i).f1, n⟩]) := by
          have := r1.trans (p1.append_right [(⟨(G l i).f1, n⟩ : S46)])
          rwa [List.append_assoc] at this
        rw [srt_eq pp r2]
        exact Ev.andThen p3 (Ev.andThen r3 (Ev.val rfl))
  · rw [decide_eq_false h]
    have q : edgeR n l e = 1 := by
      unfold edgeR
      rw [if_neg h]
    refine Ev.neg (by simp) (Ev.val ?_)
    rw [divR, if_neg (by omega), q]
/-! Apex -/
def rays (n : Int) (i : Nat) : List S46 := (List.range i).map fun v : Nat => ⟨(v : Int), n⟩
theorem rays_succ (n : Int) (i : Nat) : rays n (i + 1) = rays n i ++ [⟨(i : Int), n⟩] := by
  unfold rays
  rw [List.range_succ, List.map_append]
  rfl
theorem rays_len (n : Int) (i : Nat) : (rays n i).length = i := by simp [rays]
theorem rays_mem {n : Int} {i : Nat} {e : S46} (h : e ∈ rays n i) : 0 ≤ e.f0 ∧ e.f0 < i ∧ e.f1 = n := by
  obtain ⟨v, hv, rfl⟩ := List.mem_map.1 h
  have := List.mem_range.1 hv
  exact ⟨by show 0 ≤ (v : Int); omega, by show (v : Int) < i; omega, rfl⟩
noncomputable def apexR (n : Int) (l : List S46) : Int × List S46 × Int :=
  if Ok n l then (if n ≥ 1048576 ∨ (l.length : Int) + n > 4194304 then (0, [], 141) else (n + 1, api_Edge_51.srt (l ++ rays n n.toNat), 0)) else (0, [], 1)
theorem apex_l0 (n : Int) (l : List S46) (h : Ok n l) (h1 : n < 1048576) : ∀ (d i : Nat), i + d = n.toNat →
    Ev (fun k => edit_Apex.l0 k (l ++ rays n i) n (i : Int) n l) (n + 1, api_Edge_51.srt (l ++ rays n n.toNat), 0) := by
  have hn := h.1
  have hl := h.2.1
  intro d
  induction d with
  | zero =>
    intro i hi
    have e : i = n.toNat := by omega
    subst e
    refine Ev.succ ?_
    simp only [edit_Apex.l0]
    refine Ev.neg (by omega) ?_
    rw [w64 (x := n + 1) (by omega) (by omega)]
    have := made_ev (n + 1) (l ++ rays n n.toNat) (by rw [List.length_append, rays_len]; omega)
    rw [norm_map_id _ (fun x hx => by
      rcases List.mem_append.1 hx with p | p
      · have := h.mem p
        unfold Ed at this
        omega
      · have := rays_mem p
        omega)] at this
    exact Ev.andThen this (Ev.val rfl)
  | succ d ih =>
    intro i hi
    refine Ev.succ ?_
    simp only [edit_Apex.l0]
    refine Ev.pos (by omega) (Ev.pos (by rw [List.length_append, rays_len]; omega) ?_)
    have := ih (i + 1) (by omega)
    rw [rays_succ, ← List.append_assoc] at this
    rw [w64 (x := (i : Int) + 1) (by omega) (by omega)]
    exact this
theorem apex_ev (n : Int) (l : List S46) : Ev (fun k => edit_Apex.f k n l) (apexR n l) := by
  unfold edit_Apex.f apexR
  refine Ev.andThen (valid_ev n l) ?_
  by_cases h : Ok n l
  · have hn := h.1
    have hl := h.2.1
    rw [decide_eq_true h, if_pos h, w64 (x := (l.length : Int) + n) (by omega) (by omega)]
    refine Ev.pos (by simp) (Ev.ite (fun c => Ev.val (by rw [if_pos (.inl c)])) (fun c => Ev.ite (fun c2 => Ev.val (by rw [if_pos (.inr c2)])) (fun c2 => ?_)))
    rw [if_neg (by omega)]
    have := apex_l0 n l h (by omega) n.toNat 0 (by omega)
    simp only [rays, List.range_zero, List.map_nil, List.append_nil] at this
    exact Ev.andThen' (clone_eq l (by omega)) this
  · rw [decide_eq_false h, if_neg h]
    exact Ev.neg (by simp) (Ev.val rfl)
theorem apex14_l0 (n : Int) (l : List S46) (h : Ok n l) (h1 : n < 1048576) : ∀ (d i : Nat) (m : List S46), i + d = n.toNat → m.Perm (l ++ rays n i) → m.Pairwise Lt →
    Ev (fun k => tangramref14_Apex.l0 k m (i : Int) n l) (n + 1, api_Edge_51.srt (l ++ rays n n.toNat), 0) := by
  have hn := h.1
  have hl := h.2.1
  intro d
  induction d with
  | zero =>
    intro i m hi hp hs
    have e : i = n.toNat := by omega
    subst e
    refine Ev.succ ?_
    simp only [tangramref14_Apex.l0]
    refine Ev.neg (by omega) (Ev.val ?_)
    rw [w64 (x := n + 1) (by omega) (by omega), srt_eq hp hs]
  | succ d ih =>
    intro i m hi hp hs
    have hm : m.length = l.length + i := by rw [hp.length_eq, List.length_append, rays_len]
    obtain ⟨m2, p1, p2, p3⟩ := put_ev m (i : Int) n (by omega) (by omega) hs (fun x => by
      rcases List.mem_append.1 (hp.mem_iff.1 x) with y | y
      · exact out_of (fun e he => h.mem he) _ y
      · have := rays_mem y
        simp only at this
        omega)
    refine Ev.succ ?_
    simp only [tangramref14_Apex.l0]
    rw [w64 (x := (i : Int) + 1) (by omega) (by omega)]
    refine Ev.pos (by omega) (Ev.andThen p3 (ih (i + 1) m2 (by omega) ?_ p2))
    rw [rays_succ, ← List.append_assoc]
    exact p1.trans (hp.append_right _)
theorem apex14_ev (n : Int) (l : List S46) : Ev (fun k => tangramref14_Apex.f k n l) (apexR n l) := by
  have bad : Ok n l → (n ≥ 1048576 ∨ (l.length : Int) + n > 4194304) → Ev (fun k => tangramref14_Apex.j0 k true n l) (apexR n l) := fun h c => by
    refine Ev.succ ?_
    simp only [tangramref14_Apex.j0]
    refine Ev.pos (by simp) (Ev.val ?_)
    rw [apexR, if_pos h, if_pos c]
  unfold tangramref14_Apex.f
  refine Ev.andThen (valid3_ev n l) ?_
  by_cases h : Ok n l
  · have hn := h.1
    have hl := h.2.1
    rw [decide_eq_true h, w64 (x := (l.length : Int) + n) (by omega) (by omega)]
    refine Ev.pos (by simp) (Ev.ite (fun c => bad h (.inl c)) (fun c => ?_))
    by_cases c2 : (l.length : Int) + n > 4194304
    · rw [decide_eq_true c2]
      exact bad h (.inr c2)
    · rw [decide_eq_false c2, apexR, if_pos h, if_neg (by omega)]
      refine Ev.succ ?_
      simp only [tangramref14_Apex.j0]
      have := apex14_l0 n l h (by omega) n.toNat 0 l (by omega) (by simp [rays]) h.sorted
      exact Ev.neg (by simp) (Ev.andThen' (kept_eq l (by omega)) this)
  · rw [decide_eq_false h]
    exact Ev.neg (by simp) (Ev.val (by rw [apexR, if_neg h]))
end Go.Proofs.Ytdaeaejmikhmcaa.Pure
