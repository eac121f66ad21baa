-- layer 3 (simple), pure: Ends, Degrees, Find.
import Derived.Test.YthejafdcdcchbaaDoorZXSimE
import Derived.Test.YthejafdcdcchbaaDoorZPSimAx13
import Derived.Test.YthejafdcdcchbaaDoorZPSimAx17
import Derived.Test.YthejafdcdcchbaaDoorZPSimAx22
set_option linter.unusedVariables false
set_option linter.unusedSimpArgs false
namespace Go.Proofs.YthejafdcdcchbaaDoor.Pure
open Go.RowKit Go.Proofs.YthejafdcdcchbaaDoor.PSimA Go.Proofs.YthejafdcdcchbaaDoorW.PrintWords Go.Proofs.YthejafdcdcchbaaDoorW.PrintLast Go.Proofs.YthejafdcdcchbaaDoorX
theorem Lt.trans {x y z : S42} (h1 : Lt x y) (h2 : Lt y z) : Lt x z := by unfold Lt at *; omega
theorem Ok.get {n : Int} {l : List S42} (h : Ok n l) (j : Nat) (hj : j < l.length) : Ed n l[j] := by
  have := (h.2.2 j hj).1
  rwa [G_get l j hj] at this
theorem Ok.mem {n : Int} {l : List S42} (h : Ok n l) {e : S42} (he : e ∈ l) : Ed n e := by
  obtain ⟨j, hj, rfl⟩ := List.mem_iff_getElem.1 he
  exact h.get j hj
theorem Ok.sorted {n : Int} {l : List S42} (h : Ok n l) : l.Pairwise Lt := by
  rw [List.pairwise_iff_getElem]
  have key : ∀ (d i : Nat) (hi : i + d + 1 < l.length), Lt (l[i]'(by omega)) (l[i + d + 1]) := by
    intro d
    induction d with
    | zero =>
      intro i hi
      have := (h.2.2 (i + 1) (by omega)).2 (by omega)
      rw [G_get l (i + 1) (by omega), show i + 1 - 1 = i by omega, G_get l i (by omega)] at this
      exact this
    | succ d ih =>
      intro i hi
      have h1 := ih i (by omega)
      have := (h.2.2 (i + d + 1 + 1) (by omega)).2 (by omega)
      rw [G_get l (i + d + 1 + 1) (by omega), show i + d + 1 + 1 - 1 = i + d + 1 by omega, G_get l (i + d + 1) (by omega)] at this
      exact h1.trans this
  intro i j hi hj hij
  have := key (j - i - 1) i (by omega)
  simpa [show i + (j - i - 1) + 1 = j by omega] using this
theorem cmp_eq (x : S42) (a b : Int) : simple_compare.f x.f0 x.f1 a b = some (if x.f0 = a then wrap64 (x.f1 - b) else wrap64 (x.f0 - a)) := by
  unfold simple_compare.f
  split <;> rfl
def cm (x : S42) (a b : Int) : Int := if x.f0 = a then wrap64 (x.f1 - b) else wrap64 (x.f0 - a)
theorem cm_lt {n : Int} (x : S42) (a b : Int) (hx : Ed n x) (hn : n ≤ 1048576) (ha : 0 ≤ a) (hb : 0 ≤ b) (ha' : a < n) (hb' : b < n) : (cm x a b < 0 ↔ Lt x ⟨a, b⟩) ∧ (cm x a b = 0 ↔ x = ⟨a, b⟩) := by
  unfold Ed at hx
  unfold cm Lt
  cases x
  simp only [S42.mk.injEq] at *
  split
  · rw [w64 (by omega) (by omega)]
    omega
  · rw [w64 (by omega) (by omega)]
    omega
theorem mid_eq (x y : Int) (h0 : 0 ≤ x) (h1 : 0 ≤ y) (hx : x ≤ 4194304) (hy : y ≤ 4194304) : wrap64 ((IntKind.u64.wrap (wrap64 (x + y))) / 2) = (x + y) / 2 := by
  rw [w64 (x := x + y) (by omega) (by omega)]
  have : IntKind.u64.wrap (x + y) = x + y := by
    have hb : IntKind.u64.bits = 64 := rfl
    simp only [IntKind.wrap, hb]
    first | omega | (simp; omega)
  rw [this, w64 (by omega) (by omega)]
theorem bs_l0 (n : Int) (l : List S42) (a b : Int) (h : Ok n l) (ha : 0 ≤ a) (hb : 0 ≤ b) (ha' : a < n) (hb' : b < n) : ∀ (d lo hi : Nat), hi - lo ≤ d → lo ≤ hi → hi ≤ l.length →
    (∀ j, (hj : j < l.length) → j < lo → Lt l[j] ⟨a, b⟩) → (∀ j, (hj : j < l.length) → hi ≤ j → ¬ Lt l[j] ⟨a, b⟩) →
    ∃ r : Int, (0 ≤ r ∧ ((⟨a, b⟩ : S42) ∈ l → ∃ j : Nat, r = j ∧ j < l.length ∧ G l j = ⟨a, b⟩)) ∧ Ev (fun k => api_Edge_46.l0 k l (l.length : Int) (lo : Int) (hi : Int) a b) (r, decide ((⟨a, b⟩ : S42) ∈ l)) := by
  have hn := h.1
  have hl := h.2.1
  intro d
  induction d with
  | zero =>
    intro lo hi hd h1 h2 hA hB
    have e : hi = lo := by omega
    subst e
    refine ⟨(hi : Int), ⟨by omega, fun hm => ⟨hi, rfl, ?_⟩⟩, Ev.succ ?_⟩
    · obtain ⟨j, hj, ej⟩ := List.getElem_of_mem hm
      have c1 : ¬ j < hi := fun o => by
        have := hA j hj o
        rw [ej] at this
        unfold Lt at this
        omega
      have c2 : ¬ hi < j := fun o => by
        have := List.pairwise_iff_getElem.1 h.sorted hi j (by omega) hj o
        rw [ej] at this
        exact absurd this (hB hi (by omega) (by omega))
      obtain rfl : j = hi := by omega
      exact ⟨hj, by rw [G_get l j hj]; exact ej⟩
    simp only [api_Edge_46.l0, rdG, cmp_eq]
    refine Ev.neg (by omega) (Ev.ite (fun c => ?_) (fun c => Ev.val ?_))
    · have hh : hi < l.length := by omega
      have ed := h.get hi hh
      have q := cm_lt (n := n) l[hi] a b ed (by omega) ha hb ha' hb'
      refine Ev.pos (by omega) (Ev.pos (by omega) (Ev.andThen' rfl (Ev.val ?_)))
      show ((hi : Int), (cm (G l hi) a b == 0)) = _
      rw [G_get l hi hh]
      congr 1
      rw [Bool.eq_iff_iff, beq_iff_eq, decide_eq_true_eq, q.2]
      constructor
      · intro e
        rw [← e]
        exact List.getElem_mem hh
      · intro hm
        obtain ⟨j, hj, ej⟩ := List.getElem_of_mem hm
        rcases Nat.lt_trichotomy j hi with o | o | o
        · have := hA j hj o
          rw [ej] at this
          unfold Lt at this
          omega
        · subst o
          exact ej
        · have := List.pairwise_iff_getElem.1 h.sorted hi j hh hj o
          rw [ej] at this
          exact absurd this (hB hi hh (by omega))
    · congr 1
      rw [eq_comm, decide_eq_false_iff_not]
      intro hm
      obtain ⟨j, hj, ej⟩ := List.getElem_of_mem hm
      have := hA j hj (by omega)
      rw [ej] at this
      unfold Lt at this
      omega
  | succ d ih =>
    intro lo hi hd h1 h2 hA hB
    by_cases c : lo < hi
    · have em : wrap64 ((IntKind.u64.wrap (wrap64 ((lo : Int) + (hi : Int)))) / 2) = (((lo + hi) / 2 : Nat) : Int) := by
        rw [mid_eq _ _ (by omega) (by omega) (by omega) (by omega)]
        omega
      have hm : (lo + hi) / 2 < l.length := by omega
      have ed := h.get _ hm
      have q := cm_lt (n := n) l[(lo + hi) / 2] a b ed (by omega) ha hb ha' hb'
      by_cases c2 : Lt l[(lo + hi) / 2] ⟨a, b⟩
      · obtain ⟨r, hr, hv⟩ := ih ((lo + hi) / 2 + 1) hi (by omega) (by omega) h2 (fun j hj hlt => by
          by_cases e : j = (lo + hi) / 2
          · subst e
            exact c2
          · exact Lt.trans (List.pairwise_iff_getElem.1 h.sorted j _ hj hm (by omega)) c2) hB
        refine ⟨r, hr, Ev.succ ?_⟩
        simp only [api_Edge_46.l0, em, rdG, cmp_eq]
        rw [wi ((lo + hi) / 2) l (by omega) hm]
        refine Ev.pos (by omega) (Ev.pos (by omega) (Ev.pos (by omega) (Ev.andThen' rfl (Ev.pos ?_ hv))))
        show cm (G l ((lo + hi) / 2)) a b < 0
        rw [G_get l _ hm]
        exact q.1.2 c2
      · obtain ⟨r, hr, hv⟩ := ih lo ((lo + hi) / 2) (by omega) (by omega) (by omega) hA (fun j hj hlt x => by
          by_cases e : j = (lo + hi) / 2
          · subst e
            exact c2 x
          · exact c2 (Lt.trans (List.pairwise_iff_getElem.1 h.sorted _ j hm hj (by omega)) x))
        refine ⟨r, hr, Ev.succ ?_⟩
        simp only [api_Edge_46.l0, em, rdG, cmp_eq]
        refine Ev.pos (by omega) (Ev.pos (by omega) (Ev.pos (by omega) (Ev.andThen' rfl (Ev.neg ?_ hv))))
        show ¬ cm (G l ((lo + hi) / 2)) a b < 0
        rw [G_get l _ hm]
        exact fun x => c2 (q.1.1 x)
    · exact ih lo hi (by omega) h1 h2 hA hB
/-- What a search answers. -/
def Fnd (l : List S42) (a b r : Int) : Prop := (r = -1 ∧ (⟨a, b⟩ : S42) ∉ l) ∨ ∃ j : Nat, r = j ∧ j < l.length ∧ G l j = ⟨a, b⟩
theorem Fnd.uniq {n : Int} {l : List S42} (h : Ok n l) {a b r s : Int} (x : Fnd l a b r) (y : Fnd l a b s) : r = s := by
  have mem : ∀ j, j < l.length → G l j = ⟨a, b⟩ → (⟨a, b⟩ : S42) ∈ l := fun j hj e => by
    rw [← e, G_get l j hj]
    exact List.getElem_mem hj
  rcases x with ⟨rfl, x⟩ | ⟨j, rfl, hj, ej⟩
  · rcases y with ⟨rfl, y⟩ | ⟨i, rfl, hi, ei⟩
    · rfl
    · exact absurd (mem i hi ei) x
  · rcases y with ⟨rfl, y⟩ | ⟨i, rfl, hi, ei⟩
    · exact absurd (mem j hj ej) y
    · rw [G_get l j hj] at ej
      rw [G_get l i hi] at ei
      have lt : ∀ p q (hp : p < l.length) (hq : q < l.length), p < q → Lt l[p] l[q] := fun p q hp hq o => List.pairwise_iff_getElem.1 h.sorted p q hp hq o
      rcases Nat.lt_trichotomy i j with o | o | o
      · have := lt i j hi hj o
        rw [ei, ej] at this
        unfold Lt at this
        omega
      · rw [o]
      · have := lt j i hj hi o
        rw [ei, ej] at this
        unfold Lt at this
        omega
theorem find_bad (n : Int) (l : List S42) (a b : Int) : Ev (fun k => simple_Find.j0 k true n l a b) (-1) := by
  refine Ev.succ ?_
  simp only [simple_Find.j0]
  exact Ev.pos (by simp) (Ev.val rfl)
theorem find_ev (n : Int) (l : List S42) (a b : Int) (h : Ok n l) : ∃ r : Int, Fnd l a b r ∧ Ev (fun k => simple_Find.f k n l a b) r := by
  have no : ¬ (0 ≤ a ∧ 0 ≤ b ∧ a < n ∧ b < n) → Fnd l a b (-1) := fun c => .inl ⟨rfl, fun hm => by
    have := h.mem hm
    unfold Ed at this
    simp only at this
    omega⟩
  by_cases c : 0 ≤ a ∧ 0 ≤ b ∧ a < n ∧ b < n
  · obtain ⟨r, ⟨hr, hw⟩, hv⟩ := bs_l0 n l a b h c.1 c.2.1 c.2.2.1 c.2.2.2 l.length 0 l.length (by omega) (by omega) (by omega) (fun j _ q => by omega) (fun j hj q => by omega)
    have hv' : Ev (fun k => api_Edge_46.f k l a b 0) (r, decide ((⟨a, b⟩ : S42) ∈ l)) := by simpa [api_Edge_46.f] using hv
    refine ⟨if (⟨a, b⟩ : S42) ∈ l then r else -1, ?_, ?_⟩
    · by_cases m : (⟨a, b⟩ : S42) ∈ l
      · rw [if_pos m]
        exact .inr (hw m)
      · rw [if_neg m]
        exact .inl ⟨rfl, m⟩
    · unfold simple_Find.f
      refine Ev.andThen (valid_ev n l) ?_
      rw [decide_eq_true h]
      refine Ev.pos (by simp) (Ev.neg (by omega) (Ev.neg (by omega) (Ev.neg (by omega) ?_)))
      rw [decide_eq_false (show ¬ b ≥ n by omega)]
      refine Ev.succ ?_
      simp only [simple_Find.j0]
      refine Ev.neg (by simp) (Ev.andThen hv' ?_)
      by_cases m : (⟨a, b⟩ : S42) ∈ l
      · rw [decide_eq_true m, if_pos m]
        exact Ev.pos (by simp) (Ev.val rfl)
      · rw [decide_eq_false m, if_neg m]
        exact Ev.neg (by simp) (Ev.val rfl)
  · refine ⟨-1, no c, ?_⟩
    unfold simple_Find.f
    refine Ev.andThen (valid_ev n l) ?_
    rw [decide_eq_true h]
    refine Ev.pos (by simp) (Ev.ite (fun _ => find_bad n l a b) (fun c1 => Ev.ite (fun _ => find_bad n l a b) (fun c2 => Ev.ite (fun _ => find_bad n l a b) (fun c3 => ?_))))
    rw [decide_eq_true (show b ≥ n by omega)]
    exact find_bad n l a b
theorem find_no (n : Int) (l : List S42) (a b : Int) (h : ¬ Ok n l) : Ev (fun k => simple_Find.f k n l a b) (-1) := by
  unfold simple_Find.f
  refine Ev.andThen (valid_ev n l) ?_
  rw [decide_eq_false h]
  exact Ev.neg (by simp) (find_bad n l a b)
theorem find3_l0 (n : Int) (l : List S42) (a b : Int) (hl : l.length ≤ 8796093022208) : ∀ (d i : Nat), i + d = l.length → (∀ j, j < i → j < l.length → G l j ≠ ⟨a, b⟩) →
    ∃ r : Int, Fnd l a b r ∧ Ev (fun k => tangramref03_Find.l0 k (i : Int) n l a b) r := by
  intro d
  induction d with
  | zero =>
    intro i hi hn
    refine ⟨-1, .inl ⟨rfl, fun hm => ?_⟩, Ev.succ ?_⟩
    · obtain ⟨j, hj, ej⟩ := List.getElem_of_mem hm
      exact hn j (by omega) hj (by rw [G_get l j hj]; exact ej)
    · simp only [tangramref03_Find.l0]
      exact Ev.neg (by omega) (Ev.val rfl)
  | succ d ih =>
    intro i hi hn
    have hi' : i < l.length := by omega
    by_cases c : G l i = ⟨a, b⟩
    · refine ⟨(i : Int), .inr ⟨i, rfl, hi', c⟩, Ev.succ ?_⟩
      simp only [tangramref03_Find.l0, rdG]
      exact Ev.pos (by omega) (Ev.pos (by omega) (Ev.pos (by rw [c]) (Ev.pos (by rw [c]) (Ev.val rfl))))
    · obtain ⟨r, hr, hv⟩ := ih (i + 1) (by omega) (fun j hj hj' => by
        by_cases e : j = i
        · rw [e]
          exact c
        · exact hn j (by omega) hj')
      refine ⟨r, hr, Ev.succ ?_⟩
      simp only [tangramref03_Find.l0, rdG]
      rw [wi i l hl hi']
      exact Ev.pos (by omega) (Ev.pos (by omega) (Ev.ite (fun c1 => Ev.ite (fun c2 => absurd (s42_ext.2 ⟨c1, c2⟩) c) (fun _ => hv)) (fun _ => hv)))
theorem find3_ev (n : Int) (l : List S42) (a b : Int) (h : Ok n l) : ∃ r : Int, Fnd l a b r ∧ Ev (fun k => tangramref03_Find.f k n l a b) r := by
  obtain ⟨r, hr, hv⟩ := find3_l0 n l a b (by have := h.2.1; omega) l.length 0 (by omega) (fun j hj => by omega)
  refine ⟨r, hr, ?_⟩
  unfold tangramref03_Find.f
  refine Ev.andThen (valid3_ev n l) ?_
  rw [decide_eq_true h]
  exact Ev.pos (by simp) hv
theorem find3_no (n : Int) (l : List S42) (a b : Int) (h : ¬ Ok n l) : Ev (fun k => tangramref03_Find.f k n l a b) (-1) := by
  unfold tangramref03_Find.f
  refine Ev.andThen (valid3_ev n l) ?_
  rw [decide_eq_false h]
  exact Ev.neg (by simp) (Ev.val rfl)
/-- Both searches answer alike. -/
theorem finds (n : Int) (l : List S42) (a b : Int) : ∃ r : Int, Ev (fun k => simple_Find.f k n l a b) r ∧ Ev (fun k => tangramref03_Find.f k n l a b) r := by
  by_cases h : Ok n l
  · obtain ⟨r, hr, hv⟩ := find_ev n l a b h
    obtain ⟨s, hs, hw⟩ := find3_ev n l a b h
    obtain rfl := Fnd.uniq h hr hs
    exact ⟨r, hv, hw⟩
  · exact ⟨-1, find_no n l a b h, find3_no n l a b h⟩
/-! Ends -/
def EndsR (n : Int) (l : List S42) (f : Int) : Int × Int × Bool :=
  if Ok n l ∧ 0 ≤ f ∧ f < 2 * (l.length : Int) then (if f % 2 = 1 then ((rd_T42 l (f / 2)).f1, (rd_T42 l (f / 2)).f0, true) else ((rd_T42 l (f / 2)).f0, (rd_T42 l (f / 2)).f1, true)) else (0, 0, false)
theorem half {f : Int} (h0 : 0 ≤ f) (h1 : f ≤ 9223372036854775807) : wrap64 (Int.tdiv f 2) = f / 2 ∧ Int.tmod f 2 = f % 2 := by
  refine ⟨?_, Int.tmod_eq_emod_of_nonneg h0⟩
  rw [Int.tdiv_eq_ediv_of_nonneg h0, w64 (by omega) (by omega)]
theorem ends_ev (n : Int) (l : List S42) (f : Int) (hf : f ≤ 9223372036854775807) : Ev (fun k => simple_Ends.f k n l f) (EndsR n l f) := by
  have bad : ¬ (Ok n l ∧ 0 ≤ f ∧ f < 2 * (l.length : Int)) → Ev (fun k => simple_Ends.j0 k f true n l) (EndsR n l f) := fun h => by
    refine Ev.succ ?_
    simp only [simple_Ends.j0]
    exact Ev.pos (by simp) (Ev.val (by rw [EndsR, if_neg h]))
  unfold simple_Ends.f
  refine Ev.andThen (valid_ev n l) ?_
  by_cases h : Ok n l
  · rw [decide_eq_true h]
    have hl := h.2.1
    refine Ev.pos (by simp) (Ev.ite (fun c => bad fun o => by omega) (fun c => ?_))
    have e : wrap64 (2 * (l.length : Int)) = 2 * (l.length : Int) := w64 (by omega) (by omega)
    by_cases c2 : f ≥ wrap64 (2 * (l.length : Int))
    · rw [decide_eq_true c2]
      rw [e] at c2
      exact bad fun o => by omega
    · rw [decide_eq_false c2]
      rw [e] at c2
      refine Ev.succ ?_
      have hh := half (f := f) (by omega) hf
      simp only [simple_Ends.j0, hh.1, hh.2]
      refine Ev.neg (by simp) (Ev.pos (by omega) (Ev.pos (by omega) ?_))
      have g : Ok n l ∧ 0 ≤ f ∧ f < 2 * (l.length : Int) := ⟨h, by omega, by omega⟩
      exact Ev.ite (fun c3 => Ev.val (by rw [EndsR, if_pos g, if_pos c3])) (fun c3 => Ev.val (by rw [EndsR, if_pos g, if_neg c3]))
  · rw [decide_eq_false h]
    exact Ev.neg (by simp) (bad fun o => h o.1)
theorem ends3_ev (n : Int) (l : List S42) (f : Int) (hf : f ≤ 9223372036854775807) : Ev (fun k => tangramref03_Ends.f k n l f) (EndsR n l f) := by
  have bad : ¬ (Ok n l ∧ 0 ≤ f ∧ f < 2 * (l.length : Int)) → Ev (fun k => tangramref03_Ends.j0 k f true n l) (EndsR n l f) := fun h => by
    refine Ev.succ ?_
    simp only [tangramref03_Ends.j0]
    exact Ev.pos (by simp) (Ev.val (by rw [EndsR, if_neg h]))
  unfold tangramref03_Ends.f
  refine Ev.andThen (valid3_ev n l) ?_
  by_cases h : Ok n l
  · rw [decide_eq_true h]
    have hl := h.2.1
    refine Ev.pos (by simp) (Ev.ite (fun c => bad fun o => by omega) (fun c => ?_))
    have hh := half (f := f) (by omega) hf
    by_cases c2 : wrap64 (Int.tdiv f 2) ≥ (l.length : Int)
    · rw [decide_eq_true c2]
      rw [hh.1] at c2
      exact bad fun o => by omega
    · rw [decide_eq_false c2]
      rw [hh.1] at c2
      refine Ev.succ ?_
      simp only [tangramref03_Ends.j0, tangramref03_From.f, tangramref03_To.f, hh.1, hh.2]
      have g : Ok n l ∧ 0 ≤ f ∧ f < 2 * (l.length : Int) := ⟨h, by omega, by omega⟩
      refine Ev.neg (by simp) ?_
      by_cases c3 : f % 2 = 0
      · rw [if_pos c3, if_pos c3, if_pos (by omega), if_pos (by omega), if_pos (by omega), if_pos (by omega)]
        exact Ev.andThen' rfl (Ev.andThen' rfl (Ev.val (by rw [EndsR, if_pos g, if_neg (by omega)])))
      · rw [if_neg c3, if_neg c3, if_pos (by omega), if_pos (by omega), if_pos (by omega), if_pos (by omega)]
        exact Ev.andThen' rfl (Ev.andThen' rfl (Ev.val (by rw [EndsR, if_pos g, if_pos (by omega)])))
  · rw [decide_eq_false h]
    exact Ev.neg (by simp) (bad fun o => h o.1)
/-! Degrees -/
theorem deg_l0 (n : Int) (l : List S42) (h : Ok n l) : ∀ (d i : Nat) (x : List Int), i + d = l.length → (x.length : Int) = n →
    ∃ r : List Int, (r.length : Int) = n ∧ Ev (fun k => simple_Degrees.l0 k x l (l.length : Int) (i : Int)) (r, 0) ∧ Ev (fun k => tangramref03_Degrees.l0 k x (i : Int) n l) (r, 0) := by
  intro d
  induction d with
  | zero =>
    intro i x hi hx
    refine ⟨x, hx, Ev.succ ?_, Ev.succ ?_⟩
    · simp only [simple_Degrees.l0]
      exact Ev.neg (by omega) (Ev.val rfl)
    · simp only [tangramref03_Degrees.l0]
      exact Ev.neg (by omega) (Ev.val rfl)
  | succ d ih =>
    intro i x hi hx
    have hi' : i < l.length := by omega
    have ed : Ed n (G l i) := by rw [G_get l i hi']; exact h.get i hi'
    unfold Ed at ed
    obtain ⟨r, hr, hv, hw⟩ := ih (i + 1) ((x.set (G l i).f0.toNat (wrap64 (rd x (G l i).f0 + 1))).set (G l i).f1.toNat (wrap64 (rd (x.set (G l i).f0.toNat (wrap64 (rd x (G l i).f0 + 1))) (G l i).f1 + 1))) (by omega) (by rw [List.length_set, List.length_set]; exact hx)
    refine ⟨r, hr, Ev.succ ?_, Ev.succ ?_⟩
    · simp only [simple_Degrees.l0, rdG]
      rw [wi i l (by have := h.2.1; omega) hi']
      exact Ev.pos (by omega) (Ev.pos (by omega) (Ev.pos (by omega) (Ev.pos (by omega) (Ev.pos (by omega) (Ev.andThen' rfl (Ev.pos (by omega) (Ev.pos (by first | omega | (rw [List.length_set]; omega)) hv)))))))
    · simp only [tangramref03_Degrees.l0, rdG]
      rw [wi i l (by have := h.2.1; omega) hi']
      exact Ev.pos (by omega) (Ev.pos (by omega) (Ev.pos (by omega) (Ev.pos (by omega) (Ev.andThen' rfl (Ev.pos (by omega) (Ev.pos (by first | omega | (rw [List.length_set]; omega)) hw))))))
theorem degs (n : Int) (l : List S42) : ∃ r : List Int × Int, r.1.length ≤ 1048576 ∧ (¬ Ok n l → r.2 = 1) ∧ Ev (fun k => simple_Degrees.f k n l) r ∧ Ev (fun k => tangramref03_Degrees.f k n l) r := by
  by_cases h : Ok n l
  · have hn := h.1
    obtain ⟨r, hr, hv, hw⟩ := deg_l0 n l h l.length 0 (List.replicate n.toNat 0) (by omega) (by rw [List.length_replicate]; omega)
    refine ⟨(r, 0), by simp only; omega, fun c => absurd h c, ?_, ?_⟩
    · unfold simple_Degrees.f
      refine Ev.andThen (valid_ev n l) ?_
      rw [decide_eq_true h]
      exact Ev.pos (by simp) (Ev.pos (by omega) (Ev.pos (by omega) hv))
    · unfold tangramref03_Degrees.f
      refine Ev.andThen (valid3_ev n l) ?_
      rw [decide_eq_true h]
      exact Ev.pos (by simp) (Ev.pos (by omega) (Ev.pos (by omega) hw))
  · refine ⟨([], 1), by simp, fun _ => rfl, ?_, ?_⟩
    · unfold simple_Degrees.f
      refine Ev.andThen (valid_ev n l) ?_
      rw [decide_eq_false h]
      exact Ev.neg (by simp) (Ev.val rfl)
    · unfold tangramref03_Degrees.f
      refine Ev.andThen (valid3_ev n l) ?_
      rw [decide_eq_false h]
      exact Ev.neg (by simp) (Ev.val rfl)
theorem ints_l0 (r : List Int) (hr : r.length ≤ 1048576) : ∀ (d i : Nat), i + d = r.length → Ev (fun k => tangramref03_SameInts.l0 k r r (i : Int)) true := by
  intro d
  induction d with
  | zero =>
    intro i hi
    refine Ev.succ ?_
    simp only [tangramref03_SameInts.l0]
    exact Ev.neg (by omega) (Ev.val rfl)
  | succ d ih =>
    intro i hi
    refine Ev.succ ?_
    simp only [tangramref03_SameInts.l0]
    refine Ev.pos (by omega) (Ev.pos (by omega) (Ev.pos (by omega) (Ev.pos (by trivial) ?_)))
    have e : wrap64 ((i : Int) + 1) = ((i + 1 : Nat) : Int) := by rw [w64 (by omega) (by omega)]; omega
    rw [e]
    exact ih (i + 1) (by omega)
theorem ints_ev (r : List Int) (hr : r.length ≤ 1048576) : Ev (fun k => tangramref03_SameInts.f k r r) true := by
  unfold tangramref03_SameInts.f
  exact Ev.pos rfl (ints_l0 r hr r.length 0 (by omega))
end Go.Proofs.YthejafdcdcchbaaDoor.Pure
