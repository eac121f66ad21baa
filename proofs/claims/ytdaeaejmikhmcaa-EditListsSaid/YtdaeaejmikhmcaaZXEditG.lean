-- Plain facts on the printed functions of layer 14 (edit): Sub, and the document's Sub, Named, Relabel, Induced, Bare.
import Derived.Test.YtdaeaejmikhmcaaZXEditD
import Derived.Test.YtdaeaejmikhmcaaZXEditP
import Derived.Test.YtdaeaejmikhmcaaZPEditCx46
import Derived.Test.YtdaeaejmikhmcaaZPEditCx47
import Derived.Test.YtdaeaejmikhmcaaZPEditCx49
import Derived.Test.YtdaeaejmikhmcaaZPEditCx50
import Derived.Test.YtdaeaejmikhmcaaZPEditCx51
set_option linter.unusedVariables false
set_option linter.unusedSimpArgs false
namespace Go.Proofs.Ytdaeaejmikhmcaa.Pure
open Go.RowKit Go.Proofs.Ytdaeaejmikhmcaa.PEditC Go.Proofs.YtdaeaejmikhmcaaW.PrintWords Go.Proofs.YtdaeaejmikhmcaaW.PrintLast Go.Proofs.YtdaeaejmikhmcaaX
theorem wn (i : Nat) (h : i < 4611686018427387904) : wrap64 ((i : Int) + 1) = ((i + 1 : Nat) : Int) := by rw [w64 (by omega) (by omega)]; omega
/-! Sub -/
def sel (l : List S46) (p : Nat → Bool) : Nat → List S46
  | 0 => []
  | i + 1 => if p i then sel l p i ++ [G l i] else sel l p i
theorem sel_succ (l : List S46) (p : Nat → Bool) (i : Nat) : sel l p (i + 1) = if p i = true then sel l p i ++ [G l i] else sel l p i := rfl
theorem fm_congr {α β : Type} {f g : α → Option β} : ∀ {l : List α}, (∀ x ∈ l, f x = g x) → l.filterMap f = l.filterMap g
  | [], _ => rfl
  | a :: l, h => by rw [List.filterMap_cons, List.filterMap_cons, h a List.mem_cons_self, fm_congr fun x hx => h x (List.mem_cons_of_mem _ hx)]
theorem sel_sub (l : List S46) (p : Nat → Bool) : ∀ i, i ≤ l.length → (sel l p i).Sublist (l.take i)
  | 0, _ => by simp [sel]
  | i + 1, h => by
    have ih := sel_sub l p i (by omega)
    rw [take_G l i (by omega)]
    unfold sel
    split
    · exact ih.append (List.Sublist.refl _)
    · exact ih.trans (List.sublist_append_left _ _)
theorem sel_len (l : List S46) (p : Nat → Bool) (i : Nat) (h : i ≤ l.length) : (sel l p i).length ≤ i := by
  have := (sel_sub l p i h).length_le
  rw [List.length_take] at this
  omega
theorem keptSub_l0 (l : List S46) (x : List Bool) (p : Nat → Bool) (hl : l.length ≤ 4194304) (hx : x.length = l.length) (hp : ∀ v : Nat, v < l.length → rdOf false x (v : Int) = p v) : ∀ (d i : Nat), i + d = l.length →
    Ev (fun k => edit_keptSub.l0 k x (sel l p i) l (l.length : Int) (i : Int)) (sel l p l.length) := by
  intro d
  induction d with
  | zero =>
    intro i hi
    have e : i = l.length := by omega
    subst e
    refine Ev.succ ?_
    simp only [edit_keptSub.l0]
    exact Ev.neg (by omega) (Ev.val rfl)
  | succ d ih =>
    intro i hi
    have hi' : i < l.length := by omega
    refine Ev.succ ?_
    simp only [edit_keptSub.l0, rdG]
    rw [wi i l (by omega) hi']
    have c : edit_Sub_c1.f (i : Int) (G l i).f0 (G l i).f1 x = some (p i) := by
      unfold edit_Sub_c1.f
      rw [if_pos (by omega), if_pos (by omega), hp i hi']
    have ih' := ih (i + 1) (by omega)
    have hs := sel_len l p i (by omega)
    refine Ev.pos (by omega) (Ev.pos (by omega) (Ev.pos (by omega) (Ev.andThen' c ?_)))
    rw [sel_succ] at ih'
    by_cases q : p i = true
    · rw [if_pos q] at ih'
      exact Ev.pos q (Ev.pos (by omega) ih')
    · rw [if_neg q] at ih'
      exact Ev.neg q ih'
def Gs (l : List S46) (t : List Int) (j : Nat) : Prop := 0 ≤ rd t (j : Int) ∧ rd t (j : Int) < l.length
instance (l : List S46) (t : List Int) (j : Nat) : Decidable (Gs l t j) := by unfold Gs; infer_instance
def inT (t : List Int) (v : Nat) : Bool := decide ((v : Int) ∈ t)
theorem all_from {P : Nat → Prop} (m i : Nat) (hi : i < m) : (∀ j, j < m → i ≤ j → P j) ↔ P i ∧ ∀ j, j < m → i + 1 ≤ j → P j :=
  ⟨fun h => ⟨h i hi (Nat.le_refl _), fun j hj h1 => h j hj (by omega)⟩, fun h j hj h1 => by
    by_cases e : j = i
    · subst e; exact h.1
    · exact h.2 j hj (by omega)⟩
def subR (n : Int) (l : List S46) (t : List Int) : Int × List S46 × Int := (n, sel l (inT t) l.length, 0)
theorem sub_l0 (n : Int) (l : List S46) (t : List Int) (h : Ok n l) (ht : t.length ≤ 17592186044416) : ∀ (d i : Nat) (x : List Bool), i + d = t.length → x.length = l.length →
    (∀ v : Nat, v < l.length → rdOf false x (v : Int) = inT (t.take i) v) →
    Ev (fun k => edit_Sub.l0 k t (t.length : Int) (i : Int) n l x) (if ∀ j, j < t.length → i ≤ j → Gs l t j then subR n l t else (0, [], 2)) := by
  have hl := h.2.1
  intro d
  induction d with
  | zero =>
    intro i x hi hx hp
    rw [List.take_of_length_le (show t.length ≤ i by omega)] at hp
    refine Ev.succ ?_
    simp only [edit_Sub.l0]
    rw [if_pos (fun j hj h1 => by omega)]
    have kp : Ev (fun k => edit_keptSub.f k n l x) (sel l (inT t) l.length) := by
      have := keptSub_l0 l x (inT t) hl hx hp l.length 0 (by omega)
      simpa [edit_keptSub.f, sel] using this
    have sb := sel_sub l (inT t) l.length (Nat.le_refl _)
    rw [List.take_length] at sb
    have hs := sel_len l (inT t) l.length (Nat.le_refl _)
    exact Ev.neg (by omega) (Ev.andThen kp (Ev.andThen (made_id n _ (by omega) (fun e he => by have := h.mem (sb.mem he); unfold Ed at this; omega) (h.sorted.sublist sb)) (Ev.val rfl)))
  | succ d ih =>
    intro i x hi hx hp
    have hi' : i < t.length := by omega
    have step := all_from (P := Gs l t) t.length i hi'
    have no : ¬ Gs l t i → ((0, [], 2) : Int × List S46 × Int) = (if ∀ j, j < t.length → i ≤ j → Gs l t j then subR n l t else (0, [], 2)) := fun hg => by
      rw [if_neg (fun x => hg (step.1 x).1)]
    refine Ev.succ ?_
    simp only [edit_Sub.l0]
    rw [wn i (by omega)]
    refine Ev.pos (by omega) (Ev.pos (by omega) (Ev.pos (by omega) ?_))
    refine Ev.ite (fun c => Ev.val (no fun g => by have := g.1; omega)) (fun c0 => ?_)
    refine Ev.ite (fun c => Ev.val (no fun g => by have := g.2; omega)) (fun c1 => ?_)
    refine Ev.pos (by omega) (Ev.pos (by omega) ?_)
    have e : (if ∀ j, j < t.length → i ≤ j → Gs l t j then subR n l t else (0, [], 2)) = (if ∀ j, j < t.length → i + 1 ≤ j → Gs l t j then subR n l t else (0, [], 2)) := by
      by_cases q : ∀ j, j < t.length → i + 1 ≤ j → Gs l t j
      · rw [if_pos q, if_pos (step.2 ⟨⟨by omega, by omega⟩, q⟩)]
      · rw [if_neg q, if_neg (fun x => q (step.1 x).2)]
    rw [e]
    refine ih (i + 1) _ (by omega) (by rw [List.length_set]; exact hx) (fun v hv => ?_)
    rw [rdOf_set x _ v true (by omega)]
    unfold inT
    rw [List.take_succ_eq_append_getElem hi', ← rd_nat t i hi']
    by_cases q : (rd t (i : Int)).toNat = v
    · rw [if_pos q, eq_comm, decide_eq_true_eq, List.mem_append, List.mem_singleton]
      exact .inr (by omega)
    · rw [if_neg q, hp v hv, inT, decide_eq_decide, List.mem_append, List.mem_singleton]
      exact ⟨.inl, fun x => x.elim id (fun x => absurd x (by omega))⟩
theorem sub14_l1 (n : Int) (l : List S46) (x : List Bool) (p : Nat → Bool) (hl : l.length ≤ 4194304) (hx : x.length = l.length) (hp : ∀ v : Nat, v < l.length → rdOf false x (v : Int) = p v) : ∀ (d i : Nat), i + d = l.length →
    Ev (fun k => tangramref14_Sub.l1 k x (i : Int) n l n (sel l p i)) (n, sel l p l.length, 0) := by
  intro d
  induction d with
  | zero =>
    intro i hi
    have e : i = l.length := by omega
    subst e
    refine Ev.succ ?_
    simp only [tangramref14_Sub.l1]
    exact Ev.neg (by omega) (Ev.val rfl)
  | succ d ih =>
    intro i hi
    have hi' : i < l.length := by omega
    refine Ev.succ ?_
    simp only [tangramref14_Sub.l1, rdG]
    rw [wi i l (by omega) hi', hp i hi']
    have ih' := ih (i + 1) (by omega)
    have hs := sel_len l p i (by omega)
    refine Ev.pos (by omega) (Ev.pos (by omega) ?_)
    rw [sel_succ] at ih'
    by_cases q : p i = true
    · rw [if_pos q] at ih'
      exact Ev.pos q (Ev.pos (by omega) (Ev.pos (by omega) ih'))
    · rw [if_neg q] at ih'
      exact Ev.neg q ih'
theorem sub14_l0 (n : Int) (l : List S46) (t : List Int) (h : Ok n l) (ht : t.length ≤ 17592186044416) : ∀ (d i : Nat) (x : List Bool), i + d = t.length → x.length = l.length →
    (∀ v : Nat, v < l.length → rdOf false x (v : Int) = inT (t.take i) v) →
    Ev (fun k => tangramref14_Sub.l0 k t x (i : Int) n l) (if ∀ j, j < t.length → i ≤ j → Gs l t j then subR n l t else (0, [], 2)) := by
  have hl := h.2.1
  intro d
  induction d with
  | zero =>
    intro i x hi hx hp
    rw [List.take_of_length_le (show t.length ≤ i by omega)] at hp
    refine Ev.succ ?_
    simp only [tangramref14_Sub.l0]
    rw [if_pos (fun j hj h1 => by omega)]
    have := sub14_l1 n l x (inT t) hl hx hp l.length 0 (by omega)
    refine Ev.neg (by omega) ?_
    simpa [sel, subR] using this
  | succ d ih =>
    intro i x hi hx hp
    have hi' : i < t.length := by omega
    have step := all_from (P := Gs l t) t.length i hi'
    have no : ¬ Gs l t i → ((0, [], 2) : Int × List S46 × Int) = (if ∀ j, j < t.length → i ≤ j → Gs l t j then subR n l t else (0, [], 2)) := fun hg => by
      rw [if_neg (fun x => hg (step.1 x).1)]
    refine Ev.succ ?_
    simp only [tangramref14_Sub.l0]
    rw [wn i (by omega)]
    refine Ev.pos (by omega) (Ev.pos (by omega) ?_)
    refine Ev.ite (fun c => Ev.val (no fun g => by have := g.1; omega)) (fun c0 => ?_)
    refine Ev.ite (fun c => Ev.val (no fun g => by have := g.2; omega)) (fun c1 => ?_)
    refine Ev.pos (by omega) (Ev.pos (by omega) ?_)
    have e : (if ∀ j, j < t.length → i ≤ j → Gs l t j then subR n l t else (0, [], 2)) = (if ∀ j, j < t.length → i + 1 ≤ j → Gs l t j then subR n l t else (0, [], 2)) := by
      by_cases q : ∀ j, j < t.length → i + 1 ≤ j → Gs l t j
      · rw [if_pos q, if_pos (step.2 ⟨⟨by omega, by omega⟩, q⟩)]
      · rw [if_neg q, if_neg (fun x => q (step.1 x).2)]
    rw [e]
    refine ih (i + 1) _ (by omega) (by rw [List.length_set]; exact hx) (fun v hv => ?_)
    rw [rdOf_set x _ v true (by omega)]
    unfold inT
    rw [List.take_succ_eq_append_getElem hi', ← rd_nat t i hi']
    by_cases q : (rd t (i : Int)).toNat = v
    · rw [if_pos q, eq_comm, decide_eq_true_eq, List.mem_append, List.mem_singleton]
      exact .inr (by omega)
    · rw [if_neg q, hp v hv, inT, decide_eq_decide, List.mem_append, List.mem_singleton]
      exact ⟨.inl, fun x => x.elim id (fun x => absurd x (by omega))⟩
def subF (n : Int) (l : List S46) (t : List Int) : Int × List S46 × Int :=
  if Ok n l then (if ∀ j, j < t.length → 0 ≤ j → Gs l t j then subR n l t else (0, [], 2)) else (0, [], 1)
theorem sub_ev (n : Int) (l : List S46) (t : List Int) (ht : t.length ≤ 17592186044416) : Ev (fun k => edit_Sub.f k n l t) (subF n l t) := by
  unfold edit_Sub.f subF
  refine Ev.andThen (valid_ev n l) ?_
  by_cases h : Ok n l
  · have hl := h.2.1
    rw [decide_eq_true h, if_pos h]
    refine Ev.pos (by simp) (Ev.pos (by omega) (Ev.pos (by omega) ?_))
    exact sub_l0 n l t h ht t.length 0 _ (by omega) (by simp) (fun v hv => by rw [rdOf_replicate]; simp [inT])
  · rw [decide_eq_false h, if_neg h]
    exact Ev.neg (by simp) (Ev.val rfl)
theorem sub14_ev (n : Int) (l : List S46) (t : List Int) (ht : t.length ≤ 17592186044416) : Ev (fun k => tangramref14_Sub.f k n l t) (subF n l t) := by
  unfold tangramref14_Sub.f subF
  refine Ev.andThen (valid3_ev n l) ?_
  by_cases h : Ok n l
  · have hl := h.2.1
    rw [decide_eq_true h, if_pos h]
    refine Ev.pos (by simp) (Ev.pos (by omega) (Ev.pos (by omega) ?_))
    exact sub14_l0 n l t h ht t.length 0 _ (by omega) (by simp) (fun v hv => by rw [rdOf_replicate]; simp [inT])
  · rw [decide_eq_false h, if_neg h]
    exact Ev.neg (by simp) (Ev.val rfl)
/-! Named -/
theorem put_mm (k : Nat) (l : List S46) (u v : Int) : tangramref14_put.f k l u v = tangramref14_put.f k l (mn u v) (mx u v) := by
  have e1 : mn (mn u v) (mx u v) = mn u v := by unfold mn mx; omega
  have e2 : mx (mn u v) (mx u v) = mx u v := by unfold mn mx; omega
  unfold tangramref14_put.f
  simp only [e1, e2]
def nr (tq : List Int) (e : S46) : Option S46 := if rd tq e.f0 ≥ 0 ∧ rd tq e.f1 ≥ 0 then some (norm ⟨rd tq e.f0, rd tq e.f1⟩) else none
def Inj (n : Int) (tq : List Int) : Prop := ∀ v w, 0 ≤ v → v < n → 0 ≤ w → w < n → rd tq v = rd tq w → 0 ≤ rd tq v → v = w
theorem nr_new {n : Int} {l : List S46} {tq : List Int} (h : Ok n l) (hj : Inj n tq) (i : Nat) (hi : i < l.length) (c0 : rd tq (G l i).f0 ≥ 0) (c1 : rd tq (G l i).f1 ≥ 0) :
    norm ⟨rd tq (G l i).f0, rd tq (G l i).f1⟩ ∉ (l.take i).filterMap (nr tq) := by
  intro hm
  obtain ⟨x, hx, e⟩ := List.mem_filterMap.1 hm
  obtain ⟨j, hj', ej⟩ := List.mem_iff_getElem.1 hx
  rw [List.length_take] at hj'
  rw [List.getElem_take] at ej
  have lt := List.pairwise_iff_getElem.1 h.sorted j i (by omega) hi (by omega)
  rw [ej, ← G_get l i hi] at lt
  have ex := h.mem (List.mem_of_mem_take hx)
  have eg := h.get i hi
  rw [← G_get l i hi] at eg
  unfold Ed at ex eg
  unfold nr at e
  split at e
  · rename_i q
    simp only [norm, Option.some.injEq, S46.mk.injEq] at e
    have two : (rd tq x.f0 = rd tq (G l i).f0 ∧ rd tq x.f1 = rd tq (G l i).f1) ∨ (rd tq x.f0 = rd tq (G l i).f1 ∧ rd tq x.f1 = rd tq (G l i).f0) := by
      unfold mn mx at e
      omega
    unfold Lt at lt
    rcases two with ⟨a, b⟩ | ⟨a, b⟩
    · have := hj _ _ (by omega) (by omega) (by omega) (by omega) a q.1
      have := hj _ _ (by omega) (by omega) (by omega) (by omega) b q.2
      omega
    · have := hj _ _ (by omega) (by omega) (by omega) (by omega) a q.1
      have := hj _ _ (by omega) (by omega) (by omega) (by omega) b q.2
      omega
  · cases e
theorem named_l0 (n : Int) (l : List S46) (tq : List Int) (h : Ok n l) (ht : (tq.length : Int) = n) (hj : Inj n tq) : ∀ (d i : Nat) (m : List S46), i + d = l.length → m.Perm ((l.take i).filterMap (nr tq)) → m.Pairwise Lt →
    Ev (fun k => tangramref14_Named.l0 k tq m (i : Int) n l) (api_Edge_51.srt (l.filterMap (nr tq))) := by
  have hl := h.2.1
  intro d
  induction d with
  | zero =>
    intro i m hi hp hs
    rw [List.take_of_length_le (show l.length ≤ i by omega)] at hp
    refine Ev.succ ?_
    simp only [tangramref14_Named.l0]
    exact Ev.neg (by omega) (Ev.val (srt_eq hp hs).symm)
  | succ d ih =>
    intro i m hi hp hs
    have hi' : i < l.length := by omega
    have hb := h.get i hi'
    rw [← G_get l i hi'] at hb
    unfold Ed at hb
    have next : (l.take (i + 1)).filterMap (nr tq) = (l.take i).filterMap (nr tq) ++ (nr tq (G l i)).toList := by
      rw [take_G l i hi', List.filterMap_append]
      cases hr : nr tq (G l i) <;> simp [hr]
    have hm : m.length ≤ 4194304 := by
      rw [hp.length_eq]
      have := List.length_filterMap_le (nr tq) (l.take i)
      rw [List.length_take] at this
      omega
    refine Ev.succ ?_
    simp only [tangramref14_Named.l0, rdG]
    rw [wi i l (by omega) hi']
    refine Ev.pos (by omega) (Ev.pos (by omega) (Ev.pos (by omega) (Ev.pos (by omega) (Ev.pos (by omega) (Ev.pos (by omega) ?_)))))
    have skip : nr tq (G l i) = none → Ev (fun k => tangramref14_Named.l0 k tq m ((i + 1 : Nat) : Int) n l) (api_Edge_51.srt (l.filterMap (nr tq))) := fun q => by
      rw [q] at next
      exact ih (i + 1) m (by omega) (by rw [next]; simpa using hp) hs
    refine Ev.ite (fun c0 => Ev.ite (fun c1 => ?_) (fun c1 => skip (by rw [nr, if_neg (fun x => c1 x.2)]))) (fun c0 => skip (by rw [nr, if_neg (fun x => c0 x.1)]))
    have ne : rd tq (G l i).f0 ≠ rd tq (G l i).f1 := fun e => by
      have := hj _ _ (by omega) (by omega) (by omega) (by omega) e c0
      omega
    have hx := nr_new h hj i hi' c0 c1
    obtain ⟨m2, p1, p2, p3⟩ := put_ev m (mn (rd tq (G l i).f0) (rd tq (G l i).f1)) (mx (rd tq (G l i).f0) (rd tq (G l i).f1)) (by unfold mn mx; omega) (by omega) hs (fun x => hx (hp.mem_iff.1 x))
    have e : (fun k => tangramref14_put.f k m (rd tq (G l i).f0) (rd tq (G l i).f1)) = (fun k => tangramref14_put.f k m (mn (rd tq (G l i).f0) (rd tq (G l i).f1)) (mx (rd tq (G l i).f0) (rd tq (G l i).f1))) := funext fun k => put_mm k m _ _
    rw [← e] at p3
    refine Ev.andThen p3 (ih (i + 1) m2 (by omega) ?_ p2)
    rw [next, nr, if_pos ⟨c0, c1⟩]
    exact p1.trans (hp.append_right _)
theorem named_ev (n : Int) (l : List S46) (tq : List Int) (h : Ok n l) (ht : (tq.length : Int) = n) (hj : Inj n tq) : Ev (fun k => tangramref14_Named.f k n l tq) (api_Edge_51.srt (l.filterMap (nr tq))) := by
  have := named_l0 n l tq h ht hj l.length 0 [] (by omega) (by simp) List.Pairwise.nil
  exact this
/-! Relabel -/
theorem gp_not {n : Int} {t : List Int} {i : Nat} (hi : i < t.length) (g : Gp n t i) : t[i] ∉ t.take i := by
  have := g.2.2
  rwa [rd_nat t i hi] at this
theorem gp_nodup {n : Int} {t : List Int} (hg : ∀ j, j < t.length → Gp n t j) : t.Nodup := by
  unfold List.Nodup
  rw [List.pairwise_iff_getElem]
  intro i j hi hj hij e
  refine gp_not hj (hg j hj) ?_
  rw [← e]
  exact List.mem_iff_getElem.2 ⟨i, by rw [List.length_take]; omega, by rw [List.getElem_take]⟩
theorem gp_range {n : Int} {t : List Int} (hg : ∀ j, j < t.length → Gp n t j) {v : Int} (hv : v ∈ t) : 0 ≤ v ∧ v < n := by
  obtain ⟨j, hj, rfl⟩ := List.mem_iff_getElem.1 hv
  have := hg j hj
  unfold Gp at this
  rw [rd_nat t j hj] at this
  exact ⟨this.1, this.2.1⟩
theorem gp_inj {n : Int} {t : List Int} (ht : (t.length : Int) = n) (hg : ∀ j, j < t.length → Gp n t j) : Inj n t := by
  intro v w h0 h1 h2 h3 e _
  obtain ⟨a, rfl⟩ := Int.eq_ofNat_of_zero_le h0
  obtain ⟨b, rfl⟩ := Int.eq_ofNat_of_zero_le h2
  rw [rd_nat t a (by omega), rd_nat t b (by omega)] at e
  have := (List.getElem_inj (gp_nodup hg)).1 e
  omega
theorem relabel14_l0 (n : Int) (l : List S46) (t : List Int) (h : Ok n l) (ht : (t.length : Int) = n) : ∀ (d i : Nat) (x6 : List Bool), i + d = t.length → (x6.length : Int) = n → (∀ j, j < i → Gp n t j) →
    (∀ v : Nat, (v : Int) < n → (rdOf false x6 (v : Int) = true ↔ (v : Int) ∈ t.take i)) →
    Ev (fun k => tangramref14_Relabel.l0 k t x6 (i : Int) n l) (if ∀ j, j < t.length → i ≤ j → Gp n t j then relR n l t else (0, [], 2)) := by
  have hn := h.1
  intro d
  induction d with
  | zero =>
    intro i x6 hi h6 hg hx
    refine Ev.succ ?_
    simp only [tangramref14_Relabel.l0]
    rw [if_pos (fun j hj h1 => by omega)]
    have hall : ∀ j, j < t.length → Gp n t j := fun j hj => hg j (by omega)
    have e : l.filterMap (nr t) = (l.map (rl t)).map norm := by
      rw [List.map_map, ← List.filterMap_eq_map]
      refine fm_congr (fun e he => ?_)
      have := h.mem he
      unfold Ed at this
      have g0 := hall e.f0.toNat (by omega)
      have g1 := hall e.f1.toNat (by omega)
      unfold Gp at g0 g1
      rw [show ((e.f0.toNat : Nat) : Int) = e.f0 by omega] at g0
      rw [show ((e.f1.toNat : Nat) : Int) = e.f1 by omega] at g1
      rw [nr, if_pos ⟨g0.1, g1.1⟩]
      rfl
    have := named_ev n l t h ht (gp_inj ht hall)
    rw [e] at this
    exact Ev.neg (by omega) (Ev.andThen this (Ev.val rfl))
  | succ d ih =>
    intro i x6 hi h6 hgs hx
    have hi' : i < t.length := by omega
    have step := all_from (P := Gp n t) t.length i hi'
    have no : ¬ Gp n t i → ((0, [], 2) : Int × List S46 × Int) = (if ∀ j, j < t.length → i ≤ j → Gp n t j then relR n l t else (0, [], 2)) := fun hg => by
      rw [if_neg (fun x => hg (step.1 x).1)]
    refine Ev.succ ?_
    simp only [tangramref14_Relabel.l0]
    refine Ev.pos (by omega) (Ev.pos (by omega) ?_)
    refine Ev.ite (fun c => Ev.val (no fun g => by have := g.1; omega)) (fun c0 => ?_)
    refine Ev.ite (fun c => Ev.val (no fun g => by have := g.2.1; omega)) (fun c1 => ?_)
    refine Ev.pos (by omega) (Ev.pos (by omega) ?_)
    have hv := hx (rd t (i : Int)).toNat (by omega)
    rw [show ((rd t (i : Int)).toNat : Int) = rd t (i : Int) by omega] at hv
    refine Ev.ite (fun c => Ev.val (no fun g => g.2.2 (hv.1 c))) (fun c2 => ?_)
    have hg : Gp n t i := ⟨by omega, by omega, fun x => c2 (hv.2 x)⟩
    rw [wn i (by omega)]
    have e : (if ∀ j, j < t.length → i ≤ j → Gp n t j then relR n l t else (0, [], 2)) = (if ∀ j, j < t.length → i + 1 ≤ j → Gp n t j then relR n l t else (0, [], 2)) := by
      by_cases q : ∀ j, j < t.length → i + 1 ≤ j → Gp n t j
      · rw [if_pos q, if_pos (step.2 ⟨hg, q⟩)]
      · rw [if_neg q, if_neg (fun x => q (step.1 x).2)]
    rw [e]
    refine ih (i + 1) _ (by omega) (by rw [List.length_set]; exact h6) (fun j hj => by
      by_cases q : j = i
      · subst q; exact hg
      · exact hgs j (by omega)) (fun v hv' => ?_)
    rw [rdOf_set x6 _ v true (by omega), List.take_succ_eq_append_getElem hi', List.mem_append, List.mem_singleton, ← rd_nat t i hi']
    by_cases q : (rd t (i : Int)).toNat = v
    · rw [if_pos q]
      exact ⟨fun _ => .inr (by omega), fun _ => rfl⟩
    · rw [if_neg q, hx v hv']
      exact ⟨.inl, fun x => x.elim id (fun x => absurd x (by omega))⟩
theorem relabel14_ev (n : Int) (l : List S46) (t : List Int) : Ev (fun k => tangramref14_Relabel.f k n l t) (relF n l t) := by
  unfold tangramref14_Relabel.f relF
  refine Ev.andThen (valid3_ev n l) ?_
  by_cases h : Ok n l
  · have hn := h.1
    rw [decide_eq_true h, if_pos h]
    refine Ev.pos (by simp) (Ev.ite (fun c => ?_) (fun c => Ev.val (by rw [if_neg (fun x => c x.1)])))
    refine Ev.pos (by omega) (Ev.pos (by omega) ?_)
    have := relabel14_l0 n l t h c t.length 0 (List.replicate n.toNat false) (by omega) (by simp; omega) (fun j hj => by omega) (fun v hv => by rw [rdOf_replicate]; simp)
    have e : (if (t.length : Int) = n ∧ PermP n t then relR n l t else (0, [], 2)) = (if ∀ j, j < t.length → 0 ≤ j → Gp n t j then relR n l t else (0, [], 2)) := by
      by_cases q : PermP n t
      · rw [if_pos ⟨c, q⟩, if_pos (fun j hj _ => q j hj)]
      · rw [if_neg (fun x => q x.2), if_neg (fun x => q (fun j hj => x j hj (Nat.zero_le _)))]
    rw [e]
    exact this
  · rw [decide_eq_false h, if_neg h]
    exact Ev.neg (by simp) (Ev.val rfl)
/-! Induced -/
theorem nodup_len2 : ∀ (n : Nat) (t : List Int), t.Nodup → (∀ v ∈ t, 0 ≤ v ∧ v < (n : Int)) → t.length ≤ n
  | 0, t, _, h => by
    cases t with
    | nil => exact Nat.le_refl _
    | cons a t => have := h a List.mem_cons_self; omega
  | n + 1, t, hd, h => by
    have h1 := nodup_len2 n (t.erase (n : Int)) (hd.erase _) (fun v hv => by
      have := (hd.mem_erase_iff).1 hv
      have := h v this.2
      omega)
    rw [List.length_erase] at h1
    split at h1 <;> omega
theorem plc_take2 (t : List Int) (i : Nat) (hi : i < t.length) (hni : t[i] ∉ t.take i) (v : Int) : plc (t.take (i + 1)) v = if v = t[i] then (i : Int) + 1 else plc (t.take i) v := by
  have hlen : (t.take i).length = i := by simp; omega
  rw [List.take_succ_eq_append_getElem hi]
  generalize t.take i = q at hni hlen ⊢
  generalize t[i] = y at hni ⊢
  unfold plc
  by_cases e : v = y
  · subst e
    rw [if_pos rfl, if_pos (by simp), List.idxOf_append, if_neg hni, List.idxOf_cons_self]
    omega
  · rw [if_neg e]
    by_cases hm : v ∈ q
    · rw [if_pos (by simp [hm]), if_pos hm, List.idxOf_append, if_pos hm]
    · rw [if_neg (by simp [hm, e]), if_neg hm]
theorem plc_gt {t : List Int} {v : Int} : 0 < plc t v ↔ v ∈ t := by
  unfold plc
  split
  · rename_i h
    exact ⟨fun _ => h, fun _ => by omega⟩
  · rename_i h
    exact ⟨fun x => by omega, fun x => absurd x h⟩
theorem plc_inj {t : List Int} {v w : Int} (h : 0 < plc t v) (e : plc t v = plc t w) : v = w := by
  have hv := plc_gt.1 h
  have hw := plc_gt.1 (e ▸ h)
  unfold plc at e
  rw [if_pos hv, if_pos hw] at e
  have i1 := List.idxOf_lt_length_of_mem hv
  have i2 := List.idxOf_lt_length_of_mem hw
  have a := List.getElem_idxOf i1
  have b := List.getElem_idxOf i2
  have : t.idxOf v = t.idxOf w := by omega
  rw [← a, ← b]
  congr 1
noncomputable def indR (l : List S46) (t : List Int) : Int × List S46 × Int := ((t.length : Int), api_Edge_51.srt ((l.filterMap (ren t)).map norm), 0)
theorem gp_len {n : Int} {t : List Int} (hn : 0 ≤ n) (hg : ∀ j, j < t.length → Gp n t j) : (t.length : Int) ≤ n := by
  have := nodup_len2 n.toNat t (gp_nodup hg) (fun v hv => by have := gp_range hg hv; omega)
  omega
theorem inducedG_l0 (n : Int) (l : List S46) (t : List Int) (h : Ok n l) (htl : t.length ≤ 17592186044416) : ∀ (d i : Nat) (x6 : List Int), i + d = t.length → (x6.length : Int) = n → (∀ j, j < i → Gp n t j) →
    (∀ v : Nat, (v : Int) < n → rd x6 (v : Int) = plc (t.take i) v) →
    Ev (fun k => edit_Induced.l0 k t x6 t (t.length : Int) (i : Int) n l) (if ∀ j, j < t.length → i ≤ j → Gp n t j then indR l t else (0, [], 2)) := by
  have hn := h.1
  intro d
  induction d with
  | zero =>
    intro i x6 hi h6 hg hp
    refine Ev.succ ?_
    simp only [edit_Induced.l0]
    rw [if_pos (fun j hj h1 => by omega)]
    have hall : ∀ j, j < t.length → Gp n t j := fun j hj => hg j (by omega)
    have hl2 := gp_len hn.1 hall
    refine Ev.neg (by omega) ?_
    have := induced_l1 n l t x6 h h6 (fun v hv => by rw [hp v hv, List.take_of_length_le (by omega)]) (by omega) l.length 0 (by omega)
    simpa [indR] using this
  | succ d ih =>
    intro i x6 hi h6 hgs hp
    have hi' : i < t.length := by omega
    have step := all_from (P := Gp n t) t.length i hi'
    have no : ¬ Gp n t i → ((0, [], 2) : Int × List S46 × Int) = (if ∀ j, j < t.length → i ≤ j → Gp n t j then indR l t else (0, [], 2)) := fun hg => by
      rw [if_neg (fun x => hg (step.1 x).1)]
    refine Ev.succ ?_
    simp only [edit_Induced.l0]
    rw [wn i (by omega)]
    refine Ev.pos (by omega) (Ev.pos (by omega) (Ev.pos (by omega) ?_))
    refine Ev.ite (fun c => Ev.val (no fun g => by have := g.1; omega)) (fun c0 => ?_)
    refine Ev.ite (fun c => Ev.val (no fun g => by have := g.2.1; omega)) (fun c1 => ?_)
    refine Ev.pos (by omega) (Ev.pos (by omega) ?_)
    have hv := hp (rd t (i : Int)).toNat (by omega)
    rw [show ((rd t (i : Int)).toNat : Int) = rd t (i : Int) by omega] at hv
    refine Ev.ite (fun c => Ev.val (no fun g => g.2.2 (plc_gt.1 (by omega)))) (fun c2 => ?_)
    have hg : Gp n t i := ⟨by omega, by omega, fun x => c2 (by have := plc_gt.2 x; omega)⟩
    have e : (if ∀ j, j < t.length → i ≤ j → Gp n t j then indR l t else (0, [], 2)) = (if ∀ j, j < t.length → i + 1 ≤ j → Gp n t j then indR l t else (0, [], 2)) := by
      by_cases q : ∀ j, j < t.length → i + 1 ≤ j → Gp n t j
      · rw [if_pos q, if_pos (step.2 ⟨hg, q⟩)]
      · rw [if_neg q, if_neg (fun x => q (step.1 x).2)]
    rw [e]
    refine ih (i + 1) _ (by omega) (by rw [List.length_set]; exact h6) (fun j hj => by
      by_cases q : j = i
      · subst q; exact hg
      · exact hgs j (by omega)) (fun v hv' => ?_)
    rw [rd_set x6 _ v _ (by omega), plc_take2 t i hi' (gp_not hi' hg), ← rd_nat t i hi']
    by_cases q : (v : Int) = rd t (i : Int)
    · rw [if_pos (by omega), if_pos q]
      omega
    · rw [if_neg (by omega), if_neg q]
      exact hp v hv'
noncomputable def indF (n : Int) (l : List S46) (t : List Int) : Int × List S46 × Int :=
  if Ok n l then (if ∀ j, j < t.length → 0 ≤ j → Gp n t j then indR l t else (0, [], 2)) else (0, [], 1)
theorem inducedG_ev (n : Int) (l : List S46) (t : List Int) (htl : t.length ≤ 17592186044416) : Ev (fun k => edit_Induced.f k n l t) (indF n l t) := by
  unfold edit_Induced.f indF
  refine Ev.andThen (valid_ev n l) ?_
  by_cases h : Ok n l
  · have hn := h.1
    rw [decide_eq_true h, if_pos h]
    refine Ev.pos (by simp) (Ev.pos (by omega) (Ev.pos (by omega) ?_))
    exact inducedG_l0 n l t h htl t.length 0 _ (by omega) (by simp; omega) (fun j hj => by omega) (fun v hv => by rw [rd_replicate]; simp [plc])
  · rw [decide_eq_false h, if_neg h]
    exact Ev.neg (by simp) (Ev.val rfl)
theorem nr_ren {n : Int} {l : List S46} {tq t : List Int} (h : Ok n l) (hp : ∀ v : Nat, (v : Int) < n → rd tq (v : Int) = plc t v - 1) : l.filterMap (nr tq) = (l.filterMap (ren t)).map norm := by
  rw [List.map_filterMap]
  refine fm_congr (fun e he => ?_)
  have := h.mem he
  unfold Ed at this
  have p0 := hp e.f0.toNat (by omega)
  have p1 := hp e.f1.toNat (by omega)
  rw [show ((e.f0.toNat : Nat) : Int) = e.f0 by omega] at p0
  rw [show ((e.f1.toNat : Nat) : Int) = e.f1 by omega] at p1
  unfold nr ren
  by_cases q : plc t e.f0 > 0 ∧ plc t e.f1 > 0
  · rw [if_pos (by omega), if_pos q, p0, p1]
    rfl
  · rw [if_neg (by omega), if_neg q]
    rfl
theorem plc_Inj {n : Int} {tq t : List Int} (hp : ∀ v : Nat, (v : Int) < n → rd tq (v : Int) = plc t v - 1) : Inj n tq := by
  intro v w h0 h1 h2 h3 e h4
  obtain ⟨a, rfl⟩ := Int.eq_ofNat_of_zero_le h0
  obtain ⟨b, rfl⟩ := Int.eq_ofNat_of_zero_le h2
  rw [hp a h1] at e h4
  rw [hp b h3] at e
  exact plc_inj (t := t) (by omega) (by omega)
theorem induced14_l1 (n : Int) (l : List S46) (t : List Int) (h : Ok n l) (htl : t.length ≤ 17592186044416) : ∀ (d i : Nat) (x6 : List Int), i + d = t.length → (x6.length : Int) = n → (∀ j, j < i → Gp n t j) →
    (∀ v : Nat, (v : Int) < n → rd x6 (v : Int) = plc (t.take i) v - 1) →
    Ev (fun k => tangramref14_Induced.l1 k t x6 (i : Int) n l) (if ∀ j, j < t.length → i ≤ j → Gp n t j then indR l t else (0, [], 2)) := by
  have hn := h.1
  intro d
  induction d with
  | zero =>
    intro i x6 hi h6 hg hp
    rw [List.take_of_length_le (show t.length ≤ i by omega)] at hp
    refine Ev.succ ?_
    simp only [tangramref14_Induced.l1]
    rw [if_pos (fun j hj h1 => by omega)]
    have := named_ev n l x6 h h6 (plc_Inj hp)
    rw [nr_ren h hp] at this
    exact Ev.neg (by omega) (Ev.andThen this (Ev.val rfl))
  | succ d ih =>
    intro i x6 hi h6 hgs hp
    have hi' : i < t.length := by omega
    have step := all_from (P := Gp n t) t.length i hi'
    have no : ¬ Gp n t i → ((0, [], 2) : Int × List S46 × Int) = (if ∀ j, j < t.length → i ≤ j → Gp n t j then indR l t else (0, [], 2)) := fun hg => by
      rw [if_neg (fun x => hg (step.1 x).1)]
    refine Ev.succ ?_
    simp only [tangramref14_Induced.l1]
    rw [wn i (by omega)]
    refine Ev.pos (by omega) (Ev.pos (by omega) ?_)
    refine Ev.ite (fun c => Ev.val (no fun g => by have := g.1; omega)) (fun c0 => ?_)
    refine Ev.ite (fun c => Ev.val (no fun g => by have := g.2.1; omega)) (fun c1 => ?_)
    refine Ev.pos (by omega) (Ev.pos (by omega) ?_)
    have hv := hp (rd t (i : Int)).toNat (by omega)
    rw [show ((rd t (i : Int)).toNat : Int) = rd t (i : Int) by omega] at hv
    refine Ev.ite (fun c => Ev.val (no fun g => g.2.2 (plc_gt.1 (by omega)))) (fun c2 => ?_)
    have hg : Gp n t i := ⟨by omega, by omega, fun x => c2 (by have := plc_gt.2 x; omega)⟩
    have e : (if ∀ j, j < t.length → i ≤ j → Gp n t j then indR l t else (0, [], 2)) = (if ∀ j, j < t.length → i + 1 ≤ j → Gp n t j then indR l t else (0, [], 2)) := by
      by_cases q : ∀ j, j < t.length → i + 1 ≤ j → Gp n t j
      · rw [if_pos q, if_pos (step.2 ⟨hg, q⟩)]
      · rw [if_neg q, if_neg (fun x => q (step.1 x).2)]
    rw [e]
    refine ih (i + 1) _ (by omega) (by rw [List.length_set]; exact h6) (fun j hj => by
      by_cases q : j = i
      · subst q; exact hg
      · exact hgs j (by omega)) (fun v hv' => ?_)
    rw [rd_set x6 _ v _ (by omega), plc_take2 t i hi' (gp_not hi' hg), ← rd_nat t i hi']
    by_cases q : (v : Int) = rd t (i : Int)
    · rw [if_pos (by omega), if_pos q]
      omega
    · rw [if_neg (by omega), if_neg q]
      exact hp v hv'
theorem induced14_l0 (n : Int) (l : List S46) (t : List Int) (h : Ok n l) (htl : t.length ≤ 17592186044416) : ∀ (d i : Nat) (x6 : List Int), i + d = n.toNat → (x6.length : Int) = n →
    (∀ v : Nat, v < i → rd x6 (v : Int) = -1) →
    Ev (fun k => tangramref14_Induced.l0 k t x6 (i : Int) n l) (if ∀ j, j < t.length → 0 ≤ j → Gp n t j then indR l t else (0, [], 2)) := by
  have hn := h.1
  intro d
  induction d with
  | zero =>
    intro i x6 hi h6 hp
    refine Ev.succ ?_
    simp only [tangramref14_Induced.l0]
    exact Ev.neg (by omega) (induced14_l1 n l t h htl t.length 0 x6 (by omega) h6 (fun j hj => by omega) (fun v hv => by rw [hp v (by omega)]; simp [plc]))
  | succ d ih =>
    intro i x6 hi h6 hp
    refine Ev.succ ?_
    simp only [tangramref14_Induced.l0]
    rw [wn i (by omega)]
    refine Ev.pos (by omega) (Ev.pos (by omega) (Ev.pos (by omega) (ih (i + 1) _ (by omega) (by rw [List.length_set]; exact h6) (fun v hv => ?_))))
    rw [show ((i : Nat) : Int).toNat = i by omega, rd_set x6 i v _ (by omega)]
    by_cases q : i = v
    · rw [if_pos q]
    · rw [if_neg q]
      exact hp v (by omega)
theorem induced14_ev (n : Int) (l : List S46) (t : List Int) (htl : t.length ≤ 17592186044416) : Ev (fun k => tangramref14_Induced.f k n l t) (indF n l t) := by
  unfold tangramref14_Induced.f indF
  refine Ev.andThen (valid3_ev n l) ?_
  by_cases h : Ok n l
  · have hn := h.1
    rw [decide_eq_true h, if_pos h]
    refine Ev.pos (by simp) (Ev.pos (by omega) (Ev.pos (by omega) ?_))
    exact induced14_l0 n l t h htl n.toNat 0 _ (by omega) (by simp; omega) (fun v hv => by omega)
  · rw [decide_eq_false h, if_neg h]
    exact Ev.neg (by simp) (Ev.val rfl)
/-! Bare -/
noncomputable def bareF (n : Int) (l : List S46) : Int × List S46 × List Int × Int :=
  if Ok n l then (((lstB n l).length : Int), api_Edge_51.srt ((l.filterMap (ren (lstB n l))).map norm), lstB n l, 0) else (0, [], [], 1)
theorem bareG_ev (n : Int) (l : List S46) : Ev (fun k => edit_Bare.f k n l) (bareF n l) := by
  unfold bareF
  by_cases h : Ok n l
  · rw [if_pos h]
    exact bare_ev n l h
  · rw [if_neg h]
    have d : Ev (fun k => simple_Degrees.f k n l) ([], 1) := by
      unfold simple_Degrees.f
      refine Ev.andThen (valid_ev n l) ?_
      rw [decide_eq_false h]
      exact Ev.neg (by simp) (Ev.val rfl)
    unfold edit_Bare.f
    exact Ev.andThen d (Ev.neg (by simp) (Ev.val rfl))
def lstI (l : List S46) (i : Nat) : List Int := (fromL 0 i).filter fun v => decide (inc l v)
theorem lstI_succ (l : List S46) (i : Nat) : lstI l (i + 1) = if inc l (i : Int) then lstI l i ++ [(i : Int)] else lstI l i := by
  unfold lstI
  rw [fromL_succ, List.filter_append]
  split
  · rename_i h
    rw [List.filter_cons_of_pos (by simpa using h), List.filter_nil]
  · rename_i h
    rw [List.filter_cons_of_neg (by simpa using h), List.filter_nil, List.append_nil]
theorem lstI_len (l : List S46) (i : Nat) : (lstI l i).length ≤ i := by
  have := List.length_filter_le (fun v => decide (inc l v)) (fromL 0 i)
  rw [fromL_length] at this
  exact this
theorem lstI_lt (l : List S46) (i : Nat) {v : Int} (h : v ∈ lstI l i) : v < i := by
  have := (fromL_mem _ _ _).1 (List.mem_filter.1 h).1
  omega
theorem plc_snoc (q : List Int) (y v : Int) (hy : y ∉ q) : plc (q ++ [y]) v = if v = y then (q.length : Int) + 1 else plc q v := by
  unfold plc
  by_cases e : v = y
  · subst e
    rw [if_pos rfl, if_pos (by simp), List.idxOf_append, if_neg hy, List.idxOf_cons_self]
    omega
  · rw [if_neg e]
    by_cases hm : v ∈ q
    · rw [if_pos (by simp [hm]), if_pos hm, List.idxOf_append, if_pos hm]
    · rw [if_neg (by simp [hm, e]), if_neg hm]
theorem bare14_l1 (n : Int) (l : List S46) (h : Ok n l) : ∀ (d i : Nat) (x5 : List Int), i + d = n.toNat → (x5.length : Int) = n →
    (∀ v : Nat, v < i → rd x5 (v : Int) = plc (lstI l i) v - 1) → (∀ v : Nat, i ≤ v → (v : Int) < n → (rd x5 (v : Int) = 0 ↔ ¬ inc l (v : Int))) →
    Ev (fun k => tangramref14_Bare.l1 k x5 (lstI l i) (i : Int) n l) (((lstB n l).length : Int), api_Edge_51.srt ((l.filterMap (ren (lstB n l))).map norm), lstB n l, 0) := by
  have hn := h.1
  intro d
  induction d with
  | zero =>
    intro i x5 hi h5 hp hz
    have e : lstI l i = lstB n l := by
      unfold lstI lstB
      rw [show i = n.toNat by omega]
    rw [e] at hp ⊢
    have hp' : ∀ v : Nat, (v : Int) < n → rd x5 (v : Int) = plc (lstB n l) v - 1 := fun v hv => hp v (by omega)
    refine Ev.succ ?_
    simp only [tangramref14_Bare.l1]
    have := named_ev n l x5 h h5 (plc_Inj hp')
    rw [nr_ren h hp'] at this
    exact Ev.neg (by omega) (Ev.andThen this (Ev.val rfl))
  | succ d ih =>
    intro i x5 hi h5 hp hz
    have hs := lstI_len l i
    have hni : (i : Int) ∉ lstI l i := fun x => by have := lstI_lt l i x; omega
    have z := hz i (Nat.le_refl _) (by omega)
    have it : ((i : Nat) : Int).toNat = i := by omega
    refine Ev.succ ?_
    simp only [tangramref14_Bare.l1]
    rw [wn i (by omega), it]
    refine Ev.pos (by omega) (Ev.pos (by omega) (Ev.pos (by omega) ?_))
    have sc := lstI_succ l i
    refine Ev.ite (fun c => ?_) (fun c => ?_)
    · rw [if_neg (z.1 c)] at sc
      have := ih (i + 1) (x5.set i (-1)) (by omega) (by rw [List.length_set]; exact h5) (fun v hv => by
        rw [rd_set x5 i v _ (by omega), sc]
        by_cases q : i = v
        · subst q
          rw [if_pos rfl, plc, if_neg hni]
          omega
        · rw [if_neg q]
          exact hp v (by omega)) (fun v h1 h2 => by
        rw [rd_set x5 i v _ (by omega), if_neg (by omega)]
        exact hz v (by omega) h2)
      rw [sc] at this
      exact this
    · have hc : inc l (i : Int) := by
        by_cases q : inc l (i : Int)
        · exact q
        · exact absurd (z.2 q) c
      rw [if_pos hc] at sc
      have := ih (i + 1) (x5.set i ((lstI l i).length : Int)) (by omega) (by rw [List.length_set]; exact h5) (fun v hv => by
        rw [rd_set x5 i v _ (by omega), sc, plc_snoc _ _ _ hni]
        by_cases q : i = v
        · subst q
          rw [if_pos rfl, if_pos rfl]
          omega
        · rw [if_neg q, if_neg (by omega)]
          exact hp v (by omega)) (fun v h1 h2 => by
        rw [rd_set x5 i v _ (by omega), if_neg (by omega)]
        exact hz v (by omega) h2)
      rw [sc] at this
      exact Ev.pos (by omega) this
theorem bare14_l0 (n : Int) (l : List S46) (h : Ok n l) : ∀ (d i : Nat) (x5 : List Int), i + d = l.length → (x5.length : Int) = n →
    (∀ v : Nat, (v : Int) < n → (rd x5 (v : Int) = 0 ↔ ¬ inc (l.take i) (v : Int))) →
    Ev (fun k => tangramref14_Bare.l0 k x5 (i : Int) n l) (((lstB n l).length : Int), api_Edge_51.srt ((l.filterMap (ren (lstB n l))).map norm), lstB n l, 0) := by
  have hn := h.1
  have hl := h.2.1
  intro d
  induction d with
  | zero =>
    intro i x5 hi h5 hz
    rw [List.take_of_length_le (show l.length ≤ i by omega)] at hz
    refine Ev.succ ?_
    simp only [tangramref14_Bare.l0]
    refine Ev.neg (by omega) ?_
    have := bare14_l1 n l h n.toNat 0 x5 (by omega) h5 (fun v hv => by omega) (fun v _ hv => hz v hv)
    simpa [lstI, fromL] using this
  | succ d ih =>
    intro i x5 hi h5 hz
    have hi' : i < l.length := by omega
    have hb := h.get i hi'
    rw [← G_get l i hi'] at hb
    unfold Ed at hb
    refine Ev.succ ?_
    simp only [tangramref14_Bare.l0, rdG]
    rw [wi i l (by omega) hi']
    refine Ev.pos (by omega) (Ev.pos (by omega) (Ev.pos (by omega) (Ev.pos (by omega) (Ev.pos (by omega) (Ev.pos (by omega) (ih (i + 1) _ (by omega) (by simp only [List.length_set]; exact h5) (fun v hv => ?_)))))))
    rw [rd_set _ _ v _ (by simp only [List.length_set]; omega), rd_set _ _ v _ (by omega), inc_take l i hi']
    have qv := hz v hv
    by_cases e1 : (G l i).f1.toNat = v
    · rw [if_pos e1]
      exact ⟨fun x => by omega, fun x => absurd (.inr (.inr (by omega))) x⟩
    · rw [if_neg e1]
      by_cases e0 : (G l i).f0.toNat = v
      · rw [if_pos e0]
        exact ⟨fun x => by omega, fun x => absurd (.inr (.inl (by omega))) x⟩
      · rw [if_neg e0, qv]
        exact ⟨fun x y => y.elim x (fun y => by omega), fun x y => x (.inl y)⟩
theorem bare14_ev (n : Int) (l : List S46) : Ev (fun k => tangramref14_Bare.f k n l) (bareF n l) := by
  unfold tangramref14_Bare.f bareF
  refine Ev.andThen (valid3_ev n l) ?_
  by_cases h : Ok n l
  · have hn := h.1
    rw [decide_eq_true h, if_pos h]
    refine Ev.pos (by simp) (Ev.pos (by omega) (Ev.pos (by omega) ?_))
    exact bare14_l0 n l h l.length 0 _ (by omega) (by simp; omega) (fun v hv => by rw [rd_replicate]; simp [inc])
  · rw [decide_eq_false h, if_neg h]
    exact Ev.neg (by simp) (Ev.val rfl)
end Go.Proofs.Ytdaeaejmikhmcaa.Pure
