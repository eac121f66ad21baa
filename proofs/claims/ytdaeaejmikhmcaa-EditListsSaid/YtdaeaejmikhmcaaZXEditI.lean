-- Plain facts on the printed functions of layer 14 (edit): Induced.
import Derived.Test.YtdaeaejmikhmcaaZXEditA
import Derived.Test.YtdaeaejmikhmcaaZPEditCx6
set_option linter.unusedVariables false
set_option linter.unusedSimpArgs false
namespace Go.Proofs.Ytdaeaejmikhmcaa.Pure
open Go.RowKit Go.Proofs.Ytdaeaejmikhmcaa.PEditC Go.Proofs.YtdaeaejmikhmcaaW.PrintWords Go.Proofs.YtdaeaejmikhmcaaW.PrintLast Go.Proofs.YtdaeaejmikhmcaaX
/-! Induced -/
def plc (t : List Int) (v : Int) : Int := if v ∈ t then (t.idxOf v : Int) + 1 else 0
theorem plc_nonneg (t : List Int) (v : Int) : 0 ≤ plc t v := by unfold plc; split <;> omega
theorem plc_le (t : List Int) (v : Int) : plc t v ≤ t.length := by
  unfold plc
  split
  · rename_i h
    have := List.idxOf_lt_length_of_mem h
    omega
  · omega
theorem plc_take (t : List Int) (i : Nat) (hi : i < t.length) (hd : t.Nodup) (v : Int) : plc (t.take (i + 1)) v = if v = t[i] then (i : Int) + 1 else plc (t.take i) v := by
  have hni : t[i] ∉ t.take i := by
    intro h
    obtain ⟨j, hj, e⟩ := List.mem_iff_getElem.1 h
    rw [List.getElem_take] at e
    have := (List.getElem_inj hd).1 e
    simp at hj
    omega
  have hlen : (t.take i).length = i := by simp; omega
  rw [List.take_succ_eq_append_getElem hi]
  generalize t.take i = q at hni hlen ⊢
  generalize t[i] = y at hni ⊢
  unfold plc
  by_cases e : v = y
  · subst e
    rw [if_pos rfl, if_pos (by simp), List.idxOf_append, if_neg hni, List.idxOf_cons_self]
    omega
  · rw [if_neg e]
    by_cases hm : v ∈ q
    · rw [if_pos (by simp [hm]), if_pos hm, List.idxOf_append, if_pos hm]
    · rw [if_neg (by simp [hm, e]), if_neg hm]
def ren (t : List Int) (e : S46) : Option S46 := if plc t e.f0 > 0 ∧ plc t e.f1 > 0 then some ⟨plc t e.f0 - 1, plc t e.f1 - 1⟩ else none
theorem induced_l1 (n : Int) (l : List S46) (t x6 : List Int) (h : Ok n l) (h6 : (x6.length : Int) = n) (hp : ∀ v : Nat, (v : Int) < n → rd x6 (v : Int) = plc t v) (ht : t.length ≤ 1048576) : ∀ (d i : Nat), i + d = l.length →
    Ev (fun k => edit_Induced.l1 k t x6 ((l.take i).filterMap (ren t)) l (l.length : Int) (i : Int)) ((t.length : Int), api_Edge_51.srt ((l.filterMap (ren t)).map norm), 0) := by
  have hl := h.2.1
  intro d
  induction d with
  | zero =>
    intro i hi
    refine Ev.succ ?_
    simp only [edit_Induced.l1]
    refine Ev.neg (by omega) ?_
    rw [List.take_of_length_le (show l.length ≤ i by omega)]
    exact Ev.andThen (made_ev _ _ (by have := List.length_filterMap_le (ren t) l; omega)) (Ev.val rfl)
  | succ d ih =>
    intro i hi
    have hi' : i < l.length := by omega
    have hb := h.get i hi'
    rw [← G_get l i hi'] at hb
    unfold Ed at hb
    have next : ∀ o : Option S46, ren t (G l i) = o → (l.take (i + 1)).filterMap (ren t) = (l.take i).filterMap (ren t) ++ o.toList := by
      intro o ho
      rw [List.take_succ_eq_append_getElem hi', List.filterMap_append, ← G_get l i hi']
      subst ho
      cases hr : ren t (G l i) <;> simp [hr]
    have p0 : rd x6 (G l i).f0 = plc t (G l i).f0 := by
      have := hp (G l i).f0.toNat (by omega)
      rwa [show ((G l i).f0.toNat : Int) = (G l i).f0 by omega] at this
    have p1 : rd x6 (G l i).f1 = plc t (G l i).f1 := by
      have := hp (G l i).f1.toNat (by omega)
      rwa [show ((G l i).f1.toNat : Int) = (G l i).f1 by omega] at this
    have q0 := plc_le t (G l i).f0
    have q1 := plc_le t (G l i).f1
    have r0 := plc_nonneg t (G l i).f0
    have r1 := plc_nonneg t (G l i).f1
    have hx : ((l.take i).filterMap (ren t)).length < 8796093022208 := by
      have := List.length_filterMap_le (ren t) (l.take i)
      simp at this
      omega
    refine Ev.succ ?_
    simp only [edit_Induced.l1, rdG]
    rw [wi i l (by omega) hi']
    refine Ev.pos (by omega) (Ev.pos (by omega) (Ev.pos (by omega) (Ev.pos (by omega) (Ev.pos (by omega) ?_))))
    refine Ev.ite (fun c0 => ?_) (fun c0 => ?_)
    · refine Ev.pos (by omega) (Ev.pos (by omega) ?_)
      refine Ev.ite (fun c1 => ?_) (fun c1 => ?_)
      · refine Ev.pos hx ?_
        rw [w64 (x := rd x6 (G l i).f0 - 1) (by omega) (by omega), w64 (x := rd x6 (G l i).f1 - 1) (by omega) (by omega)]
        have := next (some ⟨rd x6 (G l i).f0 - 1, rd x6 (G l i).f1 - 1⟩) (by rw [ren, if_pos ⟨by omega, by omega⟩, p0, p1])
        have e := ih (i + 1) (by omega)
        rw [this] at e
        exact e
      · have := next none (by rw [ren, if_neg (fun x => c1 (by have := x.2; omega))])
        have e := ih (i + 1) (by omega)
        rw [this] at e
        simpa using e
    · have := next none (by rw [ren, if_neg (fun x => c0 (by have := x.1; omega))])
      have e := ih (i + 1) (by omega)
      rw [this] at e
      simpa using e
theorem induced_l0 (n : Int) (l : List S46) (t : List Int) (h : Ok n l) (hd : t.Nodup) (hb : ∀ v ∈ t, 0 ≤ v ∧ v < n) (ht : t.length ≤ 1048576) : ∀ (d i : Nat) (x6 : List Int), i + d = t.length → (x6.length : Int) = n →
    (∀ v : Nat, (v : Int) < n → rd x6 (v : Int) = plc (t.take i) v) → Ev (fun k => edit_Induced.l0 k t x6 t (t.length : Int) (i : Int) n l) ((t.length : Int), api_Edge_51.srt ((l.filterMap (ren t)).map norm), 0) := by
  intro d
  induction d with
  | zero =>
    intro i x6 hi h6 hp
    refine Ev.succ ?_
    simp only [edit_Induced.l0]
    refine Ev.neg (by omega) ?_
    have := induced_l1 n l t x6 h h6 (fun v hv => by rw [hp v hv, List.take_of_length_le (by omega)]) ht l.length 0 (by omega)
    simpa using this
  | succ d ih =>
    intro i x6 hi h6 hp
    have hi' : i < t.length := by omega
    have hv := hb t[i] (List.getElem_mem hi')
    have hni : t[i] ∉ t.take i := by
      intro hm
      obtain ⟨j, hj, e⟩ := List.mem_iff_getElem.1 hm
      rw [List.getElem_take] at e
      have := (List.getElem_inj hd).1 e
      simp at hj
      omega
    have hz : rd x6 t[i] = 0 := by
      have := hp t[i].toNat (by omega)
      rw [show (t[i].toNat : Int) = t[i] by omega] at this
      rw [this, plc, if_neg hni]
    refine Ev.succ ?_
    simp only [edit_Induced.l0]
    rw [rd_nat t i hi', hz]
    refine Ev.pos (by omega) (Ev.pos (by omega) (Ev.pos (by omega) (Ev.neg (by omega) (Ev.neg (by omega) (Ev.pos (by omega) (Ev.pos (by omega) (Ev.neg (by omega) ?_)))))))
    rw [show wrap64 ((i : Int) + 1) = ((i + 1 : Nat) : Int) by rw [w64 (by omega) (by omega)]; omega]
    refine ih (i + 1) _ (by omega) (by rw [List.length_set]; exact h6) (fun v hv' => ?_)
    rw [rd_set x6 t[i].toNat v _ (by omega), plc_take t i hi' hd]
    by_cases e : (v : Int) = t[i]
    · rw [if_pos (by omega), if_pos e]
      omega
    · rw [if_neg (by omega), if_neg e]
      exact hp v hv'
theorem induced_ev (n : Int) (l : List S46) (t : List Int) (h : Ok n l) (hd : t.Nodup) (hb : ∀ v ∈ t, 0 ≤ v ∧ v < n) (ht : t.length ≤ 1048576) :
    Ev (fun k => edit_Induced.f k n l t) ((t.length : Int), api_Edge_51.srt ((l.filterMap (ren t)).map norm), 0) := by
  have hn := h.1
  unfold edit_Induced.f
  refine Ev.andThen (valid_ev n l) ?_
  rw [decide_eq_true h]
  refine Ev.pos rfl (Ev.pos (by omega) (Ev.pos (by omega) ?_))
  exact induced_l0 n l t h hd hb ht t.length 0 _ (by omega) (by simp; omega) (fun v hv => by rw [rd_replicate]; simp [plc])
end Go.Proofs.Ytdaeaejmikhmcaa.Pure
