/- EditNamed: other names and back give the graph again; Induced of all vertices in an order is Relabel by their places; Induced to Bare's list is Bare, Bare of that is it again; for every input of the row. -/
import Derived.Test.YtdaeaejmikhmcaaZPEditCx31
import Derived.Test.YtdaeaejmikhmcaaZXEditD
set_option linter.unusedVariables false
set_option linter.unusedSimpArgs false
namespace Go.Proofs.Ytdaeaejmikhmcaa.Pure
open Go.RowKit Go.Proofs.Ytdaeaejmikhmcaa.PEditC Go.Proofs.YtdaeaejmikhmcaaW.PrintWords Go.Proofs.YtdaeaejmikhmcaaW.PrintLast Go.Proofs.YtdaeaejmikhmcaaX

def EditNamedP : Prop := ∀ (a0_0 : Int) (l0_1 : List (S46)) (l1 : List Int), (Lit.int .i64 a0_0).wf = true → l0_1.length ≤ maxLen → l0_1.length * 16 ≤ 140737488351232 → (∀ x ∈ l0_1, (Lit.int .i64 x.f0).wf = true ∧ (Lit.int .i64 x.f1).wf = true) → l1.length ≤ maxLen → l1.length * 8 ≤ 140737488351232 → (∀ x ∈ l1, (Lit.int .i64 x).wf = true) → ∃ k, tangramlaw14_EditNamed.f k a0_0 l0_1 l1 = some true
theorem nodup_len : ∀ (n : Nat) (t : List Int), t.Nodup → (∀ v ∈ t, 0 ≤ v ∧ v < (n : Int)) → t.length ≤ n
  | 0, t, _, h => by
    cases t with
    | nil => exact Nat.le_refl _
    | cons a t => have := h a List.mem_cons_self; omega
  | n + 1, t, hd, h => by
    have h1 := nodup_len n (t.erase (n : Int)) (hd.erase _) (fun v hv => by
      have := (hd.mem_erase_iff).1 hv
      have := h v this.2
      omega)
    rw [List.length_erase] at h1
    split at h1 <;> omega
theorem nodup_all {n : Nat} {t : List Int} (hd : t.Nodup) (h : ∀ v ∈ t, 0 ≤ v ∧ v < (n : Int)) (hl : t.length = n) {v : Int} (h0 : 0 ≤ v) (h1 : v < n) : v ∈ t := by
  by_cases c : v ∈ t
  · exact c
  · have := nodup_len n (v :: t) (List.nodup_cons.2 ⟨c, hd⟩) (fun w hw => by
      rcases List.mem_cons.1 hw with rfl | hw
      · omega
      · exact h w hw)
    simp at this
    omega
/-- A list that names each of 0 .. n-1 once. -/
structure IsPerm (n : Int) (t : List Int) : Prop where
  pos : 0 ≤ n ∧ n ≤ 1048576
  len : (t.length : Int) = n
  nodup : t.Nodup
  range : ∀ v ∈ t, 0 ≤ v ∧ v < n
theorem IsPerm.of {n : Int} {t : List Int} (hn : 0 ≤ n ∧ n ≤ 1048576) (hl : (t.length : Int) = n) (h : PermP n t) : IsPerm n t := by
  refine ⟨hn, hl, ?_, fun v hv => ?_⟩
  · unfold List.Nodup
    rw [List.pairwise_iff_getElem]
    intro i j hi hj hij e
    have := (h j hj).2.2
    rw [rd_nat t j hj] at this
    exact this (by rw [← e]; exact List.mem_take_iff_getElem.2 ⟨i, by omega, rfl⟩)
  · obtain ⟨j, hj, rfl⟩ := List.mem_iff_getElem.1 hv
    have := h j hj
    unfold Gp at this
    rw [rd_nat t j hj] at this
    exact ⟨this.1, this.2.1⟩
theorem IsPerm.permP {n : Int} {t : List Int} (h : IsPerm n t) : PermP n t := by
  intro j hj
  unfold Gp
  rw [rd_nat t j hj]
  have := h.range _ (List.getElem_mem hj)
  refine ⟨this.1, this.2, fun hm => ?_⟩
  obtain ⟨i, hi, e⟩ := List.mem_iff_getElem.1 hm
  rw [List.getElem_take] at e
  have := (List.getElem_inj h.nodup).1 e
  simp at hi
  omega
theorem IsPerm.all {n : Int} {t : List Int} (h : IsPerm n t) {v : Int} (h0 : 0 ≤ v) (h1 : v < n) : v ∈ t := by
  have := h.pos
  have := h.len
  exact nodup_all (n := n.toNat) h.nodup (fun v hv => by have := h.range v hv; omega) (by omega) h0 (by omega)
theorem IsPerm.rd_range {n : Int} {t : List Int} (h : IsPerm n t) {v : Int} (h0 : 0 ≤ v) (h1 : v < n) : 0 ≤ rd t v ∧ rd t v < n := by
  have := h.len
  exact h.range _ (rd_mem t v h0 (by omega))
theorem IsPerm.inj {n : Int} {t : List Int} (h : IsPerm n t) {v w : Int} (h0 : 0 ≤ v) (h1 : v < n) (k0 : 0 ≤ w) (k1 : w < n) (e : rd t v = rd t w) : v = w := by
  have := h.len
  obtain ⟨a, rfl⟩ := Int.eq_ofNat_of_zero_le h0
  obtain ⟨b, rfl⟩ := Int.eq_ofNat_of_zero_le k0
  rw [rd_nat t a (by omega), rd_nat t b (by omega)] at e
  have := (List.getElem_inj h.nodup).1 e
  omega
/-- The inverse. -/
theorem inv_perm {n : Int} {t bk : List Int} (h : IsPerm n t) (hb : (bk.length : Int) = n) (hv : ∀ v : Nat, (v : Int) < n → rd bk (v : Int) = plc t v - 1) :
    IsPerm n bk ∧ (∀ v, 0 ≤ v → v < n → rd bk (rd t v) = v) ∧ (∀ v, 0 ≤ v → v < n → rd t (rd bk v) = v) := by
  have hn := h.pos
  have hl := h.len
  have hv' : ∀ v, 0 ≤ v → v < n → rd bk v = plc t v - 1 := fun v h0 h1 => by
    obtain ⟨a, rfl⟩ := Int.eq_ofNat_of_zero_le h0
    exact hv a h1
  have fw : ∀ v, 0 ≤ v → v < n → rd t (rd bk v) = v ∧ 0 ≤ rd bk v ∧ rd bk v < n := by
    intro v h0 h1
    have hm := h.all h0 h1
    have hi := List.idxOf_lt_length_of_mem hm
    have e : rd bk v = (t.idxOf v : Int) := by
      rw [hv' v h0 h1, plc, if_pos hm]
      omega
    rw [e]
    refine ⟨?_, by omega, by omega⟩
    rw [rd_nat t _ hi]
    exact List.getElem_idxOf hi
  have bw : ∀ v, 0 ≤ v → v < n → rd bk (rd t v) = v := by
    intro v h0 h1
    have hr := h.rd_range h0 h1
    have := fw (rd t v) hr.1 hr.2
    exact h.inj this.2.1 this.2.2 h0 h1 this.1
  refine ⟨⟨hn, hb, ?_, ?_⟩, bw, fun v h0 h1 => (fw v h0 h1).1⟩
  · unfold List.Nodup
    rw [List.pairwise_iff_getElem]
    intro i j hi hj hij e
    rw [← rd_nat bk i hi, ← rd_nat bk j hj] at e
    have h1 := (fw i (by omega) (by omega)).1
    have h2 := (fw j (by omega) (by omega)).1
    rw [e] at h1
    omega
  · intro v hm
    obtain ⟨j, hj, rfl⟩ := List.mem_iff_getElem.1 hm
    rw [← rd_nat bk j hj]
    exact (fw j (by omega) (by omega)).2
/-! relabelled graphs -/
theorem norm_rl {n : Int} {t : List Int} (h : IsPerm n t) {e : S46} (he : Ed n e) :
    (norm (rl t e) = ⟨rd t e.f0, rd t e.f1⟩ ∧ rd t e.f0 < rd t e.f1) ∨ (norm (rl t e) = ⟨rd t e.f1, rd t e.f0⟩ ∧ rd t e.f1 < rd t e.f0) := by
  unfold Ed at he
  have hne : rd t e.f0 ≠ rd t e.f1 := fun x => by
    have := h.inj (by omega) (by omega) (by omega) (by omega) x
    omega
  unfold norm rl mn mx
  simp only [S46.mk.injEq]
  omega
theorem norm_ed {n : Int} {t : List Int} (h : IsPerm n t) {e : S46} (he : Ed n e) : Ed n (norm (rl t e)) := by
  have h0 := h.rd_range (v := e.f0) (by unfold Ed at he; omega) (by unfold Ed at he; omega)
  have h1 := h.rd_range (v := e.f1) (by unfold Ed at he; omega) (by unfold Ed at he; omega)
  rcases norm_rl h he with ⟨q, q2⟩ | ⟨q, q2⟩ <;> (rw [q]; unfold Ed; simp only; omega)
theorem norm_back {n : Int} {t bk : List Int} (h : IsPerm n t) (h' : IsPerm n bk) (hb : ∀ v, 0 ≤ v → v < n → rd bk (rd t v) = v) {e : S46} (he : Ed n e) : norm (rl bk (norm (rl t e))) = e := by
  have b0 := hb e.f0 (by unfold Ed at he; omega) (by unfold Ed at he; omega)
  have b1 := hb e.f1 (by unfold Ed at he; omega) (by unfold Ed at he; omega)
  unfold Ed at he
  have hh : Ed n e := he
  cases e with
  | mk u v =>
    simp only at b0 b1 he
    rcases norm_rl h hh with ⟨q, q2⟩ | ⟨q, q2⟩ <;>
    · rw [q]
      unfold norm rl mn mx
      simp only [S46.mk.injEq]
      rw [b0, b1]
      omega
theorem rel_ok {n : Int} {l : List S46} {t bk : List Int} (hg : Ok n l) (h : IsPerm n t) (h' : IsPerm n bk) (hb : ∀ v, 0 ≤ v → v < n → rd bk (rd t v) = v) :
    Ok n (api_Edge_51.srt ((l.map (rl t)).map norm)) ∧ (api_Edge_51.srt ((l.map (rl t)).map norm)).length = l.length ∧ api_Edge_51.srt (((api_Edge_51.srt ((l.map (rl t)).map norm)).map (rl bk)).map norm) = l := by
  have hp := api_Edge_51.srt_perm ((l.map (rl t)).map norm)
  have hs := api_Edge_51.srt_sorted ((l.map (rl t)).map norm)
  have hlen : (api_Edge_51.srt ((l.map (rl t)).map norm)).length = l.length := by rw [hp.length_eq]; simp
  have back : ((l.map (rl t)).map norm).map (fun e => norm (rl bk e)) = l := by
    rw [List.map_map, List.map_map]
    conv => rhs; rw [← List.map_id l]
    refine List.map_congr_left fun e he => ?_
    exact norm_back h h' hb (hg.mem he)
  have hnd : ((l.map (rl t)).map norm).Nodup := by
    have hl : l.Nodup := hg.sorted.imp (fun {a b} hab e => by subst e; unfold Lt at hab; omega)
    unfold List.Nodup at hl ⊢
    have : (((l.map (rl t)).map norm).map (fun e => norm (rl bk e))).Pairwise (· ≠ ·) := by rw [back]; exact hl
    rw [List.pairwise_map] at this
    exact this.imp (fun {a b} hab e => hab (by rw [e]))
  refine ⟨?_, hlen, ?_⟩
  · refine Ok.of hg.1.1 hg.1.2 (by rw [hlen]; exact hg.2.1) (fun e he => ?_) ?_
    · have := hp.mem_iff.1 he
      rw [List.map_map] at this
      obtain ⟨c, hc, rfl⟩ := List.mem_map.1 this
      exact norm_ed h (hg.mem hc)
    · have hd2 : (api_Edge_51.srt ((l.map (rl t)).map norm)).Nodup := hp.nodup_iff.2 hnd
      unfold List.Nodup at hd2
      refine (hs.and hd2).imp (fun {a b} hab => ?_)
      obtain ⟨h1, h2⟩ := hab
      unfold api_Edge_51.Le at h1
      unfold Lt
      by_cases c : a.f0 < b.f0
      · exact .inl c
      · refine .inr ⟨by omega, ?_⟩
        by_cases c2 : a.f1 = b.f1
        · exact absurd (show a = b by cases a; cases b; simp only [S46.mk.injEq]; simp only at h1 c c2; omega) h2
        · omega
  · refine srt_eq ?_ hg.sorted
    have := (hp.map (fun e => norm (rl bk e)))
    rw [back] at this
    rw [List.map_map]
    exact this.symm
theorem ind_eq {n : Int} {l : List S46} {t bk : List Int} (hg : Ok n l) (h : IsPerm n t) (h' : IsPerm n bk) (hb : ∀ v, 0 ≤ v → v < n → rd bk (rd t v) = v) : l.filterMap (ren bk) = l.map (rl t) := by
  rw [ren_map (fun e he => by have := hg.mem he; unfold Ed at this; exact ⟨h'.all (by omega) (by omega), h'.all (by omega) (by omega)⟩)]
  refine List.map_congr_left fun e he => ?_
  have hed := hg.mem he
  unfold Ed at hed
  have key : ∀ v, 0 ≤ v → v < n → plc bk v - 1 = rd t v := by
    intro v h0 h1
    have hr := h.rd_range h0 h1
    have hl := h'.len
    have e1 := hb v h0 h1
    obtain ⟨a, ha⟩ := Int.eq_ofNat_of_zero_le hr.1
    rw [ha] at e1 hr ⊢
    rw [rd_nat bk a (by omega)] at e1
    unfold plc
    rw [if_pos (h'.all h0 h1)]
    have := List.Nodup.idxOf_getElem h'.nodup a (by omega)
    rw [e1] at this
    omega
  unfold rn rl
  rw [key _ (by omega) (by omega), key _ (by omega) (by omega)]
/-! the law's own loops -/
theorem alike_l0 (t : List Int) (ht : t.length ≤ 4611686018427387904) : ∀ (d i : Nat), i + d = t.length → Ev (fun k => tangramref11_Alike.l0 k t t (i : Int)) true := by
  intro d
  induction d with
  | zero =>
    intro i hi
    refine Ev.succ ?_
    simp only [tangramref11_Alike.l0]
    exact Ev.neg (by omega) (Ev.val rfl)
  | succ d ih =>
    intro i hi
    refine Ev.succ ?_
    simp only [tangramref11_Alike.l0]
    refine Ev.pos (by omega) (Ev.pos (by omega) (Ev.pos (by omega) (Ev.pos (by trivial) ?_)))
    rw [show wrap64 ((i : Int) + 1) = ((i + 1 : Nat) : Int) by rw [w64 (by omega) (by omega)]; omega]
    exact ih (i + 1) (by omega)
theorem alike_ev (t : List Int) (ht : t.length ≤ 4611686018427387904) : Ev (fun k => tangramref11_Alike.f k t t) true := by
  unfold tangramref11_Alike.f
  exact Ev.pos rfl (alike_l0 t ht t.length 0 (by omega))
theorem plc_snoc (q : List Int) (y v : Int) : plc (q ++ [y]) v = if v ∈ q then plc q v else if v = y then (q.length : Int) + 1 else 0 := by
  unfold plc
  by_cases hm : v ∈ q
  · rw [if_pos (by simp [hm]), if_pos hm, if_pos hm, List.idxOf_append, if_pos hm]
  · rw [if_neg hm]
    by_cases e : v = y
    · subst e
      rw [if_pos rfl, if_pos (by simp), List.idxOf_append, if_neg hm, List.idxOf_cons_self]
      omega
    · rw [if_neg e, if_neg (by simp [hm, e])]
theorem plc_zero (q : List Int) (v : Int) : plc q v = 0 ↔ v ∉ q := by
  unfold plc
  split <;> rename_i h
  · exact ⟨fun x => by omega, fun x => absurd h x⟩
  · exact ⟨fun _ => h, fun _ => rfl⟩
theorem named_l0 (n : Int) (l : List S46) (t : List Int) (d16 aN : Int) (aE : List S46) (hn : 0 ≤ n ∧ n ≤ 1048576) (ht : t.length ≤ 17592186044416)
    (hA : ¬ ((t.length : Int) = n ∧ PermP n t) → ∀ x17, Ev (fun k => tangramlaw14_EditNamed.j2 k d16 x17 true n l aN aE) true)
    (hB : (t.length : Int) = n → PermP n t → ∀ x17 : List Int, (x17.length : Int) = n → (∀ v : Nat, (v : Int) < n → rd x17 (v : Int) = plc t v) → Ev (fun k => tangramlaw14_EditNamed.j2 k d16 x17 false n l aN aE) true) :
    ∀ (d i : Nat) (x17 : List Int) (met : Int), i + d = t.length → (x17.length : Int) = n →
    ((t.length : Int) = n → (∀ v : Nat, (v : Int) < n → rd x17 (v : Int) = plc (t.take i) v) ∧ 0 ≤ met ∧ met ≤ i ∧ (met = i ↔ ∀ j, j < i → Gp n t j)) →
    Ev (fun k => tangramlaw14_EditNamed.l0 k t d16 x17 met t (t.length : Int) (i : Int) n l aN aE) true := by
  intro d
  induction d with
  | zero =>
    intro i x17 met hi h17 hx
    refine Ev.succ ?_
    simp only [tangramlaw14_EditNamed.l0]
    refine Ev.neg (by omega) (Ev.ite (fun c => ?_) (fun c => hA (fun x => c x.1) _))
    obtain ⟨h1, h2, h3, h4⟩ := hx c
    by_cases q : PermP n t
    · have : met = n := by
        have := h4.2 (fun j hj => q j (by omega))
        omega
      rw [show (met != n) = false by simp [this]]
      refine hB c q x17 h17 (fun v hv => ?_)
      have := h1 v hv
      rwa [List.take_of_length_le (by omega)] at this
    · have : met ≠ n := fun e => q (fun j hj => h4.1 (by omega) j (by omega))
      rw [show (met != n) = true by simp [this]]
      exact hA (fun x => q x.2) _
  | succ d ih =>
    intro i x17 met hi h17 hx
    have hi' : i < t.length := by omega
    have w1 : wrap64 ((i : Int) + 1) = ((i + 1 : Nat) : Int) := by rw [w64 (by omega) (by omega)]; omega
    have miss : (¬ ((t.length : Int) = n ∧ Gp n t i)) → ((t.length : Int) = n → ∀ v : Nat, (v : Int) < n → plc (t.take (i + 1)) v = plc (t.take i) v) → Ev (fun k => tangramlaw14_EditNamed.l0 k t d16 x17 met t (t.length : Int) (wrap64 ((i : Int) + 1)) n l aN aE) true := by
      intro hm hp
      rw [w1]
      refine ih (i + 1) x17 met (by omega) h17 (fun c => ?_)
      obtain ⟨h1, h2, h3, h4⟩ := hx c
      refine ⟨fun v hv => by rw [hp c v hv]; exact h1 v hv, h2, by omega, fun e => by omega, fun q => ?_⟩
      exact absurd ⟨c, q i (by omega)⟩ hm
    refine Ev.succ ?_
    simp only [tangramlaw14_EditNamed.l0]
    refine Ev.pos (by omega) (Ev.pos (by omega) (Ev.pos (by omega) ?_))
    refine Ev.ite (fun c => ?_) (fun c => miss (fun x => c x.1) (fun c' => absurd c' c))
    obtain ⟨h1, h2, h3, h4⟩ := hx c
    have snoc : ∀ v : Int, plc (t.take (i + 1)) v = if v ∈ t.take i then plc (t.take i) v else if v = rd t (i : Int) then (i : Int) + 1 else 0 := fun v => by
      rw [List.take_succ_eq_append_getElem hi', plc_snoc, rd_nat t i hi', List.length_take, Nat.min_eq_left (by omega)]
    have off : ¬ (0 ≤ rd t (i : Int) ∧ rd t (i : Int) < n) → ∀ v : Nat, (v : Int) < n → plc (t.take (i + 1)) v = plc (t.take i) v := fun q v hv => by
      rw [snoc]
      by_cases m : (v : Int) ∈ t.take i
      · rw [if_pos m]
      · rw [if_neg m, if_neg (by omega), (plc_zero _ _).2 m]
    refine Ev.ite (fun c0 => ?_) (fun c0 => miss (fun x => c0 x.2.1) (fun _ => off (fun x => c0 (by omega))))
    refine Ev.ite (fun c1 => ?_) (fun c1 => miss (fun x => c1 x.2.2.1) (fun _ => off (fun x => c1 (by omega))))
    refine Ev.pos (by omega) (Ev.pos (by omega) ?_)
    have hq := h1 (rd t (i : Int)).toNat (by omega)
    rw [show ((rd t (i : Int)).toNat : Int) = rd t (i : Int) by omega] at hq
    refine Ev.ite (fun c2 => ?_) (fun c2 => miss (fun x => c2 (by rw [hq]; exact (plc_zero _ _).2 x.2.2.2)) (fun _ v hv => ?_))
    · rw [hq, plc_zero] at c2
      have hg : Gp n t i := ⟨by omega, c1, c2⟩
      rw [w1, w64 (x := met + 1) (by omega) (by omega)]
      refine ih (i + 1) _ (met + 1) (by omega) (by rw [List.length_set]; exact h17) (fun _ => ⟨fun v hv => ?_, by omega, by omega, fun e j hj => ?_, fun q => ?_⟩)
      · rw [rd_set x17 _ v _ (by omega), snoc]
        by_cases q : (rd t (i : Int)).toNat = v
        · rw [if_pos q, if_neg (by rw [show (v : Int) = rd t (i : Int) by omega]; exact c2), if_pos (by omega)]
          omega
        · rw [if_neg q, h1 v hv]
          by_cases m : (v : Int) ∈ t.take i
          · rw [if_pos m]
          · rw [if_neg m, if_neg (by omega), (plc_zero _ _).2 m]
      · by_cases e2 : j = i
        · subst e2; exact hg
        · exact h4.1 (by omega) j (by omega)
      · have := h4.2 (fun j hj => q j (by omega))
        omega
    · have m : rd t (i : Int) ∈ t.take i := by
        by_cases m : rd t (i : Int) ∈ t.take i
        · exact m
        · exact absurd (by rw [hq]; exact (plc_zero _ _).2 m) c2
      rw [snoc]
      by_cases m2 : (v : Int) ∈ t.take i
      · rw [if_pos m2]
      · rw [if_neg m2, if_neg (fun e => m2 (by rw [e]; exact m)), (plc_zero _ _).2 m2]
theorem named_l1 (n : Int) (l : List S46) (t : List Int) (hg : Ok n l) (h : IsPerm n t) : ∀ (d i : Nat) (x17 : List Int), (i : Int) + d = n → (x17.length : Int) = n →
    (∀ v : Nat, (v : Int) < n → rd x17 (v : Int) = if v < i then plc t v - 1 else plc t v) →
    Ev (fun k => tangramlaw14_EditNamed.l1 k 0 x17 n (i : Int) n l n (api_Edge_51.srt ((l.map (rl t)).map norm))) true := by
  have hn := h.pos
  intro d
  induction d with
  | zero =>
    intro i x17 hi h17 hx
    have hbk := inv_perm h h17 (fun v hv => by rw [hx v hv, if_pos (by omega)])
    obtain ⟨hp, hb, _⟩ := hbk
    have ro := rel_ok hg h hp hb
    have hx17 := hp.len
    refine Ev.succ ?_
    simp only [tangramlaw14_EditNamed.l1]
    refine Ev.neg (by omega) ?_
    have r1 := relabel_ev n (api_Edge_51.srt ((l.map (rl t)).map norm)) x17
    rw [relF, if_pos ro.1, if_pos ⟨hp.len, hp.permP⟩, relR, ro.2.2] at r1
    have i1 := induced_ev n l x17 hg hp.nodup (fun v hv => hp.range v hv) (by omega)
    rw [ind_eq hg h hp hb, hx17] at i1
    refine Ev.andThen r1 (Ev.andThen i1 (Ev.pos (by trivial) (Ev.pos (by trivial) (Ev.pos (by trivial) (Ev.pos (by rw [ro.2.1]) ?_)))))
    have hl := hg.2.1
    exact Ev.andThen (same_ev n l (by omega)) (Ev.tt (Ev.andThen (same_ev n _ (by rw [ro.2.1]; omega)) (Ev.val rfl)))
  | succ d ih =>
    intro i x17 hi h17 hx
    have p0 := plc_nonneg t (i : Int)
    have p1 := plc_le t (i : Int)
    have hl := h.len
    have hv := hx i (by omega)
    rw [if_neg (by omega)] at hv
    refine Ev.succ ?_
    simp only [tangramlaw14_EditNamed.l1]
    refine Ev.pos (by omega) (Ev.pos (by omega) (Ev.pos (by omega) ?_))
    rw [show wrap64 ((i : Int) + 1) = ((i + 1 : Nat) : Int) by rw [w64 (by omega) (by omega)]; omega, hv, w64 (x := plc t (i : Int) - 1) (by omega) (by omega)]
    refine ih (i + 1) _ (by omega) (by rw [List.length_set]; exact h17) (fun v hv' => ?_)
    rw [show ((i : Int)).toNat = i by omega, rd_set x17 i v _ (by omega), hx v hv']
    by_cases e : i = v
    · subst e
      rw [if_pos rfl, if_pos (by omega)]
    · rw [if_neg e]
      by_cases c : v < i
      · rw [if_pos c, if_pos (by omega)]
      · rw [if_neg c, if_neg (by omega)]
theorem named_j0 (n : Int) (l : List S46) (t : List Int) (hg : Ok n l) (ht : t.length ≤ 17592186043904) : Ev (fun k => tangramlaw14_EditNamed.j0 k t false n l) true := by
  have hn := hg.1
  refine Ev.succ ?_
  simp only [tangramlaw14_EditNamed.j0]
  refine Ev.neg (by simp) (Ev.andThen' rfl (Ev.pos (by simp; omega) ?_))
  simp only [List.nil_append]
  refine Ev.andThen (relabel_ev n l t) (Ev.pos (by omega) (Ev.pos (by omega) ?_))
  refine named_l0 n l t _ _ _ hn (by omega) (fun hA x17 => ?_) (fun c q x17 h17 hx => ?_) t.length 0 _ 0 (by omega) (by simp; omega) (fun _ => ⟨fun v hv => by rw [rd_replicate, List.take_zero]; simp [plc], by omega, by omega, fun _ j hj => absurd hj (by omega), fun _ => by omega⟩)
  · rw [relF, if_pos hg, if_neg hA]
    refine Ev.succ ?_
    simp only [tangramlaw14_EditNamed.j2]
    exact Ev.pos (by trivial) (Ev.pos (by trivial) (Ev.val (by decide)))
  · rw [relF, if_pos hg, if_pos ⟨c, q⟩, relR]
    refine Ev.succ ?_
    simp only [tangramlaw14_EditNamed.j2]
    refine Ev.neg (by simp) ?_
    have := named_l1 n l t hg (IsPerm.of hn c q) n.toNat 0 x17 (by omega) h17 (fun v hv => by rw [if_neg (by omega)]; exact hx v hv)
    rw [h17]
    exact this
theorem EditNamed : EditNamedP := by
  intro n l t hn0 _ hl _ _ ht _
  refine Ev.rounds ?_
  unfold tangramlaw14_EditNamed.f
  refine Ev.andThen fixed_ev (Ev.tt (Ev.andThen (valid3_ev n l) ?_))
  by_cases hg : Ok n l
  · rw [decide_eq_true hg]
    refine Ev.tt ?_
    have hn := hg.1
    have hinc : ∀ e ∈ l, e.f0 ∈ lstB n l ∧ e.f1 ∈ lstB n l := fun e he => ⟨(lstB_mem hg _).2 ⟨e, he, .inl rfl⟩, (lstB_mem hg _).2 ⟨e, he, .inr rfl⟩⟩
    have hm : (lstB n l).length ≤ 1048576 := by have := lstB_len n l; omega
    have okb := rn_ok hg (lstB_lt n l) hm hinc
    have e1 : api_Edge_51.srt ((l.filterMap (ren (lstB n l))).map norm) = l.map (rn (lstB n l)) := by
      rw [ren_map hinc]
      exact back_id okb
    have b1 := bare_ev n l hg
    have i1 := induced_ev n l (lstB n l) hg (lt_nodup (lstB_lt n l)) (fun v hv => by have := lstB_range n l v hv; omega) hm
    rw [e1] at b1 i1
    refine Ev.andThen b1 (Ev.andThen i1 ?_)
    have b2 := bare_ev _ _ okb
    have e2 : lstB ((lstB n l).length : Int) (l.map (rn (lstB n l))) = fromL 0 (lstB n l).length := by
      have : ((((lstB n l).length : Nat) : Int)).toNat = (lstB n l).length := by omega
      unfold lstB at this ⊢
      rw [this, List.filter_eq_self]
      intro v hv
      rw [decide_eq_true_eq]
      have hv2 := (fromL_mem _ _ _).1 hv
      obtain ⟨a, rfl⟩ := Int.eq_ofNat_of_zero_le hv2.1
      have ha : a < (lstB n l).length := by unfold lstB; omega
      have hmem := List.getElem_mem ha
      obtain ⟨e, he, h2⟩ := (lstB_mem hg _).1 hmem
      have ix := List.Nodup.idxOf_getElem (lt_nodup (lstB_lt n l)) a ha
      have key : ∀ w, w = (lstB n l)[a] → plc (lstB n l) w - 1 = (a : Int) := fun w hw => by
        subst hw
        unfold plc
        rw [if_pos hmem, ix]
        omega
      refine ⟨rn (lstB n l) e, List.mem_map.2 ⟨e, he, rfl⟩, ?_⟩
      rcases h2 with h2 | h2
      · exact .inl (key _ h2)
      · exact .inr (key _ h2)
    have e3 : (l.map (rn (lstB n l))).filterMap (ren (fromL 0 (lstB n l).length)) = l.map (rn (lstB n l)) := by
      have := ren_id okb
      rwa [show ((((lstB n l).length : Nat) : Int)).toNat = (lstB n l).length by omega] at this
    rw [e2, e3, back_id okb, fromL_length] at b2
    refine Ev.andThen b2 (Ev.pos rfl (Ev.pos rfl (Ev.pos rfl ?_)))
    have hl2 : (l.map (rn (lstB n l))).length ≤ 8796093022208 := by rw [List.length_map]; omega
    refine Ev.andThen (same_ev _ _ hl2) (Ev.tt (Ev.andThen (same_ev _ _ hl2) (Ev.tt ?_)))
    refine Ev.andThen (from_ev 0 (lstB n l).length (by omega) (by omega)) (Ev.andThen (alike_ev _ (by rw [fromL_length]; omega)) ?_)
    exact named_j0 n l t hg (by omega)
  · rw [decide_eq_false hg]
    refine Ev.ff (Ev.andThen' rfl (Ev.pos (by simp; omega) ?_))
    have := relabel_ev n l ([] ++ t)
    rw [relF, if_neg hg] at this
    exact Ev.andThen this (Ev.val rfl)
end Go.Proofs.Ytdaeaejmikhmcaa.Pure
