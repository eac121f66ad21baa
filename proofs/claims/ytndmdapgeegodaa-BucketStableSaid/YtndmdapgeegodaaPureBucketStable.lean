/- The law BucketStable holds: what bucket.Sort answers rises by key, of one key by place; ranks are its inverse; groups, one behind the other, are it; sorted again it stays; no condition. -/
import Derived.Test.YtndmdapgeegodaaXBucketS
set_option linter.unusedVariables false
set_option linter.unusedSimpArgs false
namespace Go.Proofs.Ytndmdapgeegodaa.Pure
open Go.RowKit Go.Proofs.Ytndmdapgeegodaa.PBucketS Go.Proofs.YtndmdapgeegodaaW.PrintWords Go.Proofs.YtndmdapgeegodaaW.PrintLast Go.Proofs.YtndmdapgeegodaaX

theorem rd_ranksOf (l : List Int) (i : Nat) (h : i < l.length) : rd (ranksOf l) (i : Int) = rank l i := by
  rw [rd_nat _ i (by rw [ranksOf_length]; exact h)]
  simp [ranksOf]
theorem cEq_take_mono (l : List Int) (v : Int) (i : Nat) : ∀ d, cEq (l.take i) v ≤ cEq (l.take (i + d)) v := by
  intro d
  have h : cEq (l.take (i + d)) v = cEq ((l.take (i + d)).take i) v + cEq ((l.take (i + d)).drop i) v := by
    unfold cEq
    rw [← Int.natCast_add, ← List.countP_append, List.take_append_drop]
  rw [List.take_take, show min i (i + d) = i by omega] at h
  have := (c_nonneg ((l.take (i + d)).drop i) v).2
  omega
theorem cLt_mono (l : List Int) (u v : Int) (h : u ≤ v) : cLt l u ≤ cLt l v := by
  unfold cLt
  have : l.countP (fun x => decide (x < u)) ≤ l.countP (fun x => decide (x < v)) := by
    apply List.countP_mono_left
    intro x _ hx
    simp at hx ⊢
    omega
  omega
theorem rank_lt (l : List Int) (i : Nat) (h : i < l.length) : rank l i < l.length := by
  unfold rank
  have h1 := cEq_take l i (rd l (i : Int)) h
  rw [if_pos rfl] at h1
  have h2 := cEq_take_le l (i + 1) (rd l (i : Int))
  have h3 := c_le l (rd l (i : Int))
  omega
theorem rank_less (l : List Int) (i j : Nat) (hi : i < l.length) (hj : j < l.length) (h : rd l (i : Int) < rd l (j : Int) ∨ rd l (i : Int) = rd l (j : Int) ∧ i < j) : rank l i < rank l j := by
  unfold rank
  rcases h with h | ⟨h, hij⟩
  · have h1 := cEq_take l i (rd l (i : Int)) hi
    rw [if_pos rfl] at h1
    have h2 := cEq_take_le l (i + 1) (rd l (i : Int))
    have h3 := cLt_succ l (rd l (i : Int))
    have h4 := cLt_mono l (rd l (i : Int) + 1) (rd l (j : Int)) (by omega)
    have h5 := (c_nonneg (l.take j) (rd l (j : Int))).2
    omega
  · have h1 := cEq_take l i (rd l (i : Int)) hi
    rw [if_pos rfl] at h1
    have h2 := cEq_take_mono l (rd l (i : Int)) (i + 1) (j - (i + 1))
    rw [show i + 1 + (j - (i + 1)) = j by omega] at h2
    rw [← h]
    omega
theorem rank_ne (l : List Int) (i j : Nat) (hij : i < j) (hj : j < l.length) : rank l i ≠ rank l j := by
  intro e
  rcases Int.lt_trichotomy (rd l (i : Int)) (rd l (j : Int)) with h | h | h
  · have := rank_less l i j (by omega) hj (.inl h)
    omega
  · have := rank_less l i j (by omega) hj (.inr ⟨h, hij⟩)
    omega
  · have := rank_less l j i hj (by omega) (.inl h)
    omega
theorem ivt (f : Nat → Int) (q : Int) (h0 : f 0 ≤ q) : ∀ n, q < f n → ∃ i, i < n ∧ f i ≤ q ∧ q < f (i + 1) := by
  intro n
  induction n with
  | zero => intro h; omega
  | succ n ih =>
    intro h
    by_cases hn : q < f n
    · obtain ⟨i, h1, h2, h3⟩ := ih hn
      exact ⟨i, by omega, h2, h3⟩
    · exact ⟨n, by omega, by omega, h⟩
theorem cLt_all (l : List Int) (most : Nat) (hk : keysOk l (most : Int)) : cLt l ((most + 1 : Nat) : Int) = l.length := by
  unfold cLt
  rw [List.countP_eq_length.2]
  intro x hx
  have := hk x hx
  simp
  omega
theorem rank_surj (l : List Int) (most : Nat) (hk : keysOk l (most : Int)) (p : Nat) (hp : p < l.length) : ∃ i, i < l.length ∧ rank l i = (p : Int) := by
  obtain ⟨v, _, h1, h2⟩ := ivt (fun v => cLt l (v : Int)) (p : Int) (by
    show cLt l ((0 : Nat) : Int) ≤ (p : Int)
    rw [show cLt l ((0 : Nat) : Int) = 0 from cLt_zero l (fun x hx => (hk x hx).1)]
    omega) (most + 1) (by
    show (p : Int) < cLt l ((most + 1 : Nat) : Int)
    rw [cLt_all l most hk]
    omega)
  rw [show (((v + 1 : Nat)) : Int) = (v : Int) + 1 by omega, cLt_succ] at h2
  obtain ⟨i, hi, g1, g2⟩ := ivt (fun i => cEq (l.take i) (v : Int)) ((p : Int) - cLt l (v : Int)) (by simp [cEq]; omega) l.length (by
    show (p : Int) - cLt l (v : Int) < cEq (l.take l.length) (v : Int)
    rw [List.take_length]
    omega)
  have h3 := cEq_take l i (v : Int) hi
  by_cases hv : rd l (i : Int) = (v : Int)
  · rw [if_pos hv] at h3
    refine ⟨i, hi, ?_⟩
    unfold rank
    rw [hv]
    omega
  · rw [if_neg hv] at h3
    omega
def keysBy (l items : List Int) : List Int := items.map (rd l)
def ids (n : Nat) : List Int := (List.range n).map (fun j : Nat => (j : Int))
theorem ids_length (n : Nat) : (ids n).length = n := by simp [ids]
theorem rd_ids (n i : Nat) (h : i < n) : rd (ids n) (i : Int) = (i : Int) := by
  rw [rd_nat _ i (by rw [ids_length]; exact h)]
  simp [ids]
theorem keysBy_ids (l : List Int) : keysBy l (ids l.length) = l := by
  apply List.ext_getElem
  · simp [keysBy, ids]
  · intro i h1 h2
    simp only [keysBy, ids, List.map_map, List.getElem_map, List.getElem_range, Function.comp]
    exact rd_nat l i h2
theorem list_rd_ext (s t : List Int) (h : s.length = t.length) (hr : ∀ p : Nat, p < s.length → rd s (p : Int) = rd t (p : Int)) : s = t := by
  apply List.ext_getElem h
  intro i h1 h2
  have := hr i h1
  rwa [rd_nat s i h1, rd_nat t i h2] at this
theorem sort1_l1 (items ks : List Int) (hlen : ks.length = items.length) (hn : items.length ≤ 17592186043904) : ∀ (d i : Nat) (out : List Int), i + d = items.length → out.length = items.length →
    (∀ j : Nat, j < i → rd out (rank ks j) = rd items (j : Int)) →
    ∃ s : List Int, s.length = items.length ∧ (∀ j : Nat, j < items.length → rd s (rank ks j) = rd items (j : Int)) ∧ Ev (fun k => bucket_Sort_int.l1 k items out (ranksOf ks) ((ranksOf ks).length : Int) (i : Int)) (s, 0) := by
  intro d
  induction d with
  | zero =>
    intro i out hi ho hj
    refine ⟨out, ho, fun j h => hj j (by omega), Ev.succ ?_⟩
    simp only [bucket_Sort_int.l1]
    refine Ev.neg ?_ (Ev.now _)
    rw [ranksOf_length]
    omega
  | succ d ih =>
    intro i out hi ho hj
    have e3 : wrap64 ((i : Int) + 1) = ((i + 1 : Nat) : Int) := by rw [w64 (by omega) (by omega)]; omega
    have er : rd (ranksOf ks) (i : Int) = rank ks i := rd_ranksOf ks i (by omega)
    have hlt := rank_lt ks i (by omega)
    have h0 := (rank_bd ks i).1
    obtain ⟨q, hq⟩ := Int.eq_ofNat_of_zero_le h0
    have hq1 : q < out.length := by omega
    obtain ⟨s, h1, h2, h3⟩ := ih (i + 1) (out.set q (rd items (i : Int))) (by omega) (by simpa using ho) (by
      intro j hji
      by_cases e : j = i
      · subst e
        rw [hq, rd_set _ _ _ _ hq1, if_pos rfl]
      · have hji' : j < i := by omega
        have hne := rank_ne ks j i hji' (by omega)
        obtain ⟨p, hp⟩ := Int.eq_ofNat_of_zero_le (rank_bd ks j).1
        rw [hp, rd_set _ _ _ _ hq1, if_neg (by rw [hp, hq] at hne; omega), ← hp]
        exact hj j hji')
    refine ⟨s, h1, h2, Ev.succ ?_⟩
    simp only [bucket_Sort_int.l1]
    rw [er, e3, ranksOf_length, show (rank ks i).toNat = q by omega]
    rw [ranksOf_length] at h3
    clear e3 er h2
    exact Ev.pos (by omega) (Ev.pos (by omega) (Ev.pos (by omega) (Ev.pos (by omega) (Ev.pos (by omega) (Ev.pos (by omega) h3)))))
theorem sort1_l0 (items l : List Int) (a : Int) (hn : items.length ≤ 17592186043904) (hnl : l.length ≤ 17592186043904) (ha : a ≤ 4194304) (hit : ∀ x ∈ items, 0 ≤ x ∧ x < (l.length : Int)) : ∀ (d i : Nat), i + d = items.length → keysOk (keysBy l (items.take i)) a →
    (keysOk (keysBy l items) a ∧ ∃ s : List Int, s.length = items.length ∧ (∀ j : Nat, j < items.length → rd s (rank (keysBy l items) j) = rd items (j : Int)) ∧ Ev (fun k => bucket_Sort_int.l0 k items a (keysBy l (items.take i)) items (items.length : Int) (i : Int) l) (s, 0)) ∨
    (¬ keysOk (keysBy l items) a ∧ Ev (fun k => bucket_Sort_int.l0 k items a (keysBy l (items.take i)) items (items.length : Int) (i : Int) l) ([], 60)) := by
  intro d
  induction d with
  | zero =>
    intro i hi hk
    have ei : items.take i = items := List.take_of_length_le (by omega)
    rw [ei] at hk
    rw [ei]
    obtain ⟨s, h1, h2, h3⟩ := sort1_l1 items (keysBy l items) (by simp [keysBy]) hn items.length 0 (List.replicate items.length 0) (by omega) (by simp) (fun j hj => by omega)
    refine .inl ⟨hk, s, h1, h2, Ev.succ ?_⟩
    simp only [bucket_Sort_int.l0]
    refine Ev.neg (by omega) (Ev.pos (by omega) (Ev.pos (by omega) ?_))
    rw [show ((items.length : Int)).toNat = items.length by omega]
    exact Ev.andThen (ranks_ev _ (by simp [keysBy]; omega) (fun x hx => ⟨(hk x hx).1, Int.le_trans (hk x hx).2 ha⟩)) h3
  | succ d ih =>
    intro i hi hk
    have e3 : wrap64 ((i : Int) + 1) = ((i + 1 : Nat) : Int) := by rw [w64 (by omega) (by omega)]; omega
    have hx := hit _ (rd_mem items i (by omega) (by omega))
    have hc : tangramlaw06_BucketStable_c1.f (rd items (i : Int)) l = some (rd l (rd items (i : Int))) := by
      unfold tangramlaw06_BucketStable_c1.f
      rw [if_pos hx.1, if_pos hx.2]
    have ek : keysBy l (items.take (i + 1)) = keysBy l (items.take i) ++ [rd l (rd items (i : Int))] := by
      rw [List.take_succ_eq_append_getElem (by omega), rd_nat items i (by omega)]
      simp only [keysBy, List.map_append, List.map_cons, List.map_nil]
    have hin : rd l (rd items (i : Int)) ∈ keysBy l items := by
      unfold keysBy
      exact List.mem_map_of_mem (rd_mem items i (by omega) (by omega))
    by_cases h1 : rd l (rd items (i : Int)) < 0
    · refine .inr ⟨fun h => by have := h _ hin; omega, Ev.succ ?_⟩
      simp only [bucket_Sort_int.l0]
      exact Ev.pos (by omega) (Ev.pos (by omega) (Ev.pos (by omega) (Ev.andThen' hc (Ev.pos h1 (Ev.now _)))))
    · by_cases h2 : rd l (rd items (i : Int)) > a
      · refine .inr ⟨fun h => by have := h _ hin; omega, Ev.succ ?_⟩
        simp only [bucket_Sort_int.l0]
        exact Ev.pos (by omega) (Ev.pos (by omega) (Ev.pos (by omega) (Ev.andThen' hc (Ev.neg h1 (Ev.pos h2 (Ev.now _))))))
      · have hk2 : keysOk (keysBy l (items.take (i + 1))) a := by
          rw [ek]
          intro x hx'
          rcases List.mem_append.1 hx' with h | h
          · exact hk x h
          · simp at h
            subst h
            omega
        have hlen : (keysBy l (items.take i)).length < 17592186044416 := by simp [keysBy]; omega
        rcases ih (i + 1) (by omega) hk2 with ⟨hok, s, g1, g2, g3⟩ | ⟨hno, g3⟩
        · refine .inl ⟨hok, s, g1, g2, Ev.succ ?_⟩
          rw [ek] at g3
          simp only [bucket_Sort_int.l0]
          rw [e3]
          exact Ev.pos (by omega) (Ev.pos (by omega) (Ev.pos (by omega) (Ev.andThen' hc (Ev.neg h1 (Ev.neg h2 (Ev.pos hlen g3))))))
        · refine .inr ⟨hno, Ev.succ ?_⟩
          rw [ek] at g3
          simp only [bucket_Sort_int.l0]
          rw [e3]
          exact Ev.pos (by omega) (Ev.pos (by omega) (Ev.pos (by omega) (Ev.andThen' hc (Ev.neg h1 (Ev.neg h2 (Ev.pos hlen g3))))))
theorem sort1_ev (items l : List Int) (a : Int) (hn : items.length ≤ 17592186043904) (hnl : l.length ≤ 17592186043904) (hit : ∀ x ∈ items, 0 ≤ x ∧ x < (l.length : Int)) :
    (faultOf (keysBy l items) a = 0 ∧ ∃ s : List Int, s.length = items.length ∧ (∀ j : Nat, j < items.length → rd s (rank (keysBy l items) j) = rd items (j : Int)) ∧ Ev (fun k => bucket_Sort_int.f k items l a) (s, 0)) ∨
    (faultOf (keysBy l items) a ≠ 0 ∧ Ev (fun k => bucket_Sort_int.f k items l a) ([], faultOf (keysBy l items) a)) := by
  unfold bucket_Sort_int.f faultOf
  by_cases h1 : a < 0
  · rw [if_pos (.inl h1)]
    refine .inr ⟨by decide, Ev.pos h1 (Ev.succ ?_)⟩
    simp only [bucket_Sort_int.j0]
    exact Ev.now _
  · by_cases h2 : a > 4194304
    · rw [if_pos (.inr h2)]
      refine .inr ⟨by decide, Ev.neg h1 (Ev.pos h2 (Ev.succ ?_))⟩
      simp only [bucket_Sort_int.j0]
      exact Ev.now _
    · rw [if_neg (by omega)]
      have hj : ∀ r, Ev (fun k => bucket_Sort_int.l0 k items a [] items (items.length : Int) 0 l) r → Ev (fun k => bucket_Sort_int.j0 k items a false l) r := by
        intro r hr
        refine Ev.succ ?_
        simp only [bucket_Sort_int.j0]
        exact Ev.ff (Ev.pos (by omega) (Ev.pos (by omega) hr))
      rcases sort1_l0 items l a hn hnl (by omega) hit items.length 0 (by omega) (fun x hx => by simp [keysBy] at hx) with ⟨hok, s, g1, g2, g3⟩ | ⟨hno, g3⟩
      · rw [if_pos hok]
        exact .inl ⟨rfl, s, g1, g2, Ev.neg h1 (Ev.neg h2 (hj _ g3))⟩
      · rw [if_neg hno]
        exact .inr ⟨by decide, Ev.neg h1 (Ev.neg h2 (hj _ g3))⟩

theorem sort2_l1 (items ks : List Int) (hlen : ks.length = items.length) (hn : items.length ≤ 17592186043904) : ∀ (d i : Nat) (out : List Int), i + d = items.length → out.length = items.length →
    (∀ j : Nat, j < i → rd out (rank ks j) = rd items (j : Int)) →
    ∃ s : List Int, s.length = items.length ∧ (∀ j : Nat, j < items.length → rd s (rank ks j) = rd items (j : Int)) ∧ Ev (fun k => bucket_Sort_int_two.l1 k items out (ranksOf ks) ((ranksOf ks).length : Int) (i : Int)) (s, 0) := by
  intro d
  induction d with
  | zero =>
    intro i out hi ho hj
    refine ⟨out, ho, fun j h => hj j (by omega), Ev.succ ?_⟩
    simp only [bucket_Sort_int_two.l1]
    refine Ev.neg ?_ (Ev.now _)
    rw [ranksOf_length]
    omega
  | succ d ih =>
    intro i out hi ho hj
    have e3 : wrap64 ((i : Int) + 1) = ((i + 1 : Nat) : Int) := by rw [w64 (by omega) (by omega)]; omega
    have er : rd (ranksOf ks) (i : Int) = rank ks i := rd_ranksOf ks i (by omega)
    have hlt := rank_lt ks i (by omega)
    have h0 := (rank_bd ks i).1
    obtain ⟨q, hq⟩ := Int.eq_ofNat_of_zero_le h0
    have hq1 : q < out.length := by omega
    obtain ⟨s, h1, h2, h3⟩ := ih (i + 1) (out.set q (rd items (i : Int))) (by omega) (by simpa using ho) (by
      intro j hji
      by_cases e : j = i
      · subst e
        rw [hq, rd_set _ _ _ _ hq1, if_pos rfl]
      · have hji' : j < i := by omega
        have hne := rank_ne ks j i hji' (by omega)
        obtain ⟨p, hp⟩ := Int.eq_ofNat_of_zero_le (rank_bd ks j).1
        rw [hp, rd_set _ _ _ _ hq1, if_neg (by rw [hp, hq] at hne; omega), ← hp]
        exact hj j hji')
    refine ⟨s, h1, h2, Ev.succ ?_⟩
    simp only [bucket_Sort_int_two.l1]
    rw [er, e3, ranksOf_length, show (rank ks i).toNat = q by omega]
    rw [ranksOf_length] at h3
    clear e3 er h2
    exact Ev.pos (by omega) (Ev.pos (by omega) (Ev.pos (by omega) (Ev.pos (by omega) (Ev.pos (by omega) (Ev.pos (by omega) h3)))))
theorem sort2_l0 (items l : List Int) (a : Int) (hn : items.length ≤ 17592186043904) (hnl : l.length ≤ 17592186043904) (ha : a ≤ 4194304) (hit : ∀ x ∈ items, 0 ≤ x ∧ x < (l.length : Int)) : ∀ (d i : Nat), i + d = items.length → keysOk (keysBy l (items.take i)) a →
    (keysOk (keysBy l items) a ∧ ∃ s : List Int, s.length = items.length ∧ (∀ j : Nat, j < items.length → rd s (rank (keysBy l items) j) = rd items (j : Int)) ∧ Ev (fun k => bucket_Sort_int_two.l0 k items a (keysBy l (items.take i)) items (items.length : Int) (i : Int) l) (s, 0)) ∨
    (¬ keysOk (keysBy l items) a ∧ Ev (fun k => bucket_Sort_int_two.l0 k items a (keysBy l (items.take i)) items (items.length : Int) (i : Int) l) ([], 60)) := by
  intro d
  induction d with
  | zero =>
    intro i hi hk
    have ei : items.take i = items := List.take_of_length_le (by omega)
    rw [ei] at hk
    rw [ei]
    obtain ⟨s, h1, h2, h3⟩ := sort2_l1 items (keysBy l items) (by simp [keysBy]) hn items.length 0 (List.replicate items.length 0) (by omega) (by simp) (fun j hj => by omega)
    refine .inl ⟨hk, s, h1, h2, Ev.succ ?_⟩
    simp only [bucket_Sort_int_two.l0]
    refine Ev.neg (by omega) (Ev.pos (by omega) (Ev.pos (by omega) ?_))
    rw [show ((items.length : Int)).toNat = items.length by omega]
    exact Ev.andThen (ranks_ev _ (by simp [keysBy]; omega) (fun x hx => ⟨(hk x hx).1, Int.le_trans (hk x hx).2 ha⟩)) h3
  | succ d ih =>
    intro i hi hk
    have e3 : wrap64 ((i : Int) + 1) = ((i + 1 : Nat) : Int) := by rw [w64 (by omega) (by omega)]; omega
    have hx := hit _ (rd_mem items i (by omega) (by omega))
    have hc : tangramlaw06_BucketStable_c2.f (rd items (i : Int)) l = some (rd l (rd items (i : Int))) := by
      unfold tangramlaw06_BucketStable_c2.f
      rw [if_pos hx.1, if_pos hx.2]
    have ek : keysBy l (items.take (i + 1)) = keysBy l (items.take i) ++ [rd l (rd items (i : Int))] := by
      rw [List.take_succ_eq_append_getElem (by omega), rd_nat items i (by omega)]
      simp only [keysBy, List.map_append, List.map_cons, List.map_nil]
    have hin : rd l (rd items (i : Int)) ∈ keysBy l items := by
      unfold keysBy
      exact List.mem_map_of_mem (rd_mem items i (by omega) (by omega))
    by_cases h1 : rd l (rd items (i : Int)) < 0
    · refine .inr ⟨fun h => by have := h _ hin; omega, Ev.succ ?_⟩
      simp only [bucket_Sort_int_two.l0]
      exact Ev.pos (by omega) (Ev.pos (by omega) (Ev.pos (by omega) (Ev.andThen' hc (Ev.pos h1 (Ev.now _)))))
    · by_cases h2 : rd l (rd items (i : Int)) > a
      · refine .inr ⟨fun h => by have := h _ hin; omega, Ev.succ ?_⟩
        simp only [bucket_Sort_int_two.l0]
        exact Ev.pos (by omega) (Ev.pos (by omega) (Ev.pos (by omega) (Ev.andThen' hc (Ev.neg h1 (Ev.pos h2 (Ev.now _))))))
      · have hk2 : keysOk (keysBy l (items.take (i + 1))) a := by
          rw [ek]
          intro x hx'
          rcases List.mem_append.1 hx' with h | h
          · exact hk x h
          · simp at h
            subst h
            omega
        have hlen : (keysBy l (items.take i)).length < 17592186044416 := by simp [keysBy]; omega
        rcases ih (i + 1) (by omega) hk2 with ⟨hok, s, g1, g2, g3⟩ | ⟨hno, g3⟩
        · refine .inl ⟨hok, s, g1, g2, Ev.succ ?_⟩
          rw [ek] at g3
          simp only [bucket_Sort_int_two.l0]
          rw [e3]
          exact Ev.pos (by omega) (Ev.pos (by omega) (Ev.pos (by omega) (Ev.andThen' hc (Ev.neg h1 (Ev.neg h2 (Ev.pos hlen g3))))))
        · refine .inr ⟨hno, Ev.succ ?_⟩
          rw [ek] at g3
          simp only [bucket_Sort_int_two.l0]
          rw [e3]
          exact Ev.pos (by omega) (Ev.pos (by omega) (Ev.pos (by omega) (Ev.andThen' hc (Ev.neg h1 (Ev.neg h2 (Ev.pos hlen g3))))))
theorem sort2_ev (items l : List Int) (a : Int) (hn : items.length ≤ 17592186043904) (hnl : l.length ≤ 17592186043904) (hit : ∀ x ∈ items, 0 ≤ x ∧ x < (l.length : Int)) :
    (faultOf (keysBy l items) a = 0 ∧ ∃ s : List Int, s.length = items.length ∧ (∀ j : Nat, j < items.length → rd s (rank (keysBy l items) j) = rd items (j : Int)) ∧ Ev (fun k => bucket_Sort_int_two.f k items l a) (s, 0)) ∨
    (faultOf (keysBy l items) a ≠ 0 ∧ Ev (fun k => bucket_Sort_int_two.f k items l a) ([], faultOf (keysBy l items) a)) := by
  unfold bucket_Sort_int_two.f faultOf
  by_cases h1 : a < 0
  · rw [if_pos (.inl h1)]
    refine .inr ⟨by decide, Ev.pos h1 (Ev.succ ?_)⟩
    simp only [bucket_Sort_int_two.j0]
    exact Ev.now _
  · by_cases h2 : a > 4194304
    · rw [if_pos (.inr h2)]
      refine .inr ⟨by decide, Ev.neg h1 (Ev.pos h2 (Ev.succ ?_))⟩
      simp only [bucket_Sort_int_two.j0]
      exact Ev.now _
    · rw [if_neg (by omega)]
      have hj : ∀ r, Ev (fun k => bucket_Sort_int_two.l0 k items a [] items (items.length : Int) 0 l) r → Ev (fun k => bucket_Sort_int_two.j0 k items a false l) r := by
        intro r hr
        refine Ev.succ ?_
        simp only [bucket_Sort_int_two.j0]
        exact Ev.ff (Ev.pos (by omega) (Ev.pos (by omega) hr))
      rcases sort2_l0 items l a hn hnl (by omega) hit items.length 0 (by omega) (fun x hx => by simp [keysBy] at hx) with ⟨hok, s, g1, g2, g3⟩ | ⟨hno, g3⟩
      · rw [if_pos hok]
        exact .inl ⟨rfl, s, g1, g2, Ev.neg h1 (Ev.neg h2 (hj _ g3))⟩
      · rw [if_neg hno]
        exact .inr ⟨by decide, Ev.neg h1 (Ev.neg h2 (hj _ g3))⟩

/-- What is sorted: each place stands at its rank. -/
structure Sorted (l s : List Int) : Prop where
  len : s.length = l.length
  at_ : ∀ j : Nat, j < l.length → rd s (rank l j) = (j : Int)
theorem Sorted.unique {l s t : List Int} {most : Nat} (hk : keysOk l (most : Int)) (hs : Sorted l s) (ht : Sorted l t) : s = t := by
  refine list_rd_ext s t (hs.len.trans ht.len.symm) fun p hp => ?_
  obtain ⟨i, hi, e⟩ := rank_surj l most hk p (by rw [← hs.len]; exact hp)
  rw [← e, hs.at_ i hi, ht.at_ i hi]
theorem Sorted.get {l s : List Int} {most : Nat} (hk : keysOk l (most : Int)) (hs : Sorted l s) (p : Nat) (hp : p < l.length) : ∃ i : Nat, i < l.length ∧ rank l i = (p : Int) ∧ rd s (p : Int) = (i : Int) := by
  obtain ⟨i, hi, e⟩ := rank_surj l most hk p hp
  exact ⟨i, hi, e, by rw [← e]; exact hs.at_ i hi⟩
theorem Sorted.key_mono {l s : List Int} {most : Nat} (hk : keysOk l (most : Int)) (hs : Sorted l s) (p q : Nat) (hpq : p ≤ q) (hq : q < l.length) : rd l (rd s (p : Int)) ≤ rd l (rd s (q : Int)) := by
  obtain ⟨i, hi, ei, gi⟩ := hs.get hk p (by omega)
  obtain ⟨j, hj, ej, gj⟩ := hs.get hk q hq
  rw [gi, gj]
  by_cases h : rd l (i : Int) ≤ rd l (j : Int)
  · exact h
  · have := rank_less l j i hj hi (.inl (by omega))
    omega
theorem cAll (l : List Int) (v : Int) (h : ∀ x ∈ l, x ≤ v) : cLt l v + cEq l v = l.length := by
  rw [← cLt_succ]
  unfold cLt
  rw [List.countP_eq_length.2]
  intro x hx
  have := h x hx
  simp
  omega
theorem cNone (l : List Int) (v : Int) (h : ∀ x ∈ l, v ≤ x) : cLt l v = 0 := by
  unfold cLt
  have : l.countP (fun x => decide (x < v)) = 0 := by
    rw [List.countP_eq_zero]
    intro x hx
    have := h x hx
    simp
    omega
  omega
theorem rank_sorted (ks : List Int) (h : ∀ p q : Nat, p ≤ q → q < ks.length → rd ks (p : Int) ≤ rd ks (q : Int)) (k : Nat) (hk : k < ks.length) : rank ks k = (k : Int) := by
  unfold rank
  have h1 : cLt ks (rd ks (k : Int)) = cLt (ks.take k) (rd ks (k : Int)) + cLt (ks.drop k) (rd ks (k : Int)) := by
    unfold cLt
    rw [← Int.natCast_add, ← List.countP_append, List.take_append_drop]
  have h2 : cLt (ks.drop k) (rd ks (k : Int)) = 0 := by
    apply cNone
    intro x hx
    obtain ⟨j, hj, rfl⟩ := List.getElem_of_mem hx
    rw [List.length_drop] at hj
    rw [List.getElem_drop, ← rd_nat ks (k + j) (by omega)]
    exact h k (k + j) (by omega) (by omega)
  have h3 : cLt (ks.take k) (rd ks (k : Int)) + cEq (ks.take k) (rd ks (k : Int)) = (ks.take k).length := by
    apply cAll
    intro x hx
    obtain ⟨j, hj, rfl⟩ := List.getElem_of_mem hx
    rw [List.length_take] at hj
    rw [List.getElem_take, ← rd_nat ks j (by omega)]
    exact h j k (by omega) hk
  rw [List.length_take] at h3
  omega
theorem rd_places (l : List Int) (v : Int) (i : Nat) (hv : rd l (i : Int) = v) : ∀ n, n ≤ l.length → i < n → rd (places l n v) (cEq (l.take i) v) = (i : Int) := by
  intro n
  induction n with
  | zero => intro _ h; omega
  | succ n ih =>
    intro hn hi
    rw [places_succ]
    have hl := places_length l v n (by omega)
    obtain ⟨q, hq⟩ := Int.eq_ofNat_of_zero_le (c_nonneg (l.take i) v).2
    by_cases e : i = n
    · subst e
      rw [if_pos hv, ← hl, rd_nat _ _ (by simp)]
      simp
    · have h1 := cEq_take l i v (by omega)
      rw [if_pos hv] at h1
      have h2 := cEq_take_mono l v (i + 1) (n - (i + 1))
      rw [show i + 1 + (n - (i + 1)) = n by omega] at h2
      have h3 := ih (by omega) (by omega)
      rw [hq] at h3 h1 ⊢
      rw [rd_append _ _ _ (by omega)]
      exact h3
/-- The groups below v, one behind the other. -/
def flatTo (l : List Int) : Nat → List Int
  | 0 => []
  | v + 1 => flatTo l v ++ places l l.length (v : Int)
theorem flatTo_length (l : List Int) (h0 : ∀ x ∈ l, 0 ≤ x) : ∀ v : Nat, ((flatTo l v).length : Int) = cLt l (v : Int) := by
  intro v
  induction v with
  | zero => rw [show cLt l ((0 : Nat) : Int) = 0 from cLt_zero l h0]; rfl
  | succ v ih =>
    have hl := places_length l (v : Int) l.length (by omega)
    rw [List.take_length] at hl
    rw [flatTo, List.length_append, Int.natCast_add, ih, hl, show (((v + 1 : Nat)) : Int) = (v : Int) + 1 by omega, cLt_succ]
theorem flatTo_at (l : List Int) (h0 : ∀ x ∈ l, 0 ≤ x) : ∀ (v : Nat) (i : Nat), i < l.length → rd l (i : Int) < (v : Int) → rd (flatTo l v) (rank l i) = (i : Int) := by
  intro v
  induction v with
  | zero =>
    intro i hi h
    have := h0 _ (rd_mem l i (by omega) (by omega))
    omega
  | succ v ih =>
    intro i hi h
    have hfl := flatTo_length l h0 v
    obtain ⟨q, hq⟩ := Int.eq_ofNat_of_zero_le (rank_bd l i).1
    rw [flatTo]
    by_cases e : rd l (i : Int) = (v : Int)
    · have h3 := rd_places l (v : Int) i e l.length (Nat.le_refl _) hi
      have er : rank l i = cLt l (v : Int) + cEq (l.take i) (v : Int) := by unfold rank; rw [e]
      obtain ⟨c, hc⟩ := Int.eq_ofNat_of_zero_le (c_nonneg (l.take i) (v : Int)).2
      rw [hc] at h3 er
      have hqc : q = (flatTo l v).length + c := by omega
      rw [hq, hqc]
      have : rd (flatTo l v ++ places l l.length (v : Int)) (((flatTo l v).length + c : Nat) : Int) = rd (places l l.length (v : Int)) (c : Int) := by
        simp only [rd, Int.toNat_natCast, List.getD_eq_getElem?_getD]
        rw [List.getElem?_append_right (by omega), Nat.add_sub_cancel_left]
      rw [this]
      exact h3
    · have h3 := ih i hi (by omega)
      have h4 : rank l i < cLt l (v : Int) := by
        unfold rank
        have h1 := cEq_take l i (rd l (i : Int)) hi
        rw [if_pos rfl] at h1
        have h2 := cEq_take_le l (i + 1) (rd l (i : Int))
        have h5 := cLt_succ l (rd l (i : Int))
        have h6 := cLt_mono l (rd l (i : Int) + 1) (v : Int) (by omega)
        omega
      rw [hq] at h3 h4 ⊢
      rw [rd_append _ _ _ (by omega)]
      exact h3
theorem flatTo_sorted (l : List Int) (most : Nat) (hk : keysOk l (most : Int)) : Sorted l (flatTo l (most + 1)) := by
  have h0 : ∀ x ∈ l, 0 ≤ x := fun x hx => (hk x hx).1
  refine ⟨?_, fun j hj => flatTo_at l h0 (most + 1) j hj ?_⟩
  · have := flatTo_length l h0 (most + 1)
    rw [cLt_all l most hk] at this
    omega
  · have := hk _ (rd_mem l j (by omega) (by omega))
    omega
theorem law_l2 (l s : List Int) (most : Nat) (hm : most ≤ 4194304) (hn : l.length ≤ 17592186043904) (hk : keysOk l (most : Int)) (hs : Sorted l s) (y : List (List Int)) (hy : y.length = most + 1) (hv : ∀ v : Nat, v ≤ most → rd_L1 y (v : Int) = places l l.length (v : Int)) :
    ∀ (d i : Nat), i + d = most + 1 → Ev (fun k => tangramlaw06_BucketStable.l2 k s y (flatTo l i) (i : Int)) true := by
  have h0 : ∀ x ∈ l, 0 ≤ x := fun x hx => (hk x hx).1
  intro d
  induction d with
  | zero =>
    intro i hi
    obtain rfl : i = most + 1 := by omega
    refine Ev.succ ?_
    simp only [tangramlaw06_BucketStable.l2]
    refine Ev.neg (by omega) ?_
    rw [Sorted.unique hk (flatTo_sorted l most hk) hs]
    exact Ev.andThen (SameInts_ev s (by have := hs.len; omega)) (Ev.now _)
  | succ d ih =>
    intro i hi
    have e3 : wrap64 ((i : Int) + 1) = ((i + 1 : Nat) : Int) := by rw [w64 (by omega) (by omega)]; omega
    have h1 := flatTo_length l h0 (i + 1)
    have h2 : cLt l ((i + 1 : Nat) : Int) ≤ l.length := by
      rw [show (((i + 1 : Nat)) : Int) = (i : Int) + 1 by omega, cLt_succ]
      exact c_le l (i : Int)
    rw [flatTo, List.length_append] at h1
    have hlen : (flatTo l i).length + (places l l.length (i : Int)).length < 17592186044416 := by omega
    clear h1 h2
    refine Ev.succ ?_
    simp only [tangramlaw06_BucketStable.l2]
    rw [e3, hv i (by omega)]
    exact Ev.pos (by omega) (Ev.pos (by omega) (Ev.pos hlen (ih (i + 1) (by omega))))
theorem law_j4 (l s : List Int) (most : Nat) (hm : most ≤ 4194304) (hn : l.length ≤ 17592186043904) (hk : keysOk l (most : Int)) (hs : Sorted l s) : Ev (fun k => tangramlaw06_BucketStable.j4 k (most : Int) s false l) true := by
  obtain ⟨y, hy1, hy2, hy3⟩ := Group_ok l most hm hn hk
  refine Ev.succ ?_
  simp only [tangramlaw06_BucketStable.j4]
  refine Ev.ff (Ev.ite (fun _ => Ev.now _) (fun _ => Ev.andThen' rfl (Ev.pos (by simp; omega) ?_)))
  rw [List.nil_append]
  exact Ev.andThen hy3 (law_l2 l s most hm hn hk hs y hy1 hy2 (most + 1) 0 (by omega))
theorem law_again (l s : List Int) (most : Nat) (hm : most ≤ 4194304) (hn : l.length ≤ 17592186043904) (hk : keysOk l (most : Int)) (hs : Sorted l s) : Ev (fun k => bucket_Sort_int_two.f k s l (most : Int)) (s, 0) := by
  have hit : ∀ x ∈ s, 0 ≤ x ∧ x < (l.length : Int) := by
    intro x hx
    obtain ⟨p, hp, rfl⟩ := List.getElem_of_mem hx
    obtain ⟨i, hi, _, e⟩ := hs.get hk p (by rw [← hs.len]; exact hp)
    rw [rd_nat s p hp] at e
    rw [e]
    omega
  have hks : keysOk (keysBy l s) (most : Int) := by
    intro x hx
    obtain ⟨y, hy, rfl⟩ := List.mem_map.1 hx
    exact hk _ (rd_mem l y (hit y hy).1 (hit y hy).2)
  have hf : faultOf (keysBy l s) (most : Int) = 0 := by
    unfold faultOf
    rw [if_neg (by omega), if_pos hks]
  have hlen := hs.len
  rcases sort2_ev s l (most : Int) (by omega) hn hit with ⟨_, t, h1, h2, h3⟩ | ⟨h, _⟩
  · have hkl : (keysBy l s).length = s.length := by simp [keysBy]
    have hrk : ∀ p : Nat, p < s.length → rd (keysBy l s) (p : Int) = rd l (rd s (p : Int)) := by
      intro p hp
      rw [rd_nat _ p (by omega), rd_nat s p hp]
      simp [keysBy]
    have : t = s := by
      refine list_rd_ext t s h1 fun p hp => ?_
      have hp' : p < s.length := by omega
      have h4 := h2 p hp'
      rw [rank_sorted (keysBy l s) (fun a b hab hb => by
        rw [hrk a (by omega), hrk b (by omega)]
        exact hs.key_mono hk a b hab (by omega)) p (by omega)] at h4
      exact h4
    rw [this] at h3
    exact h3
  · exact absurd hf h
theorem law_l1 (l s : List Int) (most : Nat) (hm : most ≤ 4194304) (hn : l.length ≤ 17592186043904) (hk : keysOk l (most : Int)) (hs : Sorted l s) :
    ∀ (d i : Nat), i + d = l.length → Ev (fun k => tangramlaw06_BucketStable.l1 k (most : Int) s (ranksOf l) (i : Int) l) true := by
  have hlen := hs.len
  intro d
  induction d with
  | zero =>
    intro i hi
    refine Ev.succ ?_
    simp only [tangramlaw06_BucketStable.l1]
    refine Ev.neg (by omega) (Ev.andThen (law_again l s most hm hn hk hs) (Ev.pos rfl (Ev.andThen (SameInts_ev s (by omega)) ?_)))
    exact law_j4 l s most hm hn hk hs
  | succ d ih =>
    intro i hi
    have h := ih (i + 1) (by omega)
    have e3 : wrap64 ((i : Int) + 1) = ((i + 1 : Nat) : Int) := by rw [w64 (by omega) (by omega)]; omega
    obtain ⟨j, hj, ej, gj⟩ := hs.get hk i (by omega)
    have hrl := ranksOf_length l
    refine Ev.succ ?_
    simp only [tangramlaw06_BucketStable.l1]
    rw [gj, rd_ranksOf l j hj, ej]
    refine Ev.pos (by omega) (Ev.pos (by omega) (Ev.neg (by omega) (Ev.neg (by omega) (Ev.pos (by omega) (Ev.pos (by omega) ?_)))))
    rw [show ((i : Int) != (i : Int)) = false by simp]
    refine Ev.succ ?_
    simp only [tangramlaw06_BucketStable.j3]
    rw [e3]
    refine Ev.ff (Ev.ite (fun hp => ?_) (fun _ => h))
    have e4 : wrap64 ((i : Int) - 1) = ((i - 1 : Nat) : Int) := by rw [w64 (by omega) (by omega)]; omega
    obtain ⟨u, hu, eu, gu⟩ := hs.get hk (i - 1) (by omega)
    rw [e4, gu, gj]
    have hnot : ¬ (rd l (j : Int) < rd l (u : Int)) := fun hh => by
      have := rank_less l j u hj hu (.inl hh)
      omega
    have hnot2 : rd l (u : Int) = rd l (j : Int) → u < j := fun hh => by
      by_cases huj : u < j
      · exact huj
      · rcases Nat.lt_or_ge j u with h1 | h1
        · have := rank_less l j u hj hu (.inr ⟨hh.symm, h1⟩)
          omega
        · have : u = j := by omega
          subst this
          omega
    refine Ev.pos (by omega) (Ev.pos (by omega) (Ev.pos (by omega) (Ev.pos (by omega) (Ev.pos (by omega) (Ev.pos (by omega) (Ev.pos (by omega) (Ev.pos (by omega) (Ev.neg (by omega) (Ev.ite (fun hh => ?_) (fun _ => h))))))))))
    have := hnot2 hh
    exact Ev.neg (by omega) h
theorem law_l0 (l : List Int) (a : Int) (hn : l.length ≤ 17592186043904) : ∀ (d i : Nat), i + d = l.length → Ev (fun k => tangramlaw06_BucketStable.l0 k a (ids i) (i : Int) l) true := by
  intro d
  induction d with
  | zero =>
    intro i hi
    obtain rfl : i = l.length := by omega
    have hit : ∀ x ∈ ids l.length, 0 ≤ x ∧ x < (l.length : Int) := by
      intro x hx
      obtain ⟨j, hj, rfl⟩ := List.mem_map.1 hx
      have := List.mem_range.1 hj
      omega
    refine Ev.succ ?_
    simp only [tangramlaw06_BucketStable.l0]
    refine Ev.neg (by omega) ?_
    have hsort := sort1_ev (ids l.length) l a (by rw [ids_length]; exact hn) hn hit
    rw [keysBy_ids, ids_length] at hsort
    have hR := Ranks_ev l a (by omega)
    rcases hsort with ⟨hf, s, h1, h2, h3⟩ | ⟨hf, h3⟩
    · rw [if_pos hf, hf] at hR
      refine Ev.andThen h3 (Ev.andThen' rfl (Ev.pos (by simp; omega) ?_))
      rw [List.nil_append]
      refine Ev.andThen hR ?_
      have h1' : ¬ (a < 0 ∨ a > 4194304) := by
        intro h
        unfold faultOf at hf
        rw [if_pos h] at hf
        omega
      have h2' : keysOk l a := by
        unfold faultOf at hf
        rw [if_neg h1'] at hf
        by_cases h : keysOk l a
        · exact h
        · rw [if_neg h] at hf
          omega
      obtain ⟨most, rfl⟩ := Int.eq_ofNat_of_zero_le (show 0 ≤ a by omega)
      have hs : Sorted l s := ⟨h1, fun j hj => by rw [h2 j hj, rd_ids _ _ hj]⟩
      dsimp only
      rw [ranksOf_length]
      refine Ev.pos rfl (Ev.pos rfl (Ev.pos (by omega) ?_))
      rw [show ((l.length : Int) != (l.length : Int)) = false by simp]
      refine Ev.succ ?_
      simp only [tangramlaw06_BucketStable.j1]
      exact Ev.ff (law_l1 l s most (by omega) hn h2' hs l.length 0 (by omega))
    · rw [if_neg hf] at hR
      refine Ev.andThen h3 (Ev.andThen' rfl (Ev.pos (by simp; omega) ?_))
      rw [List.nil_append]
      exact Ev.andThen hR (Ev.pos rfl (Ev.neg hf (Ev.pos rfl (Ev.val rfl))))
  | succ d ih =>
    intro i hi
    have e3 : wrap64 ((i : Int) + 1) = ((i + 1 : Nat) : Int) := by rw [w64 (by omega) (by omega)]; omega
    have h := ih (i + 1) (by omega)
    have ei : ids (i + 1) = ids i ++ [(i : Int)] := by simp [ids, List.range_succ]
    rw [ei] at h
    have hl := ids_length i
    refine Ev.succ ?_
    simp only [tangramlaw06_BucketStable.l0]
    rw [e3]
    exact Ev.pos (by omega) (Ev.pos (by omega) h)
theorem BucketStable : tangramlaw06_BucketStable.Pure := by
  intro l a hm h8 hw ha
  refine Ev.rounds ?_
  unfold tangramlaw06_BucketStable.f
  exact Ev.andThen' rfl (Ev.andThen wakes_ev (Ev.tt (law_l0 l a (by omega) l.length 0 (by omega))))
end Go.Proofs.Ytndmdapgeegodaa.Pure
