-- Plain facts on the printed functions of layer 6: ranks by counting; errors; groups.
import Derived.Test.YtndmdapgeegodaaXPure
import Derived.Test.YtndmdapgeegodaaPBucketSx6
set_option linter.unusedVariables false
set_option linter.unusedSimpArgs false
namespace Go.Proofs.Ytndmdapgeegodaa.Pure
open Go.RowKit Go.Proofs.Ytndmdapgeegodaa.PBucketS Go.Proofs.YtndmdapgeegodaaW.PrintWords Go.Proofs.YtndmdapgeegodaaW.PrintLast Go.Proofs.YtndmdapgeegodaaX

def cLt (l : List Int) (v : Int) : Int := (l.countP (fun x => decide (x < v)) : Nat)
def cEq (l : List Int) (v : Int) : Int := (l.countP (fun x => decide (x = v)) : Nat)
theorem cLt_succ (l : List Int) (v : Int) : cLt l (v + 1) = cLt l v + cEq l v := by
  unfold cLt cEq
  induction l with
  | nil => rfl
  | cons a l ih =>
    simp only [List.countP_cons, decide_eq_true_eq]
    by_cases h1 : a < v
    · rw [if_pos h1, if_pos (show a < v + 1 by omega), if_neg (show ¬ a = v by omega)]
      omega
    · by_cases h2 : a = v
      · rw [if_neg h1, if_pos (show a < v + 1 by omega), if_pos h2]
        omega
      · rw [if_neg h1, if_neg (show ¬ a < v + 1 by omega), if_neg h2]
        omega
theorem cLt_zero (l : List Int) (h : ∀ x ∈ l, 0 ≤ x) : cLt l 0 = 0 := by
  unfold cLt
  have : l.countP (fun x => decide (x < 0)) = 0 := by
    rw [List.countP_eq_zero]
    intro x hx
    have := h x hx
    simp
    omega
  omega
theorem cEq_take (l : List Int) (i : Nat) (v : Int) (h : i < l.length) : cEq (l.take (i + 1)) v = cEq (l.take i) v + if rd l (i : Int) = v then 1 else 0 := by
  rw [rd_nat l i h, List.take_succ_eq_append_getElem h]
  unfold cEq
  rw [List.countP_append]
  by_cases e : l[i] = v <;> simp [e]
theorem cLt_take (l : List Int) (i : Nat) (v : Int) (h : i < l.length) : cLt (l.take (i + 1)) v = cLt (l.take i) v + if rd l (i : Int) < v then 1 else 0 := by
  rw [rd_nat l i h, List.take_succ_eq_append_getElem h]
  unfold cLt
  rw [List.countP_append]
  by_cases e : l[i] < v <;> simp [e]
theorem c_nonneg (l : List Int) (v : Int) : 0 ≤ cLt l v ∧ 0 ≤ cEq l v := by unfold cLt cEq; omega
theorem c_le (l : List Int) (v : Int) : cLt l v + cEq l v ≤ l.length := by
  rw [← cLt_succ]
  unfold cLt
  have := List.countP_le_length (p := fun x => decide (x < v + 1)) (l := l)
  omega
theorem cEq_take_le (l : List Int) (i : Nat) (v : Int) : cEq (l.take i) v ≤ cEq l v := by
  have h : cEq l v = cEq (l.take i) v + cEq (l.drop i) v := by
    unfold cEq
    rw [← Int.natCast_add, ← List.countP_append, List.take_append_drop]
  have := (c_nonneg (l.drop i) v).2
  omega
def rank (l : List Int) (i : Nat) : Int := cLt l (rd l (i : Int)) + cEq (l.take i) (rd l (i : Int))
theorem rank_bd (l : List Int) (i : Nat) : 0 ≤ rank l i ∧ rank l i ≤ l.length := by
  unfold rank
  have b1 := c_le l (rd l (i : Int))
  have b2 := cEq_take_le l i (rd l (i : Int))
  have b3 := c_nonneg l (rd l (i : Int))
  have b4 := c_nonneg (l.take i) (rd l (i : Int))
  omega
def ranksOf (l : List Int) : List Int := (List.range l.length).map (rank l)
theorem ranksOf_length (l : List Int) : (ranksOf l).length = l.length := by simp [ranksOf]
theorem ranksOf_ext (l out : List Int) (h : out.length = l.length) (hr : ∀ j : Nat, j < l.length → rd out (j : Int) = rank l j) : out = ranksOf l := by
  apply List.ext_getElem
  · rw [h, ranksOf_length]
  · intro i h1 h2
    have := hr i (by omega)
    rw [rd_nat out i h1] at this
    simp [ranksOf, this]

theorem ranks_l3 (l : List Int) (m : Nat) (hn : l.length ≤ 17592186044416) (hk : ∀ x ∈ l, 0 ≤ x ∧ x ≤ (m : Int)) : ∀ (d i : Nat) (x6 x10 : List Int), i + d = l.length → x6.length = m + 2 → x10.length = l.length →
    (∀ v : Nat, v ≤ m → rd x6 (v : Int) = cLt l v + cEq (l.take i) v) → (∀ j : Nat, j < i → rd x10 (j : Int) = rank l j) →
    Ev (fun k => bucket_ranks.l3 k x6 x10 l (l.length : Int) (i : Int)) (ranksOf l) := by
  intro d
  induction d with
  | zero =>
    intro i x6 x10 hi h6 h10 hv hj
    refine Ev.succ ?_
    simp only [bucket_ranks.l3]
    refine Ev.neg (by omega) ?_
    exact Ev.val (ranksOf_ext l x10 h10 (fun j h => hj j (by omega)))
  | succ d ih =>
    intro i x6 x10 hi h6 h10 hv hj
    have hm := hk _ (rd_mem l i (by omega) (by omega))
    obtain ⟨v, hv'⟩ := Int.eq_ofNat_of_zero_le hm.1
    refine Ev.succ ?_
    simp only [bucket_ranks.l3]
    refine Ev.pos (by omega) (Ev.pos (by omega) (Ev.pos (by omega) (Ev.pos (by omega) (Ev.pos (by omega) (Ev.pos (by omega) ?_)))))
    have e1 : rd x6 (rd l (i : Int)) = rank l i := by
      have := hv v (by omega)
      rw [hv']
      unfold rank
      rw [hv']
      exact this
    have hb := rank_bd l i
    have e2 : wrap64 (rd x6 (rd l (i : Int)) + 1) = rank l i + 1 := by
      rw [e1, w64 (by omega) (by omega)]
    have e3 : wrap64 ((i : Int) + 1) = ((i + 1 : Nat) : Int) := by rw [w64 (by omega) (by omega)]; omega
    rw [e2, e3, e1]
    clear e1 e2 e3 hb
    refine ih (i + 1) _ _ (by omega) (by simpa using h6) (by simpa using h10) ?_ ?_
    · intro u hu
      have hvl : v < x6.length := by omega
      rw [hv', show ((v : Int)).toNat = v by omega, rd_set _ _ _ _ hvl, cEq_take l i u (by omega), hv']
      by_cases e : v = u
      · subst e
        simp only [if_true]
        unfold rank
        rw [hv']
        omega
      · rw [if_neg e, hv u hu, if_neg (by omega)]
        omega
    · intro j hj'
      rw [show ((i : Int)).toNat = i by omega, rd_set _ _ _ _ (by omega)]
      by_cases e : i = j
      · subst e
        simp
      · rw [if_neg e]
        exact hj j (by omega)

theorem ranks_l2 (l : List Int) (m : Nat) (hm : m ≤ 4194304) (hn : l.length ≤ 17592186044416) (hk : ∀ x ∈ l, 0 ≤ x ∧ x ≤ (m : Int)) : ∀ (d i : Nat) (x6 : List Int), i + d = m → x6.length = m + 2 →
    (∀ v : Nat, v ≤ i → rd x6 (v : Int) = cLt l v) → (∀ v : Nat, i ≤ v → v ≤ m → rd x6 ((v + 1 : Nat) : Int) = cEq l v) →
    Ev (fun k => bucket_ranks.l2 k l x6 (m : Int) (i : Int)) (ranksOf l) := by
  intro d
  induction d with
  | zero =>
    intro i x6 hi h6 hv hw
    refine Ev.succ ?_
    simp only [bucket_ranks.l2]
    refine Ev.neg (by omega) (Ev.pos (by omega) (Ev.pos (by omega) ?_))
    rw [show ((l.length : Int)).toNat = l.length by omega]
    refine ranks_l3 l m hn hk l.length 0 x6 _ (by omega) h6 (by simp) ?_ (fun j hj => by omega)
    intro v hvm
    rw [hv v (by omega)]
    simp [cEq]
  | succ d ih =>
    intro i x6 hi h6 hv hw
    have e3 : wrap64 ((i : Int) + 1) = ((i + 1 : Nat) : Int) := by rw [w64 (by omega) (by omega)]; omega
    refine Ev.succ ?_
    simp only [bucket_ranks.l2]
    rw [e3]
    refine Ev.pos (by omega) (Ev.pos (by omega) (Ev.pos (by omega) (Ev.pos (by omega) (Ev.pos (by omega) ?_))))
    have a1 := hv i (by omega)
    have a2 := hw i (by omega) (by omega)
    have b1 := c_le l i
    have b3 := c_nonneg l i
    have e4 : wrap64 (rd x6 ((i + 1 : Nat) : Int) + rd x6 (i : Int)) = cLt l ((i + 1 : Nat) : Int) := by
      rw [a1, a2, w64 (by omega) (by omega), Int.natCast_add, Int.natCast_one, cLt_succ]
      omega
    rw [e4, show (((i + 1 : Nat) : Int)).toNat = i + 1 by omega]
    refine ih (i + 1) _ (by omega) (by simpa using h6) ?_ ?_
    · intro v hvi
      rw [rd_set _ _ _ _ (by omega)]
      by_cases e : i + 1 = v
      · subst e; simp
      · rw [if_neg e]
        exact hv v (by omega)
    · intro v h1 h2
      rw [rd_set _ _ _ _ (by omega), if_neg (by omega)]
      exact hw v (by omega) h2

theorem ranks_l1 (l : List Int) (m : Nat) (hm : m ≤ 4194304) (hn : l.length ≤ 17592186044416) (hk : ∀ x ∈ l, 0 ≤ x ∧ x ≤ (m : Int)) : ∀ (d i : Nat) (x6 : List Int), i + d = l.length → x6.length = m + 2 →
    rd x6 0 = 0 → (∀ v : Nat, v ≤ m → rd x6 ((v + 1 : Nat) : Int) = cEq (l.take i) v) →
    Ev (fun k => bucket_ranks.l1 k l (m : Int) x6 l (l.length : Int) (i : Int)) (ranksOf l) := by
  intro d
  induction d with
  | zero =>
    intro i x6 hi h6 h0 hw
    refine Ev.succ ?_
    simp only [bucket_ranks.l1]
    refine Ev.neg (by omega) ?_
    refine ranks_l2 l m hm hn hk m 0 x6 (by omega) h6 ?_ ?_
    · intro v hv
      obtain rfl : v = 0 := by omega
      rw [show (((0 : Nat)) : Int) = 0 from rfl, h0, cLt_zero l (fun x hx => (hk x hx).1)]
    · intro v _ hv
      rw [hw v hv, List.take_of_length_le (by omega)]
  | succ d ih =>
    intro i x6 hi h6 h0 hw
    have hr := hk _ (rd_mem l i (by omega) (by omega))
    obtain ⟨v, hv'⟩ := Int.eq_ofNat_of_zero_le hr.1
    have e3 : wrap64 ((i : Int) + 1) = ((i + 1 : Nat) : Int) := by rw [w64 (by omega) (by omega)]; omega
    have e4 : wrap64 (rd l (i : Int) + 1) = ((v + 1 : Nat) : Int) := by rw [hv', w64 (by omega) (by omega)]; omega
    refine Ev.succ ?_
    simp only [bucket_ranks.l1]
    rw [e3, e4]
    refine Ev.pos (by omega) (Ev.pos (by omega) (Ev.pos (by omega) (Ev.pos (by omega) (Ev.pos (by omega) ?_))))
    have b1 := c_le l v
    have b2 := cEq_take_le l i v
    have b3 := c_nonneg l v
    have b4 := c_nonneg (l.take i) v
    have e5 : wrap64 (rd x6 ((v + 1 : Nat) : Int) + 1) = cEq (l.take i) v + 1 := by rw [hw v (by omega), w64 (by omega) (by omega)]
    rw [e5, show (((v + 1 : Nat) : Int)).toNat = v + 1 by omega]
    refine ih (i + 1) _ (by omega) (by simpa using h6) ?_ ?_
    · have := rd_set x6 (v + 1) 0 (cEq (l.take i) v + 1) (by omega)
      rw [if_neg (by omega)] at this
      exact this.trans h0
    · intro u hu
      rw [rd_set _ _ _ _ (by omega), cEq_take l i u (by omega), hv']
      by_cases e : v = u
      · subst e; simp
      · rw [if_neg (by omega), if_neg (by omega), hw u hu]
        omega

theorem ranks_l0 (l : List Int) (hn : l.length ≤ 17592186044416) (hk : ∀ x ∈ l, 0 ≤ x ∧ x ≤ 4194304) : ∀ (d i : Nat) (m : Int), i + d = l.length → 0 ≤ m → m ≤ 4194304 → (∀ j : Nat, j < i → rd l (j : Int) ≤ m) →
    Ev (fun k => bucket_ranks.l0 k l m l (l.length : Int) (i : Int)) (ranksOf l) := by
  intro d
  induction d with
  | zero =>
    intro i m hi h0 h1 hj
    obtain ⟨m, rfl⟩ := Int.eq_ofNat_of_zero_le h0
    refine Ev.succ ?_
    simp only [bucket_ranks.l0]
    refine Ev.neg (by omega) (Ev.ite (fun h => ?_) (fun h => ?_))
    · refine Ev.val ?_
      have : l = [] := List.eq_nil_of_length_eq_zero (by omega)
      subst this
      rfl
    · have e : wrap64 ((m : Int) + 2) = ((m + 2 : Nat) : Int) := by rw [w64 (by omega) (by omega)]; omega
      rw [e, show (((m + 2 : Nat) : Int)).toNat = m + 2 by omega]
      refine Ev.pos (by omega) (Ev.pos (by omega) ?_)
      refine ranks_l1 l m (by omega) hn ?_ l.length 0 _ (by omega) (by simp) (rd_replicate _ 0) ?_
      · intro x hx
        obtain ⟨j, hj1, rfl⟩ := List.getElem_of_mem hx
        have := hj j (by omega)
        rw [rd_nat l j hj1] at this
        exact ⟨(hk _ hx).1, this⟩
      · intro v _
        rw [rd_replicate]
        simp [cEq]
  | succ d ih =>
    intro i m hi h0 h1 hj
    have hr := hk _ (rd_mem l i (by omega) (by omega))
    have e3 : wrap64 ((i : Int) + 1) = ((i + 1 : Nat) : Int) := by rw [w64 (by omega) (by omega)]; omega
    refine Ev.succ ?_
    simp only [bucket_ranks.l0]
    rw [e3, mx_eq]
    refine Ev.pos (by omega) (Ev.pos (by omega) (Ev.pos (by omega) ?_))
    refine ih (i + 1) _ (by omega) (by omega) (by omega) ?_
    intro j hj'
    by_cases e : j = i
    · subst e; omega
    · have := hj j (by omega)
      omega

theorem ranks_ev (l : List Int) (hn : l.length ≤ 17592186044416) (hk : ∀ x ∈ l, 0 ≤ x ∧ x ≤ 4194304) : Ev (fun k => bucket_ranks.f k l) (ranksOf l) := by
  unfold bucket_ranks.f
  exact ranks_l0 l hn hk l.length 0 0 (by omega) (by omega) (by omega) (fun j hj => by omega)

/-- The error of keys. -/
def keysOk (l : List Int) (most : Int) : Prop := ∀ x ∈ l, 0 ≤ x ∧ x ≤ most
instance (l : List Int) (most : Int) : Decidable (keysOk l most) := by unfold keysOk; infer_instance
def faultOf (l : List Int) (most : Int) : Int := if most < 0 ∨ most > 4194304 then 2 else if keysOk l most then 0 else 60
theorem keysOk_take_succ {l : List Int} {most : Int} {i : Nat} (h : keysOk (l.take i) most) (hi : i < l.length) (h0 : 0 ≤ rd l (i : Int)) (h1 : rd l (i : Int) ≤ most) : keysOk (l.take (i + 1)) most := by
  rw [List.take_succ_eq_append_getElem hi]
  intro x hx
  rcases List.mem_append.1 hx with hx | hx
  · exact h x hx
  · rw [rd_nat l i hi] at h0 h1
    simp at hx
    subst hx
    exact ⟨h0, h1⟩
theorem not_keysOk {l : List Int} {most : Int} {i : Nat} (hi : i < l.length) (h : rd l (i : Int) < 0 ∨ rd l (i : Int) > most) : ¬ keysOk l most := by
  intro hk
  have := hk _ (rd_mem l i (by omega) (by omega))
  omega
theorem fits_l0 (l : List Int) (most : Int) (hn : l.length ≤ 17592186044416) : ∀ (d i : Nat), i + d = l.length → keysOk (l.take i) most →
    Ev (fun k => bucket_fits.l0 k most l (l.length : Int) (i : Int)) (if keysOk l most then 0 else 60) := by
  intro d
  induction d with
  | zero =>
    intro i hi hk
    refine Ev.succ ?_
    simp only [bucket_fits.l0]
    refine Ev.neg (by omega) (Ev.val ?_)
    rw [List.take_of_length_le (by omega)] at hk
    rw [if_pos hk]
  | succ d ih =>
    intro i hi hk
    have e3 : wrap64 ((i : Int) + 1) = ((i + 1 : Nat) : Int) := by rw [w64 (by omega) (by omega)]; omega
    refine Ev.succ ?_
    simp only [bucket_fits.l0]
    rw [e3]
    refine Ev.pos (by omega) (Ev.pos (by omega) (Ev.pos (by omega) (Ev.ite (fun h => Ev.val ?_) (fun h1 => Ev.ite (fun h => Ev.val ?_) (fun h2 => ?_)))))
    · rw [if_neg (not_keysOk (i := i) (by omega) (.inl h))]
    · rw [if_neg (not_keysOk (i := i) (by omega) (.inr h))]
    · exact ih (i + 1) (by omega) (keysOk_take_succ hk (by omega) (by omega) (by omega))
theorem fits_ev (l : List Int) (most : Int) (hn : l.length ≤ 17592186044416) : Ev (fun k => bucket_fits.f k l most) (faultOf l most) := by
  unfold bucket_fits.f faultOf
  refine Ev.ite (fun h => ?_) (fun h => ?_)
  · refine Ev.succ ?_
    simp only [bucket_fits.j0]
    rw [if_pos (.inl h)]
    exact Ev.now _
  · refine Ev.succ ?_
    simp only [bucket_fits.j0]
    by_cases h2 : most > 4194304
    · rw [if_pos (.inr h2)]
      exact Ev.pos (by simpa using h2) (Ev.now _)
    · rw [if_neg (by omega)]
      exact Ev.neg (by simpa using h2) (fits_l0 l most hn l.length 0 (by omega) (fun x hx => by simp at hx))
theorem Ranks_ev (l : List Int) (most : Int) (hn : l.length ≤ 17592186044416) : Ev (fun k => bucket_Ranks.f k l most) (if faultOf l most = 0 then ranksOf l else [], faultOf l most) := by
  unfold bucket_Ranks.f
  refine Ev.andThen (fits_ev l most hn) (Ev.ite (fun h => ?_) (fun h => ?_))
  · rw [if_pos h, h]
    refine Ev.andThen (ranks_ev l hn ?_) (Ev.now _)
    unfold faultOf at h
    by_cases h1 : most < 0 ∨ most > 4194304
    · rw [if_pos h1] at h
      omega
    · rw [if_neg h1] at h
      by_cases h2 : keysOk l most
      · intro x hx
        have := h2 x hx
        omega
      · rw [if_neg h2] at h
        omega
  · rw [if_neg h]
    exact Ev.now _

theorem SameInts_l0 (l : List Int) (hn : l.length ≤ 4611686018427387904) : ∀ (d i : Nat), i + d = l.length → Ev (fun k => tangramref03_SameInts.l0 k l l (i : Int)) true := by
  intro d
  induction d with
  | zero =>
    intro i hi
    refine Ev.succ ?_
    simp only [tangramref03_SameInts.l0]
    exact Ev.neg (by omega) (Ev.now _)
  | succ d ih =>
    intro i hi
    have e3 : wrap64 ((i : Int) + 1) = ((i + 1 : Nat) : Int) := by rw [w64 (by omega) (by omega)]; omega
    refine Ev.succ ?_
    simp only [tangramref03_SameInts.l0]
    rw [e3]
    exact Ev.pos (by omega) (Ev.pos (by omega) (Ev.pos (by omega) (Ev.pos (by first | rfl | trivial) (ih (i + 1) (by omega)))))
theorem SameInts_ev (l : List Int) (hn : l.length ≤ 4611686018427387904) : Ev (fun k => tangramref03_SameInts.f k l l) true := by
  unfold tangramref03_SameInts.f
  exact Ev.pos rfl (SameInts_l0 l hn l.length 0 (by omega))
theorem wakes_ev : Ev (fun k => tangramlaw06_wakes.f k) true := Ev.of (fun k => tangramlaw06_wakes.mono k) (k := 40) (by decide +kernel)
def places (l : List Int) (i : Nat) (v : Int) : List Int := ((List.range i).filter (fun j : Nat => decide (rd l (j : Int) = v))).map (fun j : Nat => (j : Int))
theorem places_succ (l : List Int) (i : Nat) (v : Int) : places l (i + 1) v = places l i v ++ if rd l (i : Int) = v then [(i : Int)] else [] := by
  unfold places
  rw [List.range_succ, List.filter_append, List.map_append]
  congr 1
  by_cases h : rd l (i : Int) = v <;> simp [h]
theorem places_length (l : List Int) (v : Int) : ∀ i, i ≤ l.length → ((places l i v).length : Int) = cEq (l.take i) v := by
  intro i
  induction i with
  | zero => intro _; simp [places, cEq]
  | succ i ih =>
    intro h
    rw [places_succ, cEq_take l i v (by omega), List.length_append, ← ih (by omega)]
    split <;> simp
theorem rdL_set (x : List (List Int)) (i j : Nat) (v : List Int) (h : i < x.length) : rd_L1 (x.set i v) (j : Int) = if i = j then v else rd_L1 x (j : Int) := by
  simp only [rd_L1, Int.toNat_natCast, List.getD_eq_getElem?_getD, List.getElem?_set]
  by_cases e : i = j
  · subst e; simp [h]
  · simp [e]
theorem Group_l0 (l : List Int) (most : Nat) (hm : most ≤ 4194304) (hn : l.length ≤ 17592186043904) (hk : keysOk l (most : Int)) : ∀ (d i : Nat) (x : List (List Int)), i + d = l.length → x.length = most + 1 →
    (∀ v : Nat, v ≤ most → rd_L1 x (v : Int) = places l i (v : Int)) →
    ∃ y : List (List Int), y.length = most + 1 ∧ (∀ v : Nat, v ≤ most → rd_L1 y (v : Int) = places l l.length (v : Int)) ∧ Ev (fun k => bucket_Group.l0 k x l (l.length : Int) (i : Int)) (y, 0) := by
  intro d
  induction d with
  | zero =>
    intro i x hi hx hv
    obtain rfl : i = l.length := by omega
    refine ⟨x, hx, hv, Ev.succ ?_⟩
    simp only [bucket_Group.l0]
    exact Ev.neg (by omega) (Ev.now _)
  | succ d ih =>
    intro i x hi hx hv
    have hr := hk _ (rd_mem l i (by omega) (by omega))
    obtain ⟨v, hv'⟩ := Int.eq_ofNat_of_zero_le hr.1
    have hvm : v ≤ most := by omega
    obtain ⟨y, hy1, hy2, hy3⟩ := ih (i + 1) (x.set v (places l i (v : Int) ++ [(i : Int)])) (by omega) (by simpa using hx) (by
      intro u hu
      rw [rdL_set _ _ _ _ (by omega), places_succ, hv']
      by_cases e : v = u
      · subst e; simp
      · rw [if_neg e, if_neg (by omega), hv u hu]; simp)
    refine ⟨y, hy1, hy2, Ev.succ ?_⟩
    have hl := places_length l (v : Int) i (by omega)
    have b1 := cEq_take_le l i (v : Int)
    have b2 := c_le l (v : Int)
    have b3 := c_nonneg l (v : Int)
    have hl2 : (places l i (v : Int)).length < 17592186044416 := by omega
    clear hl b1 b2 b3
    have e3 : wrap64 ((i : Int) + 1) = ((i + 1 : Nat) : Int) := by rw [w64 (by omega) (by omega)]; omega
    simp only [bucket_Group.l0]
    rw [e3, hv', hv v hvm, show ((v : Int)).toNat = v by omega]
    exact Ev.pos (by omega) (Ev.pos (by omega) (Ev.pos (by omega) (Ev.pos (by omega) (Ev.pos (by omega) (Ev.pos hl2 hy3)))))
theorem Group_ok (l : List Int) (most : Nat) (hm : most ≤ 4194304) (hn : l.length ≤ 17592186043904) (hk : keysOk l (most : Int)) :
    ∃ y : List (List Int), y.length = most + 1 ∧ (∀ v : Nat, v ≤ most → rd_L1 y (v : Int) = places l l.length (v : Int)) ∧ Ev (fun k => bucket_Group.f k l (most : Int)) (y, 0) := by
  obtain ⟨y, h1, h2, h3⟩ := Group_l0 l most hm hn hk l.length 0 (List.replicate (most + 1) []) (by omega) (by simp) (by
    intro v hv
    simp only [rd_L1, Int.toNat_natCast, List.getD_eq_getElem?_getD, List.getElem?_replicate, places]
    split <;> simp)
  refine ⟨y, h1, h2, ?_⟩
  unfold bucket_Group.f
  have hf : faultOf l (most : Int) = 0 := by
    unfold faultOf
    rw [if_neg (by omega), if_pos hk]
  have e3 : wrap64 ((most : Int) + 1) = ((most + 1 : Nat) : Int) := by rw [w64 (by omega) (by omega)]; omega
  have hfit := fits_ev l (most : Int) (by omega)
  rw [hf] at hfit
  refine Ev.andThen hfit ?_
  rw [e3, show (((most + 1 : Nat) : Int)).toNat = most + 1 by omega]
  exact Ev.pos rfl (Ev.pos (by omega) (Ev.pos (by omega) h3))
end Go.Proofs.Ytndmdapgeegodaa.Pure
