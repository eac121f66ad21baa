/- The law BucketGroups holds: bucket.Group answers as the document's Group, for every list of keys and every bound; no condition. -/
import Derived.Test.YtndmdapgeegodaaXBucket
import Derived.Test.YtndmdapgeegodaaPBucketAx6
set_option linter.unusedVariables false
set_option linter.unusedSimpArgs false
namespace Go.Proofs.Ytndmdapgeegodaa.Pure
open Go.RowKit Go.Proofs.Ytndmdapgeegodaa.PBucketA Go.Proofs.YtndmdapgeegodaaW.PrintWords Go.Proofs.YtndmdapgeegodaaW.PrintLast Go.Proofs.YtndmdapgeegodaaX

def places (l : List Int) (i : Nat) (v : Int) : List Int := ((List.range i).filter (fun j : Nat => decide (rd l (j : Int) = v))).map (fun j : Nat => (j : Int))
theorem places_succ (l : List Int) (i : Nat) (v : Int) : places l (i + 1) v = places l i v ++ if rd l (i : Int) = v then [(i : Int)] else [] := by
  unfold places
  rw [List.range_succ, List.filter_append, List.map_append]
  congr 1
  by_cases h : rd l (i : Int) = v <;> simp [h]
theorem places_length (l : List Int) (v : Int) : ∀ i, i ≤ l.length → ((places l i v).length : Int) = cEq (l.take i) v := by
  intro i
  induction i with
  | zero => intro _; simp [places, cEq]
  | succ i ih =>
    intro h
    rw [places_succ, cEq_take l i v (by omega), List.length_append, ← ih (by omega)]
    split <;> simp
theorem rdL_set (x : List (List Int)) (i j : Nat) (v : List Int) (h : i < x.length) : rd_L1 (x.set i v) (j : Int) = if i = j then v else rd_L1 x (j : Int) := by
  simp only [rd_L1, Int.toNat_natCast, List.getD_eq_getElem?_getD, List.getElem?_set]
  by_cases e : i = j
  · subst e; simp [h]
  · simp [e]
theorem Group_l0 (l : List Int) (most : Nat) (hm : most ≤ 4194304) (hn : l.length ≤ 17592186043904) (hk : keysOk l (most : Int)) : ∀ (d i : Nat) (x : List (List Int)), i + d = l.length → x.length = most + 1 →
    (∀ v : Nat, v ≤ most → rd_L1 x (v : Int) = places l i (v : Int)) →
    ∃ y : List (List Int), y.length = most + 1 ∧ (∀ v : Nat, v ≤ most → rd_L1 y (v : Int) = places l l.length (v : Int)) ∧ Ev (fun k => bucket_Group.l0 k x l (l.length : Int) (i : Int)) (y, 0) := by
  intro d
  induction d with
  | zero =>
    intro i x hi hx hv
    obtain rfl : i = l.length := by omega
    refine ⟨x, hx, hv, Ev.succ ?_⟩
    simp only [bucket_Group.l0]
    exact Ev.neg (by omega) (Ev.now _)
  | succ d ih =>
    intro i x hi hx hv
    have hr := hk _ (rd_mem l i (by omega) (by omega))
    obtain ⟨v, hv'⟩ := Int.eq_ofNat_of_zero_le hr.1
    have hvm : v ≤ most := by omega
    obtain ⟨y, hy1, hy2, hy3⟩ := ih (i + 1) (x.set v (places l i (v : Int) ++ [(i : Int)])) (by omega) (by simpa using hx) (by
      intro u hu
      rw [rdL_set _ _ _ _ (by omega), places_succ, hv']
      by_cases e : v = u
      · subst e; simp
      · rw [if_neg e, if_neg (by omega), hv u hu]; simp)
    refine ⟨y, hy1, hy2, Ev.succ ?_⟩
    have hl := places_length l (v : Int) i (by omega)
    have b1 := cEq_take_le l i (v : Int)
    have b2 := c_le l (v : Int)
    have b3 := c_nonneg l (v : Int)
    have hl2 : (places l i (v : Int)).length < 17592186044416 := by omega
    clear hl b1 b2 b3
    have e3 : wrap64 ((i : Int) + 1) = ((i + 1 : Nat) : Int) := by rw [w64 (by omega) (by omega)]; omega
    simp only [bucket_Group.l0]
    rw [e3, hv', hv v hvm, show ((v : Int)).toNat = v by omega]
    exact Ev.pos (by omega) (Ev.pos (by omega) (Ev.pos (by omega) (Ev.pos (by omega) (Ev.pos (by omega) (Ev.pos hl2 hy3)))))
theorem Group_ok (l : List Int) (most : Nat) (hm : most ≤ 4194304) (hn : l.length ≤ 17592186043904) (hk : keysOk l (most : Int)) :
    ∃ y : List (List Int), y.length = most + 1 ∧ (∀ v : Nat, v ≤ most → rd_L1 y (v : Int) = places l l.length (v : Int)) ∧ Ev (fun k => bucket_Group.f k l (most : Int)) (y, 0) := by
  obtain ⟨y, h1, h2, h3⟩ := Group_l0 l most hm hn hk l.length 0 (List.replicate (most + 1) []) (by omega) (by simp) (by
    intro v hv
    simp only [rd_L1, Int.toNat_natCast, List.getD_eq_getElem?_getD, List.getElem?_replicate, places]
    split <;> simp)
  refine ⟨y, h1, h2, ?_⟩
  unfold bucket_Group.f
  have hf : faultOf l (most : Int) = 0 := by
    unfold faultOf
    rw [if_neg (by omega), if_pos hk]
  have e3 : wrap64 ((most : Int) + 1) = ((most + 1 : Nat) : Int) := by rw [w64 (by omega) (by omega)]; omega
  have hfit := fits_ev l (most : Int) (by omega)
  rw [hf] at hfit
  refine Ev.andThen hfit ?_
  rw [e3, show (((most + 1 : Nat) : Int)).toNat = most + 1 by omega]
  exact Ev.pos rfl (Ev.pos (by omega) (Ev.pos (by omega) h3))
theorem refGroup_l0 (l : List Int) (v : Int) (hn : l.length ≤ 17592186043904) : ∀ (d i : Nat), i + d = l.length → Ev (fun k => tangramref06_Group.l0 k l v (places l i v) (i : Int)) (places l l.length v) := by
  intro d
  induction d with
  | zero =>
    intro i hi
    obtain rfl : i = l.length := by omega
    refine Ev.succ ?_
    simp only [tangramref06_Group.l0]
    exact Ev.neg (by omega) (Ev.now _)
  | succ d ih =>
    intro i hi
    have e3 : wrap64 ((i : Int) + 1) = ((i + 1 : Nat) : Int) := by rw [w64 (by omega) (by omega)]; omega
    have h := ih (i + 1) (by omega)
    have hl := places_length l v i (by omega)
    have b1 := cEq_take_le l i v
    have b2 := c_le l v
    have b3 := c_nonneg l v
    have hl2 : (places l i v).length < 17592186044416 := by omega
    clear hl b1 b2 b3
    rw [places_succ] at h
    refine Ev.succ ?_
    simp only [tangramref06_Group.l0]
    rw [e3]
    refine Ev.pos (by omega) (Ev.pos (by omega) (Ev.ite (fun he => Ev.pos hl2 ?_) (fun he => ?_)))
    · rw [if_pos he] at h
      exact h
    · rw [if_neg he, List.append_nil] at h
      exact h
theorem refGroup_ev (l : List Int) (v : Int) (hn : l.length ≤ 17592186043904) : Ev (fun k => tangramref06_Group.f k l v) (places l l.length v) := by
  unfold tangramref06_Group.f
  have := refGroup_l0 l v hn l.length 0 (by omega)
  simpa [places] using this
theorem law_l1 (l : List Int) (most : Nat) (hm : most ≤ 4194304) (hn : l.length ≤ 17592186043904) (hk : keysOk l (most : Int)) (y : List (List Int)) (hy : y.length = most + 1) (hv : ∀ v : Nat, v ≤ most → rd_L1 y (v : Int) = places l l.length (v : Int)) :
    ∀ (d i : Nat), i + d = most + 1 → Ev (fun k => tangramlaw06_BucketGroups.l1 k l (most : Int) y (cLt l (i : Int)) (i : Int)) true := by
  intro d
  induction d with
  | zero =>
    intro i hi
    refine Ev.succ ?_
    simp only [tangramlaw06_BucketGroups.l1]
    refine Ev.neg (by omega) (Ev.val ?_)
    have : cLt l (i : Int) = l.length := by
      unfold cLt
      rw [List.countP_eq_length.2]
      intro x hx
      have := hk x hx
      simp
      omega
    rw [this]
    simp
  | succ d ih =>
    intro i hi
    have h := ih (i + 1) (by omega)
    have hl := places_length l (i : Int) l.length (by omega)
    rw [List.take_length] at hl
    have b2 := c_le l (i : Int)
    have b3 := c_nonneg l (i : Int)
    have e3 : wrap64 ((i : Int) + 1) = ((i + 1 : Nat) : Int) := by rw [w64 (by omega) (by omega)]; omega
    have e4 : wrap64 (cLt l (i : Int) + ((places l l.length (i : Int)).length : Int)) = cLt l ((i + 1 : Nat) : Int) := by
      rw [hl, w64 (by omega) (by omega), Int.natCast_add, Int.natCast_one, cLt_succ]
    clear hl b2 b3
    refine Ev.succ ?_
    simp only [tangramlaw06_BucketGroups.l1]
    rw [e3, hv i (by omega), e4]
    clear e3 e4
    exact Ev.pos (by omega) (Ev.pos (by omega) (Ev.pos (by omega) h))
theorem law_l0 (l : List Int) (most : Nat) (hm : most ≤ 4194304) (hn : l.length ≤ 17592186043904) (hk : keysOk l (most : Int)) (y : List (List Int)) (hy : y.length = most + 1) (hv : ∀ v : Nat, v ≤ most → rd_L1 y (v : Int) = places l l.length (v : Int)) :
    ∀ (d i : Nat), i + d = most + 1 → Ev (fun k => tangramlaw06_BucketGroups.l0 k l (most : Int) y (i : Int)) true := by
  intro d
  induction d with
  | zero =>
    intro i hi
    refine Ev.succ ?_
    simp only [tangramlaw06_BucketGroups.l0]
    refine Ev.neg (by omega) ?_
    have := law_l1 l most hm hn hk y hy hv (most + 1) 0 (by omega)
    rwa [show cLt l ((0 : Nat) : Int) = 0 from cLt_zero l (fun x hx => (hk x hx).1)] at this
  | succ d ih =>
    intro i hi
    have h := ih (i + 1) (by omega)
    have e3 : wrap64 ((i : Int) + 1) = ((i + 1 : Nat) : Int) := by rw [w64 (by omega) (by omega)]; omega
    have hlen : (places l l.length (i : Int)).length ≤ 4611686018427387904 := by
      have hl := places_length l (i : Int) l.length (by omega)
      rw [List.take_length] at hl
      have b2 := c_le l (i : Int)
      have b3 := c_nonneg l (i : Int)
      omega
    have hj : ∀ b : Bool, Ev (fun k => tangramlaw06_BucketGroups.j2 k l (most : Int) y (i : Int) b) true := by
      intro b
      refine Ev.succ ?_
      simp only [tangramlaw06_BucketGroups.j2]
      rw [e3]
      cases b with
      | true =>
        refine Ev.tt (Ev.andThen (refGroup_ev l (i : Int) hn) (Ev.pos (by omega) (Ev.pos (by omega) ?_)))
        rw [hv i (by omega)]
        exact Ev.andThen (SameInts_ev _ hlen) (Ev.tt h)
      | false => exact Ev.ff h
    refine Ev.succ ?_
    simp only [tangramlaw06_BucketGroups.l0]
    exact Ev.pos (by omega) (Ev.pos (by omega) (Ev.pos (by omega) (Ev.ite (fun _ => hj _) (fun _ => hj _))))
theorem law_j0 (l : List Int) (a : Int) (hn : l.length ≤ 17592186043904) (b : Bool) : Ev (fun k => tangramlaw06_BucketGroups.j0 k l a (faultOf l a) b) true := by
  refine Ev.succ ?_
  simp only [tangramlaw06_BucketGroups.j0]
  refine Ev.ite (fun _ => Ev.now _) (fun _ => Ev.andThen' rfl (Ev.pos (by simp; omega) ?_))
  rw [List.nil_append]
  by_cases hf : faultOf l a = 0
  · have h1 : ¬ (a < 0 ∨ a > 4194304) := by
      intro h
      unfold faultOf at hf
      rw [if_pos h] at hf
      omega
    have h2 : keysOk l a := by
      unfold faultOf at hf
      rw [if_neg h1] at hf
      by_cases h : keysOk l a
      · exact h
      · rw [if_neg h] at hf
        omega
    obtain ⟨most, rfl⟩ := Int.eq_ofNat_of_zero_le (show 0 ≤ a by omega)
    obtain ⟨y, hy1, hy2, hy3⟩ := Group_ok l most (by omega) hn h2
    have e3 : wrap64 ((most : Int) + 1) = ((most + 1 : Nat) : Int) := by rw [w64 (by omega) (by omega)]; omega
    refine Ev.andThen hy3 ?_
    dsimp only
    rw [e3, hf]
    exact Ev.pos rfl (Ev.pos rfl (Ev.pos (by omega) (law_l0 l most (by omega) hn h2 y hy1 hy2 (most + 1) 0 (by omega))))
  · have hg : Ev (fun k => bucket_Group.f k l a) ([], faultOf l a) := by
      unfold bucket_Group.f
      exact Ev.andThen (fits_ev l a (by omega)) (Ev.neg hf (Ev.now _))
    exact Ev.andThen hg (Ev.pos rfl (Ev.neg hf (Ev.val rfl)))
theorem BucketGroups : tangramlaw06_BucketGroups.Pure := by
  intro l a hm h8 hw ha
  refine Ev.rounds ?_
  unfold tangramlaw06_BucketGroups.f
  obtain ⟨s, hs⟩ := Fault_ev l a (by omega)
  refine Ev.andThen wakes_ev (Ev.tt (Ev.andThen hs (Ev.ite (fun _ => ?_) (fun _ => ?_))))
  · exact law_j0 l a (by omega) _
  · exact law_j0 l a (by omega) _

end Go.Proofs.Ytndmdapgeegodaa.Pure
