-- Plain facts on the printed functions of layer 26 (cross): least, turned, Canon, SameRotation.
import Derived.Test.YthfoliejhdpbaaaZXCroC
import Derived.Test.YthfoliejhdpbaaaZPCroAx23
import Derived.Test.YthfoliejhdpbaaaZPCroAx52
set_option linter.unusedVariables false
set_option linter.unusedSimpArgs false
namespace Go.Proofs.Ythfoliejhdpbaaa.Pure
open Go.RowKit Go.Proofs.Ythfoliejhdpbaaa.PCroA Go.Proofs.YthfoliejhdpbaaaW.PrintWords Go.Proofs.YthfoliejhdpbaaaW.PrintLast Go.Proofs.YthfoliejhdpbaaaW.PrintMore Go.Proofs.YthfoliejhdpbaaaX
def leastF (x : List Int) : Nat → Nat → Nat → Nat
  | 0, _, c => c
  | d + 1, i, c => if rd x (i : Int) < rd x (c : Int) then leastF x d (i + 1) i else leastF x d (i + 1) c
theorem leastF_le (x : List Int) : ∀ (d i c : Nat), i + d = x.length → c ≤ x.length → leastF x d i c ≤ x.length := by
  intro d
  induction d with
  | zero => intro i c _ hc; exact hc
  | succ d ih =>
    intro i c hi hc
    unfold leastF
    split
    · exact ih (i + 1) i (by omega) (by omega)
    · exact ih (i + 1) c (by omega) hc
theorem least_l0 (x : List Int) (hx : x.length ≤ 8796093022208) : ∀ (d i c : Nat), i + d = x.length → (0 < d → c < x.length) →
    Ev (fun k => rot_least.l0 k x (c : Int) x (x.length : Int) (i : Int)) ((leastF x d i c : Nat) : Int) := by
  intro d
  induction d with
  | zero =>
    intro i c hi hc
    refine Ev.succ ?_
    simp only [rot_least.l0]
    exact Ev.neg (by omega) (Ev.now _)
  | succ d ih =>
    intro i c hi hc
    have hc' := hc (by omega)
    refine Ev.succ ?_
    simp only [rot_least.l0]
    refine Ev.pos (by omega) (Ev.pos (by omega) (Ev.pos (by omega) (Ev.pos (by omega) (Ev.pos (by omega) ?_))))
    rw [wi' i x.length hx (by omega)]
    unfold leastF
    refine Ev.ite (fun h => ?_) (fun h => ?_)
    · rw [if_pos h]; exact ih (i + 1) i (by omega) (fun _ => by omega)
    · rw [if_neg h]; exact ih (i + 1) c (by omega) (fun _ => hc')
def leastV (x : List Int) : Nat := leastF x x.length 0 0
theorem leastV_le (x : List Int) : leastV x ≤ x.length := leastF_le x _ _ _ (by omega) (by omega)
theorem least_ev (x : List Int) (hx : x.length ≤ 8796093022208) : Ev (fun k => rot_least.f k x) ((leastV x : Nat) : Int) :=
  least_l0 x hx x.length 0 0 (by omega) (fun h => h)
theorem rdL0 (a b : List Int) : rd_L3 [a, b] 0 = a := rfl
theorem rdL1 (a b : List Int) : rd_L3 [a, b] 1 = b := rfl
theorem concat_ev (a b : List Int) (h : a.length + b.length ≤ 8796093022208) : Ev (fun k => slices_Concat_int_int.f k [a, b]) (a ++ b) := by
  have e1 : wrap64 ((0 : Int) + 1) = 1 := by rw [w64 (by omega) (by omega)]; rfl
  have e2 : wrap64 ((1 : Int) + 1) = 2 := by rw [w64 (by omega) (by omega)]; rfl
  have e3 : wrap64 ((0 : Int) + (a.length : Int)) = (a.length : Int) := by rw [w64 (by omega) (by omega)]; omega
  have e4 : wrap64 ((a.length : Int) + (b.length : Int)) = ((a.length + b.length : Nat) : Int) := by rw [w64 (by omega) (by omega)]; omega
  have l2 : (([a, b] : List (List Int)).length : Int) = 2 := rfl
  unfold slices_Concat_int_int.f
  rw [l2]
  refine Ev.succ ?_
  simp only [slices_Concat_int_int.l0, l2, rdL0, e3, e1]
  refine Ev.pos (by decide) (Ev.pos (by decide) (Ev.pos (by decide) (Ev.neg (by omega) (Ev.succ ?_))))
  simp only [slices_Concat_int_int.l0, l2, rdL1, e4, e2]
  refine Ev.pos (by decide) (Ev.pos (by decide) (Ev.pos (by decide) (Ev.neg (by omega) (Ev.succ ?_))))
  simp only [slices_Concat_int_int.l0, l2]
  refine Ev.neg (by decide) ?_
  refine Ev.andThen' (a := ([] : List Int)) (by unfold slices_Grow_int_int.f; rw [if_pos ⟨by omega, by omega⟩]) (Ev.succ ?_)
  simp only [slices_Concat_int_int.l1, l2, rdL0, e1, List.nil_append]
  refine Ev.pos (by decide) (Ev.pos (by decide) (Ev.pos (by decide) (Ev.pos (by simp only [List.length_nil]; omega) (Ev.succ ?_))))
  simp only [slices_Concat_int_int.l1, l2, rdL1, e2]
  refine Ev.pos (by decide) (Ev.pos (by decide) (Ev.pos (by decide) (Ev.pos (by omega) (Ev.succ ?_))))
  simp only [slices_Concat_int_int.l1, l2]
  exact Ev.neg (by decide) (Ev.now _)
def turnL (x : List Int) : List Int := x.drop (leastV x) ++ x.take (leastV x)
theorem turnL_len (x : List Int) : (turnL x).length = x.length := by
  have := leastV_le x
  simp [turnL]; omega
theorem turned_ev (x : List Int) (hx : x.length ≤ 8796093022208) : Ev (fun k => rot_turned.f k x ((leastV x : Nat) : Int)) (turnL x) := by
  have h := leastV_le x
  unfold rot_turned.f
  refine Ev.pos (by omega) (Ev.pos (by omega) ?_)
  rw [Int.toNat_natCast]
  exact Ev.andThen (concat_ev _ _ (by rw [List.length_drop, List.length_take]; omega)) (Ev.now _)
def canonV (r : List (List Int)) : List (List Int) := r.map turnL
theorem canon_set {r : List (List Int)} {i : Nat} (h : i < r.length) : ((r.take i).map turnL ++ List.replicate (r.length - i) []).set i (turnL (rd_L3 r (i : Int))) = (r.take (i + 1)).map turnL ++ List.replicate (r.length - (i + 1)) [] := by
  have hl : ((r.take i).map turnL).length = i := by rw [List.length_map, List.length_take]; omega
  rw [List.set_append_right _ _ (by omega), hl, Nat.sub_self, List.take_add_one, List.getElem?_eq_getElem h]
  obtain ⟨m, hm⟩ : ∃ m, r.length - i = m + 1 := ⟨r.length - i - 1, by omega⟩
  rw [hm, show r.length - (i + 1) = m by omega, List.replicate_succ, List.set_cons_zero]
  have : rd_L3 r (i : Int) = r[i] := by simp [rd_L3, List.getD_eq_getElem?_getD, h]
  rw [this]
  simp only [List.map_append, Option.toList_some, List.map_cons, List.map_nil, List.append_assoc, List.cons_append, List.nil_append]
theorem canon_l0 (r : List (List Int)) (hr : r.length ≤ 8796093022208) (hx : ∀ x ∈ r, x.length ≤ 8796093022208) : ∀ (d i : Nat), i + d = r.length →
    Ev (fun k => rot_Canon.l0 k ((r.take i).map turnL ++ List.replicate (r.length - i) []) r (r.length : Int) (i : Int)) (canonV r) := by
  intro d
  induction d with
  | zero =>
    intro i hi
    refine Ev.succ ?_
    simp only [rot_Canon.l0]
    refine Ev.neg (by omega) (Ev.val ?_)
    rw [show r.length - i = 0 by omega, List.take_of_length_le (by omega)]
    simp [canonV]
  | succ d ih =>
    intro i hi
    have hi' : i < r.length := by omega
    have hm : rd_L3 r (i : Int) ∈ r := by
      have : rd_L3 r (i : Int) = r[i] := by simp [rd_L3, List.getD_eq_getElem?_getD, hi']
      rw [this]; exact List.getElem_mem _
    refine Ev.succ ?_
    simp only [rot_Canon.l0]
    refine Ev.pos (by omega) (Ev.pos (by omega) (Ev.pos (by omega) (Ev.andThen (least_ev _ (hx _ hm)) (Ev.andThen (turned_ev _ (hx _ hm)) (Ev.pos ?_ ?_)))))
    · simp only [List.length_append, List.length_map, List.length_take, List.length_replicate]; omega
    · rw [Int.toNat_natCast, canon_set hi', wi' i r.length hr hi']
      exact ih (i + 1) (by omega)
theorem canon_ev (r : List (List Int)) (hr : r.length ≤ 1048576) (hx : ∀ x ∈ r, x.length ≤ 8796093022208) : Ev (fun k => rot_Canon.f k r) (canonV r) := by
  unfold rot_Canon.f
  refine Ev.pos (by omega) (Ev.pos (by omega) ?_)
  have := canon_l0 r (by omega) hx r.length 0 (by omega)
  simpa using this
/-! the same rows -/
theorem sameInts_l0 (x : List Int) (hx : x.length ≤ 8796093022208) : ∀ (d i : Nat), i + d = x.length → Ev (fun k => tangramlaw26_sameInts.l0 k x x (i : Int)) true := by
  intro d
  induction d with
  | zero =>
    intro i hi
    refine Ev.succ ?_
    simp only [tangramlaw26_sameInts.l0]
    exact Ev.neg (by omega) (Ev.now _)
  | succ d ih =>
    intro i hi
    refine Ev.succ ?_
    simp only [tangramlaw26_sameInts.l0]
    refine Ev.pos (by omega) (Ev.pos (by omega) (Ev.pos (by omega) (Ev.pos (by trivial) ?_)))
    rw [wi' i x.length hx (by omega)]
    exact ih (i + 1) (by omega)
theorem sameInts_ev (x : List Int) (hx : x.length ≤ 8796093022208) : Ev (fun k => tangramlaw26_sameInts.f k x x) true := by
  unfold tangramlaw26_sameInts.f
  exact Ev.pos rfl (sameInts_l0 x hx x.length 0 (by omega))
theorem sameRot_l0 (r : List (List Int)) (hr : r.length ≤ 8796093022208) (hx : ∀ x ∈ r, x.length ≤ 8796093022208) : ∀ (d i : Nat), i + d = r.length → Ev (fun k => tangramlaw26_SameRotation.l0 k r r (i : Int)) true := by
  intro d
  induction d with
  | zero =>
    intro i hi
    refine Ev.succ ?_
    simp only [tangramlaw26_SameRotation.l0]
    exact Ev.neg (by omega) (Ev.now _)
  | succ d ih =>
    intro i hi
    have hi' : i < r.length := by omega
    have hm : rd_L3 r (i : Int) ∈ r := by
      have : rd_L3 r (i : Int) = r[i] := by simp [rd_L3, List.getD_eq_getElem?_getD, hi']
      rw [this]; exact List.getElem_mem _
    refine Ev.succ ?_
    simp only [tangramlaw26_SameRotation.l0]
    refine Ev.pos (by omega) (Ev.pos (by omega) (Ev.pos (by omega) (Ev.andThen (sameInts_ev _ (hx _ hm)) (Ev.pos rfl ?_))))
    rw [wi' i r.length hr (by omega)]
    exact ih (i + 1) (by omega)
theorem sameRot_ev (r : List (List Int)) (hr : r.length ≤ 8796093022208) (hx : ∀ x ∈ r, x.length ≤ 8796093022208) : Ev (fun k => tangramlaw26_SameRotation.f k r r) true := by
  unfold tangramlaw26_SameRotation.f
  exact Ev.pos rfl (sameRot_l0 r hr hx r.length 0 (by omega))
end Go.Proofs.Ythfoliejhdpbaaa.Pure
