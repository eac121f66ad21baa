-- Plain facts on the printed functions of layer 26 (cross): Rotation of a proper drawing.
import Derived.Test.YthfoliejhdpbaaaZXCroE
import Derived.Test.YthfoliejhdpbaaaZXCroM
import Derived.Test.YthfoliejhdpbaaaZPCroAx26
set_option linter.unusedVariables false
set_option linter.unusedSimpArgs false
namespace Go.Proofs.Ythfoliejhdpbaaa.Pure
open Go.RowKit Go.Proofs.Ythfoliejhdpbaaa.PCroA Go.Proofs.YthfoliejhdpbaaaW.PrintWords Go.Proofs.YthfoliejhdpbaaaW.PrintLast Go.Proofs.YthfoliejhdpbaaaW.PrintMore Go.Proofs.YthfoliejhdpbaaaX
def dif (a b : S23) : S23 := ⟨a.f0 - b.f0, a.f1 - b.f1⟩
def addR (l : List S62) (x7 : List (List Int)) (i : Nat) : List (List Int) :=
  (x7.set (G l i).f0.toNat (rd_L3 x7 (G l i).f0 ++ [((2 * i : Nat) : Int)])).set (G l i).f1.toNat
    (rd_L3 (x7.set (G l i).f0.toNat (rd_L3 x7 (G l i).f0 ++ [((2 * i : Nat) : Int)])) (G l i).f1 ++ [((2 * i + 1 : Nat) : Int)])
def addD (p : List S23) (l : List S62) (x8 : List S23) (i : Nat) : List S23 :=
  (x8.set (2 * i) (dif (Q p (G l i).f1) (Q p (G l i).f0))).set (2 * i + 1) (dif (Q p (G l i).f0) (Q p (G l i).f1))
def rowsF (l : List S62) : Nat → Nat → List (List Int) → List (List Int)
  | 0, _, x => x
  | d + 1, i, x => rowsF l d (i + 1) (addR l x i)
def dirsF (p : List S23) (l : List S62) : Nat → Nat → List S23 → List S23
  | 0, _, x => x
  | d + 1, i, x => dirsF p l d (i + 1) (addD p l x i)
/-- half-edge h, of the first i edges, begins at v -/
def Hf (l : List S62) (i : Nat) (v : Nat) (h : Int) : Prop := ∃ j, j < i ∧ ((h = ((2 * j : Nat) : Int) ∧ (G l j).f0 = (v : Int)) ∨ (h = ((2 * j + 1 : Nat) : Int) ∧ (G l j).f1 = (v : Int)))
theorem Hf.up {l : List S62} {i v : Nat} {h : Int} (q : Hf l i v h) : Hf l (i + 1) v h := by
  obtain ⟨j, hj, q⟩ := q
  exact ⟨j, by omega, q⟩
def RInv (l : List S62) (n i : Nat) (x : List (List Int)) : Prop := x.length = n ∧ ∀ v, (∀ h ∈ x.getD v [], Hf l i v h) ∧ (x.getD v []).length ≤ 2 * i
def DInv (p : List S23) (l : List S62) (i : Nat) (x : List S23) : Prop := x.length = 2 * l.length ∧ ∀ j, j < i → rd_T23 x ((2 * j : Nat) : Int) = dif (Q p (G l j).f1) (Q p (G l j).f0) ∧ rd_T23 x ((2 * j + 1 : Nat) : Int) = dif (Q p (G l j).f0) (Q p (G l j).f1)
theorem getD_set_eq {α : Type} (x : List α) (i j : Nat) (a d : α) : (x.set i a).getD j d = if i = j ∧ i < x.length then a else x.getD j d := by
  simp only [List.getD_eq_getElem?_getD, List.getElem?_set]
  by_cases h : i = j
  · subst h
    by_cases h2 : i < x.length
    · simp [h2]
    · simp [h2]
  · simp [h]
theorem rdL_nat (x : List (List Int)) {a : Int} (h : 0 ≤ a) : rd_L3 x a = x.getD a.toNat [] := rfl
theorem addR_inv {l : List S62} {n : Nat} {i : Nat} {x : List (List Int)} (he : Ed (n : Int) (G l i)) (h : RInv l n i x) : RInv l n (i + 1) (addR l x i) := by
  obtain ⟨hl, hx⟩ := h
  unfold Ed at he
  refine ⟨by simp [addR, hl], fun v => ?_⟩
  have e0 : ∀ w, (x.set (G l i).f0.toNat (rd_L3 x (G l i).f0 ++ [((2 * i : Nat) : Int)])).getD w [] = if (G l i).f0.toNat = w then x.getD w [] ++ [((2 * i : Nat) : Int)] else x.getD w [] := by
    intro w
    rw [getD_set_eq]
    by_cases c : (G l i).f0.toNat = w
    · rw [if_pos ⟨c, by omega⟩, if_pos c]; subst c; rfl
    · rw [if_neg (fun q => c q.1), if_neg c]
  have e1 : (addR l x i).getD v [] = if (G l i).f1.toNat = v then x.getD v [] ++ [((2 * i + 1 : Nat) : Int)] else if (G l i).f0.toNat = v then x.getD v [] ++ [((2 * i : Nat) : Int)] else x.getD v [] := by
    unfold addR
    rw [getD_set_eq]
    by_cases c : (G l i).f1.toNat = v
    · rw [if_pos ⟨c, by rw [List.length_set]; omega⟩, if_pos c, rdL_nat _ (by omega), e0, if_neg (by omega)]; subst c; rfl
    · rw [if_neg (fun q => c q.1), if_neg c, e0]
  have hv := hx v
  rw [e1]
  split
  · rename_i c
    refine ⟨fun h hh => ?_, by rw [List.length_append, List.length_singleton]; omega⟩
    rcases List.mem_append.1 hh with hh | hh
    · exact (hv.1 h hh).up
    · refine ⟨i, by omega, Or.inr ⟨List.mem_singleton.1 hh, by omega⟩⟩
  · split
    · rename_i c
      refine ⟨fun h hh => ?_, by rw [List.length_append, List.length_singleton]; omega⟩
      rcases List.mem_append.1 hh with hh | hh
      · exact (hv.1 h hh).up
      · refine ⟨i, by omega, Or.inl ⟨List.mem_singleton.1 hh, by omega⟩⟩
    · exact ⟨fun h hh => (hv.1 h hh).up, by omega⟩
theorem rdT_set (x : List S23) (i j : Nat) (a : S23) : rd_T23 (x.set i a) (j : Int) = if i = j ∧ i < x.length then a else rd_T23 x (j : Int) := by
  unfold rd_T23
  rw [Int.toNat_natCast, getD_set_eq]
theorem addD_inv {p : List S23} {l : List S62} {i : Nat} {x : List S23} (hi : i < l.length) (h : DInv p l i x) : DInv p l (i + 1) (addD p l x i) := by
  obtain ⟨hl, hx⟩ := h
  refine ⟨by simp [addD, hl], fun j hj => ?_⟩
  have e : ∀ m : Nat, rd_T23 (addD p l x i) (m : Int) = if 2 * i + 1 = m then dif (Q p (G l i).f0) (Q p (G l i).f1) else if 2 * i = m then dif (Q p (G l i).f1) (Q p (G l i).f0) else rd_T23 x (m : Int) := by
    intro m
    unfold addD
    rw [rdT_set, rdT_set, List.length_set]
    by_cases c : 2 * i + 1 = m
    · rw [if_pos ⟨c, by omega⟩, if_pos c]
    · rw [if_neg (fun q => c q.1), if_neg c]
      by_cases c2 : 2 * i = m
      · rw [if_pos ⟨c2, by omega⟩, if_pos c2]
      · rw [if_neg (fun q => c2 q.1), if_neg c2]
  rw [e, e]
  by_cases c : j = i
  · subst c
    rw [if_neg (by omega), if_pos rfl, if_pos rfl]
    exact ⟨rfl, rfl⟩
  · rw [if_neg (by omega), if_neg (by omega), if_neg (by omega), if_neg (by omega)]
    exact hx j (by omega)
theorem rows_inv {l : List S62} {n : Nat} (h : ∀ j, j < l.length → Ed (n : Int) (G l j)) : ∀ (d i : Nat) (x : List (List Int)), i + d = l.length → RInv l n i x → RInv l n l.length (rowsF l d i x) := by
  intro d
  induction d with
  | zero => intro i x hi hx; rw [show i = l.length by omega] at hx; exact hx
  | succ d ih => intro i x hi hx; exact ih (i + 1) _ (by omega) (addR_inv (h i (by omega)) hx)
theorem dirs_inv {p : List S23} {l : List S62} : ∀ (d i : Nat) (x : List S23), i + d = l.length → DInv p l i x → DInv p l l.length (dirsF p l d i x) := by
  intro d
  induction d with
  | zero => intro i x hi hx; rw [show i = l.length by omega] at hx; exact hx
  | succ d ih => intro i x hi hx; exact ih (i + 1) _ (by omega) (addD_inv (by omega) hx)
/-! the first loop -/
theorem rot_l0 {n : Int} {l : List S62} {p : List S23} (h : Ok n l) (hd : Dw n p) (R : List (List Int) × Int) :
    ∀ (d i : Nat) (x7 : List (List Int)) (x8 : List S23), i + d = l.length → RInv l p.length i x7 → DInv p l i x8 →
    (∀ q : RotOk (rowsF l d i x7) (dirsF p l d i x8), Ev (fun k => (rot_Canon.f k ((rowsF l d i x7).map (roundS (dirsF p l d i x8)))).bind fun t => some (t, (0 : Int))) R) →
    RotOk (rowsF l d i x7) (dirsF p l d i x8) →
    Ev (fun k => cross_Rotation.l0 k p x7 x8 l (l.length : Int) (i : Int)) R := by
  intro d
  induction d with
  | zero =>
    intro i x7 x8 hi hr hD hR hq
    refine Ev.succ ?_
    simp only [cross_Rotation.l0]
    exact Ev.neg (by omega) (Ev.pos hq (hR hq))
  | succ d ih =>
    intro i x7 x8 hi hr hD hR hq
    have hi' : i < l.length := by omega
    have hE := (h.2.2 i hi').1
    have hl2 := h.2.1
    have hn := hd.1
    unfold Ed at hE
    have w1 : wrap64 (2 * (i : Int)) = ((2 * i : Nat) : Int) := by rw [w64 (by omega) (by omega)]; omega
    have w2 : wrap64 (((2 * i : Nat) : Int) + 1) = ((2 * i + 1 : Nat) : Int) := by rw [w64 (by omega) (by omega)]; omega
    have q0 := hd.2 (G l i).f0.toNat (by omega)
    have q1 := hd.2 (G l i).f1.toNat (by omega)
    rw [← Q_P p (by omega)] at q0 q1
    unfold In at q0 q1
    refine Ev.succ ?_
    simp only [cross_Rotation.l0, rdG, rdQ, w1, w2, Option.bind_some]
    have r0 := (hr.2 (G l i).f0.toNat).2
    have r1 := ((addR_inv (l := l) (i := i) (n := p.length) (by unfold Ed; omega) hr).2 (G l i).f1.toNat).2
    have len1 : (rd_L3 (x7.set (G l i).f0.toNat (rd_L3 x7 (G l i).f0 ++ [((2 * i : Nat) : Int)])) (G l i).f1).length < 17592186044416 := by
      rw [rdL_nat _ (by omega), getD_set_eq, if_neg (by omega)]
      have := (hr.2 (G l i).f1.toNat).2
      omega
    refine Ev.pos (by omega) (Ev.pos (by omega) (Ev.pos (by omega) (Ev.pos (by omega) (Ev.pos (by omega) (Ev.pos (by omega) (Ev.pos (by omega) (Ev.pos (by omega) (Ev.pos (by rw [hD.1]; omega) (Ev.pos (by omega) (Ev.pos (by rw [hD.1]; omega) (Ev.pos (by rw [hr.1]; omega) (Ev.pos (by rw [rdL_nat _ (by omega)]; omega) ?_))))))))))))
    refine Ev.pos (by rw [hr.1]; omega) (Ev.pos len1 ?_)
    rw [wi i l (by omega) hi', Int.toNat_natCast, Int.toNat_natCast, w64 (by omega) (by omega), w64 (by omega) (by omega), w64 (by omega) (by omega), w64 (by omega) (by omega)]
    exact ih (i + 1) (addR l x7 i) (addD p l x8 i) (by omega) (addR_inv (by unfold Ed; omega) hr) (addD_inv hi' hD) hR hq
end Go.Proofs.Ythfoliejhdpbaaa.Pure
