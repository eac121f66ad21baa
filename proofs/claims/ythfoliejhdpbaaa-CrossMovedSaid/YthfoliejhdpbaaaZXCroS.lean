-- Plain facts on layer 26 (cross): the area of a way moved and drawn larger; the moved points.
import Derived.Test.YthfoliejhdpbaaaZXCroQ
import Derived.Test.YthfoliejhdpbaaaZPCroAx53
set_option linter.unusedVariables false
set_option linter.unusedSimpArgs false
namespace Go.Proofs.Ythfoliejhdpbaaa.Pure
open Go.RowKit Go.Proofs.Ythfoliejhdpbaaa.PCroA Go.Proofs.YthfoliejhdpbaaaW.PrintWords Go.Proofs.YthfoliejhdpbaaaW.PrintLast Go.Proofs.YthfoliejhdpbaaaW.PrintMore Go.Proofs.YthfoliejhdpbaaaX
def sumT (l : List S23) : Nat → Nat → Int
  | 0, _ => 0
  | d + 1, i => arT l i + sumT l d (i + 1)
theorem arT_bd {l : List S23} (hI : InAll l) {i : Nat} (hi : i < l.length) : -140737488355328 ≤ arT l i ∧ arT l i ≤ 140737488355328 := by
  have a := hI i hi
  have b := hI ((i + 1) % l.length) (Nat.mod_lt _ (by omega))
  unfold In at a b
  unfold arT
  have q1 := mul_bd' (a := (P l i).f0) (b := (P l ((i + 1) % l.length)).f1) (by omega) (by omega)
  have q2 := mul_bd' (a := (P l ((i + 1) % l.length)).f0) (b := (P l i).f1) (by omega) (by omega)
  omega
theorem arF_eq {l : List S23} (hI : InAll l) (hl : l.length ≤ 4096) : ∀ (d i : Nat) (s : Int), i + d = l.length → (-140737488355328 * (i : Int) ≤ s ∧ s ≤ 140737488355328 * (i : Int)) → arF l d i s = s + sumT l d i := by
  intro d
  induction d with
  | zero => intro i s _ _; unfold arF sumT; omega
  | succ d ih =>
    intro i s hi hs
    have hb := arT_bd hI (i := i) (by omega)
    unfold arF sumT
    rw [w64 (by omega) (by omega), ih (i + 1) (s + arT l i) (by omega) (by omega)]
    omega
theorem sumT_bd {l : List S23} (hI : InAll l) : ∀ (d i : Nat), i + d = l.length → -140737488355328 * (d : Int) ≤ sumT l d i ∧ sumT l d i ≤ 140737488355328 * (d : Int) := by
  intro d
  induction d with
  | zero => intro i _; unfold sumT; omega
  | succ d ih =>
    intro i hi
    have hb := arT_bd hI (i := i) (by omega)
    have := ih (i + 1) (by omega)
    unfold sumT
    omega
def FF (dx dy : Int) (p : List S23) (i : Nat) : Int := (P p i).f0 * dy - (P p i).f1 * dx
namespace Moved
variable {t dx dy : Int} {p p' : List S23} (m : Moved t dx dy p p')
include m
theorem arT_ {i : Nat} (hi : i < p.length) : arT p' i = t * t * arT p i + t * (FF dx dy p i - FF dx dy p ((i + 1) % p.length)) := by
  unfold arT FF
  rw [m.len, m.at_ i hi, m.at_ _ (Nat.mod_lt _ (by omega))]
  unfold mv
  dsimp only
  grind
theorem sum_ : ∀ (d i : Nat), i + (d + 1) = p.length → sumT p' (d + 1) i = t * t * sumT p (d + 1) i + t * (FF dx dy p i - FF dx dy p 0) := by
  intro d
  induction d with
  | zero =>
    intro i hi
    unfold sumT sumT
    rw [m.arT_ (by omega), show i + 1 = p.length by omega, Nat.mod_self]
    grind
  | succ d ih =>
    intro i hi
    have e := ih (i + 1) (by omega)
    have a := m.arT_ (i := i) (by omega)
    rw [Nat.mod_eq_of_lt (by omega)] at a
    show arT p' i + sumT p' (d + 1) (i + 1) = t * t * (arT p i + sumT p (d + 1) (i + 1)) + _
    rw [e, a]
    grind
theorem sum0 : sumT p' p.length 0 = t * t * sumT p p.length 0 := by
  cases h : p.length with
  | zero => unfold sumT; rw [Int.mul_zero]
  | succ d =>
    rw [m.sum_ d 0 (by omega), Int.sub_self, Int.mul_zero, Int.add_zero]
theorem area_ (ht : t ≤ 8) : (areaV p).2 = (areaV p').2 ∧ (areaV p').1 = wrap64 (wrap64 ((areaV p).1 * t) * t) := by
  unfold areaV
  rw [m.len]
  have h1 := m.ht
  by_cases c : p.length ≤ 4096
  · rw [if_pos ⟨c, m.hp⟩, if_pos ⟨c, m.hp'⟩]
    refine ⟨rfl, ?_⟩
    have e1 := arF_eq m.hp c p.length 0 0 (by omega) (by omega)
    have e2 := arF_eq m.hp' (by rw [m.len]; exact c) p.length 0 0 (by rw [m.len]; omega) (by omega)
    show arF p' p.length 0 0 = wrap64 (wrap64 (arF p p.length 0 0 * t) * t)
    rw [e1, e2, m.sum0]
    have b1 := sumT_bd m.hp p.length 0 (by omega)
    have b2 := sumT_bd m.hp' p'.length 0 (by omega)
    rw [m.len, m.sum0] at b2
    generalize sumT p p.length 0 = A at *
    have q1 : -4611686018427387904 ≤ A * t ∧ A * t ≤ 4611686018427387904 := by
      rcases (by omega : t = 1 ∨ t = 2 ∨ t = 3 ∨ t = 4 ∨ t = 5 ∨ t = 6 ∨ t = 7 ∨ t = 8) with rfl | rfl | rfl | rfl | rfl | rfl | rfl | rfl <;> omega
    have q2 : A * t * t = t * t * A := by rw [Int.mul_assoc, Int.mul_comm]
    rw [Int.zero_add, Int.zero_add, w64 (x := A * t) (by omega) (by omega), q2, w64 (by omega) (by omega)]
  · rw [if_neg (fun q => c q.1), if_neg (fun q => c q.1)]
    exact ⟨rfl, by rw [Int.zero_mul, w64 (x := 0) (by omega) (by omega), Int.zero_mul, w64 (x := 0) (by omega) (by omega)]⟩
end Moved
theorem rotV_len (n : Int) (l : List S62) (p : List S23) : (rotV n l p).1.length ≤ 8796093022208 ∧ ∀ x ∈ (rotV n l p).1, x.length ≤ 8796093022208 := by
  have nil : ([] : List (List Int)).length ≤ 8796093022208 ∧ ∀ x ∈ ([] : List (List Int)), x.length ≤ 8796093022208 := ⟨by simp, fun x hx => absurd hx (by simp)⟩
  unfold rotV
  split
  · split
    · rename_i hP
      have h := rowsR_len hP
      refine ⟨by show (canonV _).length ≤ _; unfold canonV; rw [List.length_map]; omega, fun x hx => ?_⟩
      obtain ⟨y, hy, rfl⟩ := List.mem_map.1 (show x ∈ canonV _ from hx)
      rw [turnL_len]
      exact h.2 y hy
    · exact nil
  · exact nil
/-! the law's own loop -/
def Sm (a : S23) : Prop := (-262144 ≤ a.f0 ∧ a.f0 ≤ 262144) ∧ -262144 ≤ a.f1 ∧ a.f1 ≤ 262144
def mvA (t dx dy : Int) (p : List S23) (i : Nat) : List S23 := (p.take i).map (mv t dx dy) ++ p.drop i
theorem mvA_len (t dx dy : Int) (p : List S23) (i : Nat) : (mvA t dx dy p i).length = p.length := by simp [mvA]; omega
theorem mvA_0 (t dx dy : Int) (p : List S23) : mvA t dx dy p 0 = p := by simp [mvA]
theorem mvA_end (t dx dy : Int) (p : List S23) : mvA t dx dy p p.length = p.map (mv t dx dy) := by simp [mvA]
theorem mvA_rd (t dx dy : Int) (p : List S23) (i : Nat) (hi : i < p.length) : rd_T23 (mvA t dx dy p i) (i : Int) = P p i := by
  have hl : ((p.take i).map (mv t dx dy)).length = i := by rw [List.length_map, List.length_take]; omega
  rw [P_get p i hi]
  unfold mvA rd_T23
  rw [Int.toNat_natCast, List.getD_eq_getElem?_getD, List.getElem?_append_right (by omega), hl, Nat.sub_self]
  simp [hi]
theorem mvA_set (t dx dy : Int) (p : List S23) (i : Nat) (hi : i < p.length) : (mvA t dx dy p i).set i (mv t dx dy (P p i)) = mvA t dx dy p (i + 1) := by
  have hl : ((p.take i).map (mv t dx dy)).length = i := by rw [List.length_map, List.length_take]; omega
  rw [P_get p i hi]
  unfold mvA
  rw [List.set_append_right _ _ (by omega), hl, Nat.sub_self, List.drop_eq_getElem_cons hi, List.set_cons_zero, List.take_add_one, List.getElem?_eq_getElem hi]
  simp only [List.map_append, Option.toList_some, List.map_cons, List.map_nil, List.append_assoc, List.cons_append, List.nil_append]
theorem moved_of {t dx dy : Int} {p : List S23} (ht : 1 ≤ t ∧ t ≤ 8) (hx : -1000 ≤ dx ∧ dx ≤ 1000) (hy : -1000 ≤ dy ∧ dy ≤ 1000) (h : ∀ j, j < p.length → Sm (P p j)) : Moved t dx dy p (p.map (mv t dx dy)) := by
  refine ⟨ht.1, rfl, fun j hj => ?_, fun j hj => ?_⟩
  · have := h j hj; unfold Sm at this; unfold In; omega
  · have hj' : j < p.length := by simpa using hj
    have := h j hj'
    unfold Sm at this
    rw [P_get _ j hj]
    rw [List.getElem_map, ← P_get p j hj']
    unfold In mv
    dsimp only
    rcases (by omega : t = 1 ∨ t = 2 ∨ t = 3 ∨ t = 4 ∨ t = 5 ∨ t = 6 ∨ t = 7 ∨ t = 8) with rfl | rfl | rfl | rfl | rfl | rfl | rfl | rfl <;> omega
theorem moved_l0 {n : Int} {l : List S62} {p : List S23} {t dx dy : Int} (hl : l.length < 8796093022208) (hp : p.length < 8796093022208) (ht : 1 ≤ t ∧ t ≤ 8) (hx : -1000 ≤ dx ∧ dx ≤ 1000) (hy : -1000 ≤ dy ∧ dy ≤ 1000) :
    ∀ (d i : Nat), i + d = p.length → (∀ j, j < i → Sm (P p j)) → Ev (fun k => tangramlaw26_CrossMoved.l0 k p dx dy t (mvA t dx dy p i) (p.length : Int) (i : Int) n l) true := by
  intro d
  induction d with
  | zero =>
    intro i hi hs
    have hi' : i = p.length := by omega
    subst hi'
    have m := moved_of ht hx hy hs
    refine Ev.succ ?_
    simp only [tangramlaw26_CrossMoved.l0]
    refine Ev.neg (by omega) ?_
    rw [mvA_end]
    have hp' : (p.map (mv t dx dy)).length < 8796093022208 := by rw [List.length_map]; exact hp
    refine Ev.andThen' (graph_eq n l hl) (Ev.andThen' (points_eq p hp) (Ev.andThen (first_ev n l p (by omega)) ?_))
    refine Ev.andThen' (graph_eq n l hl) (Ev.andThen' (points_eq _ hp') (Ev.andThen (first_ev n l _ (by omega)) ?_))
    refine Ev.andThen' (graph_eq n l hl) (Ev.andThen' (points_eq p hp) (Ev.andThen (rotation_ev n l p (by omega)) ?_))
    refine Ev.andThen' (graph_eq n l hl) (Ev.andThen' (points_eq _ hp') (Ev.andThen (rotation_ev n l _ (by omega)) ?_))
    refine Ev.andThen' (points_eq p hp) (Ev.andThen (area_ev p (by omega)) (Ev.andThen (area_ev _ (by omega)) ?_))
    have hA := m.area_ ht.2
    rw [m.first_ n l, m.rot_ n l]
    refine Ev.pos rfl (Ev.pos rfl (Ev.pos rfl (Ev.pos rfl ?_)))
    have hR := rotV_len n l p
    refine Ev.andThen (sameRot_ev _ hR.1 hR.2) (Ev.pos rfl (Ev.pos hA.1 (Ev.val ?_)))
    rw [hA.2, beq_self_eq_true]
  | succ d ih =>
    intro i hi hs
    have hi' : i < p.length := by omega
    refine Ev.succ ?_
    simp only [tangramlaw26_CrossMoved.l0]
    rw [mvA_rd t dx dy p i hi', mvA_len, Int.toNat_natCast, wi' i p.length (by omega) hi']
    refine Ev.pos (by omega) (Ev.pos (by omega) (Ev.pos (by omega) ?_))
    refine Ev.ite (fun _ => Ev.now _) (fun h1 => Ev.ite (fun _ => Ev.now _) (fun h2 => Ev.ite (fun _ => Ev.now _) (fun h3 => Ev.ite (fun _ => Ev.now _) (fun h4 => ?_))))
    have b0 : -2097152 ≤ (P p i).f0 * t ∧ (P p i).f0 * t ≤ 2097152 := by
      rcases (by omega : t = 1 ∨ t = 2 ∨ t = 3 ∨ t = 4 ∨ t = 5 ∨ t = 6 ∨ t = 7 ∨ t = 8) with rfl | rfl | rfl | rfl | rfl | rfl | rfl | rfl <;> omega
    have b1 : -2097152 ≤ (P p i).f1 * t ∧ (P p i).f1 * t ≤ 2097152 := by
      rcases (by omega : t = 1 ∨ t = 2 ∨ t = 3 ∨ t = 4 ∨ t = 5 ∨ t = 6 ∨ t = 7 ∨ t = 8) with rfl | rfl | rfl | rfl | rfl | rfl | rfl | rfl <;> omega
    rw [w64 (x := (P p i).f0 * t) (by omega) (by omega), w64 (x := (P p i).f1 * t) (by omega) (by omega), w64 (by omega) (by omega), w64 (by omega) (by omega)]
    refine Ev.andThen' (a := ((P p i).f0 * t + dx, (P p i).f1 * t + dy)) rfl ?_
    rw [show (⟨((P p i).f0 * t + dx, (P p i).f1 * t + dy).1, ((P p i).f0 * t + dx, (P p i).f1 * t + dy).2⟩ : S23) = mv t dx dy (P p i) from rfl, mvA_set t dx dy p i hi']
    refine ih (i + 1) (by omega) fun j hj => ?_
    by_cases c : j = i
    · subst c; unfold Sm; omega
    · exact hs j (by omega)
end Go.Proofs.Ythfoliejhdpbaaa.Pure
