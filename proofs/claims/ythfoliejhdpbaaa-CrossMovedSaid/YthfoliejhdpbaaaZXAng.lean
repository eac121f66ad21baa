-- The order of directions round a point: a strict weak order (plain).
import Derived.Test.YthfoliejhdpbaaaZPCroAx0
import Derived.Test.YthfoliejhdpbaaaZXPure
set_option linter.unusedVariables false
set_option linter.unusedSimpArgs false
namespace Go.Proofs.Ythfoliejhdpbaaa.PCroA
open Go.RowKit Go.Proofs.YthfoliejhdpbaaaW.PrintWords Go.Proofs.YthfoliejhdpbaaaW.PrintLast Go.Proofs.YthfoliejhdpbaaaW.PrintMore Go.Proofs.YthfoliejhdpbaaaX
/-- the product of two directions -/
def X2 (a b : S23) : Int := a.f0 * b.f1 - a.f1 * b.f0
def halfI (a : S23) : Int := if a.f1 < 0 ∨ a.f1 = 0 ∧ a.f0 < 0 then 1 else 0
def sgn (n : Int) : Int := if n > 0 then 1 else if n < 0 then -1 else 0
/-- what against answers -/
def angF (a b : S23) : Int := if halfI a ≠ halfI b then halfI a - halfI b else -sgn (X2 a b)
def Up (a : S23) : Prop := 0 < a.f1 ∨ a.f1 = 0 ∧ 0 < a.f0
def ngt (a : S23) : S23 := ⟨-a.f0, -a.f1⟩
theorem X2_ngt (a b : S23) : X2 (ngt a) (ngt b) = X2 a b := by
  unfold X2 ngt
  simp only [Int.neg_mul_neg]
theorem X2_id (a b c : S23) : X2 a c * b.f1 = X2 a b * c.f1 + X2 b c * a.f1 := by
  unfold X2
  simp only [Int.sub_mul]
  have e1 : a.f0 * c.f1 * b.f1 = a.f0 * b.f1 * c.f1 := by rw [Int.mul_assoc, Int.mul_comm c.f1, ← Int.mul_assoc]
  have e2 : a.f1 * b.f0 * c.f1 = b.f0 * c.f1 * a.f1 := by rw [Int.mul_assoc, Int.mul_comm a.f1]
  have e3 : a.f1 * c.f0 * b.f1 = b.f1 * c.f0 * a.f1 := by rw [Int.mul_assoc, Int.mul_comm a.f1, Int.mul_comm c.f0]
  omega
theorem up_trans {a b c : S23} (ha : Up a) (hb : Up b) (hc : Up c) (h1 : 0 < X2 a b) (h2 : 0 < X2 b c) : 0 < X2 a c := by
  have hay : 0 ≤ a.f1 := by rcases ha with h | h <;> omega
  have hcy : 0 ≤ c.f1 := by rcases hc with h | h <;> omega
  rcases hb with hb | ⟨hb0, hb1⟩
  · have id := X2_id a b c
    have p1 : 0 ≤ X2 a b * c.f1 := Int.mul_nonneg (by omega) hcy
    have p2 : 0 ≤ X2 b c * a.f1 := Int.mul_nonneg (by omega) hay
    have pos : 0 < X2 a c * b.f1 := by
      rcases Int.lt_or_eq_of_le hcy with h | h
      · have := Int.mul_pos h1 h
        omega
      · rcases Int.lt_or_eq_of_le hay with h' | h'
        · have := Int.mul_pos h2 h'
          omega
        · exfalso
          have hcx : 0 < c.f0 := by rcases hc with q | q <;> omega
          unfold X2 at h2
          rw [← h, Int.mul_zero] at h2
          have := Int.mul_pos hb hcx
          omega
    rcases Int.lt_or_le 0 (X2 a c) with q | q
    · exact q
    · have := Int.mul_nonneg (a := -X2 a c) (b := b.f1) (by omega) (by omega)
      rw [Int.neg_mul] at this
      omega
  · exfalso
    unfold X2 at h1
    rw [hb0, Int.mul_zero] at h1
    have := Int.mul_nonneg hay (Int.le_of_lt hb1)
    omega
theorem up_ntrans {a b c : S23} (ha : Up a) (hb : Up b) (hc : Up c) (h1 : X2 a b ≤ 0) (h2 : X2 b c ≤ 0) : X2 a c ≤ 0 := by
  have hay : 0 ≤ a.f1 := by rcases ha with h | h <;> omega
  have hcy : 0 ≤ c.f1 := by rcases hc with h | h <;> omega
  rcases hb with hb | ⟨hb0, hb1⟩
  · have id := X2_id a b c
    have p1 : 0 ≤ -X2 a b * c.f1 := Int.mul_nonneg (by omega) hcy
    have p2 : 0 ≤ -X2 b c * a.f1 := Int.mul_nonneg (by omega) hay
    rw [Int.neg_mul] at p1 p2
    rcases Int.lt_or_le 0 (X2 a c) with q | q
    · have := Int.mul_pos q hb
      omega
    · exact q
  · have hc0 : c.f1 = 0 := by
      unfold X2 at h2
      rw [hb0, Int.zero_mul] at h2
      rcases Int.lt_or_eq_of_le hcy with h | h
      · have := Int.mul_pos hb1 h
        omega
      · exact h.symm
    have hcx : 0 < c.f0 := by rcases hc with q | q <;> omega
    unfold X2
    rw [hc0, Int.mul_zero]
    have := Int.mul_nonneg hay (Int.le_of_lt hcx)
    omega
theorem half_up {a : S23} (h : a.f0 ≠ 0 ∨ a.f1 ≠ 0) (h0 : halfI a = 0) : Up a := by
  unfold halfI at h0
  split at h0
  · cases h0
  · unfold Up; omega
theorem half_dn {a : S23} (h0 : halfI a = 1) : Up (ngt a) := by
  unfold halfI at h0
  split at h0
  · unfold Up ngt; dsimp only; omega
  · cases h0
theorem half_01 (a : S23) : halfI a = 0 ∨ halfI a = 1 := by unfold halfI; split <;> simp
theorem sgn_pos (n : Int) : -sgn n < 0 ↔ 0 < n := by unfold sgn; split <;> (try split) <;> omega
theorem ang_lt (a b : S23) : angF a b < 0 ↔ halfI a < halfI b ∨ halfI a = halfI b ∧ 0 < X2 a b := by
  unfold angF
  split
  · rename_i h
    constructor
    · intro q; exact Or.inl (by omega)
    · rintro (q | q)
      · omega
      · exact absurd q.1 h
  · rename_i h
    have h : halfI a = halfI b := by omega
    rw [sgn_pos]
    constructor
    · intro q; exact Or.inr ⟨h, q⟩
    · rintro (q | q)
      · omega
      · exact q.2
def Dir (a : S23) : Prop := a.f0 ≠ 0 ∨ a.f1 ≠ 0
theorem ang_trans {a b c : S23} (ha : Dir a) (hb : Dir b) (hc : Dir c) (h1 : angF a b < 0) (h2 : angF b c < 0) : angF a c < 0 := by
  rw [ang_lt] at h1 h2 ⊢
  rcases h1 with h1 | ⟨e1, h1⟩
  · rcases h2 with h2 | ⟨e2, h2⟩
    · exact Or.inl (by omega)
    · exact Or.inl (by omega)
  · rcases h2 with h2 | ⟨e2, h2⟩
    · exact Or.inl (by omega)
    · refine Or.inr ⟨by omega, ?_⟩
      rcases half_01 a with q | q
      · exact up_trans (half_up ha q) (half_up hb (by omega)) (half_up hc (by omega)) h1 h2
      · rw [← X2_ngt] at h1 h2 ⊢
        exact up_trans (half_dn q) (half_dn (by omega)) (half_dn (by omega)) h1 h2
theorem ang_ntrans {a b c : S23} (ha : Dir a) (hb : Dir b) (hc : Dir c) (h1 : ¬ angF a b < 0) (h2 : ¬ angF b c < 0) : ¬ angF a c < 0 := by
  rw [ang_lt] at h1 h2 ⊢
  have n1 : ¬ halfI a < halfI b := fun x => h1 (Or.inl x)
  have n2 : ¬ halfI b < halfI c := fun x => h2 (Or.inl x)
  rintro (h | ⟨e, h⟩)
  · omega
  · have e1 : halfI a = halfI b := by omega
    have e2 : halfI b = halfI c := by omega
    have m1 : X2 a b ≤ 0 := Int.not_lt.1 fun x => h1 (Or.inr ⟨e1, x⟩)
    have m2 : X2 b c ≤ 0 := Int.not_lt.1 fun x => h2 (Or.inr ⟨e2, x⟩)
    have : X2 a c ≤ 0 := by
      rcases half_01 a with q | q
      · exact up_ntrans (half_up ha q) (half_up hb (by omega)) (half_up hc (by omega)) m1 m2
      · rw [← X2_ngt] at m1 m2 ⊢
        exact up_ntrans (half_dn q) (half_dn (by omega)) (half_dn (by omega)) m1 m2
    omega
theorem ang_irrefl (a : S23) : ¬ angF a a < 0 := by
  rw [ang_lt]
  rintro (h | ⟨_, h⟩)
  · omega
  · unfold X2 at h
    rw [Int.mul_comm a.f1] at h
    omega
end Go.Proofs.Ythfoliejhdpbaaa.PCroA
