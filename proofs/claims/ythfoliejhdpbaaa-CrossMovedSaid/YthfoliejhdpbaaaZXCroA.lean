-- By hand: pieces of straight lines between whole points: no program in sight.
import Derived.Test.YthfoliejhdpbaaaZXPure
import Derived.Test.YthfoliejhdpbaaaZPCroAx0
set_option linter.unusedVariables false
set_option linter.unusedSimpArgs false
namespace Go.Proofs.Ythfoliejhdpbaaa.Pure
open Go.RowKit Go.Proofs.Ythfoliejhdpbaaa.PCroA Go.Proofs.YthfoliejhdpbaaaW.PrintWords Go.Proofs.YthfoliejhdpbaaaW.PrintLast Go.Proofs.YthfoliejhdpbaaaX
/-- b - a times c - a -/
def prod (a b c : S23) : Int := (b.f0 - a.f0) * (c.f1 - a.f1) - (b.f1 - a.f1) * (c.f0 - a.f0)
def sg (n : Int) : Int := if n > 0 then 1 else if n < 0 then -1 else 0
def Bx (a b c : S23) : Prop := (min a.f0 b.f0 ≤ c.f0 ∧ c.f0 ≤ max a.f0 b.f0) ∧ min a.f1 b.f1 ≤ c.f1 ∧ c.f1 ≤ max a.f1 b.f1
def OnP (a b c : S23) : Prop := prod a b c = 0 ∧ Bx a b c
def Over (a b c d : S23) : Prop := (min c.f0 d.f0 ≤ max a.f0 b.f0 ∧ min a.f0 b.f0 ≤ max c.f0 d.f0) ∧ min c.f1 d.f1 ≤ max a.f1 b.f1 ∧ min a.f1 b.f1 ≤ max c.f1 d.f1
/-- what the program asks -/
def MeetP (a b c d : S23) : Prop := Over a b c d ∧ sg (prod a b c) * sg (prod a b d) ≤ 0 ∧ sg (prod c d a) * sg (prod c d b) ≤ 0
/-- what the document asks -/
def MeetR (a b c d : S23) : Prop := (OnP a b c ∨ OnP a b d ∨ OnP c d a ∨ OnP c d b) ∨ (sg (prod a b c) * sg (prod a b d) < 0 ∧ sg (prod c d a) * sg (prod c d b) < 0)
instance (a b c : S23) : Decidable (Bx a b c) := inferInstanceAs (Decidable (_ ∧ _))
instance (a b c : S23) : Decidable (OnP a b c) := inferInstanceAs (Decidable (_ ∧ _))
instance (a b c d : S23) : Decidable (Over a b c d) := inferInstanceAs (Decidable (_ ∧ _))
instance (a b c d : S23) : Decidable (MeetP a b c d) := inferInstanceAs (Decidable (_ ∧ _))
instance (a b c d : S23) : Decidable (MeetR a b c d) := inferInstanceAs (Decidable (_ ∨ _))
theorem sg_pos {n : Int} (h : 0 < n) : sg n = 1 := by unfold sg; rw [if_pos h]
theorem sg_neg {n : Int} (h : n < 0) : sg n = -1 := by unfold sg; rw [if_neg (by omega), if_pos h]
theorem sg_zero {n : Int} (h : n = 0) : sg n = 0 := by subst h; rfl
theorem sg_bd (n : Int) : -1 ≤ sg n ∧ sg n ≤ 1 := by unfold sg; split <;> (try split) <;> omega
theorem sg_le (m n : Int) : sg m * sg n ≤ 0 ↔ (m = 0 ∨ n = 0 ∨ (0 < m ∧ n < 0) ∨ (m < 0 ∧ 0 < n)) := by
  rcases Int.lt_trichotomy m 0 with h | h | h <;> rcases Int.lt_trichotomy n 0 with k | k | k <;> (first | rw [sg_pos h] | rw [sg_neg h] | rw [sg_zero h]) <;> (first | rw [sg_pos k] | rw [sg_neg k] | rw [sg_zero k]) <;> omega
theorem sg_lt (m n : Int) : sg m * sg n < 0 ↔ ((0 < m ∧ n < 0) ∨ (m < 0 ∧ 0 < n)) := by
  rcases Int.lt_trichotomy m 0 with h | h | h <;> rcases Int.lt_trichotomy n 0 with k | k | k <;> (first | rw [sg_pos h] | rw [sg_neg h] | rw [sg_zero h]) <;> (first | rw [sg_pos k] | rw [sg_neg k] | rw [sg_zero k]) <;> omega
/-! identities -/
theorem prod_cyc (a b c : S23) : prod b c a = prod a b c := by unfold prod; grind
theorem prod_swap (a b c : S23) : prod b a c = -prod a b c := by unfold prod; grind
theorem prod_four (a b c d : S23) : prod a b d - prod a b c = prod c d a - prod c d b := by unfold prod; grind
theorem prod_x (a b c d : S23) : prod a b d * c.f0 - prod a b c * d.f0 = prod c d a * b.f0 - prod c d b * a.f0 := by unfold prod; grind
theorem prod_y (a b c d : S23) : prod a b d * c.f1 - prod a b c * d.f1 = prod c d a * b.f1 - prod c d b * a.f1 := by unfold prod; grind
theorem le_mul {x y z : Int} (hx : 0 < x) (h : x * y ≤ x * z) : y ≤ z := Int.le_of_mul_le_mul_left h hx
/-- along a line: between in one coordinate, between in the other -/
theorem along {X Y x y : Int} (h : X * y = Y * x) (hX : X ≠ 0) (h1 : min 0 X ≤ x) (h2 : x ≤ max 0 X) : min 0 Y ≤ y ∧ y ≤ max 0 Y := by
  have key : ∀ X x : Int, 0 < X → 0 ≤ x → x ≤ X → X * y = Y * x → min 0 Y ≤ y ∧ y ≤ max 0 Y := by
    intro X x hX h0 h1 h
    rcases Int.le_total 0 Y with hy | hy
    · have a1 : X * 0 ≤ X * y := by rw [h]; have := Int.mul_nonneg hy h0; omega
      have a2 : X * y ≤ X * Y := by rw [h, Int.mul_comm X Y]; exact Int.mul_le_mul_of_nonneg_left h1 hy
      have := le_mul hX a1
      have := le_mul hX a2
      omega
    · have hy' : 0 ≤ -Y := by omega
      have a1 : X * y ≤ X * 0 := by rw [h]; have := Int.mul_nonneg hy' h0; rw [Int.neg_mul] at this; omega
      have a2 : X * Y ≤ X * y := by
        rw [h, Int.mul_comm X Y]
        have := Int.mul_le_mul_of_nonneg_left h1 hy'
        rw [Int.neg_mul, Int.neg_mul] at this
        omega
      have := le_mul hX a1
      have := le_mul hX a2
      omega
  rcases Int.lt_or_lt_of_ne hX with c | c
  · exact key (-X) (-x) (by omega) (by omega) (by omega) (by rw [Int.neg_mul, Int.mul_neg, h])
  · exact key X x c (by omega) (by omega) h
theorem on_x {a b c : S23} (h : prod a b c = 0) (hne : a.f0 ≠ b.f0) (h1 : min a.f0 b.f0 ≤ c.f0) (h2 : c.f0 ≤ max a.f0 b.f0) : OnP a b c := by
  have := along (X := b.f0 - a.f0) (Y := b.f1 - a.f1) (x := c.f0 - a.f0) (y := c.f1 - a.f1) (by unfold prod at h; omega) (by omega) (by omega) (by omega)
  exact ⟨h, ⟨h1, h2⟩, by omega, by omega⟩
/-- a point of a row of weights lies between -/
theorem weigh {D p q x y z : Int} (hD : 0 < D) (hp : 0 ≤ p) (hq : 0 ≤ q) (hs : p + q = D) (h : D * x = p * y + q * z) : min y z ≤ x ∧ x ≤ max y z := by
  have b1 : p * min y z ≤ p * y := Int.mul_le_mul_of_nonneg_left (by omega) hp
  have b2 : q * min y z ≤ q * z := Int.mul_le_mul_of_nonneg_left (by omega) hq
  have b3 : p * y ≤ p * max y z := Int.mul_le_mul_of_nonneg_left (by omega) hp
  have b4 : q * z ≤ q * max y z := Int.mul_le_mul_of_nonneg_left (by omega) hq
  have e1 : D * min y z = p * min y z + q * min y z := by rw [← Int.add_mul, hs]
  have e2 : D * max y z = p * max y z + q * max y z := by rw [← Int.add_mul, hs]
  exact ⟨le_mul hD (by omega), le_mul hD (by omega)⟩
theorem Over.symm {a b c d : S23} (h : Over a b c d) : Over c d a b := ⟨⟨h.1.2, h.1.1⟩, h.2.2, h.2.1⟩
theorem Over.swap {a b c d : S23} (h : Over a b c d) : Over b a c d := by unfold Over at *; omega
theorem OnP.swap {a b c : S23} (h : OnP a b c) : OnP b a c := by
  refine ⟨by rw [prod_swap, h.1]; rfl, ?_⟩
  have := h.2
  unfold Bx at *
  omega
theorem on_swap (a b c : S23) : OnP b a c ↔ OnP a b c := ⟨OnP.swap, OnP.swap⟩
/-- the four products all 0, the boxes have a point in common -/
theorem all_zero {a b c d : S23} (h1 : prod a b c = 0) (h2 : prod a b d = 0) (h3 : prod c d a = 0) (h4 : prod c d b = 0) (h : Over a b c d) : OnP a b c ∨ OnP a b d ∨ OnP c d a ∨ OnP c d b := by
  obtain ⟨⟨ha, hb⟩, hc, hd⟩ := h
  by_cases hu : a.f0 = b.f0
  · by_cases hv : c.f0 = d.f0
    · by_cases q1 : min a.f1 b.f1 ≤ c.f1 ∧ c.f1 ≤ max a.f1 b.f1
      · exact Or.inl ⟨h1, by unfold Bx; omega⟩
      · by_cases q2 : min a.f1 b.f1 ≤ d.f1 ∧ d.f1 ≤ max a.f1 b.f1
        · exact Or.inr (Or.inl ⟨h2, by unfold Bx; omega⟩)
        · exact Or.inr (Or.inr (Or.inl ⟨h3, by unfold Bx; omega⟩))
    · exact Or.inr (Or.inr (Or.inl (on_x h3 hv (by omega) (by omega))))
  · by_cases q1 : min a.f0 b.f0 ≤ c.f0 ∧ c.f0 ≤ max a.f0 b.f0
    · exact Or.inl (on_x h1 hu q1.1 q1.2)
    · by_cases q2 : min a.f0 b.f0 ≤ d.f0 ∧ d.f0 ≤ max a.f0 b.f0
      · exact Or.inr (Or.inl (on_x h2 hu q2.1 q2.2))
      · exact Or.inr (Or.inr (Or.inl (on_x h3 (by omega) (by omega) (by omega))))
/-- the line through a, b meets the piece at its end c -/
theorem end_on {a b c d : S23} (h1 : prod a b c = 0) (h3 : sg (prod c d a) * sg (prod c d b) ≤ 0) (h : Over a b c d) : OnP a b c ∨ OnP a b d ∨ OnP c d a ∨ OnP c d b := by
  rw [sg_le] at h3
  have e4 := prod_four a b c d
  by_cases hD : prod a b d = 0
  · have : prod c d a = prod c d b := by omega
    have h5 : prod c d a = 0 := by omega
    exact all_zero h1 hD h5 (by omega) h
  · refine Or.inl ?_
    have ex := prod_x a b c d
    have ey := prod_y a b c d
    rw [h1, Int.zero_mul] at ex ey
    rcases Int.lt_or_lt_of_ne hD with q | q
    · have wx := weigh (D := -prod a b d) (p := -prod c d a) (q := prod c d b) (x := c.f0) (y := b.f0) (z := a.f0) (by omega) (by omega) (by omega) (by omega) (by rw [Int.neg_mul, Int.neg_mul]; omega)
      have wy := weigh (D := -prod a b d) (p := -prod c d a) (q := prod c d b) (x := c.f1) (y := b.f1) (z := a.f1) (by omega) (by omega) (by omega) (by omega) (by rw [Int.neg_mul, Int.neg_mul]; omega)
      exact ⟨h1, by unfold Bx; omega⟩
    · have wx := weigh (D := prod a b d) (p := prod c d a) (q := -prod c d b) (x := c.f0) (y := b.f0) (z := a.f0) (by omega) (by omega) (by omega) (by omega) (by rw [Int.neg_mul]; omega)
      have wy := weigh (D := prod a b d) (p := prod c d a) (q := -prod c d b) (x := c.f1) (y := b.f1) (z := a.f1) (by omega) (by omega) (by omega) (by omega) (by rw [Int.neg_mul]; omega)
      exact ⟨h1, by unfold Bx; omega⟩
theorem prod_end (a b c : S23) : prod a b c = prod b c a := (prod_cyc a b c).symm
theorem opp {p q x y : Int} (hp : 0 < p) (hq : 0 < q) (h : p * x = q * y) (h1 : ¬ (0 < x ∧ 0 < y)) (h2 : ¬ (x < 0 ∧ y < 0)) : x = 0 ∧ y = 0 := by
  rcases Int.lt_trichotomy x 0 with c | c | c
  · have := Int.mul_pos hp (show 0 < -x by omega)
    rw [Int.mul_neg] at this
    have : y < 0 := by
      rcases Int.lt_or_le y 0 with k | k
      · exact k
      · have := Int.mul_nonneg (Int.le_of_lt hq) k
        omega
    omega
  · subst c
    rw [Int.mul_zero] at h
    refine ⟨rfl, ?_⟩
    rcases Int.lt_trichotomy y 0 with k | k | k
    · have := Int.mul_pos hq (show 0 < -y by omega)
      rw [Int.mul_neg] at this
      omega
    · exact k
    · have := Int.mul_pos hq k
      omega
  · have := Int.mul_pos hp c
    have : 0 < y := by
      rcases Int.lt_or_le 0 y with k | k
      · exact k
      · have := Int.mul_nonneg (Int.le_of_lt hq) (show 0 ≤ -y by omega)
        rw [Int.mul_neg] at this
        omega
    omega
/-- a point of the piece parts no two ends of a piece that ends there -/
theorem on_sg {a b c d : S23} (h : OnP a b c) : sg (prod c d a) * sg (prod c d b) ≤ 0 := by
  rw [sg_le]
  obtain ⟨h1, ⟨hx1, hx2⟩, hy1, hy2⟩ := h
  have e4 := prod_four a b c d
  have ex := prod_x a b c d
  have ey := prod_y a b c d
  rw [h1, Int.zero_mul] at ex ey
  have f1 : prod a b d * c.f0 = (prod c d a - prod c d b) * c.f0 := by congr 1; omega
  have f2 : prod a b d * c.f1 = (prod c d a - prod c d b) * c.f1 := by congr 1; omega
  rw [Int.sub_mul] at f1 f2
  have g1 : prod c d a * (b.f0 - c.f0) = prod c d b * (a.f0 - c.f0) := by rw [Int.mul_sub, Int.mul_sub]; omega
  have g2 : prod c d a * (b.f1 - c.f1) = prod c d b * (a.f1 - c.f1) := by rw [Int.mul_sub, Int.mul_sub]; omega
  have dead : a.f0 - c.f0 = 0 → a.f1 - c.f1 = 0 → prod c d a = 0 := fun u v => by
    unfold prod
    rw [u, v, Int.mul_zero, Int.mul_zero]
    rfl
  by_cases c1 : 0 < prod c d a ∧ 0 < prod c d b
  · obtain ⟨u1, u2⟩ := opp c1.1 c1.2 g1 (by omega) (by omega)
    obtain ⟨v1, v2⟩ := opp c1.1 c1.2 g2 (by omega) (by omega)
    have := dead u2 v2
    omega
  · by_cases c2 : prod c d a < 0 ∧ prod c d b < 0
    · obtain ⟨u1, u2⟩ := opp (p := -prod c d a) (q := -prod c d b) (by omega) (by omega) (by rw [Int.neg_mul, Int.neg_mul, g1]) (by omega) (by omega)
      obtain ⟨v1, v2⟩ := opp (p := -prod c d a) (q := -prod c d b) (by omega) (by omega) (by rw [Int.neg_mul, Int.neg_mul, g2]) (by omega) (by omega)
      have := dead u2 v2
      omega
    · omega
theorem on_over {a b c d : S23} (h : OnP a b c) : Over a b c d := by
  obtain ⟨_, hb⟩ := h
  unfold Bx at hb
  unfold Over
  omega
/-- strictly parted both ways: the boxes have a point in common -/
theorem cross_over {a b c d : S23} (h1 : sg (prod a b c) * sg (prod a b d) < 0) (h2 : sg (prod c d a) * sg (prod c d b) < 0) : Over a b c d := by
  rw [sg_lt] at h1 h2
  have e4 := prod_four a b c d
  have ex := prod_x a b c d
  have ey := prod_y a b c d
  -- the point where they meet, weighed
  have key : ∀ (D p q r s A B C E M N : Int), 0 < D → 0 ≤ p → 0 ≤ q → 0 ≤ r → 0 ≤ s → p + q = D → r + s = D → p * C + q * E = r * B + s * A → M ≤ C → M ≤ E → A ≤ N → B ≤ N → M ≤ N := by
    intro D p q r s A B C E M N hD hp hq hr hs e1 e2 h m1 m2 n1 n2
    have b1 := Int.mul_le_mul_of_nonneg_left m1 hp
    have b2 := Int.mul_le_mul_of_nonneg_left m2 hq
    have b3 := Int.mul_le_mul_of_nonneg_left n2 hr
    have b4 := Int.mul_le_mul_of_nonneg_left n1 hs
    have f1 : D * M = p * M + q * M := by rw [← Int.add_mul, e1]
    have f2 : D * N = r * N + s * N := by rw [← Int.add_mul, e2]
    exact le_mul hD (by omega)
  rcases h1 with ⟨k1, k2⟩ | ⟨k1, k2⟩
  · have k3 : prod c d a < 0 ∧ 0 < prod c d b := by omega
    have q1 : ∀ A B C E : Int, prod a b d * C - prod a b c * E = prod c d a * B - prod c d b * A → (-prod a b d) * C + prod a b c * E = (-prod c d a) * B + prod c d b * A := fun A B C E h => by rw [Int.neg_mul, Int.neg_mul]; omega
    have q2 : ∀ A B C E : Int, prod a b d * C - prod a b c * E = prod c d a * B - prod c d b * A → (-prod c d a) * B + prod c d b * A = (-prod a b d) * C + prod a b c * E := fun A B C E h => (q1 A B C E h).symm
    have D0 : 0 < prod a b c - prod a b d := by omega
    refine ⟨⟨key _ _ _ _ _ _ _ _ _ _ _ D0 (by omega) (by omega) (by omega) (by omega) (by omega) (by omega) (q1 _ _ _ _ ex) (by omega) (by omega) (by omega) (by omega), key _ _ _ _ _ _ _ _ _ _ _ D0 (by omega) (by omega) (by omega) (by omega) (by omega) (by omega) (q2 _ _ _ _ ex) (by omega) (by omega) (by omega) (by omega)⟩,
      key _ _ _ _ _ _ _ _ _ _ _ D0 (by omega) (by omega) (by omega) (by omega) (by omega) (by omega) (q1 _ _ _ _ ey) (by omega) (by omega) (by omega) (by omega), key _ _ _ _ _ _ _ _ _ _ _ D0 (by omega) (by omega) (by omega) (by omega) (by omega) (by omega) (q2 _ _ _ _ ey) (by omega) (by omega) (by omega) (by omega)⟩
  · have k3 : 0 < prod c d a ∧ prod c d b < 0 := by omega
    have q1 : ∀ A B C E : Int, prod a b d * C - prod a b c * E = prod c d a * B - prod c d b * A → prod a b d * C + (-prod a b c) * E = prod c d a * B + (-prod c d b) * A := fun A B C E h => by rw [Int.neg_mul, Int.neg_mul]; omega
    have q2 : ∀ A B C E : Int, prod a b d * C - prod a b c * E = prod c d a * B - prod c d b * A → prod c d a * B + (-prod c d b) * A = prod a b d * C + (-prod a b c) * E := fun A B C E h => (q1 A B C E h).symm
    have D0 : 0 < prod a b d - prod a b c := by omega
    refine ⟨⟨key _ _ _ _ _ _ _ _ _ _ _ D0 (by omega) (by omega) (by omega) (by omega) (by omega) (by omega) (q1 _ _ _ _ ex) (by omega) (by omega) (by omega) (by omega), key _ _ _ _ _ _ _ _ _ _ _ D0 (by omega) (by omega) (by omega) (by omega) (by omega) (by omega) (q2 _ _ _ _ ex) (by omega) (by omega) (by omega) (by omega)⟩,
      key _ _ _ _ _ _ _ _ _ _ _ D0 (by omega) (by omega) (by omega) (by omega) (by omega) (by omega) (q1 _ _ _ _ ey) (by omega) (by omega) (by omega) (by omega), key _ _ _ _ _ _ _ _ _ _ _ D0 (by omega) (by omega) (by omega) (by omega) (by omega) (by omega) (q2 _ _ _ _ ey) (by omega) (by omega) (by omega) (by omega)⟩
theorem sgm_comm (m n : Int) : sg m * sg n = sg n * sg m := Int.mul_comm ..
theorem on_meet {a b c d : S23} (h : OnP a b c) : MeetP a b c d := ⟨on_over h, by rw [h.1, sg_zero rfl, Int.zero_mul]; omega, on_sg h⟩
theorem MeetP.symm {a b c d : S23} (h : MeetP a b c d) : MeetP c d a b := ⟨h.1.symm, h.2.2, h.2.1⟩
theorem sg_opp (n : Int) : sg (-n) = -sg n := by unfold sg; split <;> (try split) <;> (try split) <;> omega
theorem MeetP.swap {a b c d : S23} (h : MeetP a b c d) : MeetP b a c d := by
  refine ⟨h.1.swap, ?_, ?_⟩
  · rw [prod_swap, prod_swap a b d, sg_opp, sg_opp, Int.neg_mul_neg]
    exact h.2.1
  · rw [Int.mul_comm]
    exact h.2.2
/-- the two ways of asking are one -/
theorem meet_iff (a b c d : S23) : MeetP a b c d ↔ MeetR a b c d := by
  constructor
  · rintro ⟨h, h1, h2⟩
    by_cases z1 : prod a b c = 0
    · exact Or.inl (end_on z1 h2 h)
    by_cases z2 : prod a b d = 0
    · rcases end_on (c := d) (d := c) z2 (by rw [prod_swap c d a, prod_swap c d b, sg_opp, sg_opp, Int.neg_mul_neg]; exact h2) (h.symm.swap.symm) with q | q | q | q
      · exact Or.inl (Or.inr (Or.inl q))
      · exact Or.inl (Or.inl q)
      · exact Or.inl (Or.inr (Or.inr (Or.inl q.swap)))
      · exact Or.inl (Or.inr (Or.inr (Or.inr q.swap)))
    by_cases z3 : prod c d a = 0
    · rcases end_on (a := c) (b := d) (c := a) (d := b) z3 h1 h.symm with q | q | q | q
      · exact Or.inl (Or.inr (Or.inr (Or.inl q)))
      · exact Or.inl (Or.inr (Or.inr (Or.inr q)))
      · exact Or.inl (Or.inl q)
      · exact Or.inl (Or.inr (Or.inl q))
    by_cases z4 : prod c d b = 0
    · rcases end_on (a := c) (b := d) (c := b) (d := a) z4 (by rw [prod_swap a b c, prod_swap a b d, sg_opp, sg_opp, Int.neg_mul_neg]; exact h1) (h.symm.symm.swap.symm) with q | q | q | q
      · exact Or.inl (Or.inr (Or.inr (Or.inr q)))
      · exact Or.inl (Or.inr (Or.inr (Or.inl q)))
      · exact Or.inl (Or.inl q.swap)
      · exact Or.inl (Or.inr (Or.inl q.swap))
    refine Or.inr ?_
    rw [sg_le] at h1 h2
    rw [sg_lt, sg_lt]
    omega
  · rintro ((h | h | h | h) | ⟨h1, h2⟩)
    · exact on_meet h
    · exact (MeetP.symm (MeetP.swap (MeetP.symm (on_meet (d := c) h))))
    · exact (on_meet (d := b) h).symm
    · exact MeetP.swap (on_meet (a := c) (b := d) (c := b) (d := a) h).symm
    · exact ⟨cross_over h1 h2, Int.le_of_lt h1, Int.le_of_lt h2⟩
end Go.Proofs.Ythfoliejhdpbaaa.Pure
