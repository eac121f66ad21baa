-- Plain facts on the printed functions of layer 26 (cross): points and pieces.
import Derived.Test.YthfoliejhdpbaaaZXCroA
import Derived.Test.YthfoliejhdpbaaaZPCroAx3
import Derived.Test.YthfoliejhdpbaaaZPCroAx9
import Derived.Test.YthfoliejhdpbaaaZPCroAx31
import Derived.Test.YthfoliejhdpbaaaZPCroAx37
set_option linter.unusedVariables false
set_option linter.unusedSimpArgs false
namespace Go.Proofs.Ythfoliejhdpbaaa.Pure
open Go.RowKit Go.Proofs.Ythfoliejhdpbaaa.PCroA Go.Proofs.YthfoliejhdpbaaaW.PrintWords Go.Proofs.YthfoliejhdpbaaaW.PrintLast Go.Proofs.YthfoliejhdpbaaaW.PrintMore Go.Proofs.YthfoliejhdpbaaaX
def In (a : S23) : Prop := (-4194304 ≤ a.f0 ∧ a.f0 ≤ 4194304) ∧ -4194304 ≤ a.f1 ∧ a.f1 ≤ 4194304
instance (a : S23) : Decidable (In a) := inferInstanceAs (Decidable (_ ∧ _))
def P (l : List S23) (j : Nat) : S23 := rd_T23 l (j : Int)
theorem rdP (l : List S23) (j : Nat) : rd_T23 l (j : Int) = P l j := rfl
theorem P_get (l : List S23) (j : Nat) (h : j < l.length) : P l j = l[j] := by
  simp [P, rd_T23, List.getD_eq_getElem?_getD, h]
theorem mul_bd' {a b : Int} (ha : -8388608 ≤ a ∧ a ≤ 8388608) (hb : -8388608 ≤ b ∧ b ≤ 8388608) : -70368744177664 ≤ a * b ∧ a * b ≤ 70368744177664 := by
  have h1 : 0 ≤ (8388608 - a) * (8388608 - b) := Int.mul_nonneg (by omega) (by omega)
  have h2 : 0 ≤ (8388608 + a) * (8388608 + b) := Int.mul_nonneg (by omega) (by omega)
  have h3 : 0 ≤ (8388608 - a) * (8388608 + b) := Int.mul_nonneg (by omega) (by omega)
  have h4 : 0 ≤ (8388608 + a) * (8388608 - b) := Int.mul_nonneg (by omega) (by omega)
  simp only [Int.sub_mul, Int.mul_sub, Int.add_mul, Int.mul_add] at h1 h2 h3 h4
  omega
theorem prod_w {a b c : S23} (ha : In a) (hb : In b) (hc : In c) :
    wrap64 ((wrap64 ((wrap64 (b.f0 - a.f0)) * (wrap64 (c.f1 - a.f1)))) - (wrap64 ((wrap64 (b.f1 - a.f1)) * (wrap64 (c.f0 - a.f0))))) = prod a b c := by
  unfold In at ha hb hc
  rw [w64 (x := b.f0 - a.f0) (by omega) (by omega), w64 (x := c.f1 - a.f1) (by omega) (by omega), w64 (x := b.f1 - a.f1) (by omega) (by omega), w64 (x := c.f0 - a.f0) (by omega) (by omega)]
  have h1 := mul_bd' (a := b.f0 - a.f0) (b := c.f1 - a.f1) (by omega) (by omega)
  have h2 := mul_bd' (a := b.f1 - a.f1) (b := c.f0 - a.f0) (by omega) (by omega)
  rw [w64 (x := (b.f0 - a.f0) * (c.f1 - a.f1)) (by omega) (by omega), w64 (x := (b.f1 - a.f1) * (c.f0 - a.f0)) (by omega) (by omega), w64 (by omega) (by omega)]
  rfl
theorem sign_eq (n : Int) : cross_sign.f n = some (sg n) := by
  unfold cross_sign.f sg
  split
  · rfl
  · split <;> rfl
theorem sign2_eq (n : Int) : tangramref26_sign.f n = some (sg n) := sign_eq n
theorem turn_eq {a b c : S23} (ha : In a) (hb : In b) (hc : In c) : cross_turn.f a.f0 a.f1 b.f0 b.f1 c.f0 c.f1 = some (sg (prod a b c)) := by
  unfold cross_turn.f
  rw [prod_w ha hb hc, sign_eq]
  rfl
theorem mn_eq (a b : Int) : mn a b = min a b := by unfold mn; omega
theorem mx_eq' (a b : Int) : mx a b = max a b := by unfold mx; omega
theorem on_eq {a b c : S23} (ha : In a) (hb : In b) (hc : In c) : cross_on.f a.f0 a.f1 b.f0 b.f1 c.f0 c.f1 = some (decide (OnP a b c)) := by
  unfold cross_on.f
  rw [turn_eq ha hb hc]
  simp only [Option.bind_some, mn_eq, mx_eq']
  by_cases h0 : prod a b c = 0
  · rw [if_pos (by rw [h0]; rfl)]
    by_cases c1 : min a.f0 b.f0 ≤ c.f0
    · rw [if_pos c1]
      by_cases c2 : c.f0 ≤ max a.f0 b.f0
      · rw [if_pos c2]
        by_cases c3 : min a.f1 b.f1 ≤ c.f1
        · rw [if_pos c3]
          congr 1
          rw [decide_eq_decide]
          exact ⟨fun h => ⟨h0, ⟨c1, c2⟩, c3, h⟩, fun h => h.2.2.2⟩
        · rw [if_neg c3, decide_eq_false fun h => c3 h.2.2.1]
      · rw [if_neg c2, decide_eq_false fun h => c2 h.2.1.2]
    · rw [if_neg c1, decide_eq_false fun h => c1 h.2.1.1]
  · rw [if_neg, decide_eq_false fun h => h0 h.1]
    intro e
    rcases Int.lt_trichotomy (prod a b c) 0 with k | k | k
    · rw [sg_neg k] at e; omega
    · exact h0 k
    · rw [sg_pos k] at e; omega
theorem sgm_bd (m n : Int) : -1 ≤ sg m * sg n ∧ sg m * sg n ≤ 1 := by
  rcases Int.lt_trichotomy m 0 with h | h | h <;> rcases Int.lt_trichotomy n 0 with k | k | k <;> (first | rw [sg_pos h] | rw [sg_neg h] | rw [sg_zero h]) <;> (first | rw [sg_pos k] | rw [sg_neg k] | rw [sg_zero k]) <;> omega
theorem meet_ev {a b c d : S23} (ha : In a) (hb : In b) (hc : In c) (hd : In d) : Ev (fun k => cross_meet.f k a.f0 a.f1 b.f0 b.f1 c.f0 c.f1 d.f0 d.f1) (decide (MeetP a b c d)) := by
  have no : ¬ Over a b c d → Ev (fun k => cross_meet.j0 k true a.f0 a.f1 b.f0 b.f1 c.f0 c.f1 d.f0 d.f1) (decide (MeetP a b c d)) := fun h => by
    refine Ev.succ ?_
    simp only [cross_meet.j0, if_true]
    exact Ev.val (by rw [decide_eq_false fun m => h m.1])
  unfold cross_meet.f
  simp only [mn_eq, mx_eq']
  refine Ev.ite (fun h => no fun o => by unfold Over at o; omega) (fun h1 => ?_)
  refine Ev.ite (fun h => no fun o => by unfold Over at o; omega) (fun h2 => ?_)
  refine Ev.ite (fun h => no fun o => by unfold Over at o; omega) (fun h3 => ?_)
  by_cases h4 : max c.f1 d.f1 < min a.f1 b.f1
  · rw [decide_eq_true h4]
    exact no fun o => by unfold Over at o; omega
  · rw [decide_eq_false h4]
    have ho : Over a b c d := by unfold Over; omega
    refine Ev.succ ?_
    simp only [cross_meet.j0]
    refine Ev.ff ?_
    refine Ev.andThen' (turn_eq ha hb hc) (Ev.andThen' (turn_eq ha hb hd) ?_)
    have b1 := sgm_bd (prod a b c) (prod a b d)
    have b2 := sgm_bd (prod c d a) (prod c d b)
    rw [w64 (x := sg (prod a b c) * sg (prod a b d)) (by omega) (by omega)]
    refine Ev.ite (fun h => ?_) (fun h => Ev.val ?_)
    · refine Ev.andThen' (turn_eq hc hd ha) (Ev.andThen' (turn_eq hc hd hb) (Ev.val ?_))
      rw [w64 (x := sg (prod c d a) * sg (prod c d b)) (by omega) (by omega), decide_eq_decide]
      exact ⟨fun k => ⟨ho, h, k⟩, fun k => k.2.2⟩
    · rw [decide_eq_false fun m => h m.2.1]
theorem beyond_l0 (l : List S23) (hl : l.length ≤ 8796093022208) : ∀ (d i : Nat), i + d = l.length →
    Ev (fun k => cross_beyond.l0 k l (l.length : Int) (i : Int)) (decide (¬ ∀ j, j < l.length → i ≤ j → In (P l j))) := by
  intro d
  induction d with
  | zero =>
    intro i hi
    refine Ev.succ ?_
    simp only [cross_beyond.l0]
    refine Ev.neg (by omega) (Ev.val ?_)
    rw [eq_comm, decide_eq_false_iff_not, Classical.not_not]
    intro j hj h1
    omega
  | succ d ih =>
    intro i hi
    have hi' : i < l.length := by omega
    have yes : ¬ In (P l i) → true = decide (¬ ∀ j, j < l.length → i ≤ j → In (P l j)) := fun h => by
      rw [decide_eq_true]
      exact fun hh => h (hh i hi' (Nat.le_refl _))
    refine Ev.succ ?_
    simp only [cross_beyond.l0, rdP]
    refine Ev.pos (by omega) (Ev.pos (by omega) (Ev.pos (by omega) ?_))
    refine Ev.ite (fun h => Ev.val (yes fun o => by unfold In at o; omega)) (fun h1 => ?_)
    refine Ev.ite (fun h => Ev.val (yes fun o => by unfold In at o; omega)) (fun h2 => ?_)
    refine Ev.ite (fun h => Ev.val (yes fun o => by unfold In at o; omega)) (fun h3 => ?_)
    refine Ev.ite (fun h => Ev.val (yes fun o => by unfold In at o; omega)) (fun h4 => ?_)
    rw [show wrap64 ((i : Int) + 1) = ((i + 1 : Nat) : Int) by rw [w64 (by omega) (by omega)]; omega]
    have e : decide (¬ ∀ j, j < l.length → i ≤ j → In (P l j)) = decide (¬ ∀ j, j < l.length → i + 1 ≤ j → In (P l j)) := by
      rw [decide_eq_decide]
      refine not_congr ⟨fun h j hj h1 => h j hj (by omega), fun h j hj h1 => ?_⟩
      by_cases c : j = i
      · subst c
        unfold In
        omega
      · exact h j hj (by omega)
    rw [e]
    exact ih (i + 1) (by omega)
def InAll (l : List S23) : Prop := ∀ j, j < l.length → In (P l j)
instance (l : List S23) : Decidable (InAll l) := inferInstanceAs (Decidable (∀ j, j < l.length → In (P l j)))
theorem beyond_ev (l : List S23) (hl : l.length ≤ 8796093022208) : Ev (fun k => cross_beyond.f k l) (decide (¬ InAll l)) := by
  have := beyond_l0 l hl l.length 0 (by omega)
  have e : decide (¬ InAll l) = decide (¬ ∀ j, j < l.length → 0 ≤ j → In (P l j)) := by
    rw [decide_eq_decide]
    exact not_congr ⟨fun h j hj _ => h j hj, fun h j hj => h j hj (Nat.zero_le _)⟩
  rw [e]
  exact this
theorem in3 (a b c : S23) : InAll [a, b, c] ↔ In a ∧ In b ∧ In c := by
  constructor
  · exact fun h => ⟨h 0 (by simp), h 1 (by simp), h 2 (by simp)⟩
  · rintro ⟨h1, h2, h3⟩ j hj
    match j with
    | 0 => exact h1
    | 1 => exact h2
    | 2 => exact h3
    | j + 3 => exact absurd hj (by simp only [List.length_cons, List.length_nil]; omega)
theorem in4 (a b c d : S23) : InAll [a, b, c, d] ↔ In a ∧ In b ∧ In c ∧ In d := by
  constructor
  · exact fun h => ⟨h 0 (by simp), h 1 (by simp), h 2 (by simp), h 3 (by simp)⟩
  · rintro ⟨h1, h2, h3, h4⟩ j hj
    match j with
    | 0 => exact h1
    | 1 => exact h2
    | 2 => exact h3
    | 3 => exact h4
    | j + 4 => exact absurd hj (by simp only [List.length_cons, List.length_nil]; omega)
def turnV (a b c : S23) : Int := if In a ∧ In b ∧ In c then sg (prod a b c) else 0
def OnV (a b c : S23) : Prop := (In a ∧ In b ∧ In c) ∧ OnP a b c
def MeetV (a b c d : S23) : Prop := (In a ∧ In b ∧ In c ∧ In d) ∧ MeetP a b c d
instance (a b c : S23) : Decidable (OnV a b c) := inferInstanceAs (Decidable (_ ∧ _))
instance (a b c d : S23) : Decidable (MeetV a b c d) := inferInstanceAs (Decidable (_ ∧ _))
theorem Turn_ev (a b c : S23) : Ev (fun k => cross_Turn.f k a.f0 a.f1 b.f0 b.f1 c.f0 c.f1) (turnV a b c) := by
  unfold cross_Turn.f turnV
  refine Ev.andThen (beyond_ev [a, b, c] (by simp)) ?_
  by_cases h : In a ∧ In b ∧ In c
  · rw [decide_eq_false (Classical.not_not.2 ((in3 a b c).2 h)), if_pos h]
    exact Ev.ff (Ev.andThen' (turn_eq h.1 h.2.1 h.2.2) (Ev.now _))
  · rw [decide_eq_true (show ¬ InAll [a, b, c] from fun k => h ((in3 a b c).1 k)), if_neg h]
    exact Ev.tt (Ev.now _)
theorem On_ev (a b c : S23) : Ev (fun k => cross_On.f k a.f0 a.f1 b.f0 b.f1 c.f0 c.f1) (decide (OnV a b c)) := by
  unfold cross_On.f
  refine Ev.andThen (beyond_ev [a, b, c] (by simp)) ?_
  by_cases h : In a ∧ In b ∧ In c
  · rw [decide_eq_false (Classical.not_not.2 ((in3 a b c).2 h))]
    refine Ev.ff (Ev.andThen' (on_eq h.1 h.2.1 h.2.2) (Ev.val ?_))
    rw [decide_eq_decide]
    exact ⟨fun k => ⟨h, k⟩, fun k => k.2⟩
  · rw [decide_eq_true (show ¬ InAll [a, b, c] from fun k => h ((in3 a b c).1 k)), decide_eq_false (fun k => h k.1)]
    exact Ev.tt (Ev.now _)
theorem Meet_ev (a b c d : S23) : Ev (fun k => cross_Meet.f k a.f0 a.f1 b.f0 b.f1 c.f0 c.f1 d.f0 d.f1) (decide (MeetV a b c d)) := by
  unfold cross_Meet.f
  refine Ev.andThen (beyond_ev [a, b, c, d] (by simp)) ?_
  by_cases h : In a ∧ In b ∧ In c ∧ In d
  · rw [decide_eq_false (Classical.not_not.2 ((in4 a b c d).2 h))]
    refine Ev.ff (Ev.andThen (meet_ev h.1 h.2.1 h.2.2.1 h.2.2.2) (Ev.val ?_))
    rw [decide_eq_decide]
    exact ⟨fun k => ⟨h, k⟩, fun k => k.2⟩
  · rw [decide_eq_true (show ¬ InAll [a, b, c, d] from fun k => h ((in4 a b c d).1 k)), decide_eq_false (fun k => h k.1)]
    exact Ev.tt (Ev.now _)
/-! the document's -/
theorem out_eq (a : S23) : tangramref26_Beyond.f a.f0 a.f1 = some (decide (¬ In a)) := by
  unfold tangramref26_Beyond.f
  by_cases c1 : a.f0 < -4194304
  · rw [if_pos c1, decide_eq_true]
    unfold In; omega
  rw [if_neg c1]
  by_cases c2 : a.f0 > 4194304
  · rw [if_pos c2, decide_eq_true]
    unfold In; omega
  rw [if_neg c2]
  by_cases c3 : a.f1 < -4194304
  · rw [if_pos c3, decide_eq_true]
    unfold In; omega
  rw [if_neg c3]
  congr 1
  rw [decide_eq_decide]
  unfold In
  omega
theorem out_yes {a : S23} (h : ¬ In a) : tangramref26_Beyond.f a.f0 a.f1 = some true := by rw [out_eq, decide_eq_true h]
theorem out_no {a : S23} (h : In a) : tangramref26_Beyond.f a.f0 a.f1 = some false := by rw [out_eq, decide_eq_false (Classical.not_not.2 h)]
theorem product_eq {a b c : S23} (ha : In a) (hb : In b) (hc : In c) : tangramref26_Product.f a.f0 a.f1 b.f0 b.f1 c.f0 c.f1 = some (prod a b c) := by
  unfold tangramref26_Product.f
  rw [prod_w ha hb hc]
theorem Turn2_ev (a b c : S23) : Ev (fun k => tangramref26_Turn.f k a.f0 a.f1 b.f0 b.f1 c.f0 c.f1) (turnV a b c) := by
  have bad : ¬ (In a ∧ In b ∧ In c) → Ev (fun k => tangramref26_Turn.j0 k true a.f0 a.f1 b.f0 b.f1 c.f0 c.f1) (turnV a b c) := fun h => by
    refine Ev.succ ?_
    simp only [tangramref26_Turn.j0, if_true]
    exact Ev.val (by unfold turnV; rw [if_neg h])
  unfold tangramref26_Turn.f
  by_cases ha : In a
  case neg => exact Ev.andThen' (out_yes ha) (Ev.tt (bad fun h => ha h.1))
  refine Ev.andThen' (out_no ha) (Ev.ff ?_)
  by_cases hb : In b
  case neg => exact Ev.andThen' (out_yes hb) (Ev.tt (bad fun h => hb h.2.1))
  refine Ev.andThen' (out_no hb) (Ev.ff ?_)
  by_cases hc : In c
  case neg => exact Ev.andThen' (out_yes hc) (bad fun h => hc h.2.2)
  refine Ev.andThen' (out_no hc) ?_
  refine Ev.succ ?_
  simp only [tangramref26_Turn.j0]
  refine Ev.ff (Ev.andThen' (product_eq ha hb hc) (Ev.andThen' (sign2_eq _) (Ev.val ?_)))
  unfold turnV
  rw [if_pos ⟨ha, hb, hc⟩]
theorem between_eq (a n b : Int) : tangramref26_between.f a n b = some (decide (min a b ≤ n ∧ n ≤ max a b)) := by
  unfold tangramref26_between.f
  by_cases c1 : a ≤ n
  · rw [if_pos c1]
    by_cases c2 : n ≤ b
    · rw [if_pos c2, decide_eq_true]
      omega
    · rw [if_neg c2]
      by_cases c3 : b ≤ n
      · rw [if_pos c3]
        congr 1
        rw [decide_eq_decide]
        omega
      · omega
  · rw [if_neg c1]
    by_cases c3 : b ≤ n
    · rw [if_pos c3]
      congr 1
      rw [decide_eq_decide]
      omega
    · rw [if_neg c3, decide_eq_false]
      omega
theorem On2_ev (a b c : S23) : Ev (fun k => tangramref26_On.f k a.f0 a.f1 b.f0 b.f1 c.f0 c.f1) (decide (OnV a b c)) := by
  have bad : ¬ (In a ∧ In b ∧ In c) → Ev (fun k => tangramref26_On.j0 k true a.f0 a.f1 b.f0 b.f1 c.f0 c.f1) (decide (OnV a b c)) := fun h => by
    refine Ev.succ ?_
    simp only [tangramref26_On.j0, if_true]
    exact Ev.val (by rw [decide_eq_false fun k => h k.1])
  unfold tangramref26_On.f
  by_cases ha : In a
  case neg => exact Ev.andThen' (out_yes ha) (Ev.tt (bad fun h => ha h.1))
  refine Ev.andThen' (out_no ha) (Ev.ff ?_)
  by_cases hb : In b
  case neg => exact Ev.andThen' (out_yes hb) (Ev.tt (bad fun h => hb h.2.1))
  refine Ev.andThen' (out_no hb) (Ev.ff ?_)
  by_cases hc : In c
  case neg => exact Ev.andThen' (out_yes hc) (bad fun h => hc h.2.2)
  refine Ev.andThen' (out_no hc) ?_
  refine Ev.succ ?_
  simp only [tangramref26_On.j0]
  refine Ev.ff (Ev.andThen' (product_eq ha hb hc) ?_)
  refine Ev.ite (fun h0 => ?_) (fun h0 => Ev.val (by rw [decide_eq_false fun k => h0 k.2.1]))
  refine Ev.andThen' (between_eq _ _ _) ?_
  by_cases c1 : min a.f0 b.f0 ≤ c.f0 ∧ c.f0 ≤ max a.f0 b.f0
  · rw [decide_eq_true c1]
    refine Ev.tt (Ev.andThen' (between_eq _ _ _) (Ev.val ?_))
    rw [decide_eq_decide]
    exact ⟨fun h => ⟨⟨ha, hb, hc⟩, h0, c1, h⟩, fun h => h.2.2.2⟩
  · rw [decide_eq_false c1]
    exact Ev.ff (Ev.val (by rw [decide_eq_false fun k => c1 k.2.2.1]))
theorem Meet2_ev (a b c d : S23) : Ev (fun k => tangramref26_Meet.f k a.f0 a.f1 b.f0 b.f1 c.f0 c.f1 d.f0 d.f1) (decide (MeetV a b c d)) := by
  have bad : ¬ (In a ∧ In b ∧ In c ∧ In d) → Ev (fun k => tangramref26_Meet.j0 k true a.f0 a.f1 b.f0 b.f1 c.f0 c.f1 d.f0 d.f1) (decide (MeetV a b c d)) := fun h => by
    refine Ev.succ ?_
    simp only [tangramref26_Meet.j0, if_true]
    exact Ev.val (by rw [decide_eq_false fun k => h k.1])
  unfold tangramref26_Meet.f
  by_cases ha : In a
  case neg => exact Ev.andThen' (out_yes ha) (Ev.tt (bad fun h => ha h.1))
  refine Ev.andThen' (out_no ha) (Ev.ff ?_)
  by_cases hb : In b
  case neg => exact Ev.andThen' (out_yes hb) (Ev.tt (bad fun h => hb h.2.1))
  refine Ev.andThen' (out_no hb) (Ev.ff ?_)
  by_cases hc : In c
  case neg => exact Ev.andThen' (out_yes hc) (Ev.tt (bad fun h => hc h.2.2.1))
  refine Ev.andThen' (out_no hc) (Ev.ff ?_)
  by_cases hd : In d
  case neg => exact Ev.andThen' (out_yes hd) (bad fun h => hd h.2.2.2)
  refine Ev.andThen' (out_no hd) ?_
  have eV : MeetV a b c d ↔ MeetR a b c d := ⟨fun h => (meet_iff a b c d).1 h.2, fun h => ⟨⟨ha, hb, hc, hd⟩, (meet_iff a b c d).2 h⟩⟩
  have yes : (OnP a b c ∨ OnP a b d ∨ OnP c d a ∨ OnP c d b) → Ev (fun k => tangramref26_Meet.j1 k true a.f0 a.f1 b.f0 b.f1 c.f0 c.f1 d.f0 d.f1) (decide (MeetV a b c d)) := fun h => by
    refine Ev.succ ?_
    simp only [tangramref26_Meet.j1, if_true]
    exact Ev.val (by rw [decide_eq_true (eV.2 (Or.inl h))])
  refine Ev.succ ?_
  simp only [tangramref26_Meet.j0]
  refine Ev.ff ?_
  refine Ev.andThen (On2_ev a b c) ?_
  by_cases o1 : OnV a b c
  · rw [decide_eq_true o1]; exact Ev.tt (yes (Or.inl o1.2))
  rw [decide_eq_false o1]
  refine Ev.ff (Ev.andThen (On2_ev a b d) ?_)
  by_cases o2 : OnV a b d
  · rw [decide_eq_true o2]; exact Ev.tt (yes (Or.inr (Or.inl o2.2)))
  rw [decide_eq_false o2]
  refine Ev.ff (Ev.andThen (On2_ev c d a) ?_)
  by_cases o3 : OnV c d a
  · rw [decide_eq_true o3]; exact Ev.tt (yes (Or.inr (Or.inr (Or.inl o3.2))))
  rw [decide_eq_false o3]
  refine Ev.ff (Ev.andThen (On2_ev c d b) ?_)
  by_cases o4 : OnV c d b
  · rw [decide_eq_true o4]; exact yes (Or.inr (Or.inr (Or.inr o4.2)))
  rw [decide_eq_false o4]
  refine Ev.succ ?_
  simp only [tangramref26_Meet.j1]
  have t1 : turnV a b c = sg (prod a b c) := if_pos ⟨ha, hb, hc⟩
  have t2 : turnV a b d = sg (prod a b d) := if_pos ⟨ha, hb, hd⟩
  have t3 : turnV c d a = sg (prod c d a) := if_pos ⟨hc, hd, ha⟩
  have t4 : turnV c d b = sg (prod c d b) := if_pos ⟨hc, hd, hb⟩
  have b1 := sgm_bd (prod a b c) (prod a b d)
  have b2 := sgm_bd (prod c d a) (prod c d b)
  refine Ev.ff (Ev.andThen (Turn2_ev a b c) (Ev.andThen (Turn2_ev a b d) ?_))
  rw [t1, t2, w64 (x := sg (prod a b c) * sg (prod a b d)) (by omega) (by omega)]
  have hno : ¬ (OnP a b c ∨ OnP a b d ∨ OnP c d a ∨ OnP c d b) := by
    rintro (h | h | h | h)
    · exact o1 ⟨⟨ha, hb, hc⟩, h⟩
    · exact o2 ⟨⟨ha, hb, hd⟩, h⟩
    · exact o3 ⟨⟨hc, hd, ha⟩, h⟩
    · exact o4 ⟨⟨hc, hd, hb⟩, h⟩
  refine Ev.ite (fun h => ?_) (fun h => Ev.val ?_)
  · refine Ev.andThen (Turn2_ev c d a) (Ev.andThen (Turn2_ev c d b) (Ev.val ?_))
    rw [t3, t4, w64 (x := sg (prod c d a) * sg (prod c d b)) (by omega) (by omega), decide_eq_decide, eV]
    exact ⟨fun k => Or.inr ⟨h, k⟩, fun k => k.elim (fun q => absurd q hno) (fun q => q.2)⟩
  · rw [decide_eq_false]
    rw [eV]
    exact fun k => k.elim (fun q => hno q) (fun q => h q.1)
end Go.Proofs.Ythfoliejhdpbaaa.Pure
