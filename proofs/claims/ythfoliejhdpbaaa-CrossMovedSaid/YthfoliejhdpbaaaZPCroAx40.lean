import Derived.Test.YthfoliejhdpbaaaZPCroAx0
import Derived.Test.YthfoliejhdpbaaaZPCroAx31
namespace Go.Proofs.Ythfoliejhdpbaaa.PCroA
open Go.RowKit Go.Proofs.YthfoliejhdpbaaaW.PrintWords Go.Proofs.YthfoliejhdpbaaaW.PrintLast Go.Proofs.YthfoliejhdpbaaaW.PrintMore
open Go.Proofs.YthfoliejhdpbaaaX
attribute [local go_sem] max2_int min2_int max_two min_two max_three min_three max_four min_four
set_option linter.unusedVariables false
set_option linter.unusedSimpArgs false

/-! ### tangramlaw26_points: function 20 -/
def tangramlaw26_points.f (l0 : List (S23)) : Option ((List (S23))) := (some (([] : List (S23)) : List (S23))).bind fun y445 => (if y445.length + l0.length < 8796093022208 then (some (y445 ++ l0)) else (none))
set_option maxHeartbeats 8000000 in
set_option maxRecDepth 100000 in
theorem tangramlaw26_points.calls (A0 : Option Addr) (c0 : Nat) (l0 : List (S23)) (r : List (S23)) (w : World) (hr0 : Kd.C k23 w A0 l0.length l0) (hc0 : l0.length ≤ c0) (h : tangramlaw26_points.f l0 = some r) :
  Calls Try.prog 20 #[.slice A0 l0.length c0] w fun e w' => ∃ v0_ : Value, e = .returned (v0_) ∧ Kd.R k23 23 w' w.heap.size (fun _ => True) v0_ r ∧ Below w.heap.size w w' := by
 have HR0 := Aside0.mk hr0; have HC0 := Aside0.mk hc0; clear hr0 hc0; have HB := Aside0.mk (Below.refl w.heap.size w); have H : ((some (([] : List (S23)) : List (S23))).bind fun y445 => (if y445.length + l0.length < 8796093022208 then (some (y445 ++ l0)) else (none))) = some r := h; clear h; obtain ⟨y445, hy445⟩ : ∃ y_ : List (S23), y_ = (([] : List (S23))) := ⟨_, rfl⟩; replace H : (if y445.length + l0.length < 8796093022208 then (some (y445 ++ l0)) else (none)) = some r := by first | (rw [hy445]; with_reducible exact H) | (have H2_ := (Option.bind_some _ _).symm.trans H; rw [hy445]; with_reducible exact H2_) | (have H2_ := (Option.bind_some _ _).symm.trans H; with_reducible exact H2_) | with_reducible exact H | (rw [hy445]; exact H) | exact H
 have Ny445 := Aside0.mk hy445; clear hy445
 by_cases c2 : y445.length + l0.length < 8796093022208
 ·rw [if_pos c2] at H; have LMc2 := Aside0.mk c2; clear c2; obtain ⟨y448, hy448⟩ : ∃ y_ : List (S23), y_ = (y445 ++ l0) := ⟨_, rfl⟩; replace H : (some y448) = some r := by first | (rw [hy448]; with_reducible exact H) | (have H2_ := (Option.bind_some _ _).symm.trans H; rw [hy448]; with_reducible exact H2_) | (have H2_ := (Option.bind_some _ _).symm.trans H; with_reducible exact H2_) | with_reducible exact H | (rw [hy448]; exact H) | exact H
  have Ny448 := Aside0.mk hy448; clear hy448; obtain rfl := Option.some.inj H
  go_enter Try.func20, Try.ntmps20
  go_wp2_with (first | ((with_reducible refine gate_dst (N := 3) rfl ?_); refine Kd.R_lit k23 _ 23 ?hg (N := 3) ?hd (xs := ([] : List (S23))) (inner := []) (ok := fun _ => True) (okp := fun _ => True) ?hr ?hp (fun _ hk => hk) trivial (Below.refl _ _) (Nat.le_refl _) (by simp) ?_; (case hd => rfl); (case hg => rfl); (case hr => first | (go_simp; done) | (go_simp; rfl)); (case hp => exact (Reps.none _ _)); intro v446 w3 ho4 hb hg_ hnew_; clear hg_ hnew_; (first | rw [← Ny445.out] at ho4 | (simp only [Int.reduceToNat] at ho4; rw [← Ny445.out] at ho4)); have HO447 := Aside0.mk (Kd.R_lower ho4 (below_size (hb0 HB))); replace HB := hs (hb0 HB) hb; clear hb ho4) | ((with_reducible refine gate_builtin (b := .append) (xs := #[.tmp 3, .tmp 4]) rfl ?_); at_builtin; refine Kd.R_append_rows k23 (w0 := w) w.heap.size rfl (.tmp 3) (.tmp 4) 32 23 (.agg #[(.int .i64 0), (.int .i64 0)]) 16 rfl Try.underlying32 info23 rfl (by decide) (by omega) v446 y445 l0 _ _ _ (fun _ => True) (fun _ => False) rfl rfl ?aO ?aR (fun _ _ h => h) (fun _ h => h.elim) ?aF ?aB ?aS ?aL ?_; (case aR => repeat (first | exact (Kd.C_below HR0.out HB.out) | (with_reducible refine Kd.C_alloc ?_ _) | (with_reducible refine Kd.C_drewN ?_ _) | (with_reducible refine Kd.C_drew ?_))); (case aB => exact (hb0 HB)); (case aF => exact (fun _ _ => trivial)); (case aO => exact (rx HO447)); (case aS => exact (below_size (hb0 HB))); (case aL => have := LMc2.out; omega); intro v449 w5 ho hb hg hat; rw [← Ny448.out] at ho; have n0_ := Aside0.mk (hb); have n1_ := Aside0.mk (ho); clear HB; clear HO447; have HB := n0_; have HO450 := n1_; clear n0_ n1_; clear ho hb hg hat))
  go_ret
  exact ⟨_, by rfl, by (with_reducible repeat (first | apply Kd.R_alloc | apply Kd.R_drewN | apply Kd.R_drew)); exact HO450.out, hb0 HB⟩
 ·rw [if_neg c2] at H; exact absurd H (by simp)


/-! ### tangramref26_Drawing: function 47 -/
def tangramref26_Drawing.l0 : Nat → List (S23) → Int → Option (Bool)
 | 0, _, _ => none
 | k + 1, x1, x5 => if x5 < (x1.length : Int) then (if 0 ≤ x5 then ((tangramref26_Beyond.f ((rd_T23 x1 x5).f0) ((rd_T23 x1 x5).f1)).bind fun t452 => (if t452 = true then (some false) else (tangramref26_Drawing.l0 k x1 (wrap64 (x5 + 1))))) else (none)) else (some true)
def tangramref26_Drawing.f (k : Nat) (a0 : Int) (l1 : List (S23)) : Option (Bool) := if (l1.length : Int) = a0 then (tangramref26_Drawing.l0 k l1 0) else (some false)
theorem tangramref26_Drawing.mono_l : ∀ k, (∀ y0 y1, LeO (tangramref26_Drawing.l0 k y0 y1) (tangramref26_Drawing.l0 (k + 1) y0 y1))
 | 0 => fun _ _ r h => by simp [tangramref26_Drawing.l0] at h
 | k + 1 => by
  have ih0 := tangramref26_Drawing.mono_l k
  ·intro y0 y1
   unfold tangramref26_Drawing.l0
   repeat' first
   | (with_reducible exact ih0 _ _)
   | (with_reducible exact LeO.refl _)
   | (with_reducible exact LeO.none _)
   | (with_reducible refine LeO.ite ?_ ?_)
   | (with_reducible refine LeO.bind ?_ (fun _ => ?_))
   | exact LeO.none _
   | refine LeO.ite ?_ ?_
   | refine LeO.bind ?_ (fun _ => ?_)
theorem tangramref26_Drawing.mono : ∀ a0 a1 k, LeO (tangramref26_Drawing.f k a0 a1) (tangramref26_Drawing.f (k + 1) a0 a1) := by
 intro a0 a1 k; have ih0 := tangramref26_Drawing.mono_l k
 unfold tangramref26_Drawing.f
 repeat' first
   | (with_reducible exact ih0 _ _)
   | (with_reducible exact LeO.refl _)
   | (with_reducible exact LeO.none _)
   | (with_reducible refine LeO.ite ?_ ?_)
   | (with_reducible refine LeO.bind ?_ (fun _ => ?_))
   | exact LeO.none _
   | refine LeO.ite ?_ ?_
   | refine LeO.bind ?_ (fun _ => ?_)
set_option maxHeartbeats 8000000 in
set_option maxRecDepth 100000 in
theorem tangramref26_Drawing.calls (k : Nat) (a0 : Int) (A1 : Option Addr) (c1 : Nat) (l1 : List (S23)) (r : Bool) (w : World) (hr1 : Kd.C k23 w A1 l1.length l1) (hc1 : l1.length ≤ c1) (h : tangramref26_Drawing.f k a0 l1 = some r) :
  Calls Try.prog 47 #[.int .i64 a0, .slice A1 l1.length c1] w fun e w' => e = .returned (.bool r) ∧ Below w.heap.size w w' := by
 have hu23 := Try.underlying23; have HR1 := Aside0.mk hr1; have HC1 := Aside0.mk hc1; clear hr1 hc1; have HB := Aside0.mk (Below.refl w.heap.size w); have H : (if (l1.length : Int) = a0 then (tangramref26_Drawing.l0 k l1 0) else (some false)) = some r := h; clear h
 by_cases c3 : (l1.length : Int) = a0
 ·rw [if_pos c3] at H; have c3b0 : ((l1.length : Int) == a0) = true := beq_iff_eq.mpr c3; have c3b1 : ((l1.length : Int) != a0) = false := bne_eq_false_iff_eq.mpr c3; clear c3; have H' := Aside0.mk H; clear H
  go_enter Try.func47, Try.ntmps47
  go_wp2
  go_loopg [5] k (fun kq v5 w' => ∃ (x5_1 : Int), v5 = .int .i64 x5_1 ∧ Aside0 (tangramref26_Drawing.l0 kq l1 x5_1 = some r) ∧ Aside0 (kq ≤ k) ∧ Aside0 (Below w.heap.size w w'))
  case atStart => exact ⟨(0), (by first | rfl | (simp; done) | (simp [*]; done)), H', ⟨Nat.le_refl _⟩, ⟨hb0 HB⟩⟩
  case round =>
   clear H'
   try clear c1
   try clear p2
   try clear c3
   try clear c3b0
   try clear c3b1
   obtain ⟨x5_1, rfl, HA, HK1, HB⟩ := hrel
   cases gk with
   | zero => exact absurd HA.out (by simp [tangramref26_Drawing.l0])
   | succ k1 =>
    have H := HA.out; clear HA; simp only [tangramref26_Drawing.l0] at H
    by_cases c4 : x5_1 < (l1.length : Int)
    ·rw [if_pos c4] at H; have c4b0 : decide (x5_1 < (l1.length : Int)) = true := decide_eq_true c4; clear c4
     by_cases c5 : 0 ≤ x5_1
     ·rw [if_pos c5] at H; have c5b0 : decide (0 ≤ x5_1) = true := decide_eq_true c5; clear c5; replace H := Option.bind_eq_some_iff.mp H; obtain ⟨t452, A60, H⟩ := H; (try dsimp only at H); have A6 := Aside0.mk A60; clear A60
      by_cases c7 : t452 = true
      ·subst c7; rw [if_pos rfl] at H; obtain rfl := Option.some.inj H; have p451 : 0 ≤ (x5_1 : Int) := of_decide_eq_true (by first | (with_reducible assumption) | assumption); have q451 : x5_1 < (l1.length : Int) := of_decide_eq_true (by first | (with_reducible assumption) | assumption); obtain ⟨ad451, e451, hx451_0, hx451_1⟩ := at_T23 HR1.out x5_1 p451 q451
       cases e451
       replace hx451_0 := (HB.out.cell (World.block_lt_of_cell? w _ hx451_0)).trans hx451_0; replace hx451_1 := (HB.out.cell (World.block_lt_of_cell? w _ hx451_1)).trans hx451_1; replace p451 := eq_true p451; replace q451 := eq_true q451
       go_wp2_with (first | ((with_reducible refine gate_callee (f := 18) rfl ?_); refine gl_ (some 20) Try.func18 #[.agg #[.int .i64 ((rd_T23 l1 x5_1).f0), .int .i64 ((rd_T23 l1 x5_1).f1)]] ?_; (with_reducible refine (tangramref26_Beyond.calls ((rd_T23 l1 x5_1).f0) ((rd_T23 l1 x5_1).f1) true _ A6.out).mono ?_); rintro e w8 ⟨rfl, hb⟩; refine ⟨_, rfl, ?_⟩; replace HB := hs (hb0 HB) hb; (try clear hb); (try clear hb2); (try clear hk); (try clear hi)))
       go_ret
       exact ⟨by rfl, hb0 HB⟩
      ·replace c7 := Bool.eq_false_iff.mpr c7; subst c7; rw [if_neg (show ¬ (false = true) by decide)] at H; have H' := Aside0.mk H; clear H; have p451 : 0 ≤ (x5_1 : Int) := of_decide_eq_true (by first | (with_reducible assumption) | assumption); have q451 : x5_1 < (l1.length : Int) := of_decide_eq_true (by first | (with_reducible assumption) | assumption); obtain ⟨ad451, e451, hx451_0, hx451_1⟩ := at_T23 HR1.out x5_1 p451 q451
       cases e451
       replace hx451_0 := (HB.out.cell (World.block_lt_of_cell? w _ hx451_0)).trans hx451_0; replace hx451_1 := (HB.out.cell (World.block_lt_of_cell? w _ hx451_1)).trans hx451_1; replace p451 := eq_true p451; replace q451 := eq_true q451
       go_wp2_with (first | ((with_reducible refine gate_callee (f := 18) rfl ?_); refine gl_ (some 20) Try.func18 #[.agg #[.int .i64 ((rd_T23 l1 x5_1).f0), .int .i64 ((rd_T23 l1 x5_1).f1)]] ?_; (with_reducible refine (tangramref26_Beyond.calls ((rd_T23 l1 x5_1).f0) ((rd_T23 l1 x5_1).f1) false _ A6.out).mono ?_); rintro e w9 ⟨rfl, hb⟩; refine ⟨_, rfl, ?_⟩; replace HB := hs (hb0 HB) hb; (try clear hb); (try clear hb2); (try clear hk); (try clear hi)))
       go_roundg k1
       case measure => have := HK1.out; omega
       case rel => exact ⟨(wrap64 (x5_1 + 1)), (by first | rfl | (simp; done) | (simp [*]; done)), H', ⟨by have := HK1.out; omega⟩, ⟨hb0 HB⟩⟩
     ·rw [if_neg c5] at H; exact absurd H (by simp)
    ·rw [if_neg c4] at H; have c4b0 : decide (x5_1 < (l1.length : Int)) = false := decide_eq_false c4; clear c4; obtain rfl := Option.some.inj H
     go_wp2
     go_ret
     exact ⟨by rfl, hb0 HB⟩
 ·rw [if_neg c3] at H; have c3b0 : ((l1.length : Int) == a0) = false := beq_eq_false_iff_ne.mpr c3; have c3b1 : ((l1.length : Int) != a0) = true := bne_iff_ne.mpr c3; obtain rfl := Option.some.inj H
  go_enter Try.func47, Try.ntmps47
  go_wp2
  go_ret
  exact ⟨by rfl, hb0 HB⟩

end Go.Proofs.Ythfoliejhdpbaaa.PCroA
