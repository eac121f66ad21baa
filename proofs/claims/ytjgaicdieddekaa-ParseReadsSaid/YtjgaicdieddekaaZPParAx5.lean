-- PRINTED by print.py (a twelfth state) out of the translation. Not trusted: Lean checks it.
import Derived.Test.YtjgaicdieddekaaZPParAx0
import Derived.Test.YtjgaicdieddekaaZPParAx3
import Derived.Test.YtjgaicdieddekaaZPParAx4
namespace Go.Proofs.Ytjgaicdieddekaa.PParA
open Go.RowKit Go.Proofs.YtjgaicdieddekaaW.PrintWords Go.Proofs.YtjgaicdieddekaaW.PrintLast Go.Proofs.YtjgaicdieddekaaW.PrintMore
open Go.Proofs.YtjgaicdieddekaaX
attribute [local go_sem] max2_int min2_int max_two min_two max_three min_three max_four min_four   -- for this text's walks alone
set_option linter.unusedVariables false
set_option linter.unusedSimpArgs false

/-! ### tangramref01_Scan: function 15 -/
mutual
def tangramref01_Scan.l0 : Nat → List Int → List (S50) → Int → Option ((List (S50)) × Int × Int)
 | 0, _, _, _ => none
 | k + 1, x0, x5, x6 => if x6 < (x0.length : Int) then (if 0 ≤ x6 then (if (rd x0 x6) = 10 then (if x5.length < 4398046511104 then (tangramref01_Scan.l0 k x0 (x5 ++ [(⟨2, x6, wrap64 (x6 + 1), 0⟩ : S50)]) (wrap64 (x6 + 1))) else (none)) else ((tangramref01_blank.f (rd x0 x6)).bind fun t109 => (if t109 = true then (tangramref01_Scan.l0 k x0 x5 (wrap64 (x6 + 1))) else ((tangramref01_digit.f (rd x0 x6)).bind fun t111 => (if t111 = true then (tangramref01_Scan.l1 k x0 x5 x6 x6 0) else (some (([] : List (S50)), x6, 11))))))) else (none)) else (if x5.length < 4398046511104 then (some ((x5 ++ [(⟨3, (x0.length : Int), (x0.length : Int), 0⟩ : S50)]), 0, 0)) else (none))
def tangramref01_Scan.l1 : Nat → List Int → List (S50) → Int → Int → Int → Option ((List (S50)) × Int × Int)
 | 0, _, _, _, _, _ => none
 | k + 1, x0, x5, x6, x7, x8 => if x7 < (x0.length : Int) then (if 0 ≤ x7 then ((tangramref01_digit.f (rd x0 x7)).bind fun t113 => (tangramref01_Scan.j2 k x0 x5 x6 x7 x8 t113)) else (none)) else (tangramref01_Scan.j2 k x0 x5 x6 x7 x8 false)
def tangramref01_Scan.j2 : Nat → List Int → List (S50) → Int → Int → Int → Bool → Option ((List (S50)) × Int × Int)
 | 0, _, _, _, _, _, _ => none
 | k + 1, x0, x5, x6, x7, x8, x57 => if x57 = true then (if (wrap64 (x7 - x6)) < 9 then (if 0 ≤ x7 then (if x7 < (x0.length : Int) then (tangramref01_Scan.l1 k x0 x5 x6 (wrap64 (x7 + 1)) (wrap64 ((wrap64 (10 * x8)) + (((rd x0 x7) - 48) % 256)))) else (none)) else (none)) else (tangramref01_Scan.l1 k x0 x5 x6 (wrap64 (x7 + 1)) x8)) else (if (wrap64 (x7 - x6)) > 9 then (some (([] : List (S50)), x6, 12)) else (if 0 ≤ x6 then (if x6 < (x0.length : Int) then (if (rd x0 x6) = 48 then (if (wrap64 (x7 - x6)) > 1 then (some (([] : List (S50)), x6, 12)) else (if x5.length < 4398046511104 then (tangramref01_Scan.l0 k x0 (x5 ++ [(⟨1, x6, x7, x8⟩ : S50)]) x7) else (none))) else (if x5.length < 4398046511104 then (tangramref01_Scan.l0 k x0 (x5 ++ [(⟨1, x6, x7, x8⟩ : S50)]) x7) else (none))) else (none)) else (none)))
end
def tangramref01_Scan.f (k : Nat) (l0 : List Int) : Option ((List (S50)) × Int × Int) := if (l0.length : Int) > 33554432 then (some (([] : List (S50)), 33554432, 10)) else (tangramref01_Scan.l0 k l0 ([] : List (S50)) 0)
theorem tangramref01_Scan.mono_l : ∀ k, (∀ y0 y1 y2, LeO (tangramref01_Scan.l0 k y0 y1 y2) (tangramref01_Scan.l0 (k + 1) y0 y1 y2)) ∧ (∀ y0 y1 y2 y3 y4, LeO (tangramref01_Scan.l1 k y0 y1 y2 y3 y4) (tangramref01_Scan.l1 (k + 1) y0 y1 y2 y3 y4)) ∧ (∀ y0 y1 y2 y3 y4 y5, LeO (tangramref01_Scan.j2 k y0 y1 y2 y3 y4 y5) (tangramref01_Scan.j2 (k + 1) y0 y1 y2 y3 y4 y5))
 | 0 => ⟨fun _ _ _ r h => by simp [tangramref01_Scan.l0] at h, fun _ _ _ _ _ r h => by simp [tangramref01_Scan.l1] at h, fun _ _ _ _ _ _ r h => by simp [tangramref01_Scan.j2] at h⟩
 | k + 1 => by
  obtain ⟨ih0, ih1, ih2⟩ := tangramref01_Scan.mono_l k; refine ⟨?_, ?_, ?_⟩
  ·intro y0 y1 y2
   unfold tangramref01_Scan.l0
   repeat' first
   | (with_reducible exact ih0 _ _ _)
   | (with_reducible exact ih1 _ _ _ _ _)
   | (with_reducible exact ih2 _ _ _ _ _ _)
   | (with_reducible exact LeO.refl _)
   | (with_reducible exact LeO.none _)
   | (with_reducible refine LeO.ite ?_ ?_)
   | (with_reducible refine LeO.bind ?_ (fun _ => ?_))
   | exact ih0 _ _ _
   | exact ih1 _ _ _ _ _
   | exact ih2 _ _ _ _ _ _
   | exact LeO.none _
   | refine LeO.ite ?_ ?_
   | refine LeO.bind ?_ (fun _ => ?_)
  ·intro y0 y1 y2 y3 y4
   unfold tangramref01_Scan.l1
   repeat' first
   | (with_reducible exact ih0 _ _ _)
   | (with_reducible exact ih1 _ _ _ _ _)
   | (with_reducible exact ih2 _ _ _ _ _ _)
   | (with_reducible exact LeO.refl _)
   | (with_reducible exact LeO.none _)
   | (with_reducible refine LeO.ite ?_ ?_)
   | (with_reducible refine LeO.bind ?_ (fun _ => ?_))
   | exact ih0 _ _ _
   | exact ih1 _ _ _ _ _
   | exact ih2 _ _ _ _ _ _
   | exact LeO.none _
   | refine LeO.ite ?_ ?_
   | refine LeO.bind ?_ (fun _ => ?_)
  ·intro y0 y1 y2 y3 y4 y5
   unfold tangramref01_Scan.j2
   repeat' first
   | (with_reducible exact ih0 _ _ _)
   | (with_reducible exact ih1 _ _ _ _ _)
   | (with_reducible exact ih2 _ _ _ _ _ _)
   | (with_reducible exact LeO.refl _)
   | (with_reducible exact LeO.none _)
   | (with_reducible refine LeO.ite ?_ ?_)
   | (with_reducible refine LeO.bind ?_ (fun _ => ?_))
   | exact ih0 _ _ _
   | exact ih1 _ _ _ _ _
   | exact ih2 _ _ _ _ _ _
   | exact LeO.none _
   | refine LeO.ite ?_ ?_
   | refine LeO.bind ?_ (fun _ => ?_)
theorem tangramref01_Scan.mono : ∀ a0 k, LeO (tangramref01_Scan.f k a0) (tangramref01_Scan.f (k + 1) a0) := by
 intro a0 k; obtain ⟨ih0, ih1, ih2⟩ := tangramref01_Scan.mono_l k
 unfold tangramref01_Scan.f
 repeat' first
   | (with_reducible exact ih0 _ _ _)
   | (with_reducible exact ih1 _ _ _ _ _)
   | (with_reducible exact ih2 _ _ _ _ _ _)
   | (with_reducible exact LeO.refl _)
   | (with_reducible exact LeO.none _)
   | (with_reducible refine LeO.ite ?_ ?_)
   | (with_reducible refine LeO.bind ?_ (fun _ => ?_))
   | exact ih0 _ _ _
   | exact ih1 _ _ _ _ _
   | exact ih2 _ _ _ _ _ _
   | exact LeO.none _
   | refine LeO.ite ?_ ?_
   | refine LeO.bind ?_ (fun _ => ?_)
set_option maxHeartbeats 8000000 in
set_option maxRecDepth 100000 in
theorem tangramref01_Scan.calls (k : Nat) (A0 : Option Addr) (c0 : Nat) (l0 : List Int) (r1 : List (S50)) (r2 : Int) (r3 : Int) (w : World) (hr0 : Kd.C (Kd.int .u8) w A0 l0.length l0) (hc0 : l0.length ≤ c0) (h : tangramref01_Scan.f k l0 = some (r1, r2, r3)) :
  Calls Try.prog 15 #[.slice A0 l0.length c0] w fun e w' => ∃ v0_ : Value, e = .returned (.tuple #[v0_, .int .i64 r2, .int .i64 r3]) ∧ Kd.R k50 50 w' w.heap.size (fun _ => True) v0_ r1 ∧ Below w.heap.size w w' := by
 have hu50 := Try.underlying50; have HR0 := Aside0.mk hr0; have HC0 := Aside0.mk hc0; clear hr0 hc0; have HB := Aside0.mk (Below.refl w.heap.size w); have H : (if (l0.length : Int) > 33554432 then (some (([] : List (S50)), 33554432, 10)) else (tangramref01_Scan.l0 k l0 ([] : List (S50)) 0)) = some (r1, r2, r3) := h; clear h
 by_cases c2 : (l0.length : Int) > 33554432
 ·rw [if_pos c2] at H; have c2b0 : decide (33554432 < (l0.length : Int)) = true := decide_eq_true c2; have c2b1 : decide (33554432 < l0.length) = true := decide_eq_true (by omega); clear c2; simp only [Option.some.injEq, Prod.mk.injEq] at H; obtain ⟨rfl, rfl, rfl⟩ := H
  go_enter Try.func15, Try.ntmps15
  go_wp2
  go_ret3
  exact ⟨_, by first | rfl | (simp [errW_none, errW_some] <;> rfl) | (simp [*, errW_none, errW_some] <;> rfl), by first | exact Kd.R_nil _ _ _ _ _ | exact Kd.N_nil _ _ _ _ _ | exact Kd.V_nil _ _ _ _ _ | exact Kd.Q_nil _ _ _ _ _ | exact Kd.S_nil _ _ _ _ _, hb0 HB⟩
 ·rw [if_neg c2] at H; have c2b0 : decide (33554432 < (l0.length : Int)) = false := decide_eq_false c2; have c2b1 : decide (33554432 < l0.length) = false := decide_eq_false (by omega); clear c2; have H' := Aside0.mk H; clear H
  go_enter Try.func15, Try.ntmps15
  go_wp2
  go_loopg [5, 6] k (fun kq v5 v6 w' => ∃ (x5_1 : List (S50)) (x6_1 : Int), v6 = .int .i64 x6_1 ∧ Aside0 (tangramref01_Scan.l0 kq l0 x5_1 x6_1 = some (r1, r2, r3)) ∧ Aside0 (kq ≤ k) ∧ Aside0 (Kd.R k50 50 w' w.heap.size (fun _ => True) v5 x5_1) ∧ Aside0 (Below w.heap.size w w'))
  case atStart => exact ⟨(([] : List (S50))), (0), (by first | rfl | (simp; done) | (simp [*]; done)), H', ⟨Nat.le_refl _⟩, ⟨by first | exact Kd.R_nil _ _ _ _ _ | exact Kd.N_nil _ _ _ _ _ | exact Kd.V_nil _ _ _ _ _ | exact Kd.Q_nil _ _ _ _ _ | exact Kd.S_nil _ _ _ _ _⟩, ⟨hb0 HB⟩⟩
  case round =>
   clear H'
   try clear c1
   try clear c2
   try clear c2b0
   try clear c2b1
   try clear p2
   obtain ⟨x5_1, x6_1, rfl, HA, HK1, HO_5, HB⟩ := hrel
   cases gk with
   | zero => exact absurd HA.out (by simp [tangramref01_Scan.l0])
   | succ k1 =>
    have H := HA.out; clear HA; simp only [tangramref01_Scan.l0] at H
    by_cases c3 : x6_1 < (l0.length : Int)
    ·rw [if_pos c3] at H; have c3b0 : decide (x6_1 < (l0.length : Int)) = true := decide_eq_true c3; clear c3
     by_cases c4 : 0 ≤ x6_1
     ·rw [if_pos c4] at H; have c4b0 : decide (0 ≤ x6_1) = true := decide_eq_true c4; clear c4
      by_cases c5 : (rd l0 x6_1) = 10
      ·rw [if_pos c5] at H; have c5b0 : ((rd l0 x6_1) == 10) = true := beq_iff_eq.mpr c5; have c5b1 : ((rd l0 x6_1) != 10) = false := bne_eq_false_iff_eq.mpr c5; clear c5
       by_cases c6 : x5_1.length < 4398046511104
       ·rw [if_pos c6] at H; have LMc6 := Aside0.mk c6; clear c6; obtain ⟨y105, hy105⟩ : ∃ y_ : List (S50), y_ = (x5_1 ++ [(⟨2, x6_1, wrap64 (x6_1 + 1), 0⟩ : S50)]) := ⟨_, rfl⟩; replace H : (tangramref01_Scan.l0 k1 l0 y105 (wrap64 (x6_1 + 1))) = some (r1, r2, r3) := by first | (rw [hy105]; with_reducible exact H) | (have H2_ := (Option.bind_some _ _).symm.trans H; rw [hy105]; with_reducible exact H2_) | (have H2_ := (Option.bind_some _ _).symm.trans H; with_reducible exact H2_) | with_reducible exact H | (rw [hy105]; exact H) | exact H
        have Ny105 := Aside0.mk hy105; clear hy105; have H' := Aside0.mk H; clear H; have p104 : 0 ≤ (x6_1 : Int) := of_decide_eq_true (by first | (with_reducible assumption) | assumption); have q104 : x6_1 < (l0.length : Int) := of_decide_eq_true (by first | (with_reducible assumption) | assumption); obtain ⟨ad104, e104, hx104_0⟩ := Kd.at_int HR0.out x6_1 p104 q104
        cases e104
        replace hx104_0 := (HB.out.cell (World.block_lt_of_cell? w _ hx104_0)).trans hx104_0; replace p104 := eq_true p104; replace q104 := eq_true q104
        go_wp2_with (first | ((with_reducible refine gate_builtin (b := .append) (xs := #[.tmp 23, .tmp 28]) rfl ?_); at_builtin; refine Kd.R_append k50 (w0 := w) w.heap.size rfl (.tmp 23) (.tmp 28) 43 50 (.agg #[(.int .i64 0), (.int .i64 0), (.int .i64 0), (.int .i64 0)]) 32 rfl Try.underlying43 info50 rfl (by decide) (by omega) u5 x5_1 (⟨2, x6_1, wrap64 (x6_1 + 1), 0⟩ : S50) [.int .i64 2, .int .i64 x6_1, .int .i64 (wrap64 (x6_1 + 1)), .int .i64 0] (fun _ => True) (fun _ => False) rfl rfl ?aP (fun _ hk => hk.elim) ?aF ?aO ?aB ?aS ?aL ?_; (case aP => exact k50_mkM _ _ _ (⟨2, x6_1, wrap64 (x6_1 + 1), 0⟩ : S50)); (case aB => exact (hb0 HB)); (case aF => exact (fun _ _ => trivial)); (case aO => exact (rx HO_5)); (case aS => exact (below_size (hb0 HB))); (case aL => have := LMc6.out; omega); intro v106 w7 ho hb hg hat; rw [← Ny105.out] at ho; have n0_ := Aside0.mk (hb); have n1_ := Aside0.mk (ho); clear HB; clear HO_5; have HB := n0_; have HO107 := n1_; clear n0_ n1_; clear ho hb hg hat))
        go_roundg k1
        case measure => have := HK1.out; omega
        case rel => exact ⟨(y105), (wrap64 (x6_1 + 1)), (by first | rfl | (simp; done) | (simp [*]; done)), H', ⟨by have := HK1.out; omega⟩, ⟨rx HO107⟩, ⟨hb0 HB⟩⟩
       ·rw [if_neg c6] at H; exact absurd H (by simp)
      ·rw [if_neg c5] at H; have c5b0 : ((rd l0 x6_1) == 10) = false := beq_eq_false_iff_ne.mpr c5; have c5b1 : ((rd l0 x6_1) != 10) = true := bne_iff_ne.mpr c5; replace H := Option.bind_eq_some_iff.mp H; obtain ⟨t109, A80, H⟩ := H; replace H : (if t109 = true then (tangramref01_Scan.l0 k1 l0 x5_1 (wrap64 (x6_1 + 1))) else ((tangramref01_digit.f (rd l0 x6_1)).bind fun t111 => (if t111 = true then (tangramref01_Scan.l1 k1 l0 x5_1 x6_1 x6_1 0) else (some (([] : List (S50)), x6_1, 11))))) = some (r1, r2, r3) := H; have A8 := Aside0.mk A80; clear A80
       by_cases c9 : t109 = true
       ·subst c9; have H1 : (tangramref01_Scan.l0 k1 l0 x5_1 (wrap64 (x6_1 + 1))) = some (r1, r2, r3) := by rw [if_pos rfl] at H; exact H
        clear H; have H := H1; clear H1; have H' := Aside0.mk H; clear H; have p104 : 0 ≤ (x6_1 : Int) := of_decide_eq_true (by first | (with_reducible assumption) | assumption); have q104 : x6_1 < (l0.length : Int) := of_decide_eq_true (by first | (with_reducible assumption) | assumption); obtain ⟨ad104, e104, hx104_0⟩ := Kd.at_int HR0.out x6_1 p104 q104
        cases e104
        replace hx104_0 := (HB.out.cell (World.block_lt_of_cell? w _ hx104_0)).trans hx104_0; replace p104 := eq_true p104; replace q104 := eq_true q104; have p108 : 0 ≤ (x6_1 : Int) := of_decide_eq_true (by first | (with_reducible assumption) | assumption); have q108 : x6_1 < (l0.length : Int) := of_decide_eq_true (by first | (with_reducible assumption) | assumption); obtain ⟨ad108, e108, hx108_0⟩ := Kd.at_int HR0.out x6_1 p108 q108; obtain rfl : ad104 = ad108 := (by injection e108); replace hx108_0 := (HB.out.cell (World.block_lt_of_cell? w _ hx108_0)).trans hx108_0; replace p108 := eq_true p108; replace q108 := eq_true q108
        go_wp2_with (first | ((with_reducible refine gate_callee (f := 20) rfl ?_); refine gl_ (some 37) Try.func20 #[.int .u8 (rd l0 x6_1)] ?_; (with_reducible refine (tangramref01_blank.calls (rd l0 x6_1) true _ A8.out).mono ?_); rintro e w' ⟨rfl, ⟨nd, rfl⟩⟩; refine ⟨_, rfl, ?_⟩))
        go_roundg k1
        case measure => have := HK1.out; omega
        case rel => exact ⟨(x5_1), (wrap64 (x6_1 + 1)), (by first | rfl | (simp; done) | (simp [*]; done)), H', ⟨by have := HK1.out; omega⟩, ⟨rx HO_5⟩, ⟨hb0 HB⟩⟩
       ·replace c9 := Bool.eq_false_iff.mpr c9; subst c9; have H1 : ((tangramref01_digit.f (rd l0 x6_1)).bind fun t111 => (if t111 = true then (tangramref01_Scan.l1 k1 l0 x5_1 x6_1 x6_1 0) else (some (([] : List (S50)), x6_1, 11)))) = some (r1, r2, r3) := by rw [if_neg (show ¬ (false = true) by decide)] at H; exact H
        clear H; have H := H1; clear H1; replace H := Option.bind_eq_some_iff.mp H; obtain ⟨t111, A100, H⟩ := H; replace H : (if t111 = true then (tangramref01_Scan.l1 k1 l0 x5_1 x6_1 x6_1 0) else (some (([] : List (S50)), x6_1, 11))) = some (r1, r2, r3) := H; have A10 := Aside0.mk A100; clear A100
        by_cases c11 : t111 = true
        ·subst c11; have H1 : (tangramref01_Scan.l1 k1 l0 x5_1 x6_1 x6_1 0) = some (r1, r2, r3) := by rw [if_pos rfl] at H; exact H
         clear H; have H := H1; clear H1; have H' := Aside0.mk H; clear H; have p104 : 0 ≤ (x6_1 : Int) := of_decide_eq_true (by first | (with_reducible assumption) | assumption); have q104 : x6_1 < (l0.length : Int) := of_decide_eq_true (by first | (with_reducible assumption) | assumption); obtain ⟨ad104, e104, hx104_0⟩ := Kd.at_int HR0.out x6_1 p104 q104
         cases e104
         replace hx104_0 := (HB.out.cell (World.block_lt_of_cell? w _ hx104_0)).trans hx104_0; replace p104 := eq_true p104; replace q104 := eq_true q104; have p108 : 0 ≤ (x6_1 : Int) := of_decide_eq_true (by first | (with_reducible assumption) | assumption); have q108 : x6_1 < (l0.length : Int) := of_decide_eq_true (by first | (with_reducible assumption) | assumption); obtain ⟨ad108, e108, hx108_0⟩ := Kd.at_int HR0.out x6_1 p108 q108; obtain rfl : ad104 = ad108 := (by injection e108); replace hx108_0 := (HB.out.cell (World.block_lt_of_cell? w _ hx108_0)).trans hx108_0; replace p108 := eq_true p108; replace q108 := eq_true q108
         go_wp2_with (first | ((with_reducible refine gate_callee (f := 20) rfl ?_); refine gl_ (some 37) Try.func20 #[.int .u8 (rd l0 x6_1)] ?_; (with_reducible refine (tangramref01_blank.calls (rd l0 x6_1) false _ A8.out).mono ?_); rintro e w' ⟨rfl, ⟨nd, rfl⟩⟩; refine ⟨_, rfl, ?_⟩; have p110 : 0 ≤ (x6_1 : Int) := of_decide_eq_true (by first | (with_reducible assumption) | assumption); have q110 : x6_1 < (l0.length : Int) := of_decide_eq_true (by first | (with_reducible assumption) | assumption); obtain ⟨ad110, e110, hx110_0⟩ := Kd.at_int HR0.out x6_1 p110 q110; obtain rfl : ad104 = ad110 := (by injection e110); replace hx110_0 := (HB.out.cell (World.block_lt_of_cell? w _ hx110_0)).trans hx110_0; replace p110 := eq_true p110; replace q110 := eq_true q110) | ((with_reducible refine gate_callee (f := 21) rfl ?_); refine gl_ (some 45) Try.func21 #[.int .u8 (rd l0 x6_1)] ?_; (with_reducible refine (tangramref01_digit.calls (rd l0 x6_1) true _ A10.out).mono ?_); rintro e w' ⟨rfl, ⟨nd, rfl⟩⟩; refine ⟨_, rfl, ?_⟩))
         go_loopg [7, 8] k1 (fun kq v7 v8 w' => ∃ (x7_2 : Int) (x8_2 : Int), v7 = .int .i64 x7_2 ∧ v8 = .int .i64 x8_2 ∧ Aside0 (tangramref01_Scan.l1 kq l0 x5_1 x6_1 x7_2 x8_2 = some (r1, r2, r3)) ∧ Aside0 (kq ≤ k1) ∧ Aside0 (Kd.R k50 50 w' w.heap.size (fun _ => True) u5 x5_1) ∧ Aside0 (Below w.heap.size w w'))
         case atStart => exact ⟨(x6_1), (0), (by first | rfl | (simp; done) | (simp [*]; done)), (by first | rfl | (simp; done) | (simp [*]; done)), H', ⟨Nat.le_refl _⟩, ⟨rx HO_5⟩, ⟨hb0 HB⟩⟩
         case round =>
          clear H'
          try clear c1
          try clear p1
          try clear q1
          try clear hx1
          try clear c2
          try clear c2b0
          try clear c2b1
          try clear p2
          try clear c3
          try clear c3b0
          try clear c4
          try clear c4b0
          try clear c5
          try clear c5b0
          try clear c5b1
          try clear c6
          try clear p6
          try clear c9
          try clear p10
          try clear q10
          try clear hx10
          try clear c11
          try clear p11
          try clear q11
          try clear hx11
          try clear hx104_0
          try clear hx108_0
          try clear hx110_0
          try clear p104
          try clear p108
          try clear p110
          try clear p2
          try clear q104
          try clear q108
          try clear q110
          obtain ⟨x7_2, x8_2, rfl, rfl, HA, HK2, HO_5, HB⟩ := hrel
          cases gk with
          | zero => exact absurd HA.out (by simp [tangramref01_Scan.l1])
          | succ k2 =>
           have H := HA.out; clear HA; simp only [tangramref01_Scan.l1] at H; have HC12 := Aside0.mk H; clear H
           go_upto_region 15 with (fail)
           go_cut [57] (fun v57 wc => ∃ (kq : Nat) (x57_11 : Bool), v57 = .bool x57_11 ∧ Aside0 (tangramref01_Scan.j2 kq l0 x5_1 x6_1 x7_2 x8_2 x57_11 = some (r1, r2, r3)) ∧ Aside0 (kq ≤ k2) ∧ Aside0 (Kd.R k50 50 wc w.heap.size (fun _ => True) u5 x5_1) ∧ Aside0 (Below w.heap.size w wc))
           case first => as_aux_lemma =>
            have H := HC12.out; clear HC12
            by_cases c13 : x7_2 < (l0.length : Int)
            ·rw [if_pos c13] at H; have c13b0 : decide (x7_2 < (l0.length : Int)) = true := decide_eq_true c13; clear c13
             (first | rw [c13b0] | (simp only [i64_w, i32_w]; rw [c13b0]) | skip)
             by_cases c14 : 0 ≤ x7_2
             ·rw [if_pos c14] at H; have c14b0 : decide (0 ≤ x7_2) = true := decide_eq_true c14; clear c14; replace H := Option.bind_eq_some_iff.mp H; obtain ⟨t113, A150, H⟩ := H; replace H : (tangramref01_Scan.j2 k2 l0 x5_1 x6_1 x7_2 x8_2 t113) = some (r1, r2, r3) := H; have A15 := Aside0.mk A150; clear A150; have H' := Aside0.mk H; clear H; have p112 : 0 ≤ (x7_2 : Int) := of_decide_eq_true (by first | (with_reducible assumption) | assumption); have q112 : x7_2 < (l0.length : Int) := of_decide_eq_true (by first | (with_reducible assumption) | assumption); obtain ⟨ad112, e112, hx112_0⟩ := Kd.at_int HR0.out x7_2 p112 q112; obtain rfl : ad104 = ad112 := (by injection e112); replace hx112_0 := (HB.out.cell (World.block_lt_of_cell? w _ hx112_0)).trans hx112_0; replace p112 := eq_true p112; replace q112 := eq_true q112
              go_wp2_with (first | (go_at_call 21; (with_reducible refine (tangramref01_digit.calls (rd l0 x7_2) t113 _ A15.out).mono ?_); rintro e w' ⟨rfl, ⟨nd, rfl⟩⟩))
              go_meet
              case rel => exact ⟨_, (t113), (by first | rfl | (simp; done) | (simp [*]; done)), H', ⟨by have := HK1.out; have := HK2.out; first | omega | exact Nat.le_refl _⟩, ⟨rx HO_5⟩, ⟨hb0 HB⟩⟩
             ·rw [if_neg c14] at H; exact absurd H (by simp)
            ·rw [if_neg c13] at H; have c13b0 : decide (x7_2 < (l0.length : Int)) = false := decide_eq_false c13; clear c13
             (first | rw [c13b0] | (simp only [i64_w, i32_w]; rw [c13b0]) | skip)
             have H' := Aside0.mk H; clear H
             go_wp2
             go_meet
             case rel => exact ⟨_, (false), (by first | rfl | (simp; done) | (simp [*]; done)), H', ⟨by have := HK1.out; have := HK2.out; first | omega | exact Nat.le_refl _⟩, ⟨rx HO_5⟩, ⟨hb0 HB⟩⟩
           case rest => as_aux_lemma =>
            clear HC12
            try clear c1
            try clear p1
            try clear q1
            try clear hx1
            try clear c2
            try clear c2b0
            try clear c2b1
            try clear p2
            try clear c3
            try clear c3b0
            try clear c4
            try clear c4b0
            try clear c5
            try clear c5b0
            try clear c5b1
            try clear c6
            try clear p6
            try clear c9
            try clear p10
            try clear q10
            try clear hx10
            try clear c11
            try clear p11
            try clear q11
            try clear hx11
            try clear c13
            try clear c13b0
            try clear c14
            try clear c14b0
            try clear c15
            try clear hx104_0
            try clear hx108_0
            try clear hx110_0
            try clear hx112_0
            try clear p1
            try clear p10
            try clear p104
            try clear p108
            try clear p11
            try clear p110
            try clear p112
            try clear p2
            try clear p6
            try clear q1
            try clear q10
            try clear q104
            try clear q108
            try clear q11
            try clear q110
            try clear q112
            obtain ⟨kq, x57_11, rfl, HA, HJ11, HO_5, HB⟩ := hcut
            cases kq with
            | zero => exact absurd HA.out (by simp [tangramref01_Scan.j2])
            | succ kj11 =>
             have H := HA.out; clear HA; simp only [tangramref01_Scan.j2] at H
             by_cases c16 : x57_11 = true
             ·subst c16; have H1 : (if (wrap64 (x7_2 - x6_1)) < 9 then (if 0 ≤ x7_2 then (if x7_2 < (l0.length : Int) then (tangramref01_Scan.l1 kj11 l0 x5_1 x6_1 (wrap64 (x7_2 + 1)) (wrap64 ((wrap64 (10 * x8_2)) + (((rd l0 x7_2) - 48) % 256)))) else (none)) else (none)) else (tangramref01_Scan.l1 kj11 l0 x5_1 x6_1 (wrap64 (x7_2 + 1)) x8_2)) = some (r1, r2, r3) := by rw [if_pos rfl] at H; exact H
              clear H; have H := H1; clear H1
              by_cases c17 : (wrap64 (x7_2 - x6_1)) < 9
              ·rw [if_pos c17] at H; have c17b0 : decide ((wrap64 (x7_2 - x6_1)) < 9) = true := decide_eq_true c17; clear c17
               by_cases c18 : 0 ≤ x7_2
               ·rw [if_pos c18] at H; have c18b0 : decide (0 ≤ x7_2) = true := decide_eq_true c18; clear c18
                by_cases c19 : x7_2 < (l0.length : Int)
                ·rw [if_pos c19] at H; have c19b0 : decide (x7_2 < (l0.length : Int)) = true := decide_eq_true c19; clear c19; have H' := Aside0.mk H; clear H; have p114 : 0 ≤ (x7_2 : Int) := of_decide_eq_true (by first | (with_reducible assumption) | assumption); have q114 : x7_2 < (l0.length : Int) := of_decide_eq_true (by first | (with_reducible assumption) | assumption); obtain ⟨ad114, e114, hx114_0⟩ := Kd.at_int HR0.out x7_2 p114 q114; obtain rfl : ad104 = ad114 := (by injection e114); replace hx114_0 := (HB.out.cell (World.block_lt_of_cell? w _ hx114_0)).trans hx114_0; replace p114 := eq_true p114; replace q114 := eq_true q114
                 go_wp2
                 go_roundg kj11
                 case measure => have := HK1.out; have := HK2.out; have := HJ11.out; omega
                 case rel => exact ⟨(wrap64 (x7_2 + 1)), (wrap64 ((wrap64 (10 * x8_2)) + (((rd l0 x7_2) - 48) % 256))), (by first | rfl | (simp; done) | (simp [*]; done)), (by first | rfl | (simp; done) | (simp [*]; done)), H', ⟨by have := HK1.out; have := HK2.out; have := HJ11.out; omega⟩, ⟨rx HO_5⟩, ⟨hb0 HB⟩⟩
                ·rw [if_neg c19] at H; exact absurd H (by simp)
               ·rw [if_neg c18] at H; exact absurd H (by simp)
              ·rw [if_neg c17] at H; have c17b0 : decide ((wrap64 (x7_2 - x6_1)) < 9) = false := decide_eq_false c17; clear c17; have H' := Aside0.mk H; clear H
               go_wp2
               go_roundg kj11
               case measure => have := HK1.out; have := HK2.out; have := HJ11.out; omega
               case rel => exact ⟨(wrap64 (x7_2 + 1)), (x8_2), (by first | rfl | (simp; done) | (simp [*]; done)), (by first | rfl | (simp; done) | (simp [*]; done)), H', ⟨by have := HK1.out; have := HK2.out; have := HJ11.out; omega⟩, ⟨rx HO_5⟩, ⟨hb0 HB⟩⟩
             ·replace c16 := Bool.eq_false_iff.mpr c16; subst c16; have H1 : (if (wrap64 (x7_2 - x6_1)) > 9 then (some (([] : List (S50)), x6_1, 12)) else (if 0 ≤ x6_1 then (if x6_1 < (l0.length : Int) then (if (rd l0 x6_1) = 48 then (if (wrap64 (x7_2 - x6_1)) > 1 then (some (([] : List (S50)), x6_1, 12)) else (if x5_1.length < 4398046511104 then (tangramref01_Scan.l0 kj11 l0 (x5_1 ++ [(⟨1, x6_1, x7_2, x8_2⟩ : S50)]) x7_2) else (none))) else (if x5_1.length < 4398046511104 then (tangramref01_Scan.l0 kj11 l0 (x5_1 ++ [(⟨1, x6_1, x7_2, x8_2⟩ : S50)]) x7_2) else (none))) else (none)) else (none))) = some (r1, r2, r3) := by rw [if_neg (show ¬ (false = true) by decide)] at H; exact H
              clear H; have H := H1; clear H1
              by_cases c20 : (wrap64 (x7_2 - x6_1)) > 9
              ·rw [if_pos c20] at H; have c20b0 : decide (9 < (wrap64 (x7_2 - x6_1))) = true := decide_eq_true c20; clear c20; simp only [Option.some.injEq, Prod.mk.injEq] at H; obtain ⟨rfl, rfl, rfl⟩ := H
               go_wp2
               go_ret3
               exact ⟨_, by first | rfl | (simp [errW_none, errW_some] <;> rfl) | (simp [*, errW_none, errW_some] <;> rfl), by first | exact Kd.R_nil _ _ _ _ _ | exact Kd.N_nil _ _ _ _ _ | exact Kd.V_nil _ _ _ _ _ | exact Kd.Q_nil _ _ _ _ _ | exact Kd.S_nil _ _ _ _ _, hb0 HB⟩
              ·rw [if_neg c20] at H; have c20b0 : decide (9 < (wrap64 (x7_2 - x6_1))) = false := decide_eq_false c20; clear c20
               by_cases c21 : 0 ≤ x6_1
               ·rw [if_pos c21] at H; have c21b0 : decide (0 ≤ x6_1) = true := decide_eq_true c21; clear c21
                by_cases c22 : x6_1 < (l0.length : Int)
                ·rw [if_pos c22] at H; have c22b0 : decide (x6_1 < (l0.length : Int)) = true := decide_eq_true c22; clear c22
                 by_cases c23 : (rd l0 x6_1) = 48
                 ·rw [if_pos c23] at H; have c23b0 : ((rd l0 x6_1) == 48) = true := beq_iff_eq.mpr c23; have c23b1 : ((rd l0 x6_1) != 48) = false := bne_eq_false_iff_eq.mpr c23; clear c23
                  by_cases c24 : (wrap64 (x7_2 - x6_1)) > 1
                  ·rw [if_pos c24] at H; have c24b0 : decide (1 < (wrap64 (x7_2 - x6_1))) = true := decide_eq_true c24; clear c24; simp only [Option.some.injEq, Prod.mk.injEq] at H; obtain ⟨rfl, rfl, rfl⟩ := H; have p115 : 0 ≤ (x6_1 : Int) := of_decide_eq_true (by first | (with_reducible assumption) | assumption); have q115 : x6_1 < (l0.length : Int) := of_decide_eq_true (by first | (with_reducible assumption) | assumption); obtain ⟨ad115, e115, hx115_0⟩ := Kd.at_int HR0.out x6_1 p115 q115; obtain rfl : ad104 = ad115 := (by injection e115); replace hx115_0 := (HB.out.cell (World.block_lt_of_cell? w _ hx115_0)).trans hx115_0; replace p115 := eq_true p115; replace q115 := eq_true q115
                   go_wp2
                   go_ret3
                   exact ⟨_, by first | rfl | (simp [errW_none, errW_some] <;> rfl) | (simp [*, errW_none, errW_some] <;> rfl), by first | exact Kd.R_nil _ _ _ _ _ | exact Kd.N_nil _ _ _ _ _ | exact Kd.V_nil _ _ _ _ _ | exact Kd.Q_nil _ _ _ _ _ | exact Kd.S_nil _ _ _ _ _, hb0 HB⟩
                  ·rw [if_neg c24] at H; have c24b0 : decide (1 < (wrap64 (x7_2 - x6_1))) = false := decide_eq_false c24; clear c24
                   by_cases c25 : x5_1.length < 4398046511104
                   ·rw [if_pos c25] at H; have LMc25 := Aside0.mk c25; clear c25; obtain ⟨y116, hy116⟩ : ∃ y_ : List (S50), y_ = (x5_1 ++ [(⟨1, x6_1, x7_2, x8_2⟩ : S50)]) := ⟨_, rfl⟩; replace H : (tangramref01_Scan.l0 kj11 l0 y116 x7_2) = some (r1, r2, r3) := by first | (rw [hy116]; with_reducible exact H) | (have H2_ := (Option.bind_some _ _).symm.trans H; rw [hy116]; with_reducible exact H2_) | (have H2_ := (Option.bind_some _ _).symm.trans H; with_reducible exact H2_) | with_reducible exact H | (rw [hy116]; exact H) | exact H
                    have Ny116 := Aside0.mk hy116; clear hy116; have H' := Aside0.mk H; clear H; have p115 : 0 ≤ (x6_1 : Int) := of_decide_eq_true (by first | (with_reducible assumption) | assumption); have q115 : x6_1 < (l0.length : Int) := of_decide_eq_true (by first | (with_reducible assumption) | assumption); obtain ⟨ad115, e115, hx115_0⟩ := Kd.at_int HR0.out x6_1 p115 q115; obtain rfl : ad104 = ad115 := (by injection e115); replace hx115_0 := (HB.out.cell (World.block_lt_of_cell? w _ hx115_0)).trans hx115_0; replace p115 := eq_true p115; replace q115 := eq_true q115
                    go_wp2_with (first | ((with_reducible refine gate_builtin (b := .append) (xs := #[.tmp 91, .tmp 96]) rfl ?_); at_builtin; refine Kd.R_append k50 (w0 := w) w.heap.size rfl (.tmp 91) (.tmp 96) 43 50 (.agg #[(.int .i64 0), (.int .i64 0), (.int .i64 0), (.int .i64 0)]) 32 rfl Try.underlying43 info50 rfl (by decide) (by omega) u5 x5_1 (⟨1, x6_1, x7_2, x8_2⟩ : S50) [.int .i64 1, .int .i64 x6_1, .int .i64 x7_2, .int .i64 x8_2] (fun _ => True) (fun _ => False) rfl rfl ?aP (fun _ hk => hk.elim) ?aF ?aO ?aB ?aS ?aL ?_; (case aP => exact k50_mkM _ _ _ (⟨1, x6_1, x7_2, x8_2⟩ : S50)); (case aB => exact (hb0 HB)); (case aF => exact (fun _ _ => trivial)); (case aO => exact (rx HO_5)); (case aS => exact (below_size (hb0 HB))); (case aL => have := LMc25.out; omega); intro v117 w26 ho hb hg hat; rw [← Ny116.out] at ho; have n0_ := Aside0.mk (hb); have n1_ := Aside0.mk (ho); clear HB; clear HO_5; have HB := n0_; have HO118 := n1_; clear n0_ n1_; clear ho hb hg hat))
                    go_roundg kj11
                    case measure => have := HK1.out; have := HK2.out; have := HJ11.out; omega
                    case rel => exact ⟨(y116), (x7_2), (by first | rfl | (simp; done) | (simp [*]; done)), H', ⟨by have := HK1.out; have := HK2.out; have := HJ11.out; omega⟩, ⟨rx HO118⟩, ⟨hb0 HB⟩⟩
                   ·rw [if_neg c25] at H; exact absurd H (by simp)
                 ·rw [if_neg c23] at H; have c23b0 : ((rd l0 x6_1) == 48) = false := beq_eq_false_iff_ne.mpr c23; have c23b1 : ((rd l0 x6_1) != 48) = true := bne_iff_ne.mpr c23
                  by_cases c27 : x5_1.length < 4398046511104
                  ·rw [if_pos c27] at H; have LMc27 := Aside0.mk c27; clear c27; obtain ⟨y119, hy119⟩ : ∃ y_ : List (S50), y_ = (x5_1 ++ [(⟨1, x6_1, x7_2, x8_2⟩ : S50)]) := ⟨_, rfl⟩; replace H : (tangramref01_Scan.l0 kj11 l0 y119 x7_2) = some (r1, r2, r3) := by first | (rw [hy119]; with_reducible exact H) | (have H2_ := (Option.bind_some _ _).symm.trans H; rw [hy119]; with_reducible exact H2_) | (have H2_ := (Option.bind_some _ _).symm.trans H; with_reducible exact H2_) | with_reducible exact H | (rw [hy119]; exact H) | exact H
                   have Ny119 := Aside0.mk hy119; clear hy119; have H' := Aside0.mk H; clear H; have p115 : 0 ≤ (x6_1 : Int) := of_decide_eq_true (by first | (with_reducible assumption) | assumption); have q115 : x6_1 < (l0.length : Int) := of_decide_eq_true (by first | (with_reducible assumption) | assumption); obtain ⟨ad115, e115, hx115_0⟩ := Kd.at_int HR0.out x6_1 p115 q115; obtain rfl : ad104 = ad115 := (by injection e115); replace hx115_0 := (HB.out.cell (World.block_lt_of_cell? w _ hx115_0)).trans hx115_0; replace p115 := eq_true p115; replace q115 := eq_true q115
                   go_wp2_with (first | ((with_reducible refine gate_builtin (b := .append) (xs := #[.tmp 91, .tmp 96]) rfl ?_); at_builtin; refine Kd.R_append k50 (w0 := w) w.heap.size rfl (.tmp 91) (.tmp 96) 43 50 (.agg #[(.int .i64 0), (.int .i64 0), (.int .i64 0), (.int .i64 0)]) 32 rfl Try.underlying43 info50 rfl (by decide) (by omega) u5 x5_1 (⟨1, x6_1, x7_2, x8_2⟩ : S50) [.int .i64 1, .int .i64 x6_1, .int .i64 x7_2, .int .i64 x8_2] (fun _ => True) (fun _ => False) rfl rfl ?aP (fun _ hk => hk.elim) ?aF ?aO ?aB ?aS ?aL ?_; (case aP => exact k50_mkM _ _ _ (⟨1, x6_1, x7_2, x8_2⟩ : S50)); (case aB => exact (hb0 HB)); (case aF => exact (fun _ _ => trivial)); (case aO => exact (rx HO_5)); (case aS => exact (below_size (hb0 HB))); (case aL => have := LMc27.out; omega); intro v120 w28 ho hb hg hat; rw [← Ny119.out] at ho; have n0_ := Aside0.mk (hb); have n1_ := Aside0.mk (ho); clear HB; clear HO_5; have HB := n0_; have HO121 := n1_; clear n0_ n1_; clear ho hb hg hat))
                   go_roundg kj11
                   case measure => have := HK1.out; have := HK2.out; have := HJ11.out; omega
                   case rel => exact ⟨(y119), (x7_2), (by first | rfl | (simp; done) | (simp [*]; done)), H', ⟨by have := HK1.out; have := HK2.out; have := HJ11.out; omega⟩, ⟨rx HO121⟩, ⟨hb0 HB⟩⟩
                  ·rw [if_neg c27] at H; exact absurd H (by simp)
                ·rw [if_neg c22] at H; exact absurd H (by simp)
               ·rw [if_neg c21] at H; exact absurd H (by simp)
        ·replace c11 := Bool.eq_false_iff.mpr c11; subst c11; have H1 : (some (([] : List (S50)), x6_1, 11)) = some (r1, r2, r3) := by rw [if_neg (show ¬ (false = true) by decide)] at H; exact H
         clear H; have H := H1; clear H1; simp only [Option.some.injEq, Prod.mk.injEq] at H; obtain ⟨rfl, rfl, rfl⟩ := H; have p104 : 0 ≤ (x6_1 : Int) := of_decide_eq_true (by first | (with_reducible assumption) | assumption); have q104 : x6_1 < (l0.length : Int) := of_decide_eq_true (by first | (with_reducible assumption) | assumption); obtain ⟨ad104, e104, hx104_0⟩ := Kd.at_int HR0.out x6_1 p104 q104
         cases e104
         replace hx104_0 := (HB.out.cell (World.block_lt_of_cell? w _ hx104_0)).trans hx104_0; replace p104 := eq_true p104; replace q104 := eq_true q104; have p108 : 0 ≤ (x6_1 : Int) := of_decide_eq_true (by first | (with_reducible assumption) | assumption); have q108 : x6_1 < (l0.length : Int) := of_decide_eq_true (by first | (with_reducible assumption) | assumption); obtain ⟨ad108, e108, hx108_0⟩ := Kd.at_int HR0.out x6_1 p108 q108; obtain rfl : ad104 = ad108 := (by injection e108); replace hx108_0 := (HB.out.cell (World.block_lt_of_cell? w _ hx108_0)).trans hx108_0; replace p108 := eq_true p108; replace q108 := eq_true q108
         go_wp2_with (first | ((with_reducible refine gate_callee (f := 20) rfl ?_); refine gl_ (some 37) Try.func20 #[.int .u8 (rd l0 x6_1)] ?_; (with_reducible refine (tangramref01_blank.calls (rd l0 x6_1) false _ A8.out).mono ?_); rintro e w' ⟨rfl, ⟨nd, rfl⟩⟩; refine ⟨_, rfl, ?_⟩; have p110 : 0 ≤ (x6_1 : Int) := of_decide_eq_true (by first | (with_reducible assumption) | assumption); have q110 : x6_1 < (l0.length : Int) := of_decide_eq_true (by first | (with_reducible assumption) | assumption); obtain ⟨ad110, e110, hx110_0⟩ := Kd.at_int HR0.out x6_1 p110 q110; obtain rfl : ad104 = ad110 := (by injection e110); replace hx110_0 := (HB.out.cell (World.block_lt_of_cell? w _ hx110_0)).trans hx110_0; replace p110 := eq_true p110; replace q110 := eq_true q110) | ((with_reducible refine gate_callee (f := 21) rfl ?_); refine gl_ (some 45) Try.func21 #[.int .u8 (rd l0 x6_1)] ?_; (with_reducible refine (tangramref01_digit.calls (rd l0 x6_1) false _ A10.out).mono ?_); rintro e w' ⟨rfl, ⟨nd, rfl⟩⟩; refine ⟨_, rfl, ?_⟩))
         go_ret3
         exact ⟨_, by first | rfl | (simp [errW_none, errW_some] <;> rfl) | (simp [*, errW_none, errW_some] <;> rfl), by first | exact Kd.R_nil _ _ _ _ _ | exact Kd.N_nil _ _ _ _ _ | exact Kd.V_nil _ _ _ _ _ | exact Kd.Q_nil _ _ _ _ _ | exact Kd.S_nil _ _ _ _ _, hb0 HB⟩
     ·rw [if_neg c4] at H; exact absurd H (by simp)
    ·rw [if_neg c3] at H; have c3b0 : decide (x6_1 < (l0.length : Int)) = false := decide_eq_false c3; clear c3
     by_cases c29 : x5_1.length < 4398046511104
     ·rw [if_pos c29] at H; have LMc29 := Aside0.mk c29; clear c29; obtain ⟨y101, hy101⟩ : ∃ y_ : List (S50), y_ = (x5_1 ++ [(⟨3, (l0.length : Int), (l0.length : Int), 0⟩ : S50)]) := ⟨_, rfl⟩; replace H : (some (y101, 0, 0)) = some (r1, r2, r3) := by first | (rw [hy101]; with_reducible exact H) | (have H2_ := (Option.bind_some _ _).symm.trans H; rw [hy101]; with_reducible exact H2_) | (have H2_ := (Option.bind_some _ _).symm.trans H; with_reducible exact H2_) | with_reducible exact H | (rw [hy101]; exact H) | exact H
      have Ny101 := Aside0.mk hy101; clear hy101; simp only [Option.some.injEq, Prod.mk.injEq] at H; obtain ⟨rfl, rfl, rfl⟩ := H
      go_wp2_with (first | ((with_reducible refine gate_builtin (b := .append) (xs := #[.tmp 99, .tmp 105]) rfl ?_); at_builtin; refine Kd.R_append k50 (w0 := w) w.heap.size rfl (.tmp 99) (.tmp 105) 43 50 (.agg #[(.int .i64 0), (.int .i64 0), (.int .i64 0), (.int .i64 0)]) 32 rfl Try.underlying43 info50 rfl (by decide) (by omega) u5 x5_1 (⟨3, (l0.length : Int), (l0.length : Int), 0⟩ : S50) [.int .i64 3, .int .i64 (l0.length : Int), .int .i64 (l0.length : Int), .int .i64 0] (fun _ => True) (fun _ => False) rfl rfl ?aP (fun _ hk => hk.elim) ?aF ?aO ?aB ?aS ?aL ?_; (case aP => exact k50_mkM _ _ _ (⟨3, (l0.length : Int), (l0.length : Int), 0⟩ : S50)); (case aB => exact (hb0 HB)); (case aF => exact (fun _ _ => trivial)); (case aO => exact (rx HO_5)); (case aS => exact (below_size (hb0 HB))); (case aL => have := LMc29.out; omega); intro v102 w30 ho hb hg hat; rw [← Ny101.out] at ho; have n0_ := Aside0.mk (hb); have n1_ := Aside0.mk (ho); clear HB; clear HO_5; have HB := n0_; have HO103 := n1_; clear n0_ n1_; clear ho hb hg hat))
      go_ret3
      exact ⟨_, by first | rfl | (simp [errW_none, errW_some] <;> rfl) | (simp [*, errW_none, errW_some] <;> rfl), by (with_reducible repeat (first | apply Kd.R_alloc | apply Kd.R_drewN | apply Kd.R_drew)); exact HO103.out, hb0 HB⟩
     ·rw [if_neg c29] at H; exact absurd H (by simp)

end Go.Proofs.Ytjgaicdieddekaa.PParA
