-- PRINTED by print.py (a twelfth state) out of the translation. Not trusted: Lean checks it.
import Derived.Test.YthejafdcdcchbaaDoorZPSimAx0
import Derived.Test.YthejafdcdcchbaaDoorZPSimAx4
namespace Go.Proofs.YthejafdcdcchbaaDoor.PSimA
open Go.RowKit Go.Proofs.YthejafdcdcchbaaDoorW.PrintWords Go.Proofs.YthejafdcdcchbaaDoorW.PrintLast Go.Proofs.YthejafdcdcchbaaDoorW.PrintMore
open Go.Proofs.YthejafdcdcchbaaDoorX
attribute [local go_sem] max2_int min2_int max_two min_two max_three min_three max_four min_four   -- for this text's walks alone
set_option linter.unusedVariables false
set_option linter.unusedSimpArgs false

/-! ### tangramref03_Make: function 12 -/
mutual
def tangramref03_Make.j0 : Nat → Int → List (S53) → Bool → Option (Int × (List (S42)) × Int)
 | 0, _, _, _ => none
 | k + 1, x0, x1, x18 => if x18 = true then (some (0, ([] : List (S42)), 2)) else (tangramref03_Make.l0 k x0 x1 0)
def tangramref03_Make.l0 : Nat → Int → List (S53) → Int → Option (Int × (List (S42)) × Int)
 | 0, _, _, _ => none
 | k + 1, x0, x1, x6 => if x6 < (x1.length : Int) then (if 0 ≤ x6 then (if ((rd_T53 x1 x6).f0) < 0 then (some (0, ([] : List (S42)), 2)) else (if ((rd_T53 x1 x6).f0) ≥ x0 then (some (0, ([] : List (S42)), 2)) else (if ((rd_T53 x1 x6).f1) < 0 then (some (0, ([] : List (S42)), 2)) else (if ((rd_T53 x1 x6).f1) ≥ x0 then (some (0, ([] : List (S42)), 2)) else (tangramref03_Make.l0 k x0 x1 (wrap64 (x6 + 1))))))) else (none)) else (tangramref03_Make.l1 k x0 x1 ([] : List (S42)) 0)
def tangramref03_Make.l1 : Nat → Int → List (S53) → List (S42) → Int → Option (Int × (List (S42)) × Int)
 | 0, _, _, _, _ => none
 | k + 1, x0, x1, x9, x10 => if x10 < (x1.length : Int) then (if 0 ≤ x10 then (if ((rd_T53 x1 x10).f0) < ((rd_T53 x1 x10).f1) then ((tangramref03_Put.f k x9 ((rd_T53 x1 x10).f0) ((rd_T53 x1 x10).f1)).bind fun t123 => (if ((rd_T53 x1 x10).f1) < ((rd_T53 x1 x10).f0) then ((tangramref03_Put.f k t123 ((rd_T53 x1 x10).f1) ((rd_T53 x1 x10).f0)).bind fun t126 => (tangramref03_Make.l1 k x0 x1 t126 (wrap64 (x10 + 1)))) else (tangramref03_Make.l1 k x0 x1 t123 (wrap64 (x10 + 1))))) else (if ((rd_T53 x1 x10).f1) < ((rd_T53 x1 x10).f0) then ((tangramref03_Put.f k x9 ((rd_T53 x1 x10).f1) ((rd_T53 x1 x10).f0)).bind fun t129 => (tangramref03_Make.l1 k x0 x1 t129 (wrap64 (x10 + 1)))) else (tangramref03_Make.l1 k x0 x1 x9 (wrap64 (x10 + 1))))) else (none)) else (if (x9.length : Int) > 4194304 then (some (0, ([] : List (S42)), 141)) else (some (x0, x9, 0)))
end
def tangramref03_Make.f (k : Nat) (a0 : Int) (l1 : List (S53)) : Option (Int × (List (S42)) × Int) := if a0 < 0 then (tangramref03_Make.j0 k a0 l1 true) else (tangramref03_Make.j0 k a0 l1 (decide (a0 > 1048576)))
theorem tangramref03_Make.mono_l : ∀ k, (∀ y0 y1 y2, LeO (tangramref03_Make.j0 k y0 y1 y2) (tangramref03_Make.j0 (k + 1) y0 y1 y2)) ∧ (∀ y0 y1 y2, LeO (tangramref03_Make.l0 k y0 y1 y2) (tangramref03_Make.l0 (k + 1) y0 y1 y2)) ∧ (∀ y0 y1 y2 y3, LeO (tangramref03_Make.l1 k y0 y1 y2 y3) (tangramref03_Make.l1 (k + 1) y0 y1 y2 y3))
 | 0 => ⟨fun _ _ _ r h => by simp [tangramref03_Make.j0] at h, fun _ _ _ r h => by simp [tangramref03_Make.l0] at h, fun _ _ _ _ r h => by simp [tangramref03_Make.l1] at h⟩
 | k + 1 => by
  obtain ⟨ih0, ih1, ih2⟩ := tangramref03_Make.mono_l k; refine ⟨?_, ?_, ?_⟩
  ·intro y0 y1 y2
   unfold tangramref03_Make.j0
   repeat' first
   | (with_reducible exact ih0 _ _ _)
   | (with_reducible exact ih1 _ _ _)
   | (with_reducible exact ih2 _ _ _ _)
   | (with_reducible exact tangramref03_Put.mono _ _ _ _)
   | (with_reducible exact LeO.refl _)
   | (with_reducible exact LeO.none _)
   | (with_reducible refine LeO.ite ?_ ?_)
   | (with_reducible refine LeO.bind ?_ (fun _ => ?_))
   | exact ih0 _ _ _
   | exact ih1 _ _ _
   | exact ih2 _ _ _ _
   | exact tangramref03_Put.mono _ _ _ _
   | exact LeO.none _
   | refine LeO.ite ?_ ?_
   | refine LeO.bind ?_ (fun _ => ?_)
  ·intro y0 y1 y2
   unfold tangramref03_Make.l0
   repeat' first
   | (with_reducible exact ih0 _ _ _)
   | (with_reducible exact ih1 _ _ _)
   | (with_reducible exact ih2 _ _ _ _)
   | (with_reducible exact tangramref03_Put.mono _ _ _ _)
   | (with_reducible exact LeO.refl _)
   | (with_reducible exact LeO.none _)
   | (with_reducible refine LeO.ite ?_ ?_)
   | (with_reducible refine LeO.bind ?_ (fun _ => ?_))
   | exact ih0 _ _ _
   | exact ih1 _ _ _
   | exact ih2 _ _ _ _
   | exact tangramref03_Put.mono _ _ _ _
   | exact LeO.none _
   | refine LeO.ite ?_ ?_
   | refine LeO.bind ?_ (fun _ => ?_)
  ·intro y0 y1 y2 y3
   unfold tangramref03_Make.l1
   repeat' first
   | (with_reducible exact ih0 _ _ _)
   | (with_reducible exact ih1 _ _ _)
   | (with_reducible exact ih2 _ _ _ _)
   | (with_reducible exact tangramref03_Put.mono _ _ _ _)
   | (with_reducible exact LeO.refl _)
   | (with_reducible exact LeO.none _)
   | (with_reducible refine LeO.ite ?_ ?_)
   | (with_reducible refine LeO.bind ?_ (fun _ => ?_))
   | exact ih0 _ _ _
   | exact ih1 _ _ _
   | exact ih2 _ _ _ _
   | exact tangramref03_Put.mono _ _ _ _
   | exact LeO.none _
   | refine LeO.ite ?_ ?_
   | refine LeO.bind ?_ (fun _ => ?_)
theorem tangramref03_Make.mono : ∀ a0 a1 k, LeO (tangramref03_Make.f k a0 a1) (tangramref03_Make.f (k + 1) a0 a1) := by
 intro a0 a1 k; obtain ⟨ih0, ih1, ih2⟩ := tangramref03_Make.mono_l k
 unfold tangramref03_Make.f
 repeat' first
   | (with_reducible exact ih0 _ _ _)
   | (with_reducible exact ih1 _ _ _)
   | (with_reducible exact ih2 _ _ _ _)
   | (with_reducible exact tangramref03_Put.mono _ _ _ _)
   | (with_reducible exact LeO.refl _)
   | (with_reducible exact LeO.none _)
   | (with_reducible refine LeO.ite ?_ ?_)
   | (with_reducible refine LeO.bind ?_ (fun _ => ?_))
   | exact ih0 _ _ _
   | exact ih1 _ _ _
   | exact ih2 _ _ _ _
   | exact tangramref03_Put.mono _ _ _ _
   | exact LeO.none _
   | refine LeO.ite ?_ ?_
   | refine LeO.bind ?_ (fun _ => ?_)
set_option maxHeartbeats 8000000 in
set_option maxRecDepth 100000 in
theorem tangramref03_Make.calls (k : Nat) (a0 : Int) (A1 : Option Addr) (c1 : Nat) (l1 : List (S53)) (r1 : Int) (r2 : List (S42)) (r3 : Int) (w : World) (hr1 : Kd.C k53 w A1 l1.length l1) (hc1 : l1.length ≤ c1) (h : tangramref03_Make.f k a0 l1 = some (r1, r2, r3)) :
  Calls Tryd.prog 12 #[.int .i64 a0, .slice A1 l1.length c1] w fun e w' => ∃ v1_ : Value, e = .returned (.tuple #[.agg #[.int .i64 r1, v1_], .int .i64 r3]) ∧ Kd.R k42 42 w' w.heap.size (fun _ => True) v1_ r2 ∧ Below w.heap.size w w' := by
 have hu26 := Tryd.underlying26; have hu42 := Tryd.underlying42; have HR1 := Aside0.mk hr1; have HC1 := Aside0.mk hc1; clear hr1 hc1; have HB := Aside0.mk (Below.refl w.heap.size w); have H : (if a0 < 0 then (tangramref03_Make.j0 k a0 l1 true) else (tangramref03_Make.j0 k a0 l1 (decide (a0 > 1048576)))) = some (r1, r2, r3) := h; clear h; have HC3 := Aside0.mk H; clear H
 go_enter Tryd.func12, Tryd.ntmps12
 go_upto_region 1 with (first | ((with_reducible refine gate_dst (N := 4) rfl ?_); refine be_ 4 #[.int .i64 0, .slice none 0 0] 26 ?_; intro gb118 hg w4 hbox hb; have BK118 := Aside0.mk (hbox); have GW118 := wq (hb0 HB) hg; have GE118 := wq (hb0 HB) hg; replace HB := hs (hb0 HB) hb; clear hb hbox hg))
 (try simp only [Act.put, List.setIfInBounds_toArray, List.set_cons_zero, List.set_cons_succ])
 go_cut [18] (fun v18 wc => ∃ (kq : Nat) (x18_2 : Bool), v18 = .bool x18_2 ∧ Aside0 (tangramref03_Make.j0 kq a0 l1 x18_2 = some (r1, r2, r3)) ∧ Aside0 (kq ≤ k) ∧ Aside0 (wc.heap[gb118]? = some (.cells #[.int .i64 0, (.slice none 0 0)] 26 (0, 0))) ∧ Aside0 (Below w.heap.size w wc))
 case first => as_aux_lemma =>
  have H := HC3.out; clear HC3
  by_cases c5 : a0 < 0
  ·rw [if_pos c5] at H; have c5b0 : decide (a0 < 0) = true := decide_eq_true c5; clear c5
   (first | rw [c5b0] | (simp only [i64_w, i32_w]; rw [c5b0]) | skip)
   have H' := Aside0.mk H; clear H
   go_wp2
   go_meet
   case rel => exact ⟨_, (true), (by first | rfl | (simp; done) | (simp [*]; done)), H', ⟨by first | omega | exact Nat.le_refl _⟩, ⟨bx BK118⟩, ⟨hb1 HB GE118⟩⟩
  ·rw [if_neg c5] at H; have c5b0 : decide (a0 < 0) = false := decide_eq_false c5; clear c5
   (first | rw [c5b0] | (simp only [i64_w, i32_w]; rw [c5b0]) | skip)
   have H' := Aside0.mk H; clear H
   go_wp2
   go_meet
   case rel => exact ⟨_, (decide (a0 > 1048576)), (by first | rfl | (simp; done) | (simp [*]; done)), H', ⟨by first | omega | exact Nat.le_refl _⟩, ⟨bx BK118⟩, ⟨hb1 HB GE118⟩⟩
 case rest => as_aux_lemma =>
  clear HC3
  try clear c1
  try clear p2
  try clear c5
  try clear c5b0
  obtain ⟨kq, x18_2, rfl, HA, HJ2, BK118, HB⟩ := hcut
  cases kq with
  | zero => exact absurd HA.out (by simp [tangramref03_Make.j0])
  | succ kj2 =>
   have H := HA.out; clear HA; simp only [tangramref03_Make.j0] at H
   by_cases c6 : x18_2 = true
   ·subst c6; have H1 : (some (0, ([] : List (S42)), 2)) = some (r1, r2, r3) := by rw [if_pos rfl] at H; exact H
    clear H; have H := H1; clear H1; simp only [Option.some.injEq, Prod.mk.injEq] at H; obtain ⟨rfl, rfl, rfl⟩ := H; have hcz7_0 : wc.cell? ⟨gb118, 0, none⟩ = some (.int .i64 0) := bc BK118 0; have hcz7_1 : wc.cell? ⟨gb118, 1, none⟩ = some (.slice none 0 0) := bc BK118 1; have hfz7_0 := blk_frozen BK118.out 0; have hfz7_1 := blk_frozen BK118.out 1
    go_wp2
    refine bodyPost_ret (results_ct rfl _ _ gb118 26 #[.int .i64 0, .slice none 0 0] (0, 0) _ rfl (bp BK118) Tryd.underlying26 rfl (by kernel_rfl)) rfl ?_; exact ⟨_, by first | rfl | (simp [errW_none, errW_some] <;> rfl) | (simp [*, errW_none, errW_some] <;> rfl), by first | exact Kd.R_nil _ _ _ _ _ | exact Kd.N_nil _ _ _ _ _ | exact Kd.V_nil _ _ _ _ _ | exact Kd.Q_nil _ _ _ _ _ | exact Kd.S_nil _ _ _ _ _, hb1 HB GE118⟩
   ·replace c6 := Bool.eq_false_iff.mpr c6; subst c6; have H1 : (tangramref03_Make.l0 kj2 a0 l1 0) = some (r1, r2, r3) := by rw [if_neg (show ¬ (false = true) by decide)] at H; exact H
    clear H; have H := H1; clear H1; have H' := Aside0.mk H; clear H
    go_wp2
    go_loopg [6] kj2 (fun kq v6 w' => ∃ (x6_2 : Int) (x119000_2 : Int), v6 = .int .i64 x6_2 ∧ Aside0 (tangramref03_Make.l0 kq a0 l1 x6_2 = some (r1, r2, r3)) ∧ Aside0 (kq ≤ kj2) ∧ Aside0 (w'.heap[gb118]? = some (.cells #[.int .i64 x119000_2, (.slice none 0 0)] 26 (0, 0))) ∧ Aside0 (Below w.heap.size w w'))
    case atStart => exact ⟨(0), (0), (by first | rfl | (simp; done) | (simp [*]; done)), H', ⟨Nat.le_refl _⟩, ⟨bx BK118⟩, ⟨hb1 HB GE118⟩⟩
    case round =>
     clear H'
     try clear c1
     try clear p2
     try clear c5
     try clear c5b0
     try clear c6
     try clear hcz7_0
     try clear hcz7_1
     try clear hfz7_0
     try clear hfz7_1
     try clear p2
     obtain ⟨x6_2, x119000_2, rfl, HA, HK2, BK118, HB⟩ := hrel
     cases gk with
     | zero => exact absurd HA.out (by simp [tangramref03_Make.l0])
     | succ k2 =>
      have H := HA.out; clear HA; simp only [tangramref03_Make.l0] at H
      by_cases c8 : x6_2 < (l1.length : Int)
      ·rw [if_pos c8] at H; have c8b0 : decide (x6_2 < (l1.length : Int)) = true := decide_eq_true c8; clear c8
       by_cases c9 : 0 ≤ x6_2
       ·rw [if_pos c9] at H; have c9b0 : decide (0 ≤ x6_2) = true := decide_eq_true c9; clear c9
        by_cases c10 : ((rd_T53 l1 x6_2).f0) < 0
        ·rw [if_pos c10] at H; have c10b0 : decide (((rd_T53 l1 x6_2).f0) < 0) = true := decide_eq_true c10; clear c10; simp only [Option.some.injEq, Prod.mk.injEq] at H; obtain ⟨rfl, rfl, rfl⟩ := H; have p119 : 0 ≤ (x6_2 : Int) := of_decide_eq_true (by first | (with_reducible assumption) | assumption); have q119 : x6_2 < (l1.length : Int) := of_decide_eq_true (by first | (with_reducible assumption) | assumption); obtain ⟨ad119, e119, hx119_0, hx119_1⟩ := at_T53 HR1.out x6_2 p119 q119
         cases e119
         replace hx119_0 := (HB.out.cell (World.block_lt_of_cell? w _ hx119_0)).trans hx119_0; replace hx119_1 := (HB.out.cell (World.block_lt_of_cell? w _ hx119_1)).trans hx119_1; replace p119 := eq_true p119; replace q119 := eq_true q119; have p120 : 0 ≤ (x6_2 : Int) := of_decide_eq_true (by first | (with_reducible assumption) | assumption); have q120 : x6_2 < (l1.length : Int) := of_decide_eq_true (by first | (with_reducible assumption) | assumption); obtain ⟨ad120, e120, hx120_0, hx120_1⟩ := at_T53 HR1.out x6_2 p120 q120; obtain rfl : ad119 = ad120 := (by injection e120); replace hx120_0 := (HB.out.cell (World.block_lt_of_cell? w _ hx120_0)).trans hx120_0; replace hx120_1 := (HB.out.cell (World.block_lt_of_cell? w _ hx120_1)).trans hx120_1; replace p120 := eq_true p120; replace q120 := eq_true q120; have hcz11_0 : wr.cell? ⟨gb118, 0, none⟩ = some (.int .i64 x119000_2) := bc BK118 0; have hcz11_1 : wr.cell? ⟨gb118, 1, none⟩ = some (.slice none 0 0) := bc BK118 1; have hfz11_0 := blk_frozen BK118.out 0; have hfz11_1 := blk_frozen BK118.out 1
         go_wp2
         refine bodyPost_ret (results_ct rfl _ _ gb118 26 #[.int .i64 0, .slice none 0 0] (0, 0) _ rfl (bp BK118) Tryd.underlying26 rfl (by kernel_rfl)) rfl ?_; exact ⟨_, by first | rfl | (simp [errW_none, errW_some] <;> rfl) | (simp [*, errW_none, errW_some] <;> rfl), by first | exact Kd.R_nil _ _ _ _ _ | exact Kd.N_nil _ _ _ _ _ | exact Kd.V_nil _ _ _ _ _ | exact Kd.Q_nil _ _ _ _ _ | exact Kd.S_nil _ _ _ _ _, hb1 HB GE118⟩
        ·rw [if_neg c10] at H; have c10b0 : decide (((rd_T53 l1 x6_2).f0) < 0) = false := decide_eq_false c10; clear c10
         by_cases c12 : ((rd_T53 l1 x6_2).f0) ≥ a0
         ·rw [if_pos c12] at H; have c12b0 : decide (a0 ≤ ((rd_T53 l1 x6_2).f0)) = true := decide_eq_true c12; clear c12; simp only [Option.some.injEq, Prod.mk.injEq] at H; obtain ⟨rfl, rfl, rfl⟩ := H; have p119 : 0 ≤ (x6_2 : Int) := of_decide_eq_true (by first | (with_reducible assumption) | assumption); have q119 : x6_2 < (l1.length : Int) := of_decide_eq_true (by first | (with_reducible assumption) | assumption); obtain ⟨ad119, e119, hx119_0, hx119_1⟩ := at_T53 HR1.out x6_2 p119 q119
          cases e119
          replace hx119_0 := (HB.out.cell (World.block_lt_of_cell? w _ hx119_0)).trans hx119_0; replace hx119_1 := (HB.out.cell (World.block_lt_of_cell? w _ hx119_1)).trans hx119_1; replace p119 := eq_true p119; replace q119 := eq_true q119; have p120 : 0 ≤ (x6_2 : Int) := of_decide_eq_true (by first | (with_reducible assumption) | assumption); have q120 : x6_2 < (l1.length : Int) := of_decide_eq_true (by first | (with_reducible assumption) | assumption); obtain ⟨ad120, e120, hx120_0, hx120_1⟩ := at_T53 HR1.out x6_2 p120 q120; obtain rfl : ad119 = ad120 := (by injection e120); replace hx120_0 := (HB.out.cell (World.block_lt_of_cell? w _ hx120_0)).trans hx120_0; replace hx120_1 := (HB.out.cell (World.block_lt_of_cell? w _ hx120_1)).trans hx120_1; replace p120 := eq_true p120; replace q120 := eq_true q120; have hcz13_0 : wr.cell? ⟨gb118, 0, none⟩ = some (.int .i64 x119000_2) := bc BK118 0; have hcz13_1 : wr.cell? ⟨gb118, 1, none⟩ = some (.slice none 0 0) := bc BK118 1; have hfz13_0 := blk_frozen BK118.out 0; have hfz13_1 := blk_frozen BK118.out 1
          go_wp2
          refine bodyPost_ret (results_ct rfl _ _ gb118 26 #[.int .i64 0, .slice none 0 0] (0, 0) _ rfl (bp BK118) Tryd.underlying26 rfl (by kernel_rfl)) rfl ?_; exact ⟨_, by first | rfl | (simp [errW_none, errW_some] <;> rfl) | (simp [*, errW_none, errW_some] <;> rfl), by first | exact Kd.R_nil _ _ _ _ _ | exact Kd.N_nil _ _ _ _ _ | exact Kd.V_nil _ _ _ _ _ | exact Kd.Q_nil _ _ _ _ _ | exact Kd.S_nil _ _ _ _ _, hb1 HB GE118⟩
         ·rw [if_neg c12] at H; have c12b0 : decide (a0 ≤ ((rd_T53 l1 x6_2).f0)) = false := decide_eq_false c12; clear c12
          by_cases c14 : ((rd_T53 l1 x6_2).f1) < 0
          ·rw [if_pos c14] at H; have c14b0 : decide (((rd_T53 l1 x6_2).f1) < 0) = true := decide_eq_true c14; clear c14; simp only [Option.some.injEq, Prod.mk.injEq] at H; obtain ⟨rfl, rfl, rfl⟩ := H; have p119 : 0 ≤ (x6_2 : Int) := of_decide_eq_true (by first | (with_reducible assumption) | assumption); have q119 : x6_2 < (l1.length : Int) := of_decide_eq_true (by first | (with_reducible assumption) | assumption); obtain ⟨ad119, e119, hx119_0, hx119_1⟩ := at_T53 HR1.out x6_2 p119 q119
           cases e119
           replace hx119_0 := (HB.out.cell (World.block_lt_of_cell? w _ hx119_0)).trans hx119_0; replace hx119_1 := (HB.out.cell (World.block_lt_of_cell? w _ hx119_1)).trans hx119_1; replace p119 := eq_true p119; replace q119 := eq_true q119; have p120 : 0 ≤ (x6_2 : Int) := of_decide_eq_true (by first | (with_reducible assumption) | assumption); have q120 : x6_2 < (l1.length : Int) := of_decide_eq_true (by first | (with_reducible assumption) | assumption); obtain ⟨ad120, e120, hx120_0, hx120_1⟩ := at_T53 HR1.out x6_2 p120 q120; obtain rfl : ad119 = ad120 := (by injection e120); replace hx120_0 := (HB.out.cell (World.block_lt_of_cell? w _ hx120_0)).trans hx120_0; replace hx120_1 := (HB.out.cell (World.block_lt_of_cell? w _ hx120_1)).trans hx120_1; replace p120 := eq_true p120; replace q120 := eq_true q120; have hcz15_0 : wr.cell? ⟨gb118, 0, none⟩ = some (.int .i64 x119000_2) := bc BK118 0; have hcz15_1 : wr.cell? ⟨gb118, 1, none⟩ = some (.slice none 0 0) := bc BK118 1; have hfz15_0 := blk_frozen BK118.out 0; have hfz15_1 := blk_frozen BK118.out 1
           go_wp2
           refine bodyPost_ret (results_ct rfl _ _ gb118 26 #[.int .i64 0, .slice none 0 0] (0, 0) _ rfl (bp BK118) Tryd.underlying26 rfl (by kernel_rfl)) rfl ?_; exact ⟨_, by first | rfl | (simp [errW_none, errW_some] <;> rfl) | (simp [*, errW_none, errW_some] <;> rfl), by first | exact Kd.R_nil _ _ _ _ _ | exact Kd.N_nil _ _ _ _ _ | exact Kd.V_nil _ _ _ _ _ | exact Kd.Q_nil _ _ _ _ _ | exact Kd.S_nil _ _ _ _ _, hb1 HB GE118⟩
          ·rw [if_neg c14] at H; have c14b0 : decide (((rd_T53 l1 x6_2).f1) < 0) = false := decide_eq_false c14; clear c14
           by_cases c16 : ((rd_T53 l1 x6_2).f1) ≥ a0
           ·rw [if_pos c16] at H; have c16b0 : decide (a0 ≤ ((rd_T53 l1 x6_2).f1)) = true := decide_eq_true c16; clear c16; simp only [Option.some.injEq, Prod.mk.injEq] at H; obtain ⟨rfl, rfl, rfl⟩ := H; have p119 : 0 ≤ (x6_2 : Int) := of_decide_eq_true (by first | (with_reducible assumption) | assumption); have q119 : x6_2 < (l1.length : Int) := of_decide_eq_true (by first | (with_reducible assumption) | assumption); obtain ⟨ad119, e119, hx119_0, hx119_1⟩ := at_T53 HR1.out x6_2 p119 q119
            cases e119
            replace hx119_0 := (HB.out.cell (World.block_lt_of_cell? w _ hx119_0)).trans hx119_0; replace hx119_1 := (HB.out.cell (World.block_lt_of_cell? w _ hx119_1)).trans hx119_1; replace p119 := eq_true p119; replace q119 := eq_true q119; have p120 : 0 ≤ (x6_2 : Int) := of_decide_eq_true (by first | (with_reducible assumption) | assumption); have q120 : x6_2 < (l1.length : Int) := of_decide_eq_true (by first | (with_reducible assumption) | assumption); obtain ⟨ad120, e120, hx120_0, hx120_1⟩ := at_T53 HR1.out x6_2 p120 q120; obtain rfl : ad119 = ad120 := (by injection e120); replace hx120_0 := (HB.out.cell (World.block_lt_of_cell? w _ hx120_0)).trans hx120_0; replace hx120_1 := (HB.out.cell (World.block_lt_of_cell? w _ hx120_1)).trans hx120_1; replace p120 := eq_true p120; replace q120 := eq_true q120; have hcz17_0 : wr.cell? ⟨gb118, 0, none⟩ = some (.int .i64 x119000_2) := bc BK118 0; have hcz17_1 : wr.cell? ⟨gb118, 1, none⟩ = some (.slice none 0 0) := bc BK118 1; have hfz17_0 := blk_frozen BK118.out 0; have hfz17_1 := blk_frozen BK118.out 1
            go_wp2
            refine bodyPost_ret (results_ct rfl _ _ gb118 26 #[.int .i64 0, .slice none 0 0] (0, 0) _ rfl (bp BK118) Tryd.underlying26 rfl (by kernel_rfl)) rfl ?_; exact ⟨_, by first | rfl | (simp [errW_none, errW_some] <;> rfl) | (simp [*, errW_none, errW_some] <;> rfl), by first | exact Kd.R_nil _ _ _ _ _ | exact Kd.N_nil _ _ _ _ _ | exact Kd.V_nil _ _ _ _ _ | exact Kd.Q_nil _ _ _ _ _ | exact Kd.S_nil _ _ _ _ _, hb1 HB GE118⟩
           ·rw [if_neg c16] at H; have c16b0 : decide (a0 ≤ ((rd_T53 l1 x6_2).f1)) = false := decide_eq_false c16; clear c16; have H' := Aside0.mk H; clear H; have p119 : 0 ≤ (x6_2 : Int) := of_decide_eq_true (by first | (with_reducible assumption) | assumption); have q119 : x6_2 < (l1.length : Int) := of_decide_eq_true (by first | (with_reducible assumption) | assumption); obtain ⟨ad119, e119, hx119_0, hx119_1⟩ := at_T53 HR1.out x6_2 p119 q119
            cases e119
            replace hx119_0 := (HB.out.cell (World.block_lt_of_cell? w _ hx119_0)).trans hx119_0; replace hx119_1 := (HB.out.cell (World.block_lt_of_cell? w _ hx119_1)).trans hx119_1; replace p119 := eq_true p119; replace q119 := eq_true q119; have p120 : 0 ≤ (x6_2 : Int) := of_decide_eq_true (by first | (with_reducible assumption) | assumption); have q120 : x6_2 < (l1.length : Int) := of_decide_eq_true (by first | (with_reducible assumption) | assumption); obtain ⟨ad120, e120, hx120_0, hx120_1⟩ := at_T53 HR1.out x6_2 p120 q120; obtain rfl : ad119 = ad120 := (by injection e120); replace hx120_0 := (HB.out.cell (World.block_lt_of_cell? w _ hx120_0)).trans hx120_0; replace hx120_1 := (HB.out.cell (World.block_lt_of_cell? w _ hx120_1)).trans hx120_1; replace p120 := eq_true p120; replace q120 := eq_true q120
            go_wp2
            go_roundg k2
            case measure => have := HJ2.out; have := HK2.out; omega
            case rel => exact ⟨(wrap64 (x6_2 + 1)), (x119000_2), (by first | rfl | (simp; done) | (simp [*]; done)), H', ⟨by have := HJ2.out; have := HK2.out; omega⟩, ⟨bx BK118⟩, ⟨hb1 HB GE118⟩⟩
       ·rw [if_neg c9] at H; exact absurd H (by simp)
      ·rw [if_neg c8] at H; have c8b0 : decide (x6_2 < (l1.length : Int)) = false := decide_eq_false c8; clear c8; have H' := Aside0.mk H; clear H
       go_wp2
       go_loopg [9, 10] k2 (fun kq v9 v10 w' => ∃ (x9_3 : List (S42)) (x10_3 : Int), v10 = .int .i64 x10_3 ∧ Aside0 (tangramref03_Make.l1 kq a0 l1 x9_3 x10_3 = some (r1, r2, r3)) ∧ Aside0 (kq ≤ k2) ∧ Aside0 (Kd.R k42 42 w' w.heap.size (fun _ => True) v9 x9_3) ∧ Aside0 (w'.heap[gb118]? = some (.cells #[.int .i64 x119000_2, (.slice none 0 0)] 26 (0, 0))) ∧ Aside0 (Below w.heap.size w w'))
       case atStart => exact ⟨(([] : List (S42))), (0), (by first | rfl | (simp; done) | (simp [*]; done)), H', ⟨Nat.le_refl _⟩, ⟨by first | exact Kd.R_nil _ _ _ _ _ | exact Kd.N_nil _ _ _ _ _ | exact Kd.V_nil _ _ _ _ _ | exact Kd.Q_nil _ _ _ _ _ | exact Kd.S_nil _ _ _ _ _⟩, ⟨bx BK118⟩, ⟨hb1 HB GE118⟩⟩
       case round =>
        clear H'
        try clear c1
        try clear p1
        try clear q1
        try clear hx1
        try clear p2
        try clear c5
        try clear c5b0
        try clear c6
        try clear p6
        try clear c8
        try clear c8b0
        try clear c9
        try clear c9b0
        try clear c10
        try clear c10b0
        try clear p11
        try clear q11
        try clear hx11
        try clear c12
        try clear c12b0
        try clear p12
        try clear q12
        try clear hx12
        try clear c14
        try clear c14b0
        try clear c16
        try clear c16b0
        try clear hcz11_0
        try clear hcz11_1
        try clear hcz13_0
        try clear hcz13_1
        try clear hcz15_0
        try clear hcz15_1
        try clear hcz17_0
        try clear hcz17_1
        try clear hcz7_0
        try clear hcz7_1
        try clear hfz11_0
        try clear hfz11_1
        try clear hfz13_0
        try clear hfz13_1
        try clear hfz15_0
        try clear hfz15_1
        try clear hfz17_0
        try clear hfz17_1
        try clear hfz7_0
        try clear hfz7_1
        try clear hx119_0
        try clear hx119_1
        try clear hx120_0
        try clear hx120_1
        try clear p119
        try clear p120
        try clear p2
        try clear q119
        try clear q120
        obtain ⟨x9_3, x10_3, rfl, HA, HK3, HO_9, BK118, HB⟩ := hrel
        cases gk with
        | zero => exact absurd HA.out (by simp [tangramref03_Make.l1])
        | succ k3 =>
         have H := HA.out; clear HA; simp only [tangramref03_Make.l1] at H
         by_cases c18 : x10_3 < (l1.length : Int)
         ·rw [if_pos c18] at H; have c18b0 : decide (x10_3 < (l1.length : Int)) = true := decide_eq_true c18; clear c18
          by_cases c19 : 0 ≤ x10_3
          ·rw [if_pos c19] at H; have c19b0 : decide (0 ≤ x10_3) = true := decide_eq_true c19; clear c19
           by_cases c20 : ((rd_T53 l1 x10_3).f0) < ((rd_T53 l1 x10_3).f1)
           ·rw [if_pos c20] at H; have c20b0 : decide (((rd_T53 l1 x10_3).f0) < ((rd_T53 l1 x10_3).f1)) = true := decide_eq_true c20; clear c20; replace H := Option.bind_eq_some_iff.mp H; obtain ⟨t123, A210, H⟩ := H; replace H : (if ((rd_T53 l1 x10_3).f1) < ((rd_T53 l1 x10_3).f0) then ((tangramref03_Put.f k3 t123 ((rd_T53 l1 x10_3).f1) ((rd_T53 l1 x10_3).f0)).bind fun t126 => (tangramref03_Make.l1 k3 a0 l1 t126 (wrap64 (x10_3 + 1)))) else (tangramref03_Make.l1 k3 a0 l1 t123 (wrap64 (x10_3 + 1)))) = some (r1, r2, r3) := H; have A21 := Aside0.mk A210; clear A210
            by_cases c22 : ((rd_T53 l1 x10_3).f1) < ((rd_T53 l1 x10_3).f0)
            ·rw [if_pos c22] at H; have c22b0 : decide (((rd_T53 l1 x10_3).f1) < ((rd_T53 l1 x10_3).f0)) = true := decide_eq_true c22; clear c22; replace H := Option.bind_eq_some_iff.mp H; obtain ⟨t126, A230, H⟩ := H; replace H : (tangramref03_Make.l1 k3 a0 l1 t126 (wrap64 (x10_3 + 1))) = some (r1, r2, r3) := H; have A23 := Aside0.mk A230; clear A230; have H' := Aside0.mk H; clear H; have p121 : 0 ≤ (x10_3 : Int) := of_decide_eq_true (by first | (with_reducible assumption) | assumption); have q121 : x10_3 < (l1.length : Int) := of_decide_eq_true (by first | (with_reducible assumption) | assumption); obtain ⟨ad121, e121, hx121_0, hx121_1⟩ := at_T53 HR1.out x10_3 p121 q121
             cases e121
             replace hx121_0 := (HB.out.cell (World.block_lt_of_cell? w _ hx121_0)).trans hx121_0; replace hx121_1 := (HB.out.cell (World.block_lt_of_cell? w _ hx121_1)).trans hx121_1; replace p121 := eq_true p121; replace q121 := eq_true q121; have p122 : 0 ≤ (x10_3 : Int) := of_decide_eq_true (by first | (with_reducible assumption) | assumption); have q122 : x10_3 < (l1.length : Int) := of_decide_eq_true (by first | (with_reducible assumption) | assumption); obtain ⟨ad122, e122, hx122_0, hx122_1⟩ := at_T53 HR1.out x10_3 p122 q122; obtain rfl : ad121 = ad122 := (by injection e122); replace hx122_0 := (HB.out.cell (World.block_lt_of_cell? w _ hx122_0)).trans hx122_0; replace hx122_1 := (HB.out.cell (World.block_lt_of_cell? w _ hx122_1)).trans hx122_1; replace p122 := eq_true p122; replace q122 := eq_true q122; obtain ⟨Ao24, co24, eo24⟩ := Kd.R_slice HO_9.out; subst eo24
             go_wp2_with (first | ((with_reducible refine gate_callee (f := 35) rfl ?_); refine gl_ (some 76) Tryd.func35 #[.slice Ao24 x9_3.length co24, .agg #[.int .i64 ((rd_T53 l1 x10_3).f0), .int .i64 ((rd_T53 l1 x10_3).f1)]] ?_; (with_reducible refine (tangramref03_Put.calls k3 (fun k_ => some k_ = (.slice Ao24 x9_3.length co24 : Value).ownBlock) (.slice Ao24 x9_3.length co24) x9_3 ((rd_T53 l1 x10_3).f0) ((rd_T53 l1 x10_3).f1) t123 w _ ?side1 ?side2 A21.out).mono ?_); (case side1 => repeat (first | (with_reducible first | exact HB.out | apply below_alloc | apply pw_below_drewN | apply below_drew1 | refine below_set ?_ GE118.out) | exact HB.out)); (case side2 => exact Kd.R_tight rfl HO_9.out); rintro e w25 ⟨v124, rfl, ho0, hb, hkp⟩; refine ⟨_, rfl, ?_⟩; have n0_ := Aside0.mk (blk_kept (bx BK118) hkp (fun hs_ => (fun e_ => (Kd.R_ne HO_9.out BK118.out (by decide)) e_) hs_)); have n1_ := Aside0.mk (Kd.R_mono (ok' := fun k_ => True) ho0 (fun k_ hk_ => trivial)); have n2_ := Aside0.mk (hb); clear BK118; clear HB; clear HO_9; have BK118 := n0_; have HO125 := n1_; have HB := n2_; clear n0_ n1_ n2_; (try clear hb); (try clear hkp); (try clear ho0); obtain ⟨Ao26, co26, eo26⟩ := Kd.R_slice HO125.out; subst eo26) | ((with_reducible refine gate_callee (f := 35) rfl ?_); refine gl_ (some 84) Tryd.func35 #[.slice Ao26 t123.length co26, .agg #[.int .i64 ((rd_T53 l1 x10_3).f1), .int .i64 ((rd_T53 l1 x10_3).f0)]] ?_; (with_reducible refine (tangramref03_Put.calls k3 (fun k_ => some k_ = (.slice Ao26 t123.length co26 : Value).ownBlock) (.slice Ao26 t123.length co26) t123 ((rd_T53 l1 x10_3).f1) ((rd_T53 l1 x10_3).f0) t126 w _ ?side1 ?side2 A23.out).mono ?_); (case side1 => repeat (first | (with_reducible first | exact HB.out | apply below_alloc | apply pw_below_drewN | apply below_drew1 | refine below_set ?_ GE118.out) | exact HB.out)); (case side2 => exact Kd.R_tight rfl HO125.out); rintro e w27 ⟨v127, rfl, ho0, hb, hkp⟩; refine ⟨_, rfl, ?_⟩; have n0_ := Aside0.mk (blk_kept (bx BK118) hkp (fun hs_ => (fun e_ => (Kd.R_ne HO125.out BK118.out (by decide)) e_) hs_)); have n1_ := Aside0.mk (Kd.R_mono (ok' := fun k_ => True) ho0 (fun k_ hk_ => trivial)); have n2_ := Aside0.mk (hb); clear BK118; clear HB; clear HO125; have BK118 := n0_; have HO128 := n1_; have HB := n2_; clear n0_ n1_ n2_; (try clear hb); (try clear hkp); (try clear ho0)))
             go_roundg k3
             case measure => have := HJ2.out; have := HK2.out; have := HK3.out; omega
             case rel => exact ⟨(t126), (wrap64 (x10_3 + 1)), (by first | rfl | (simp; done) | (simp [*]; done)), H', ⟨by have := HJ2.out; have := HK2.out; have := HK3.out; omega⟩, ⟨rx HO128⟩, ⟨bx BK118⟩, ⟨hb1 HB GE118⟩⟩
            ·rw [if_neg c22] at H; have c22b0 : decide (((rd_T53 l1 x10_3).f1) < ((rd_T53 l1 x10_3).f0)) = false := decide_eq_false c22; clear c22; have H' := Aside0.mk H; clear H; have p121 : 0 ≤ (x10_3 : Int) := of_decide_eq_true (by first | (with_reducible assumption) | assumption); have q121 : x10_3 < (l1.length : Int) := of_decide_eq_true (by first | (with_reducible assumption) | assumption); obtain ⟨ad121, e121, hx121_0, hx121_1⟩ := at_T53 HR1.out x10_3 p121 q121
             cases e121
             replace hx121_0 := (HB.out.cell (World.block_lt_of_cell? w _ hx121_0)).trans hx121_0; replace hx121_1 := (HB.out.cell (World.block_lt_of_cell? w _ hx121_1)).trans hx121_1; replace p121 := eq_true p121; replace q121 := eq_true q121; have p122 : 0 ≤ (x10_3 : Int) := of_decide_eq_true (by first | (with_reducible assumption) | assumption); have q122 : x10_3 < (l1.length : Int) := of_decide_eq_true (by first | (with_reducible assumption) | assumption); obtain ⟨ad122, e122, hx122_0, hx122_1⟩ := at_T53 HR1.out x10_3 p122 q122; obtain rfl : ad121 = ad122 := (by injection e122); replace hx122_0 := (HB.out.cell (World.block_lt_of_cell? w _ hx122_0)).trans hx122_0; replace hx122_1 := (HB.out.cell (World.block_lt_of_cell? w _ hx122_1)).trans hx122_1; replace p122 := eq_true p122; replace q122 := eq_true q122; obtain ⟨Ao28, co28, eo28⟩ := Kd.R_slice HO_9.out; subst eo28
             go_wp2_with (first | ((with_reducible refine gate_callee (f := 35) rfl ?_); refine gl_ (some 76) Tryd.func35 #[.slice Ao28 x9_3.length co28, .agg #[.int .i64 ((rd_T53 l1 x10_3).f0), .int .i64 ((rd_T53 l1 x10_3).f1)]] ?_; (with_reducible refine (tangramref03_Put.calls k3 (fun k_ => some k_ = (.slice Ao28 x9_3.length co28 : Value).ownBlock) (.slice Ao28 x9_3.length co28) x9_3 ((rd_T53 l1 x10_3).f0) ((rd_T53 l1 x10_3).f1) t123 w _ ?side1 ?side2 A21.out).mono ?_); (case side1 => repeat (first | (with_reducible first | exact HB.out | apply below_alloc | apply pw_below_drewN | apply below_drew1 | refine below_set ?_ GE118.out) | exact HB.out)); (case side2 => exact Kd.R_tight rfl HO_9.out); rintro e w29 ⟨v124, rfl, ho0, hb, hkp⟩; refine ⟨_, rfl, ?_⟩; have n0_ := Aside0.mk (blk_kept (bx BK118) hkp (fun hs_ => (fun e_ => (Kd.R_ne HO_9.out BK118.out (by decide)) e_) hs_)); have n1_ := Aside0.mk (Kd.R_mono (ok' := fun k_ => True) ho0 (fun k_ hk_ => trivial)); have n2_ := Aside0.mk (hb); clear BK118; clear HB; clear HO_9; have BK118 := n0_; have HO125 := n1_; have HB := n2_; clear n0_ n1_ n2_; (try clear hb); (try clear hkp); (try clear ho0)))
             go_roundg k3
             case measure => have := HJ2.out; have := HK2.out; have := HK3.out; omega
             case rel => exact ⟨(t123), (wrap64 (x10_3 + 1)), (by first | rfl | (simp; done) | (simp [*]; done)), H', ⟨by have := HJ2.out; have := HK2.out; have := HK3.out; omega⟩, ⟨rx HO125⟩, ⟨bx BK118⟩, ⟨hb1 HB GE118⟩⟩
           ·rw [if_neg c20] at H; have c20b0 : decide (((rd_T53 l1 x10_3).f0) < ((rd_T53 l1 x10_3).f1)) = false := decide_eq_false c20; clear c20
            by_cases c30 : ((rd_T53 l1 x10_3).f1) < ((rd_T53 l1 x10_3).f0)
            ·rw [if_pos c30] at H; have c30b0 : decide (((rd_T53 l1 x10_3).f1) < ((rd_T53 l1 x10_3).f0)) = true := decide_eq_true c30; clear c30; replace H := Option.bind_eq_some_iff.mp H; obtain ⟨t129, A310, H⟩ := H; replace H : (tangramref03_Make.l1 k3 a0 l1 t129 (wrap64 (x10_3 + 1))) = some (r1, r2, r3) := H; have A31 := Aside0.mk A310; clear A310; have H' := Aside0.mk H; clear H; have p121 : 0 ≤ (x10_3 : Int) := of_decide_eq_true (by first | (with_reducible assumption) | assumption); have q121 : x10_3 < (l1.length : Int) := of_decide_eq_true (by first | (with_reducible assumption) | assumption); obtain ⟨ad121, e121, hx121_0, hx121_1⟩ := at_T53 HR1.out x10_3 p121 q121
             cases e121
             replace hx121_0 := (HB.out.cell (World.block_lt_of_cell? w _ hx121_0)).trans hx121_0; replace hx121_1 := (HB.out.cell (World.block_lt_of_cell? w _ hx121_1)).trans hx121_1; replace p121 := eq_true p121; replace q121 := eq_true q121; have p122 : 0 ≤ (x10_3 : Int) := of_decide_eq_true (by first | (with_reducible assumption) | assumption); have q122 : x10_3 < (l1.length : Int) := of_decide_eq_true (by first | (with_reducible assumption) | assumption); obtain ⟨ad122, e122, hx122_0, hx122_1⟩ := at_T53 HR1.out x10_3 p122 q122; obtain rfl : ad121 = ad122 := (by injection e122); replace hx122_0 := (HB.out.cell (World.block_lt_of_cell? w _ hx122_0)).trans hx122_0; replace hx122_1 := (HB.out.cell (World.block_lt_of_cell? w _ hx122_1)).trans hx122_1; replace p122 := eq_true p122; replace q122 := eq_true q122; obtain ⟨Ao32, co32, eo32⟩ := Kd.R_slice HO_9.out; subst eo32
             go_wp2_with (first | ((with_reducible refine gate_callee (f := 35) rfl ?_); refine gl_ (some 84) Tryd.func35 #[.slice Ao32 x9_3.length co32, .agg #[.int .i64 ((rd_T53 l1 x10_3).f1), .int .i64 ((rd_T53 l1 x10_3).f0)]] ?_; (with_reducible refine (tangramref03_Put.calls k3 (fun k_ => some k_ = (.slice Ao32 x9_3.length co32 : Value).ownBlock) (.slice Ao32 x9_3.length co32) x9_3 ((rd_T53 l1 x10_3).f1) ((rd_T53 l1 x10_3).f0) t129 w _ ?side1 ?side2 A31.out).mono ?_); (case side1 => repeat (first | (with_reducible first | exact HB.out | apply below_alloc | apply pw_below_drewN | apply below_drew1 | refine below_set ?_ GE118.out) | exact HB.out)); (case side2 => exact Kd.R_tight rfl HO_9.out); rintro e w33 ⟨v130, rfl, ho0, hb, hkp⟩; refine ⟨_, rfl, ?_⟩; have n0_ := Aside0.mk (blk_kept (bx BK118) hkp (fun hs_ => (fun e_ => (Kd.R_ne HO_9.out BK118.out (by decide)) e_) hs_)); have n1_ := Aside0.mk (Kd.R_mono (ok' := fun k_ => True) ho0 (fun k_ hk_ => trivial)); have n2_ := Aside0.mk (hb); clear BK118; clear HB; clear HO_9; have BK118 := n0_; have HO131 := n1_; have HB := n2_; clear n0_ n1_ n2_; (try clear hb); (try clear hkp); (try clear ho0)))
             go_roundg k3
             case measure => have := HJ2.out; have := HK2.out; have := HK3.out; omega
             case rel => exact ⟨(t129), (wrap64 (x10_3 + 1)), (by first | rfl | (simp; done) | (simp [*]; done)), H', ⟨by have := HJ2.out; have := HK2.out; have := HK3.out; omega⟩, ⟨rx HO131⟩, ⟨bx BK118⟩, ⟨hb1 HB GE118⟩⟩
            ·rw [if_neg c30] at H; have c30b0 : decide (((rd_T53 l1 x10_3).f1) < ((rd_T53 l1 x10_3).f0)) = false := decide_eq_false c30; clear c30; have H' := Aside0.mk H; clear H; have p121 : 0 ≤ (x10_3 : Int) := of_decide_eq_true (by first | (with_reducible assumption) | assumption); have q121 : x10_3 < (l1.length : Int) := of_decide_eq_true (by first | (with_reducible assumption) | assumption); obtain ⟨ad121, e121, hx121_0, hx121_1⟩ := at_T53 HR1.out x10_3 p121 q121
             cases e121
             replace hx121_0 := (HB.out.cell (World.block_lt_of_cell? w _ hx121_0)).trans hx121_0; replace hx121_1 := (HB.out.cell (World.block_lt_of_cell? w _ hx121_1)).trans hx121_1; replace p121 := eq_true p121; replace q121 := eq_true q121; have p122 : 0 ≤ (x10_3 : Int) := of_decide_eq_true (by first | (with_reducible assumption) | assumption); have q122 : x10_3 < (l1.length : Int) := of_decide_eq_true (by first | (with_reducible assumption) | assumption); obtain ⟨ad122, e122, hx122_0, hx122_1⟩ := at_T53 HR1.out x10_3 p122 q122; obtain rfl : ad121 = ad122 := (by injection e122); replace hx122_0 := (HB.out.cell (World.block_lt_of_cell? w _ hx122_0)).trans hx122_0; replace hx122_1 := (HB.out.cell (World.block_lt_of_cell? w _ hx122_1)).trans hx122_1; replace p122 := eq_true p122; replace q122 := eq_true q122
             go_wp2
             go_roundg k3
             case measure => have := HJ2.out; have := HK2.out; have := HK3.out; omega
             case rel => exact ⟨(x9_3), (wrap64 (x10_3 + 1)), (by first | rfl | (simp; done) | (simp [*]; done)), H', ⟨by have := HJ2.out; have := HK2.out; have := HK3.out; omega⟩, ⟨rx HO_9⟩, ⟨bx BK118⟩, ⟨hb1 HB GE118⟩⟩
          ·rw [if_neg c19] at H; exact absurd H (by simp)
         ·rw [if_neg c18] at H; have c18b0 : decide (x10_3 < (l1.length : Int)) = false := decide_eq_false c18; clear c18
          by_cases c34 : (x9_3.length : Int) > 4194304
          ·rw [if_pos c34] at H; have c34b0 : decide (4194304 < (x9_3.length : Int)) = true := decide_eq_true c34; have c34b1 : decide (4194304 < x9_3.length) = true := decide_eq_true (by omega); clear c34; simp only [Option.some.injEq, Prod.mk.injEq] at H; obtain ⟨rfl, rfl, rfl⟩ := H; obtain ⟨Ao35, co35, eo35⟩ := Kd.R_slice HO_9.out; subst eo35; have hcz36_0 : wr.cell? ⟨gb118, 0, none⟩ = some (.int .i64 x119000_2) := bc BK118 0; have hcz36_1 : wr.cell? ⟨gb118, 1, none⟩ = some (.slice none 0 0) := bc BK118 1; have hfz36_0 := blk_frozen BK118.out 0; have hfz36_1 := blk_frozen BK118.out 1
           go_wp2
           refine bodyPost_ret (results_ct rfl _ _ gb118 26 #[.int .i64 0, .slice none 0 0] (0, 0) _ rfl (bp BK118) Tryd.underlying26 rfl (by kernel_rfl)) rfl ?_; exact ⟨_, by first | rfl | (simp [errW_none, errW_some] <;> rfl) | (simp [*, errW_none, errW_some] <;> rfl), by first | exact Kd.R_nil _ _ _ _ _ | exact Kd.N_nil _ _ _ _ _ | exact Kd.V_nil _ _ _ _ _ | exact Kd.Q_nil _ _ _ _ _ | exact Kd.S_nil _ _ _ _ _, hb1 HB GE118⟩
          ·rw [if_neg c34] at H; have c34b0 : decide (4194304 < (x9_3.length : Int)) = false := decide_eq_false c34; have c34b1 : decide (4194304 < x9_3.length) = false := decide_eq_false (by omega); clear c34; simp only [Option.some.injEq, Prod.mk.injEq] at H; obtain ⟨rfl, rfl, rfl⟩ := H; obtain ⟨Ao37, co37, eo37⟩ := Kd.R_slice HO_9.out; subst eo37; have hcz38_0 : wr.cell? ⟨gb118, 0, none⟩ = some (.int .i64 x119000_2) := bc BK118 0; have hcz38_1 : wr.cell? ⟨gb118, 1, none⟩ = some (.slice none 0 0) := bc BK118 1; have hfz38_0 := blk_frozen BK118.out 0; have hfz38_1 := blk_frozen BK118.out 1
           go_wp2
           refine bodyPost_ret (results_ct rfl _ _ gb118 26 #[.int .i64 a0, .slice Ao37 x9_3.length co37] (0, 0) _ rfl (bp BK118) Tryd.underlying26 rfl (by kernel_rfl)) rfl ?_; exact ⟨_, by first | rfl | (simp [errW_none, errW_some] <;> rfl) | (simp [*, errW_none, errW_some] <;> rfl), Kd.R_mono (rf HO_9 BK118) (fun _ hk => trivial), hb1 HB GE118⟩

end Go.Proofs.YthejafdcdcchbaaDoor.PSimA
