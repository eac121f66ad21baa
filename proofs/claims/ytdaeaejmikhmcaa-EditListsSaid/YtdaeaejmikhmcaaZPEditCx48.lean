-- PRINTED by print.py (a twelfth state) out of the translation. Not trusted: Lean checks it.
import Derived.Test.YtdaeaejmikhmcaaZPEditCx0
import Derived.Test.YtdaeaejmikhmcaaZPEditCx37
namespace Go.Proofs.Ytdaeaejmikhmcaa.PEditC
open Go.RowKit Go.Proofs.YtdaeaejmikhmcaaW.PrintWords Go.Proofs.YtdaeaejmikhmcaaW.PrintLast Go.Proofs.YtdaeaejmikhmcaaW.PrintMore
open Go.Proofs.YtdaeaejmikhmcaaX
attribute [local go_sem] max2_int min2_int max_two min_two max_three min_three max_four min_four   -- for this text's walks alone
set_option linter.unusedVariables false
set_option linter.unusedSimpArgs false

/-! ### tangramref14_Named: function 44 -/
def tangramref14_Named.l0 : Nat → List Int → List (S46) → Int → Int → List (S46) → Option ((List (S46)))
 | 0, _, _, _, _, _ => none
 | k + 1, x1, x5, x6, x783000, x783001 => if x6 < (x783001.length : Int) then (if 0 ≤ x6 then (if 0 ≤ ((rd_T46 x783001 x6).f0) then (if ((rd_T46 x783001 x6).f0) < (x1.length : Int) then (if 0 ≤ ((rd_T46 x783001 x6).f1) then (if ((rd_T46 x783001 x6).f1) < (x1.length : Int) then (if (rd x1 ((rd_T46 x783001 x6).f0)) ≥ 0 then (if (rd x1 ((rd_T46 x783001 x6).f1)) ≥ 0 then ((tangramref14_put.f k x5 (rd x1 ((rd_T46 x783001 x6).f0)) (rd x1 ((rd_T46 x783001 x6).f1))).bind fun t787 => (tangramref14_Named.l0 k x1 t787 (wrap64 (x6 + 1)) x783000 x783001)) else (tangramref14_Named.l0 k x1 x5 (wrap64 (x6 + 1)) x783000 x783001)) else (tangramref14_Named.l0 k x1 x5 (wrap64 (x6 + 1)) x783000 x783001)) else (none)) else (none)) else (none)) else (none)) else (none)) else (some x5)
def tangramref14_Named.f (k : Nat) (a0_0 : Int) (l0_1 : List (S46)) (l1 : List Int) : Option ((List (S46))) := tangramref14_Named.l0 k l1 ([] : List (S46)) 0 a0_0 l0_1
theorem tangramref14_Named.mono_l : ∀ k, (∀ y0 y1 y2 y3 y4, LeO (tangramref14_Named.l0 k y0 y1 y2 y3 y4) (tangramref14_Named.l0 (k + 1) y0 y1 y2 y3 y4))
 | 0 => fun _ _ _ _ _ r h => by simp [tangramref14_Named.l0] at h
 | k + 1 => by
  have ih0 := tangramref14_Named.mono_l k
  ·intro y0 y1 y2 y3 y4
   unfold tangramref14_Named.l0
   repeat' first
   | (with_reducible exact ih0 _ _ _ _ _)
   | (with_reducible exact tangramref14_put.mono _ _ _ _)
   | (with_reducible exact LeO.refl _)
   | (with_reducible exact LeO.none _)
   | (with_reducible refine LeO.ite ?_ ?_)
   | (with_reducible refine LeO.bind ?_ (fun _ => ?_))
   | exact ih0 _ _ _ _ _
   | exact tangramref14_put.mono _ _ _ _
   | exact LeO.none _
   | refine LeO.ite ?_ ?_
   | refine LeO.bind ?_ (fun _ => ?_)
theorem tangramref14_Named.mono : ∀ a0 a1 a2 k, LeO (tangramref14_Named.f k a0 a1 a2) (tangramref14_Named.f (k + 1) a0 a1 a2) := by
 intro a0 a1 a2 k; have ih0 := tangramref14_Named.mono_l k
 unfold tangramref14_Named.f
 repeat' first
   | (with_reducible exact ih0 _ _ _ _ _)
   | (with_reducible exact tangramref14_put.mono _ _ _ _)
   | (with_reducible exact LeO.refl _)
   | (with_reducible exact LeO.none _)
   | (with_reducible refine LeO.ite ?_ ?_)
   | (with_reducible refine LeO.bind ?_ (fun _ => ?_))
   | exact ih0 _ _ _ _ _
   | exact tangramref14_put.mono _ _ _ _
   | exact LeO.none _
   | refine LeO.ite ?_ ?_
   | refine LeO.bind ?_ (fun _ => ?_)
set_option maxHeartbeats 8000000 in
set_option maxRecDepth 100000 in
theorem tangramref14_Named.calls (k : Nat) (a0_0 : Int) (A0_1 : Option Addr) (c0_1 : Nat) (l0_1 : List (S46)) (A1 : Option Addr) (c1 : Nat) (l1 : List Int) (r : List (S46)) (w : World) (hr0_1 : Kd.C k46 w A0_1 l0_1.length l0_1) (hc0_1 : l0_1.length ≤ c0_1) (hr1 : Kd.C (Kd.int .i64) w A1 l1.length l1) (hc1 : l1.length ≤ c1) (h : tangramref14_Named.f k a0_0 l0_1 l1 = some r) :
  Calls Try.prog 44 #[.agg #[.int .i64 a0_0, .slice A0_1 l0_1.length c0_1], .slice A1 l1.length c1] w fun e w' => ∃ v0_ : Value, e = .returned (v0_) ∧ Kd.R k46 46 w' w.heap.size (fun _ => True) v0_ r ∧ Below w.heap.size w w' := by
 have hu25 := Try.underlying25; have HR0_1 := Aside0.mk hr0_1; have HC0_1 := Aside0.mk hc0_1; clear hr0_1 hc0_1; have HR1 := Aside0.mk hr1; have HC1 := Aside0.mk hc1; clear hr1 hc1; have HB := Aside0.mk (Below.refl w.heap.size w); have H : (tangramref14_Named.l0 k l1 ([] : List (S46)) 0 a0_0 l0_1) = some r := h; clear h; have H' := Aside0.mk H; clear H
 go_enter Try.func44, Try.ntmps44
 go_wp2_with (first | ((with_reducible refine gate_dst (N := 2) rfl ?_); refine be_ 2 #[.int .i64 a0_0, .slice A0_1 l0_1.length c0_1] 25 ?_; intro gb782 hg w3 hbox hb; have BK782 := Aside0.mk (hbox); have GW782 := wq (hb0 HB) hg; have GE782 := wq (hb0 HB) hg; replace HB := hs (hb0 HB) hb; clear hb hbox hg))
 repeat (go_quiet (first | ((with_reducible refine gate_dst (N := 2) rfl ?_); refine be_ 2 #[.int .i64 a0_0, .slice A0_1 l0_1.length c0_1] 25 ?_; intro gb782 hg w3 hbox hb; have BK782 := Aside0.mk (hbox); have GW782 := wq (hb0 HB) hg; have GE782 := wq (hb0 HB) hg; replace HB := hs (hb0 HB) hb; clear hb hbox hg)); try go_wp2_with (first | ((with_reducible refine gate_dst (N := 2) rfl ?_); refine be_ 2 #[.int .i64 a0_0, .slice A0_1 l0_1.length c0_1] 25 ?_; intro gb782 hg w3 hbox hb; have BK782 := Aside0.mk (hbox); have GW782 := wq (hb0 HB) hg; have GE782 := wq (hb0 HB) hg; replace HB := hs (hb0 HB) hb; clear hb hbox hg)))
 go_loopg [5, 6] k (fun kq v5 v6 w' => ∃ (x5_1 : List (S46)) (x6_1 : Int), v6 = .int .i64 x6_1 ∧ Aside0 (tangramref14_Named.l0 kq l1 x5_1 x6_1 a0_0 l0_1 = some r) ∧ Aside0 (kq ≤ k) ∧ Aside0 (Kd.R k46 46 w' w.heap.size (fun _ => True) v5 x5_1) ∧ Aside0 (w'.heap[gb782]? = some (.cells #[.int .i64 a0_0, (.slice A0_1 l0_1.length c0_1)] 25 (0, 0))) ∧ Aside0 (Below w.heap.size w w'))
 case atStart => exact ⟨(([] : List (S46))), (0), (by first | rfl | (simp; done) | (simp [*]; done)), H', ⟨Nat.le_refl _⟩, ⟨by first | exact Kd.R_nil _ _ _ _ _ | exact Kd.N_nil _ _ _ _ _ | exact Kd.V_nil _ _ _ _ _ | exact Kd.Q_nil _ _ _ _ _ | exact Kd.S_nil _ _ _ _ _⟩, ⟨bx BK782⟩, ⟨hb1 HB GE782⟩⟩
 case round =>
  clear H'
  try clear c1
  try clear p2
  obtain ⟨x5_1, x6_1, rfl, HA, HK1, HO_5, BK782, HB⟩ := hrel
  cases gk with
  | zero => exact absurd HA.out (by simp [tangramref14_Named.l0])
  | succ k1 =>
   have H := HA.out; clear HA; simp only [tangramref14_Named.l0] at H
   by_cases c4 : x6_1 < (l0_1.length : Int)
   ·rw [if_pos c4] at H; have c4b0 : decide (x6_1 < (l0_1.length : Int)) = true := decide_eq_true c4; clear c4
    by_cases c5 : 0 ≤ x6_1
    ·rw [if_pos c5] at H; have c5b0 : decide (0 ≤ x6_1) = true := decide_eq_true c5; clear c5
     by_cases c6 : 0 ≤ ((rd_T46 l0_1 x6_1).f0)
     ·rw [if_pos c6] at H; have c6b0 : decide (0 ≤ ((rd_T46 l0_1 x6_1).f0)) = true := decide_eq_true c6; clear c6
      by_cases c7 : ((rd_T46 l0_1 x6_1).f0) < (l1.length : Int)
      ·rw [if_pos c7] at H; have c7b0 : decide (((rd_T46 l0_1 x6_1).f0) < (l1.length : Int)) = true := decide_eq_true c7; clear c7
       by_cases c8 : 0 ≤ ((rd_T46 l0_1 x6_1).f1)
       ·rw [if_pos c8] at H; have c8b0 : decide (0 ≤ ((rd_T46 l0_1 x6_1).f1)) = true := decide_eq_true c8; clear c8
        by_cases c9 : ((rd_T46 l0_1 x6_1).f1) < (l1.length : Int)
        ·rw [if_pos c9] at H; have c9b0 : decide (((rd_T46 l0_1 x6_1).f1) < (l1.length : Int)) = true := decide_eq_true c9; clear c9
         by_cases c10 : (rd l1 ((rd_T46 l0_1 x6_1).f0)) ≥ 0
         ·rw [if_pos c10] at H; have c10b0 : decide (0 ≤ (rd l1 ((rd_T46 l0_1 x6_1).f0))) = true := decide_eq_true c10; clear c10
          by_cases c11 : (rd l1 ((rd_T46 l0_1 x6_1).f1)) ≥ 0
          ·rw [if_pos c11] at H; have c11b0 : decide (0 ≤ (rd l1 ((rd_T46 l0_1 x6_1).f1))) = true := decide_eq_true c11; clear c11; replace H := Option.bind_eq_some_iff.mp H; obtain ⟨t787, A120, H⟩ := H; (try dsimp only at H); have A12 := Aside0.mk A120; clear A120; have H' := Aside0.mk H; clear H; have hcz13_0 : wr.cell? ⟨gb782, 0, none⟩ = some (.int .i64 a0_0) := bc BK782 0; have hcz13_1 : wr.cell? ⟨gb782, 1, none⟩ = some (.slice A0_1 l0_1.length c0_1) := bc BK782 1; have hfz13_0 := blk_frozen BK782.out 0; have hfz13_1 := blk_frozen BK782.out 1; have p783 : 0 ≤ (x6_1 : Int) := of_decide_eq_true (by first | (with_reducible assumption) | assumption); have q783 : x6_1 < (l0_1.length : Int) := of_decide_eq_true (by first | (with_reducible assumption) | assumption); obtain ⟨ad783, e783, hx783_0, hx783_1⟩ := at_T46 HR0_1.out x6_1 p783 q783
           cases e783
           replace hx783_0 := (HB.out.cell (World.block_lt_of_cell? w _ hx783_0)).trans hx783_0; replace hx783_1 := (HB.out.cell (World.block_lt_of_cell? w _ hx783_1)).trans hx783_1; replace p783 := eq_true p783; replace q783 := eq_true q783; have p784 : 0 ≤ (((rd_T46 l0_1 x6_1).f0) : Int) := of_decide_eq_true (by first | (with_reducible assumption) | assumption); have q784 : ((rd_T46 l0_1 x6_1).f0) < (l1.length : Int) := of_decide_eq_true (by first | (with_reducible assumption) | assumption); obtain ⟨ad784, e784, hx784_0⟩ := Kd.at_int HR1.out ((rd_T46 l0_1 x6_1).f0) p784 q784
           cases e784
           replace hx784_0 := (HB.out.cell (World.block_lt_of_cell? w _ hx784_0)).trans hx784_0; replace p784 := eq_true p784; replace q784 := eq_true q784; have p785 : 0 ≤ (x6_1 : Int) := of_decide_eq_true (by first | (with_reducible assumption) | assumption); have q785 : x6_1 < (l0_1.length : Int) := of_decide_eq_true (by first | (with_reducible assumption) | assumption); obtain ⟨ad785, e785, hx785_0, hx785_1⟩ := at_T46 HR0_1.out x6_1 p785 q785; obtain rfl : ad783 = ad785 := (by injection e785); replace hx785_0 := (HB.out.cell (World.block_lt_of_cell? w _ hx785_0)).trans hx785_0; replace hx785_1 := (HB.out.cell (World.block_lt_of_cell? w _ hx785_1)).trans hx785_1; replace p785 := eq_true p785; replace q785 := eq_true q785; have p786 : 0 ≤ (((rd_T46 l0_1 x6_1).f1) : Int) := of_decide_eq_true (by first | (with_reducible assumption) | assumption); have q786 : ((rd_T46 l0_1 x6_1).f1) < (l1.length : Int) := of_decide_eq_true (by first | (with_reducible assumption) | assumption); obtain ⟨ad786, e786, hx786_0⟩ := Kd.at_int HR1.out ((rd_T46 l0_1 x6_1).f1) p786 q786; obtain rfl : ad784 = ad786 := (by injection e786); replace hx786_0 := (HB.out.cell (World.block_lt_of_cell? w _ hx786_0)).trans hx786_0; replace p786 := eq_true p786; replace q786 := eq_true q786; obtain ⟨Ao14, co14, eo14⟩ := Kd.R_slice HO_5.out; subst eo14
           go_wp2_with (first | (go_at_call 48; (with_reducible refine (tangramref14_put.calls k1 (fun k_ => some k_ = (.slice Ao14 x5_1.length co14 : Value).ownBlock) (.slice Ao14 x5_1.length co14) x5_1 (rd l1 ((rd_T46 l0_1 x6_1).f0)) (rd l1 ((rd_T46 l0_1 x6_1).f1)) t787 w _ ?side1 ?side2 A12.out).mono ?_); (case side1 => repeat (first | (with_reducible first | exact HB.out | apply below_alloc | apply pw_below_drewN | apply below_drew1 | refine below_set ?_ GE782.out) | exact HB.out)); (case side2 => exact Kd.R_tight rfl HO_5.out); rintro e w15 ⟨v788, rfl, ho0, hb, hkp⟩; have n0_ := Aside0.mk (blk_kept (bx BK782) hkp (fun hs_ => (fun e_ => (Kd.R_ne HO_5.out BK782.out (by decide)) e_) hs_)); have n1_ := Aside0.mk (Kd.R_mono (ok' := fun k_ => True) ho0 (fun k_ hk_ => trivial)); have n2_ := Aside0.mk (hb); clear BK782; clear HB; clear HO_5; have BK782 := n0_; have HO789 := n1_; have HB := n2_; clear n0_ n1_ n2_; (try clear hb); (try clear hkp); (try clear ho0)))
           repeat (go_quiet (first | (go_at_call 48; (with_reducible refine (tangramref14_put.calls k1 (fun k_ => some k_ = (.slice Ao14 x5_1.length co14 : Value).ownBlock) (.slice Ao14 x5_1.length co14) x5_1 (rd l1 ((rd_T46 l0_1 x6_1).f0)) (rd l1 ((rd_T46 l0_1 x6_1).f1)) t787 w _ ?side1 ?side2 A12.out).mono ?_); (case side1 => repeat (first | (with_reducible first | exact HB.out | apply below_alloc | apply pw_below_drewN | apply below_drew1 | refine below_set ?_ GE782.out) | exact HB.out)); (case side2 => exact Kd.R_tight rfl HO_5.out); rintro e w15 ⟨v788, rfl, ho0, hb, hkp⟩; have n0_ := Aside0.mk (blk_kept (bx BK782) hkp (fun hs_ => (fun e_ => (Kd.R_ne HO_5.out BK782.out (by decide)) e_) hs_)); have n1_ := Aside0.mk (Kd.R_mono (ok' := fun k_ => True) ho0 (fun k_ hk_ => trivial)); have n2_ := Aside0.mk (hb); clear BK782; clear HB; clear HO_5; have BK782 := n0_; have HO789 := n1_; have HB := n2_; clear n0_ n1_ n2_; (try clear hb); (try clear hkp); (try clear ho0))); try go_wp2_with (first | (go_at_call 48; (with_reducible refine (tangramref14_put.calls k1 (fun k_ => some k_ = (.slice Ao14 x5_1.length co14 : Value).ownBlock) (.slice Ao14 x5_1.length co14) x5_1 (rd l1 ((rd_T46 l0_1 x6_1).f0)) (rd l1 ((rd_T46 l0_1 x6_1).f1)) t787 w _ ?side1 ?side2 A12.out).mono ?_); (case side1 => repeat (first | (with_reducible first | exact HB.out | apply below_alloc | apply pw_below_drewN | apply below_drew1 | refine below_set ?_ GE782.out) | exact HB.out)); (case side2 => exact Kd.R_tight rfl HO_5.out); rintro e w15 ⟨v788, rfl, ho0, hb, hkp⟩; have n0_ := Aside0.mk (blk_kept (bx BK782) hkp (fun hs_ => (fun e_ => (Kd.R_ne HO_5.out BK782.out (by decide)) e_) hs_)); have n1_ := Aside0.mk (Kd.R_mono (ok' := fun k_ => True) ho0 (fun k_ hk_ => trivial)); have n2_ := Aside0.mk (hb); clear BK782; clear HB; clear HO_5; have BK782 := n0_; have HO789 := n1_; have HB := n2_; clear n0_ n1_ n2_; (try clear hb); (try clear hkp); (try clear ho0))))
           go_roundg k1
           case measure => have := HK1.out; omega
           case rel => exact ⟨(t787), (wrap64 (x6_1 + 1)), (by first | rfl | (simp; done) | (simp [*]; done)), H', ⟨by have := HK1.out; omega⟩, ⟨rx HO789⟩, ⟨bx BK782⟩, ⟨hb1 HB GE782⟩⟩
          ·rw [if_neg c11] at H; have c11b0 : decide (0 ≤ (rd l1 ((rd_T46 l0_1 x6_1).f1))) = false := decide_eq_false c11; clear c11; have H' := Aside0.mk H; clear H; have hcz16_0 : wr.cell? ⟨gb782, 0, none⟩ = some (.int .i64 a0_0) := bc BK782 0; have hcz16_1 : wr.cell? ⟨gb782, 1, none⟩ = some (.slice A0_1 l0_1.length c0_1) := bc BK782 1; have hfz16_0 := blk_frozen BK782.out 0; have hfz16_1 := blk_frozen BK782.out 1; have p783 : 0 ≤ (x6_1 : Int) := of_decide_eq_true (by first | (with_reducible assumption) | assumption); have q783 : x6_1 < (l0_1.length : Int) := of_decide_eq_true (by first | (with_reducible assumption) | assumption); obtain ⟨ad783, e783, hx783_0, hx783_1⟩ := at_T46 HR0_1.out x6_1 p783 q783
           cases e783
           replace hx783_0 := (HB.out.cell (World.block_lt_of_cell? w _ hx783_0)).trans hx783_0; replace hx783_1 := (HB.out.cell (World.block_lt_of_cell? w _ hx783_1)).trans hx783_1; replace p783 := eq_true p783; replace q783 := eq_true q783; have p784 : 0 ≤ (((rd_T46 l0_1 x6_1).f0) : Int) := of_decide_eq_true (by first | (with_reducible assumption) | assumption); have q784 : ((rd_T46 l0_1 x6_1).f0) < (l1.length : Int) := of_decide_eq_true (by first | (with_reducible assumption) | assumption); obtain ⟨ad784, e784, hx784_0⟩ := Kd.at_int HR1.out ((rd_T46 l0_1 x6_1).f0) p784 q784
           cases e784
           replace hx784_0 := (HB.out.cell (World.block_lt_of_cell? w _ hx784_0)).trans hx784_0; replace p784 := eq_true p784; replace q784 := eq_true q784; have p785 : 0 ≤ (x6_1 : Int) := of_decide_eq_true (by first | (with_reducible assumption) | assumption); have q785 : x6_1 < (l0_1.length : Int) := of_decide_eq_true (by first | (with_reducible assumption) | assumption); obtain ⟨ad785, e785, hx785_0, hx785_1⟩ := at_T46 HR0_1.out x6_1 p785 q785; obtain rfl : ad783 = ad785 := (by injection e785); replace hx785_0 := (HB.out.cell (World.block_lt_of_cell? w _ hx785_0)).trans hx785_0; replace hx785_1 := (HB.out.cell (World.block_lt_of_cell? w _ hx785_1)).trans hx785_1; replace p785 := eq_true p785; replace q785 := eq_true q785; have p786 : 0 ≤ (((rd_T46 l0_1 x6_1).f1) : Int) := of_decide_eq_true (by first | (with_reducible assumption) | assumption); have q786 : ((rd_T46 l0_1 x6_1).f1) < (l1.length : Int) := of_decide_eq_true (by first | (with_reducible assumption) | assumption); obtain ⟨ad786, e786, hx786_0⟩ := Kd.at_int HR1.out ((rd_T46 l0_1 x6_1).f1) p786 q786; obtain rfl : ad784 = ad786 := (by injection e786); replace hx786_0 := (HB.out.cell (World.block_lt_of_cell? w _ hx786_0)).trans hx786_0; replace p786 := eq_true p786; replace q786 := eq_true q786
           go_wp2
           repeat (go_quiet (fail); try go_wp2)
           go_roundg k1
           case measure => have := HK1.out; omega
           case rel => exact ⟨(x5_1), (wrap64 (x6_1 + 1)), (by first | rfl | (simp; done) | (simp [*]; done)), H', ⟨by have := HK1.out; omega⟩, ⟨rx HO_5⟩, ⟨bx BK782⟩, ⟨hb1 HB GE782⟩⟩
         ·rw [if_neg c10] at H; have c10b0 : decide (0 ≤ (rd l1 ((rd_T46 l0_1 x6_1).f0))) = false := decide_eq_false c10; clear c10; have H' := Aside0.mk H; clear H; have hcz17_0 : wr.cell? ⟨gb782, 0, none⟩ = some (.int .i64 a0_0) := bc BK782 0; have hcz17_1 : wr.cell? ⟨gb782, 1, none⟩ = some (.slice A0_1 l0_1.length c0_1) := bc BK782 1; have hfz17_0 := blk_frozen BK782.out 0; have hfz17_1 := blk_frozen BK782.out 1; have p783 : 0 ≤ (x6_1 : Int) := of_decide_eq_true (by first | (with_reducible assumption) | assumption); have q783 : x6_1 < (l0_1.length : Int) := of_decide_eq_true (by first | (with_reducible assumption) | assumption); obtain ⟨ad783, e783, hx783_0, hx783_1⟩ := at_T46 HR0_1.out x6_1 p783 q783
          cases e783
          replace hx783_0 := (HB.out.cell (World.block_lt_of_cell? w _ hx783_0)).trans hx783_0; replace hx783_1 := (HB.out.cell (World.block_lt_of_cell? w _ hx783_1)).trans hx783_1; replace p783 := eq_true p783; replace q783 := eq_true q783; have p784 : 0 ≤ (((rd_T46 l0_1 x6_1).f0) : Int) := of_decide_eq_true (by first | (with_reducible assumption) | assumption); have q784 : ((rd_T46 l0_1 x6_1).f0) < (l1.length : Int) := of_decide_eq_true (by first | (with_reducible assumption) | assumption); obtain ⟨ad784, e784, hx784_0⟩ := Kd.at_int HR1.out ((rd_T46 l0_1 x6_1).f0) p784 q784
          cases e784
          replace hx784_0 := (HB.out.cell (World.block_lt_of_cell? w _ hx784_0)).trans hx784_0; replace p784 := eq_true p784; replace q784 := eq_true q784; have p785 : 0 ≤ (x6_1 : Int) := of_decide_eq_true (by first | (with_reducible assumption) | assumption); have q785 : x6_1 < (l0_1.length : Int) := of_decide_eq_true (by first | (with_reducible assumption) | assumption); obtain ⟨ad785, e785, hx785_0, hx785_1⟩ := at_T46 HR0_1.out x6_1 p785 q785; obtain rfl : ad783 = ad785 := (by injection e785); replace hx785_0 := (HB.out.cell (World.block_lt_of_cell? w _ hx785_0)).trans hx785_0; replace hx785_1 := (HB.out.cell (World.block_lt_of_cell? w _ hx785_1)).trans hx785_1; replace p785 := eq_true p785; replace q785 := eq_true q785; have p786 : 0 ≤ (((rd_T46 l0_1 x6_1).f1) : Int) := of_decide_eq_true (by first | (with_reducible assumption) | assumption); have q786 : ((rd_T46 l0_1 x6_1).f1) < (l1.length : Int) := of_decide_eq_true (by first | (with_reducible assumption) | assumption); obtain ⟨ad786, e786, hx786_0⟩ := Kd.at_int HR1.out ((rd_T46 l0_1 x6_1).f1) p786 q786; obtain rfl : ad784 = ad786 := (by injection e786); replace hx786_0 := (HB.out.cell (World.block_lt_of_cell? w _ hx786_0)).trans hx786_0; replace p786 := eq_true p786; replace q786 := eq_true q786
          go_wp2
          repeat (go_quiet (fail); try go_wp2)
          go_roundg k1
          case measure => have := HK1.out; omega
          case rel => exact ⟨(x5_1), (wrap64 (x6_1 + 1)), (by first | rfl | (simp; done) | (simp [*]; done)), H', ⟨by have := HK1.out; omega⟩, ⟨rx HO_5⟩, ⟨bx BK782⟩, ⟨hb1 HB GE782⟩⟩
        ·rw [if_neg c9] at H; exact absurd H (by simp)
       ·rw [if_neg c8] at H; exact absurd H (by simp)
      ·rw [if_neg c7] at H; exact absurd H (by simp)
     ·rw [if_neg c6] at H; exact absurd H (by simp)
    ·rw [if_neg c5] at H; exact absurd H (by simp)
   ·rw [if_neg c4] at H; have c4b0 : decide (x6_1 < (l0_1.length : Int)) = false := decide_eq_false c4; clear c4; obtain rfl := Option.some.inj H; have hcz18_0 : wr.cell? ⟨gb782, 0, none⟩ = some (.int .i64 a0_0) := bc BK782 0; have hcz18_1 : wr.cell? ⟨gb782, 1, none⟩ = some (.slice A0_1 l0_1.length c0_1) := bc BK782 1; have hfz18_0 := blk_frozen BK782.out 0; have hfz18_1 := blk_frozen BK782.out 1
    go_wp2
    repeat (go_quiet (fail); try go_wp2)
    go_ret
    exact ⟨_, by first | rfl | (simp [errW_none, errW_some] <;> rfl) | (simp [*, errW_none, errW_some] <;> rfl), by (with_reducible repeat (first | apply Kd.R_alloc | apply Kd.R_drewN | apply Kd.R_drew)); exact HO_5.out, hb1 HB GE782⟩

end Go.Proofs.Ytdaeaejmikhmcaa.PEditC
