import Derived.Test.YthfoliejhdpbaaaZPCroAx0
import Derived.Test.YthfoliejhdpbaaaZPCroAx13
import Derived.Test.YthfoliejhdpbaaaZPCroAx15
namespace Go.Proofs.Ythfoliejhdpbaaa.PCroA
open Go.RowKit Go.Proofs.YthfoliejhdpbaaaW.PrintWords Go.Proofs.YthfoliejhdpbaaaW.PrintLast Go.Proofs.YthfoliejhdpbaaaW.PrintMore
open Go.Proofs.YthfoliejhdpbaaaX
attribute [local go_sem] max2_int min2_int max_two min_two max_three min_three max_four min_four
set_option linter.unusedVariables false
set_option linter.unusedSimpArgs false

/-! ### cross_First: function 21 -/
mutual
def cross_First.l0 : Nat → List (S23) → List (S62) → Int → Int → Int → List (S62) → Option (Int × Int × Int)
 | 0, _, _, _, _, _, _ => none
 | k + 1, x1, x18, x19, x20, x179000, x179001 => if x20 < x19 then (if 0 ≤ x20 then (if x20 < (x18.length : Int) then (cross_First.l1 k x1 x20 (wrap64 (x20 + 1)) x18 x19 x20 x179000 x179001 ((rd_T62 x18 x20).f0) ((rd_T62 x18 x20).f1)) else (none)) else (none)) else (some ((-1), (-1), 0))
def cross_First.l1 : Nat → List (S23) → Int → Int → List (S62) → Int → Int → Int → List (S62) → Int → Int → Option (Int × Int × Int)
 | 0, _, _, _, _, _, _, _, _, _, _ => none
 | k + 1, x1, x8, x10, x18, x19, x20, x179000, x179001, x182000, x182001 => if x10 < (x179001.length : Int) then (if 0 ≤ x10 then ((cross_wrong.f k x182000 x182001 ((rd_T62 x179001 x10).f0) ((rd_T62 x179001 x10).f1) x1).bind fun t183 => (if t183 = true then (some (x8, x10, 0)) else (cross_First.l1 k x1 x8 (wrap64 (x10 + 1)) x18 x19 x20 x179000 x179001 x182000 x182001))) else (none)) else (cross_First.l0 k x1 x18 x19 (wrap64 (x20 + 1)) x179000 x179001)
end
def cross_First.f (k : Nat) (a0_0 : Int) (l0_1 : List (S62)) (l1 : List (S23)) : Option (Int × Int × Int) := (cross_drawn.f k a0_0 l0_1 l1).bind fun t179 => (if t179 = 0 then (cross_First.l0 k l1 l0_1 (l0_1.length : Int) 0 a0_0 l0_1) else (some (0, 0, t179)))
theorem cross_First.mono_l : ∀ k, (∀ y0 y1 y2 y3 y4 y5, LeO (cross_First.l0 k y0 y1 y2 y3 y4 y5) (cross_First.l0 (k + 1) y0 y1 y2 y3 y4 y5)) ∧ (∀ y0 y1 y2 y3 y4 y5 y6 y7 y8 y9, LeO (cross_First.l1 k y0 y1 y2 y3 y4 y5 y6 y7 y8 y9) (cross_First.l1 (k + 1) y0 y1 y2 y3 y4 y5 y6 y7 y8 y9))
 | 0 => ⟨fun _ _ _ _ _ _ r h => by simp [cross_First.l0] at h, fun _ _ _ _ _ _ _ _ _ _ r h => by simp [cross_First.l1] at h⟩
 | k + 1 => by
  obtain ⟨ih0, ih1⟩ := cross_First.mono_l k; refine ⟨?_, ?_⟩
  ·intro y0 y1 y2 y3 y4 y5
   unfold cross_First.l0
   repeat' first
   | (with_reducible exact ih0 _ _ _ _ _ _)
   | (with_reducible exact ih1 _ _ _ _ _ _ _ _ _ _)
   | (with_reducible exact cross_drawn.mono _ _ _ _)
   | (with_reducible exact cross_wrong.mono _ _ _ _ _ _)
   | (with_reducible exact LeO.refl _)
   | (with_reducible exact LeO.none _)
   | (with_reducible refine LeO.ite ?_ ?_)
   | (with_reducible refine LeO.bind ?_ (fun _ => ?_))
   | exact LeO.none _
   | refine LeO.ite ?_ ?_
   | refine LeO.bind ?_ (fun _ => ?_)
  ·intro y0 y1 y2 y3 y4 y5 y6 y7 y8 y9
   unfold cross_First.l1
   repeat' first
   | (with_reducible exact ih0 _ _ _ _ _ _)
   | (with_reducible exact ih1 _ _ _ _ _ _ _ _ _ _)
   | (with_reducible exact cross_drawn.mono _ _ _ _)
   | (with_reducible exact cross_wrong.mono _ _ _ _ _ _)
   | (with_reducible exact LeO.refl _)
   | (with_reducible exact LeO.none _)
   | (with_reducible refine LeO.ite ?_ ?_)
   | (with_reducible refine LeO.bind ?_ (fun _ => ?_))
   | exact LeO.none _
   | refine LeO.ite ?_ ?_
   | refine LeO.bind ?_ (fun _ => ?_)
theorem cross_First.mono : ∀ a0 a1 a2 k, LeO (cross_First.f k a0 a1 a2) (cross_First.f (k + 1) a0 a1 a2) := by
 intro a0 a1 a2 k; obtain ⟨ih0, ih1⟩ := cross_First.mono_l k
 unfold cross_First.f
 repeat' first
   | (with_reducible exact ih0 _ _ _ _ _ _)
   | (with_reducible exact ih1 _ _ _ _ _ _ _ _ _ _)
   | (with_reducible exact cross_drawn.mono _ _ _ _)
   | (with_reducible exact cross_wrong.mono _ _ _ _ _ _)
   | (with_reducible exact LeO.refl _)
   | (with_reducible exact LeO.none _)
   | (with_reducible refine LeO.ite ?_ ?_)
   | (with_reducible refine LeO.bind ?_ (fun _ => ?_))
   | exact LeO.none _
   | refine LeO.ite ?_ ?_
   | refine LeO.bind ?_ (fun _ => ?_)
def cross_First.T10 : Bool × List (List Nat × List Nat) := (true, [([], []), ([], []), ([1], [1]), ([], []), ([2, 3], [2, 3]), ([4], [4]), ([], []), ([0, 5, 6], [0, 5, 6])])
def cross_First.B10 : List Nat := [0, 0, 2, 0, 14, 30, 0, 127]
theorem cross_First.tab10 : rtab .any (opsOf Try.f21 10) = cross_First.T10 := by kernel_rfl
theorem cross_First.bits10 : waitsOk cross_First.T10.2 cross_First.B10 = true := by kernel_rfl
set_option maxHeartbeats 8000000 in
set_option maxRecDepth 100000 in
theorem cross_First.calls (k : Nat) (a0_0 : Int) (A0_1 : Option Addr) (c0_1 : Nat) (l0_1 : List (S62)) (A1 : Option Addr) (c1 : Nat) (l1 : List (S23)) (r1 : Int) (r2 : Int) (r3 : Int) (w : World) (hr0_1 : Kd.C k62 w A0_1 l0_1.length l0_1) (hc0_1 : l0_1.length ≤ c0_1) (hr1 : Kd.C k23 w A1 l1.length l1) (hc1 : l1.length ≤ c1) (h : cross_First.f k a0_0 l0_1 l1 = some (r1, r2, r3)) :
  Calls Try.prog 21 #[.agg #[.int .i64 a0_0, .slice A0_1 l0_1.length c0_1], .slice A1 l1.length c1] w fun e w' => e = .returned (.tuple #[.int .i64 r1, .int .i64 r2, .int .i64 r3]) ∧ Below w.heap.size w w' := by
 have hu31 := Try.underlying31; have hu62 := Try.underlying62; have HR0_1 := Aside0.mk hr0_1; have HC0_1 := Aside0.mk hc0_1; clear hr0_1 hc0_1; have HR1 := Aside0.mk hr1; have HC1 := Aside0.mk hc1; clear hr1 hc1; have HB := Aside0.mk (Below.refl w.heap.size w); have H : ((cross_drawn.f k a0_0 l0_1 l1).bind fun t179 => (if t179 = 0 then (cross_First.l0 k l1 l0_1 (l0_1.length : Int) 0 a0_0 l0_1) else (some (0, 0, t179)))) = some (r1, r2, r3) := h; clear h; replace H := Option.bind_eq_some_iff.mp H; obtain ⟨t179, A30, H⟩ := H; replace H : (if t179 = 0 then (cross_First.l0 k l1 l0_1 (l0_1.length : Int) 0 a0_0 l0_1) else (some (0, 0, t179))) = some (r1, r2, r3) := H; have A3 := Aside0.mk A30; clear A30
 by_cases c4 : t179 = 0
 ·rw [if_pos c4] at H; have c4b0 : (t179 == 0) = true := beq_iff_eq.mpr c4; have c4b1 : (t179 != 0) = false := bne_eq_false_iff_eq.mpr c4; clear c4; have H' := Aside0.mk H; clear H
  go_enter Try.func21, Try.ntmps21
  go_wp2_with (first | ((with_reducible refine gate_dst (N := 2) rfl ?_); refine be_ 2 #[.int .i64 a0_0, .slice A0_1 l0_1.length c0_1] 31 ?_; intro gb178 hg w5 hbox hb; have BK178 := Aside0.mk (hbox); have GW178 := wq (hb0 HB) hg; have GE178 := wq (hb0 HB) hg; replace HB := hs (hb0 HB) hb; clear hb hbox hg; have hcz6_0 : w5.cell? ⟨gb178, 0, none⟩ = some (.int .i64 a0_0) := bc BK178 0; have hcz6_1 : w5.cell? ⟨gb178, 1, none⟩ = some (.slice A0_1 l0_1.length c0_1) := bc BK178 1; have hfz6_0 := blk_frozen BK178.out 0; have hfz6_1 := blk_frozen BK178.out 1) | ((with_reducible refine gate_callee (f := 44) rfl ?_); refine gl_ (some 13) Try.func44 #[.agg #[.int .i64 a0_0, .slice A0_1 l0_1.length c0_1], .slice A1 l1.length c1] ?_; (with_reducible refine (cross_drawn.calls k a0_0 _ _ l0_1 _ _ l1 t179 _ ?side1 ?side2 ?side3 ?side4 A3.out).mono ?_); (case side1 => repeat (first | exact (Kd.C_below HR0_1.out HB.out) | (with_reducible refine Kd.C_alloc ?_ _) | (with_reducible refine Kd.C_drewN ?_ _) | (with_reducible refine Kd.C_drew ?_))); (case side2 => exact HC0_1.out); (case side3 => repeat (first | exact (Kd.C_below HR1.out HB.out) | (with_reducible refine Kd.C_alloc ?_ _) | (with_reducible refine Kd.C_drewN ?_ _) | (with_reducible refine Kd.C_drew ?_))); (case side4 => exact HC1.out); rintro e w7 ⟨rfl, hb⟩; refine ⟨_, rfl, ?_⟩; replace BK178 := kx BK178 hb; replace HB := hs (hb1 HB GE178) hb; (try clear hb); (try clear hb2); (try clear hk); (try clear hi); have hcz8_0 : w7.cell? ⟨gb178, 0, none⟩ = some (.int .i64 a0_0) := bc BK178 0; have hcz8_1 : w7.cell? ⟨gb178, 1, none⟩ = some (.slice A0_1 l0_1.length c0_1) := bc BK178 1; have hfz8_0 := blk_frozen BK178.out 0; have hfz8_1 := blk_frozen BK178.out 1))
  go_loopg [20] k (fun kq v20 w' => ∃ (x20_1 : Int), v20 = .int .i64 x20_1 ∧ Aside0 (cross_First.l0 kq l1 l0_1 (l0_1.length : Int) x20_1 a0_0 l0_1 = some (r1, r2, r3)) ∧ Aside0 (kq ≤ k) ∧ Aside0 (w'.heap[gb178]? = some (.cells #[.int .i64 a0_0, (.slice A0_1 l0_1.length c0_1)] 31 (0, 0))) ∧ Aside0 (Below w.heap.size w w'))
  case atStart => exact ⟨(0), (by first | rfl | (simp; done) | (simp [*]; done)), H', ⟨Nat.le_refl _⟩, ⟨bx BK178⟩, ⟨hb1 HB GE178⟩⟩
  case round =>
   clear H'
   try clear c1
   try clear c2
   try clear p2
   try clear c4
   try clear c4b0
   try clear c4b1
   try clear hcz6_0
   try clear hcz6_1
   try clear hcz8_0
   try clear hcz8_1
   try clear hfz6_0
   try clear hfz6_1
   try clear hfz8_0
   try clear hfz8_1
   obtain ⟨x20_1, rfl, HA, HK1, BK178, HB⟩ := hrel
   cases gk with
   | zero => exact absurd HA.out (by simp [cross_First.l0])
   | succ k1 =>
    have H := HA.out; clear HA; simp only [cross_First.l0] at H
    by_cases c9 : x20_1 < (l0_1.length : Int)
    ·rw [if_pos c9] at H; have c9b0 : decide (x20_1 < (l0_1.length : Int)) = true := decide_eq_true c9; clear c9
     by_cases c10 : 0 ≤ x20_1
     ·rw [if_pos c10] at H; have c10b0 : decide (0 ≤ x20_1) = true := decide_eq_true c10; clear c10
      by_cases c11 : x20_1 < (l0_1.length : Int)
      ·rw [if_pos c11] at H; have c11b0 : decide (x20_1 < (l0_1.length : Int)) = true := decide_eq_true c11; clear c11; have H' := Aside0.mk H; clear H; have p180 : 0 ≤ (x20_1 : Int) := of_decide_eq_true (by first | (with_reducible assumption) | assumption); have q180 : x20_1 < (l0_1.length : Int) := of_decide_eq_true (by first | (with_reducible assumption) | assumption); obtain ⟨ad180, e180, hx180_0, hx180_1⟩ := at_T62 HR0_1.out x20_1 p180 q180
       cases e180
       replace hx180_0 := (HB.out.cell (World.block_lt_of_cell? w _ hx180_0)).trans hx180_0; replace hx180_1 := (HB.out.cell (World.block_lt_of_cell? w _ hx180_1)).trans hx180_1; replace p180 := eq_true p180; replace q180 := eq_true q180
       go_wp2_with (first | ((with_reducible refine gate_dst (N := 9) rfl ?_); refine be_ 9 #[.int .i64 0, .int .i64 0] 62 ?_; intro gb181 hg w12 hbox hb; have BK181 := Aside0.mk (hbox); have GW181 := wq (hb1 HB GE178) hg; have GE181 := wq (hb1 HB GE178) hg; replace HB := hs (hb1 HB GE178) hb; have NB178_181 := lx BK178 hg; have NB181_178 := gx BK178 hg; replace BK178 := kx BK178 hb; clear hb hbox hg; have hnb13 := NB181_178.out; have hnc13 := NB178_181.out; have hcz14_0 : w12.cell? ⟨gb181, 0, none⟩ = some (.int .i64 0) := bc BK181 0; have hcz14_1 : w12.cell? ⟨gb181, 1, none⟩ = some (.int .i64 0) := bc BK181 1; have hfz14_0 := blk_frozen BK181.out 0; have hfz14_1 := blk_frozen BK181.out 1))
       go_loopg [10] k1 (fun kq v10 w' => ∃ (x10_2 : Int), v10 = .int .i64 x10_2 ∧ Aside0 (cross_First.l1 kq l1 x20_1 x10_2 l0_1 (l0_1.length : Int) x20_1 a0_0 l0_1 ((rd_T62 l0_1 x20_1).f0) ((rd_T62 l0_1 x20_1).f1) = some (r1, r2, r3)) ∧ Aside0 (kq ≤ k1) ∧ Aside0 (w'.heap[gb178]? = some (.cells #[.int .i64 a0_0, (.slice (some ad180) l0_1.length c0_1)] 31 (0, 0))) ∧ Aside0 (w'.heap[gb181]? = some (.cells #[.int .i64 ((rd_T62 l0_1 x20_1).f0), .int .i64 ((rd_T62 l0_1 x20_1).f1)] 62 (0, 0))) ∧ Aside0 (Below w.heap.size w w'))
       case atStart => exact ⟨(wrap64 (x20_1 + 1)), (by first | rfl | (simp; done) | (simp [*]; done)), H', ⟨Nat.le_refl _⟩, ⟨bx1 BK178 NB178_181⟩, ⟨bp BK181⟩, ⟨hb2 HB GE178 GE181⟩⟩
       case round =>
        clear H'
        try clear c1
        try clear p1
        try clear q1
        try clear hx1
        try clear c2
        try clear p2
        try clear c4
        try clear c4b0
        try clear c4b1
        try clear p6
        try clear c9
        try clear c9b0
        try clear c10
        try clear c10b0
        try clear c11
        try clear c11b0
        try clear c13
        try clear hcz14_0
        try clear hcz14_1
        try clear hcz6_0
        try clear hcz6_1
        try clear hcz8_0
        try clear hcz8_1
        try clear hfz14_0
        try clear hfz14_1
        try clear hfz6_0
        try clear hfz6_1
        try clear hfz8_0
        try clear hfz8_1
        try clear hx180_0
        try clear hx180_1
        try clear p180
        try clear p2
        try clear q180
        obtain ⟨x10_2, rfl, HA, HK2, BK178, BK181, HB⟩ := hrel
        cases gk with
        | zero => exact absurd HA.out (by simp [cross_First.l1])
        | succ k2 =>
         have H := HA.out; clear HA; simp only [cross_First.l1] at H
         by_cases c15 : x10_2 < (l0_1.length : Int)
         ·rw [if_pos c15] at H; have c15b0 : decide (x10_2 < (l0_1.length : Int)) = true := decide_eq_true c15; clear c15
          by_cases c16 : 0 ≤ x10_2
          ·rw [if_pos c16] at H; have c16b0 : decide (0 ≤ x10_2) = true := decide_eq_true c16; clear c16; replace H := Option.bind_eq_some_iff.mp H; obtain ⟨t183, A170, H⟩ := H; replace H : (if t183 = true then (some (x20_1, x10_2, 0)) else (cross_First.l1 k2 l1 x20_1 (wrap64 (x10_2 + 1)) l0_1 (l0_1.length : Int) x20_1 a0_0 l0_1 ((rd_T62 l0_1 x20_1).f0) ((rd_T62 l0_1 x20_1).f1))) = some (r1, r2, r3) := H; have A17 := Aside0.mk A170; clear A170
           by_cases c18 : t183 = true
           ·subst c18; have H1 : (some (x20_1, x10_2, 0)) = some (r1, r2, r3) := by rw [if_pos rfl] at H; exact H
            clear H; have H := H1; clear H1; simp only [Option.some.injEq, Prod.mk.injEq] at H; obtain ⟨rfl, rfl, rfl⟩ := H; have hnb19 := NB178_181.out; have hnc19 := NB181_178.out; have hcz20_0 : wr.cell? ⟨gb178, 0, none⟩ = some (.int .i64 a0_0) := bc BK178 0; have hcz20_1 : wr.cell? ⟨gb178, 1, none⟩ = some (.slice (some ad180) l0_1.length c0_1) := bc BK178 1; have hfz20_0 := blk_frozen BK178.out 0; have hfz20_1 := blk_frozen BK178.out 1
            try go_wp2
            replace BK178 := bd BK178; replace BK181 := bd BK181; replace HB := Aside0.mk (below_drew1 HB.out); have p182 : 0 ≤ (x10_2 : Int) := of_decide_eq_true (by first | (with_reducible assumption) | assumption); have q182 : x10_2 < (l0_1.length : Int) := of_decide_eq_true (by first | (with_reducible assumption) | assumption); obtain ⟨ad182, e182, hx182_0, hx182_1⟩ := at_T62 HR0_1.out x10_2 p182 q182; have hw182_1 := hx182_1; have hw182_0 := hx182_0; obtain rfl : ad180 = ad182 := (by injection e182); replace hx182_0 := (HB.out.cell (World.block_lt_of_cell? w _ hx182_0)).trans hx182_0; replace hx182_1 := (HB.out.cell (World.block_lt_of_cell? w _ hx182_1)).trans hx182_1; replace p182 := eq_true p182; replace q182 := eq_true q182; refine start_ (n := 8) (S := fun w' => w'.cell? ⟨gb181, 0, none⟩ = some (.int .i64 ((rd_T62 l0_1 x20_1).f0)) ∧ w'.cell? ⟨gb181, 1, none⟩ = some (.int .i64 ((rd_T62 l0_1 x20_1).f1)) ∧ w'.cell? ⟨gb178, 0, none⟩ = some (.int .i64 a0_0) ∧ w'.cell? ⟨gb178, 1, none⟩ = some (.slice (some ad180) l0_1.length c0_1) ∧ w'.cell? (ad180.add ((x10_2).toNat * 2)) = some (.int .i64 ((rd_T62 l0_1 x10_2).f0)) ∧ w'.cell? ⟨(ad180.add ((x10_2).toNat * 2)).block, (ad180.add ((x10_2).toNat * 2)).off + 1, none⟩ = some (.int .i64 ((rd_T62 l0_1 x10_2).f1))) (ds := []) (pf 0 8) (by kernel_rfl) rfl rfl ⟨bc BK181 0, bc BK181 1, bc BK178 0, bc BK178 1, ((HB.out.cell (World.block_lt_of_cell? w _ hw182_0)).trans hw182_0), ((HB.out.cell (World.block_lt_of_cell? w _ hw182_1)).trans hw182_1)⟩ (fun hHeld => ?_); refine with_tabW cross_First.tab10 cross_First.bits10 (fun HT_ HW_ => ?_)
            generalize wr.drew = w21 at BK178 BK181 HB hx182_0 hx182_1 hHeld ⊢; refine pu_ 1 (some 35) #[F_,T_,F_,F_,F_,F_,F_,F_] HT_ ?_; refine pu_ 3 (some 37) #[F_,T_,F_,T_,F_,F_,F_,F_] HT_ ?_; refine pu_ 6 (some 40) #[F_,T_,F_,T_,F_,F_,T_,F_] HT_ ?_; refine tk6_ 0 (some 34) #[T_,T_,F_,T_,F_,F_,T_,F_] HT_ HW_ hHeld ?_; refine tk6_ 2 (some 36) #[T_,T_,T_,T_,F_,F_,T_,F_] HT_ HW_ hHeld ?_; refine pu_ 4 (some 38) #[T_,T_,T_,T_,T_,F_,T_,F_] HT_ ?_; refine tk6_ 5 (some 39) (pf 7 8) HT_ HW_ hHeld ?_; refine on_ 7 (some 41) (pf 8 8) HT_ (fun K hK => ?_); refine gs_ Try.func45 #[.agg #[.int .i64 ((rd_T62 l0_1 x20_1).f0), .int .i64 ((rd_T62 l0_1 x20_1).f1)], .agg #[.int .i64 ((rd_T62 l0_1 x10_2).f0), .int .i64 ((rd_T62 l0_1 x10_2).f1)], .slice A1 l1.length c1] ?_
            with_reducible refine (cross_wrong.calls k2 ((rd_T62 l0_1 x20_1).f0) ((rd_T62 l0_1 x20_1).f1) ((rd_T62 l0_1 x10_2).f0) ((rd_T62 l0_1 x10_2).f1) _ _ l1 true _ ?side1 ?side2 A17.out).mono ?_
            (case side1 => repeat (first | exact (Kd.C_below HR1.out HB.out) | (with_reducible refine Kd.C_alloc ?_ _) | (with_reducible refine Kd.C_drewN ?_ _) | (with_reducible refine Kd.C_drew ?_)))
            (case side2 => exact HC1.out)
            rintro e w22 ⟨rfl, hb⟩; refine ⟨_, rfl, ?_⟩; replace BK178 := kx BK178 hb; replace BK181 := kx BK181 hb; replace HB := hs (hb2 HB GE178 GE181) hb
            (try clear hb)
            (try clear hk)
            (try clear hi)
            refine hK.out _ _ ⟨bc BK181 0, bc BK181 1, bc BK178 0, bc BK178 1, ((HB.out.cell (World.block_lt_of_cell? w _ hw182_0)).trans hw182_0), ((HB.out.cell (World.block_lt_of_cell? w _ hw182_1)).trans hw182_1)⟩ (fun hHeld => ?_); clear hK K; refine nm_ (some 41) ?_; refine done_ (done_of HT_.out (by kernel_rfl)) ?_
            try go_wp2
            go_ret3
            exact ⟨by rfl, hb2 HB GE178 GE181⟩
           ·replace c18 := Bool.eq_false_iff.mpr c18; subst c18; have H1 : (cross_First.l1 k2 l1 x20_1 (wrap64 (x10_2 + 1)) l0_1 (l0_1.length : Int) x20_1 a0_0 l0_1 ((rd_T62 l0_1 x20_1).f0) ((rd_T62 l0_1 x20_1).f1)) = some (r1, r2, r3) := by rw [if_neg (show ¬ (false = true) by decide)] at H; exact H
            clear H; have H := H1; clear H1; have H' := Aside0.mk H; clear H; have hnb23 := NB178_181.out; have hnc23 := NB181_178.out; have hcz24_0 : wr.cell? ⟨gb178, 0, none⟩ = some (.int .i64 a0_0) := bc BK178 0; have hcz24_1 : wr.cell? ⟨gb178, 1, none⟩ = some (.slice (some ad180) l0_1.length c0_1) := bc BK178 1; have hfz24_0 := blk_frozen BK178.out 0; have hfz24_1 := blk_frozen BK178.out 1
            try go_wp2
            replace BK178 := bd BK178; replace BK181 := bd BK181; replace HB := Aside0.mk (below_drew1 HB.out); have p182 : 0 ≤ (x10_2 : Int) := of_decide_eq_true (by first | (with_reducible assumption) | assumption); have q182 : x10_2 < (l0_1.length : Int) := of_decide_eq_true (by first | (with_reducible assumption) | assumption); obtain ⟨ad182, e182, hx182_0, hx182_1⟩ := at_T62 HR0_1.out x10_2 p182 q182; have hw182_1 := hx182_1; have hw182_0 := hx182_0; obtain rfl : ad180 = ad182 := (by injection e182); replace hx182_0 := (HB.out.cell (World.block_lt_of_cell? w _ hx182_0)).trans hx182_0; replace hx182_1 := (HB.out.cell (World.block_lt_of_cell? w _ hx182_1)).trans hx182_1; replace p182 := eq_true p182; replace q182 := eq_true q182; refine start_ (n := 8) (S := fun w' => w'.cell? ⟨gb181, 0, none⟩ = some (.int .i64 ((rd_T62 l0_1 x20_1).f0)) ∧ w'.cell? ⟨gb181, 1, none⟩ = some (.int .i64 ((rd_T62 l0_1 x20_1).f1)) ∧ w'.cell? ⟨gb178, 0, none⟩ = some (.int .i64 a0_0) ∧ w'.cell? ⟨gb178, 1, none⟩ = some (.slice (some ad180) l0_1.length c0_1) ∧ w'.cell? (ad180.add ((x10_2).toNat * 2)) = some (.int .i64 ((rd_T62 l0_1 x10_2).f0)) ∧ w'.cell? ⟨(ad180.add ((x10_2).toNat * 2)).block, (ad180.add ((x10_2).toNat * 2)).off + 1, none⟩ = some (.int .i64 ((rd_T62 l0_1 x10_2).f1))) (ds := []) (pf 0 8) (by kernel_rfl) rfl rfl ⟨bc BK181 0, bc BK181 1, bc BK178 0, bc BK178 1, ((HB.out.cell (World.block_lt_of_cell? w _ hw182_0)).trans hw182_0), ((HB.out.cell (World.block_lt_of_cell? w _ hw182_1)).trans hw182_1)⟩ (fun hHeld => ?_); refine with_tabW cross_First.tab10 cross_First.bits10 (fun HT_ HW_ => ?_)
            generalize wr.drew = w25 at BK178 BK181 HB hx182_0 hx182_1 hHeld ⊢; refine pu_ 1 (some 35) #[F_,T_,F_,F_,F_,F_,F_,F_] HT_ ?_; refine pu_ 3 (some 37) #[F_,T_,F_,T_,F_,F_,F_,F_] HT_ ?_; refine pu_ 6 (some 40) #[F_,T_,F_,T_,F_,F_,T_,F_] HT_ ?_; refine tk6_ 0 (some 34) #[T_,T_,F_,T_,F_,F_,T_,F_] HT_ HW_ hHeld ?_; refine tk6_ 2 (some 36) #[T_,T_,T_,T_,F_,F_,T_,F_] HT_ HW_ hHeld ?_; refine pu_ 4 (some 38) #[T_,T_,T_,T_,T_,F_,T_,F_] HT_ ?_; refine tk6_ 5 (some 39) (pf 7 8) HT_ HW_ hHeld ?_; refine on_ 7 (some 41) (pf 8 8) HT_ (fun K hK => ?_); refine gs_ Try.func45 #[.agg #[.int .i64 ((rd_T62 l0_1 x20_1).f0), .int .i64 ((rd_T62 l0_1 x20_1).f1)], .agg #[.int .i64 ((rd_T62 l0_1 x10_2).f0), .int .i64 ((rd_T62 l0_1 x10_2).f1)], .slice A1 l1.length c1] ?_
            with_reducible refine (cross_wrong.calls k2 ((rd_T62 l0_1 x20_1).f0) ((rd_T62 l0_1 x20_1).f1) ((rd_T62 l0_1 x10_2).f0) ((rd_T62 l0_1 x10_2).f1) _ _ l1 false _ ?side1 ?side2 A17.out).mono ?_
            (case side1 => repeat (first | exact (Kd.C_below HR1.out HB.out) | (with_reducible refine Kd.C_alloc ?_ _) | (with_reducible refine Kd.C_drewN ?_ _) | (with_reducible refine Kd.C_drew ?_)))
            (case side2 => exact HC1.out)
            rintro e w26 ⟨rfl, hb⟩; refine ⟨_, rfl, ?_⟩; replace BK178 := kx BK178 hb; replace BK181 := kx BK181 hb; replace HB := hs (hb2 HB GE178 GE181) hb
            (try clear hb)
            (try clear hk)
            (try clear hi)
            refine hK.out _ _ ⟨bc BK181 0, bc BK181 1, bc BK178 0, bc BK178 1, ((HB.out.cell (World.block_lt_of_cell? w _ hw182_0)).trans hw182_0), ((HB.out.cell (World.block_lt_of_cell? w _ hw182_1)).trans hw182_1)⟩ (fun hHeld => ?_); clear hK K; refine nm_ (some 41) ?_; refine done_ (done_of HT_.out (by kernel_rfl)) ?_
            try go_wp2
            go_roundg k2
            case measure => have := HK1.out; have := HK2.out; omega
            case rel => exact ⟨(wrap64 (x10_2 + 1)), (by first | rfl | (simp; done) | (simp [*]; done)), H', ⟨by have := HK1.out; have := HK2.out; omega⟩, ⟨bx BK178⟩, ⟨bx BK181⟩, ⟨hb2 HB GE178 GE181⟩⟩
          ·rw [if_neg c16] at H; exact absurd H (by simp)
         ·rw [if_neg c15] at H; have c15b0 : decide (x10_2 < (l0_1.length : Int)) = false := decide_eq_false c15; clear c15; have H' := Aside0.mk H; clear H; have hnb27 := NB178_181.out; have hnc27 := NB181_178.out; have hcz28_0 : wr.cell? ⟨gb178, 0, none⟩ = some (.int .i64 a0_0) := bc BK178 0; have hcz28_1 : wr.cell? ⟨gb178, 1, none⟩ = some (.slice (some ad180) l0_1.length c0_1) := bc BK178 1; have hfz28_0 := blk_frozen BK178.out 0; have hfz28_1 := blk_frozen BK178.out 1
          go_wp2
          go_roundg k2
          case measure => have := HK1.out; have := HK2.out; omega
          case rel => exact ⟨(wrap64 (x20_1 + 1)), (by first | rfl | (simp; done) | (simp [*]; done)), H', ⟨by have := HK1.out; have := HK2.out; omega⟩, ⟨bx BK178⟩, ⟨hb2 HB GE178 GE181⟩⟩
      ·rw [if_neg c11] at H; exact absurd H (by simp)
     ·rw [if_neg c10] at H; exact absurd H (by simp)
    ·rw [if_neg c9] at H; have c9b0 : decide (x20_1 < (l0_1.length : Int)) = false := decide_eq_false c9; clear c9; simp only [Option.some.injEq, Prod.mk.injEq] at H; obtain ⟨rfl, rfl, rfl⟩ := H
     go_wp2
     go_ret3
     exact ⟨by rfl, hb1 HB GE178⟩
 ·rw [if_neg c4] at H; have c4b0 : (t179 == 0) = false := beq_eq_false_iff_ne.mpr c4; have c4b1 : (t179 != 0) = true := bne_iff_ne.mpr c4; simp only [Option.some.injEq, Prod.mk.injEq] at H; obtain ⟨rfl, rfl, rfl⟩ := H
  go_enter Try.func21, Try.ntmps21
  go_wp2_with (first | ((with_reducible refine gate_dst (N := 2) rfl ?_); refine be_ 2 #[.int .i64 a0_0, .slice A0_1 l0_1.length c0_1] 31 ?_; intro gb178 hg w29 hbox hb; have BK178 := Aside0.mk (hbox); have GW178 := wq (hb0 HB) hg; have GE178 := wq (hb0 HB) hg; replace HB := hs (hb0 HB) hb; clear hb hbox hg; have hcz30_0 : w29.cell? ⟨gb178, 0, none⟩ = some (.int .i64 a0_0) := bc BK178 0; have hcz30_1 : w29.cell? ⟨gb178, 1, none⟩ = some (.slice A0_1 l0_1.length c0_1) := bc BK178 1; have hfz30_0 := blk_frozen BK178.out 0; have hfz30_1 := blk_frozen BK178.out 1) | ((with_reducible refine gate_callee (f := 44) rfl ?_); refine gl_ (some 13) Try.func44 #[.agg #[.int .i64 a0_0, .slice A0_1 l0_1.length c0_1], .slice A1 l1.length c1] ?_; (with_reducible refine (cross_drawn.calls k a0_0 _ _ l0_1 _ _ l1 t179 _ ?side1 ?side2 ?side3 ?side4 A3.out).mono ?_); (case side1 => repeat (first | exact (Kd.C_below HR0_1.out HB.out) | (with_reducible refine Kd.C_alloc ?_ _) | (with_reducible refine Kd.C_drewN ?_ _) | (with_reducible refine Kd.C_drew ?_))); (case side2 => exact HC0_1.out); (case side3 => repeat (first | exact (Kd.C_below HR1.out HB.out) | (with_reducible refine Kd.C_alloc ?_ _) | (with_reducible refine Kd.C_drewN ?_ _) | (with_reducible refine Kd.C_drew ?_))); (case side4 => exact HC1.out); rintro e w31 ⟨rfl, hb⟩; refine ⟨_, rfl, ?_⟩; replace BK178 := kx BK178 hb; replace HB := hs (hb1 HB GE178) hb; (try clear hb); (try clear hb2); (try clear hk); (try clear hi)))
  go_ret3
  exact ⟨by rfl, hb1 HB GE178⟩

end Go.Proofs.Ythfoliejhdpbaaa.PCroA
