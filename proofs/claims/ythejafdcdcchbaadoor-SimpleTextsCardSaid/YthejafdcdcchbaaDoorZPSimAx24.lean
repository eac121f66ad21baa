-- PRINTED by print.py (a twelfth state) out of the translation. Not trusted: Lean checks it.
import Derived.Test.YthejafdcdcchbaaDoorZPSimAx0
import Derived.Test.YthejafdcdcchbaaDoorZPSimAx17
namespace Go.Proofs.YthejafdcdcchbaaDoor.PSimA
open Go.RowKit Go.Proofs.YthejafdcdcchbaaDoorW.PrintWords Go.Proofs.YthejafdcdcchbaaDoorW.PrintLast Go.Proofs.YthejafdcdcchbaaDoorW.PrintMore
open Go.Proofs.YthejafdcdcchbaaDoorX
attribute [local go_sem] max2_int min2_int max_two min_two max_three min_three max_four min_four   -- for this text's walks alone
set_option linter.unusedVariables false
set_option linter.unusedSimpArgs false

/-! ### tangramref03_Find: function 27 -/
def tangramref03_Find.l0 : Nat → Int → Int → List (S42) → Int → Int → Option (Int)
 | 0, _, _, _, _, _ => none
 | k + 1, x6, x224000, x224001, x225000, x225001 => if x6 < (x224001.length : Int) then (if 0 ≤ x6 then (if ((rd_T42 x224001 x6).f0) = x225000 then (if ((rd_T42 x224001 x6).f1) = x225001 then (some x6) else (tangramref03_Find.l0 k (wrap64 (x6 + 1)) x224000 x224001 x225000 x225001)) else (tangramref03_Find.l0 k (wrap64 (x6 + 1)) x224000 x224001 x225000 x225001)) else (none)) else (some (-1))
def tangramref03_Find.f (k : Nat) (a0_0 : Int) (l0_1 : List (S42)) (a1_0 : Int) (a1_1 : Int) : Option (Int) := (tangramref03_Valid.f k a0_0 l0_1).bind fun t225 => (if t225 = true then (tangramref03_Find.l0 k 0 a0_0 l0_1 a1_0 a1_1) else (some (-1)))
theorem tangramref03_Find.mono_l : ∀ k, (∀ y0 y1 y2 y3 y4, LeO (tangramref03_Find.l0 k y0 y1 y2 y3 y4) (tangramref03_Find.l0 (k + 1) y0 y1 y2 y3 y4))
 | 0 => fun _ _ _ _ _ r h => by simp [tangramref03_Find.l0] at h
 | k + 1 => by
  have ih0 := tangramref03_Find.mono_l k
  ·intro y0 y1 y2 y3 y4
   unfold tangramref03_Find.l0
   repeat' first
   | (with_reducible exact ih0 _ _ _ _ _)
   | (with_reducible exact tangramref03_Valid.mono _ _ _)
   | (with_reducible exact LeO.refl _)
   | (with_reducible exact LeO.none _)
   | (with_reducible refine LeO.ite ?_ ?_)
   | (with_reducible refine LeO.bind ?_ (fun _ => ?_))
   | exact ih0 _ _ _ _ _
   | exact tangramref03_Valid.mono _ _ _
   | exact LeO.none _
   | refine LeO.ite ?_ ?_
   | refine LeO.bind ?_ (fun _ => ?_)
theorem tangramref03_Find.mono : ∀ a0 a1 a2 a3 k, LeO (tangramref03_Find.f k a0 a1 a2 a3) (tangramref03_Find.f (k + 1) a0 a1 a2 a3) := by
 intro a0 a1 a2 a3 k; have ih0 := tangramref03_Find.mono_l k
 unfold tangramref03_Find.f
 repeat' first
   | (with_reducible exact ih0 _ _ _ _ _)
   | (with_reducible exact tangramref03_Valid.mono _ _ _)
   | (with_reducible exact LeO.refl _)
   | (with_reducible exact LeO.none _)
   | (with_reducible refine LeO.ite ?_ ?_)
   | (with_reducible refine LeO.bind ?_ (fun _ => ?_))
   | exact ih0 _ _ _ _ _
   | exact tangramref03_Valid.mono _ _ _
   | exact LeO.none _
   | refine LeO.ite ?_ ?_
   | refine LeO.bind ?_ (fun _ => ?_)
set_option maxHeartbeats 8000000 in
set_option maxRecDepth 100000 in
theorem tangramref03_Find.calls (k : Nat) (a0_0 : Int) (A0_1 : Option Addr) (c0_1 : Nat) (l0_1 : List (S42)) (a1_0 : Int) (a1_1 : Int) (r : Int) (w : World) (hr0_1 : Kd.C k42 w A0_1 l0_1.length l0_1) (hc0_1 : l0_1.length ≤ c0_1) (h : tangramref03_Find.f k a0_0 l0_1 a1_0 a1_1 = some r) :
  Calls Tryd.prog 27 #[.agg #[.int .i64 a0_0, .slice A0_1 l0_1.length c0_1], .agg #[.int .i64 a1_0, .int .i64 a1_1]] w fun e w' => e = .returned (.int .i64 r) ∧ Below w.heap.size w w' := by
 have hu26 := Tryd.underlying26; have hu42 := Tryd.underlying42; have HR0_1 := Aside0.mk hr0_1; have HC0_1 := Aside0.mk hc0_1; clear hr0_1 hc0_1; have HB := Aside0.mk (Below.refl w.heap.size w); have H : ((tangramref03_Valid.f k a0_0 l0_1).bind fun t225 => (if t225 = true then (tangramref03_Find.l0 k 0 a0_0 l0_1 a1_0 a1_1) else (some (-1)))) = some r := h; clear h; replace H := Option.bind_eq_some_iff.mp H; obtain ⟨t225, A30, H⟩ := H; (try dsimp only at H); have A3 := Aside0.mk A30; clear A30
 by_cases c4 : t225 = true
 ·subst c4; rw [if_pos rfl] at H; have H' := Aside0.mk H; clear H
  go_enter Tryd.func27, Tryd.ntmps27
  go_wp2_with (first | ((with_reducible refine gate_dst (N := 2) rfl ?_); refine be_ 2 #[.int .i64 a0_0, .slice A0_1 l0_1.length c0_1] 26 ?_; intro gb223 hg w5 hbox hb; have BK223 := Aside0.mk (hbox); have GW223 := wq (hb0 HB) hg; have GE223 := wq (hb0 HB) hg; replace HB := hs (hb0 HB) hb; clear hb hbox hg) | ((with_reducible refine gate_dst (N := 3) rfl ?_); refine be_ 3 #[.int .i64 a1_0, .int .i64 a1_1] 42 ?_; intro gb224 hg w6 hbox hb; have BK224 := Aside0.mk (hbox); have GW224 := wq (hb1 HB GE223) hg; have GE224 := wq (hb1 HB GE223) hg; replace HB := hs (hb1 HB GE223) hb; have NB223_224 := lx BK223 hg; have NB224_223 := gx BK223 hg; replace BK223 := kx BK223 hb; clear hb hbox hg; have hnb7 := NB223_224.out; have hnc7 := NB224_223.out; have hcz8_0 : w6.cell? ⟨gb223, 0, none⟩ = some (.int .i64 a0_0) := bc BK223 0; have hcz8_1 : w6.cell? ⟨gb223, 1, none⟩ = some (.slice A0_1 l0_1.length c0_1) := bc BK223 1; have hfz8_0 := blk_frozen BK223.out 0; have hfz8_1 := blk_frozen BK223.out 1) | (go_at_call 25; (with_reducible refine (tangramref03_Valid.calls k a0_0 _ _ l0_1 true _ ?side1 ?side2 A3.out).mono ?_); (case side1 => repeat (first | exact (Kd.C_below HR0_1.out HB.out) | (with_reducible refine Kd.C_alloc ?_ _) | (with_reducible refine Kd.C_drewN ?_ _) | (with_reducible refine Kd.C_drew ?_))); (case side2 => exact HC0_1.out); rintro e w9 ⟨rfl, hb⟩; replace BK223 := kx BK223 hb; replace BK224 := kx BK224 hb; replace HB := hs (hb2 HB GE223 GE224) hb; (try clear hb); (try clear hb2); (try clear hk); (try clear hi)))
  repeat (go_quiet (first | ((with_reducible refine gate_dst (N := 2) rfl ?_); refine be_ 2 #[.int .i64 a0_0, .slice A0_1 l0_1.length c0_1] 26 ?_; intro gb223 hg w5 hbox hb; have BK223 := Aside0.mk (hbox); have GW223 := wq (hb0 HB) hg; have GE223 := wq (hb0 HB) hg; replace HB := hs (hb0 HB) hb; clear hb hbox hg) | ((with_reducible refine gate_dst (N := 3) rfl ?_); refine be_ 3 #[.int .i64 a1_0, .int .i64 a1_1] 42 ?_; intro gb224 hg w6 hbox hb; have BK224 := Aside0.mk (hbox); have GW224 := wq (hb1 HB GE223) hg; have GE224 := wq (hb1 HB GE223) hg; replace HB := hs (hb1 HB GE223) hb; have NB223_224 := lx BK223 hg; have NB224_223 := gx BK223 hg; replace BK223 := kx BK223 hb; clear hb hbox hg; have hnb7 := NB223_224.out; have hnc7 := NB224_223.out; have hcz8_0 : w6.cell? ⟨gb223, 0, none⟩ = some (.int .i64 a0_0) := bc BK223 0; have hcz8_1 : w6.cell? ⟨gb223, 1, none⟩ = some (.slice A0_1 l0_1.length c0_1) := bc BK223 1; have hfz8_0 := blk_frozen BK223.out 0; have hfz8_1 := blk_frozen BK223.out 1) | (go_at_call 25; (with_reducible refine (tangramref03_Valid.calls k a0_0 _ _ l0_1 true _ ?side1 ?side2 A3.out).mono ?_); (case side1 => repeat (first | exact (Kd.C_below HR0_1.out HB.out) | (with_reducible refine Kd.C_alloc ?_ _) | (with_reducible refine Kd.C_drewN ?_ _) | (with_reducible refine Kd.C_drew ?_))); (case side2 => exact HC0_1.out); rintro e w9 ⟨rfl, hb⟩; replace BK223 := kx BK223 hb; replace BK224 := kx BK224 hb; replace HB := hs (hb2 HB GE223 GE224) hb; (try clear hb); (try clear hb2); (try clear hk); (try clear hi))); try go_wp2_with (first | ((with_reducible refine gate_dst (N := 2) rfl ?_); refine be_ 2 #[.int .i64 a0_0, .slice A0_1 l0_1.length c0_1] 26 ?_; intro gb223 hg w5 hbox hb; have BK223 := Aside0.mk (hbox); have GW223 := wq (hb0 HB) hg; have GE223 := wq (hb0 HB) hg; replace HB := hs (hb0 HB) hb; clear hb hbox hg) | ((with_reducible refine gate_dst (N := 3) rfl ?_); refine be_ 3 #[.int .i64 a1_0, .int .i64 a1_1] 42 ?_; intro gb224 hg w6 hbox hb; have BK224 := Aside0.mk (hbox); have GW224 := wq (hb1 HB GE223) hg; have GE224 := wq (hb1 HB GE223) hg; replace HB := hs (hb1 HB GE223) hb; have NB223_224 := lx BK223 hg; have NB224_223 := gx BK223 hg; replace BK223 := kx BK223 hb; clear hb hbox hg; have hnb7 := NB223_224.out; have hnc7 := NB224_223.out; have hcz8_0 : w6.cell? ⟨gb223, 0, none⟩ = some (.int .i64 a0_0) := bc BK223 0; have hcz8_1 : w6.cell? ⟨gb223, 1, none⟩ = some (.slice A0_1 l0_1.length c0_1) := bc BK223 1; have hfz8_0 := blk_frozen BK223.out 0; have hfz8_1 := blk_frozen BK223.out 1) | (go_at_call 25; (with_reducible refine (tangramref03_Valid.calls k a0_0 _ _ l0_1 true _ ?side1 ?side2 A3.out).mono ?_); (case side1 => repeat (first | exact (Kd.C_below HR0_1.out HB.out) | (with_reducible refine Kd.C_alloc ?_ _) | (with_reducible refine Kd.C_drewN ?_ _) | (with_reducible refine Kd.C_drew ?_))); (case side2 => exact HC0_1.out); rintro e w9 ⟨rfl, hb⟩; replace BK223 := kx BK223 hb; replace BK224 := kx BK224 hb; replace HB := hs (hb2 HB GE223 GE224) hb; (try clear hb); (try clear hb2); (try clear hk); (try clear hi))))
  go_loopg [6] k (fun kq v6 w' => ∃ (x6_1 : Int), v6 = .int .i64 x6_1 ∧ Aside0 (tangramref03_Find.l0 kq x6_1 a0_0 l0_1 a1_0 a1_1 = some r) ∧ Aside0 (kq ≤ k) ∧ Aside0 (w'.heap[gb223]? = some (.cells #[.int .i64 a0_0, (.slice A0_1 l0_1.length c0_1)] 26 (0, 0))) ∧ Aside0 (w'.heap[gb224]? = some (.cells #[.int .i64 a1_0, .int .i64 a1_1] 42 (0, 0))) ∧ Aside0 (Below w.heap.size w w'))
  case atStart => exact ⟨(0), (by first | rfl | (simp; done) | (simp [*]; done)), H', ⟨Nat.le_refl _⟩, ⟨bx BK223⟩, ⟨bx BK224⟩, ⟨hb2 HB GE223 GE224⟩⟩
  case round =>
   clear H'
   try clear c2
   try clear p2
   try clear c4
   try clear c7
   try clear hcz8_0
   try clear hcz8_1
   try clear hfz8_0
   try clear hfz8_1
   obtain ⟨x6_1, rfl, HA, HK1, BK223, BK224, HB⟩ := hrel
   cases gk with
   | zero => exact absurd HA.out (by simp [tangramref03_Find.l0])
   | succ k1 =>
    have H := HA.out; clear HA; simp only [tangramref03_Find.l0] at H
    by_cases c10 : x6_1 < (l0_1.length : Int)
    ·rw [if_pos c10] at H; have c10b0 : decide (x6_1 < (l0_1.length : Int)) = true := decide_eq_true c10; clear c10
     by_cases c11 : 0 ≤ x6_1
     ·rw [if_pos c11] at H; have c11b0 : decide (0 ≤ x6_1) = true := decide_eq_true c11; clear c11
      by_cases c12 : ((rd_T42 l0_1 x6_1).f0) = a1_0
      ·rw [if_pos c12] at H; have c12b0 : (((rd_T42 l0_1 x6_1).f0) == a1_0) = true := beq_iff_eq.mpr c12; have c12b1 : (((rd_T42 l0_1 x6_1).f0) != a1_0) = false := bne_eq_false_iff_eq.mpr c12; clear c12
       by_cases c13 : ((rd_T42 l0_1 x6_1).f1) = a1_1
       ·rw [if_pos c13] at H; have c13b0 : (((rd_T42 l0_1 x6_1).f1) == a1_1) = true := beq_iff_eq.mpr c13; have c13b1 : (((rd_T42 l0_1 x6_1).f1) != a1_1) = false := bne_eq_false_iff_eq.mpr c13; clear c13; obtain rfl := Option.some.inj H; have hnb14 := NB223_224.out; have hnc14 := NB224_223.out; have hcz15_0 : wr.cell? ⟨gb223, 0, none⟩ = some (.int .i64 a0_0) := bc BK223 0; have hcz15_1 : wr.cell? ⟨gb223, 1, none⟩ = some (.slice A0_1 l0_1.length c0_1) := bc BK223 1; have hfz15_0 := blk_frozen BK223.out 0; have hfz15_1 := blk_frozen BK223.out 1; have p226 : 0 ≤ (x6_1 : Int) := of_decide_eq_true (by first | (with_reducible assumption) | assumption); have q226 : x6_1 < (l0_1.length : Int) := of_decide_eq_true (by first | (with_reducible assumption) | assumption); obtain ⟨ad226, e226, hx226_0, hx226_1⟩ := at_T42 HR0_1.out x6_1 p226 q226
        cases e226
        replace hx226_0 := (HB.out.cell (World.block_lt_of_cell? w _ hx226_0)).trans hx226_0; replace hx226_1 := (HB.out.cell (World.block_lt_of_cell? w _ hx226_1)).trans hx226_1; replace p226 := eq_true p226; replace q226 := eq_true q226; have hcz16_0 : wr.cell? ⟨gb224, 0, none⟩ = some (.int .i64 a1_0) := bc BK224 0; have hcz16_1 : wr.cell? ⟨gb224, 1, none⟩ = some (.int .i64 a1_1) := bc BK224 1; have hfz16_0 := blk_frozen BK224.out 0; have hfz16_1 := blk_frozen BK224.out 1; have p227 : 0 ≤ (x6_1 : Int) := of_decide_eq_true (by first | (with_reducible assumption) | assumption); have q227 : x6_1 < (l0_1.length : Int) := of_decide_eq_true (by first | (with_reducible assumption) | assumption); obtain ⟨ad227, e227, hx227_0, hx227_1⟩ := at_T42 HR0_1.out x6_1 p227 q227; obtain rfl : ad226 = ad227 := (by injection e227); replace hx227_0 := (HB.out.cell (World.block_lt_of_cell? w _ hx227_0)).trans hx227_0; replace hx227_1 := (HB.out.cell (World.block_lt_of_cell? w _ hx227_1)).trans hx227_1; replace p227 := eq_true p227; replace q227 := eq_true q227
        go_wp2
        repeat (go_quiet (fail); try go_wp2)
        go_ret
        exact ⟨by first | rfl | (simp [errW_none, errW_some] <;> rfl) | (simp [*, errW_none, errW_some] <;> rfl), hb2 HB GE223 GE224⟩
       ·rw [if_neg c13] at H; have c13b0 : (((rd_T42 l0_1 x6_1).f1) == a1_1) = false := beq_eq_false_iff_ne.mpr c13; have c13b1 : (((rd_T42 l0_1 x6_1).f1) != a1_1) = true := bne_iff_ne.mpr c13; have H' := Aside0.mk H; clear H; have hnb17 := NB223_224.out; have hnc17 := NB224_223.out; have hcz18_0 : wr.cell? ⟨gb223, 0, none⟩ = some (.int .i64 a0_0) := bc BK223 0; have hcz18_1 : wr.cell? ⟨gb223, 1, none⟩ = some (.slice A0_1 l0_1.length c0_1) := bc BK223 1; have hfz18_0 := blk_frozen BK223.out 0; have hfz18_1 := blk_frozen BK223.out 1; have p226 : 0 ≤ (x6_1 : Int) := of_decide_eq_true (by first | (with_reducible assumption) | assumption); have q226 : x6_1 < (l0_1.length : Int) := of_decide_eq_true (by first | (with_reducible assumption) | assumption); obtain ⟨ad226, e226, hx226_0, hx226_1⟩ := at_T42 HR0_1.out x6_1 p226 q226
        cases e226
        replace hx226_0 := (HB.out.cell (World.block_lt_of_cell? w _ hx226_0)).trans hx226_0; replace hx226_1 := (HB.out.cell (World.block_lt_of_cell? w _ hx226_1)).trans hx226_1; replace p226 := eq_true p226; replace q226 := eq_true q226; have hcz19_0 : wr.cell? ⟨gb224, 0, none⟩ = some (.int .i64 a1_0) := bc BK224 0; have hcz19_1 : wr.cell? ⟨gb224, 1, none⟩ = some (.int .i64 a1_1) := bc BK224 1; have hfz19_0 := blk_frozen BK224.out 0; have hfz19_1 := blk_frozen BK224.out 1; have p227 : 0 ≤ (x6_1 : Int) := of_decide_eq_true (by first | (with_reducible assumption) | assumption); have q227 : x6_1 < (l0_1.length : Int) := of_decide_eq_true (by first | (with_reducible assumption) | assumption); obtain ⟨ad227, e227, hx227_0, hx227_1⟩ := at_T42 HR0_1.out x6_1 p227 q227; obtain rfl : ad226 = ad227 := (by injection e227); replace hx227_0 := (HB.out.cell (World.block_lt_of_cell? w _ hx227_0)).trans hx227_0; replace hx227_1 := (HB.out.cell (World.block_lt_of_cell? w _ hx227_1)).trans hx227_1; replace p227 := eq_true p227; replace q227 := eq_true q227
        go_wp2
        repeat (go_quiet (fail); try go_wp2)
        go_roundg k1
        case measure => have := HK1.out; omega
        case rel => exact ⟨(wrap64 (x6_1 + 1)), (by first | rfl | (simp; done) | (simp [*]; done)), H', ⟨by have := HK1.out; omega⟩, ⟨bx BK223⟩, ⟨bx BK224⟩, ⟨hb2 HB GE223 GE224⟩⟩
      ·rw [if_neg c12] at H; have c12b0 : (((rd_T42 l0_1 x6_1).f0) == a1_0) = false := beq_eq_false_iff_ne.mpr c12; have c12b1 : (((rd_T42 l0_1 x6_1).f0) != a1_0) = true := bne_iff_ne.mpr c12; have H' := Aside0.mk H; clear H; have hnb20 := NB223_224.out; have hnc20 := NB224_223.out; have hcz21_0 : wr.cell? ⟨gb223, 0, none⟩ = some (.int .i64 a0_0) := bc BK223 0; have hcz21_1 : wr.cell? ⟨gb223, 1, none⟩ = some (.slice A0_1 l0_1.length c0_1) := bc BK223 1; have hfz21_0 := blk_frozen BK223.out 0; have hfz21_1 := blk_frozen BK223.out 1; have p226 : 0 ≤ (x6_1 : Int) := of_decide_eq_true (by first | (with_reducible assumption) | assumption); have q226 : x6_1 < (l0_1.length : Int) := of_decide_eq_true (by first | (with_reducible assumption) | assumption); obtain ⟨ad226, e226, hx226_0, hx226_1⟩ := at_T42 HR0_1.out x6_1 p226 q226
       cases e226
       replace hx226_0 := (HB.out.cell (World.block_lt_of_cell? w _ hx226_0)).trans hx226_0; replace hx226_1 := (HB.out.cell (World.block_lt_of_cell? w _ hx226_1)).trans hx226_1; replace p226 := eq_true p226; replace q226 := eq_true q226; have hcz22_0 : wr.cell? ⟨gb224, 0, none⟩ = some (.int .i64 a1_0) := bc BK224 0; have hcz22_1 : wr.cell? ⟨gb224, 1, none⟩ = some (.int .i64 a1_1) := bc BK224 1; have hfz22_0 := blk_frozen BK224.out 0; have hfz22_1 := blk_frozen BK224.out 1
       go_wp2
       repeat (go_quiet (fail); try go_wp2)
       go_roundg k1
       case measure => have := HK1.out; omega
       case rel => exact ⟨(wrap64 (x6_1 + 1)), (by first | rfl | (simp; done) | (simp [*]; done)), H', ⟨by have := HK1.out; omega⟩, ⟨bx BK223⟩, ⟨bx BK224⟩, ⟨hb2 HB GE223 GE224⟩⟩
     ·rw [if_neg c11] at H; exact absurd H (by simp)
    ·rw [if_neg c10] at H; have c10b0 : decide (x6_1 < (l0_1.length : Int)) = false := decide_eq_false c10; clear c10; obtain rfl := Option.some.inj H; have hnb23 := NB223_224.out; have hnc23 := NB224_223.out; have hcz24_0 : wr.cell? ⟨gb223, 0, none⟩ = some (.int .i64 a0_0) := bc BK223 0; have hcz24_1 : wr.cell? ⟨gb223, 1, none⟩ = some (.slice A0_1 l0_1.length c0_1) := bc BK223 1; have hfz24_0 := blk_frozen BK223.out 0; have hfz24_1 := blk_frozen BK223.out 1
     go_wp2
     repeat (go_quiet (fail); try go_wp2)
     go_ret
     exact ⟨by first | rfl | (simp [errW_none, errW_some] <;> rfl) | (simp [*, errW_none, errW_some] <;> rfl), hb2 HB GE223 GE224⟩
 ·replace c4 := Bool.eq_false_iff.mpr c4; subst c4; rw [if_neg (show ¬ (false = true) by decide)] at H; obtain rfl := Option.some.inj H
  go_enter Tryd.func27, Tryd.ntmps27
  go_wp2_with (first | ((with_reducible refine gate_dst (N := 2) rfl ?_); refine be_ 2 #[.int .i64 a0_0, .slice A0_1 l0_1.length c0_1] 26 ?_; intro gb223 hg w25 hbox hb; have BK223 := Aside0.mk (hbox); have GW223 := wq (hb0 HB) hg; have GE223 := wq (hb0 HB) hg; replace HB := hs (hb0 HB) hb; clear hb hbox hg) | ((with_reducible refine gate_dst (N := 3) rfl ?_); refine be_ 3 #[.int .i64 a1_0, .int .i64 a1_1] 42 ?_; intro gb224 hg w26 hbox hb; have BK224 := Aside0.mk (hbox); have GW224 := wq (hb1 HB GE223) hg; have GE224 := wq (hb1 HB GE223) hg; replace HB := hs (hb1 HB GE223) hb; have NB223_224 := lx BK223 hg; have NB224_223 := gx BK223 hg; replace BK223 := kx BK223 hb; clear hb hbox hg; have hnb27 := NB223_224.out; have hnc27 := NB224_223.out; have hcz28_0 : w26.cell? ⟨gb223, 0, none⟩ = some (.int .i64 a0_0) := bc BK223 0; have hcz28_1 : w26.cell? ⟨gb223, 1, none⟩ = some (.slice A0_1 l0_1.length c0_1) := bc BK223 1; have hfz28_0 := blk_frozen BK223.out 0; have hfz28_1 := blk_frozen BK223.out 1) | (go_at_call 25; (with_reducible refine (tangramref03_Valid.calls k a0_0 _ _ l0_1 false _ ?side1 ?side2 A3.out).mono ?_); (case side1 => repeat (first | exact (Kd.C_below HR0_1.out HB.out) | (with_reducible refine Kd.C_alloc ?_ _) | (with_reducible refine Kd.C_drewN ?_ _) | (with_reducible refine Kd.C_drew ?_))); (case side2 => exact HC0_1.out); rintro e w29 ⟨rfl, hb⟩; replace BK223 := kx BK223 hb; replace BK224 := kx BK224 hb; replace HB := hs (hb2 HB GE223 GE224) hb; (try clear hb); (try clear hb2); (try clear hk); (try clear hi)))
  repeat (go_quiet (first | ((with_reducible refine gate_dst (N := 2) rfl ?_); refine be_ 2 #[.int .i64 a0_0, .slice A0_1 l0_1.length c0_1] 26 ?_; intro gb223 hg w25 hbox hb; have BK223 := Aside0.mk (hbox); have GW223 := wq (hb0 HB) hg; have GE223 := wq (hb0 HB) hg; replace HB := hs (hb0 HB) hb; clear hb hbox hg) | ((with_reducible refine gate_dst (N := 3) rfl ?_); refine be_ 3 #[.int .i64 a1_0, .int .i64 a1_1] 42 ?_; intro gb224 hg w26 hbox hb; have BK224 := Aside0.mk (hbox); have GW224 := wq (hb1 HB GE223) hg; have GE224 := wq (hb1 HB GE223) hg; replace HB := hs (hb1 HB GE223) hb; have NB223_224 := lx BK223 hg; have NB224_223 := gx BK223 hg; replace BK223 := kx BK223 hb; clear hb hbox hg; have hnb27 := NB223_224.out; have hnc27 := NB224_223.out; have hcz28_0 : w26.cell? ⟨gb223, 0, none⟩ = some (.int .i64 a0_0) := bc BK223 0; have hcz28_1 : w26.cell? ⟨gb223, 1, none⟩ = some (.slice A0_1 l0_1.length c0_1) := bc BK223 1; have hfz28_0 := blk_frozen BK223.out 0; have hfz28_1 := blk_frozen BK223.out 1) | (go_at_call 25; (with_reducible refine (tangramref03_Valid.calls k a0_0 _ _ l0_1 false _ ?side1 ?side2 A3.out).mono ?_); (case side1 => repeat (first | exact (Kd.C_below HR0_1.out HB.out) | (with_reducible refine Kd.C_alloc ?_ _) | (with_reducible refine Kd.C_drewN ?_ _) | (with_reducible refine Kd.C_drew ?_))); (case side2 => exact HC0_1.out); rintro e w29 ⟨rfl, hb⟩; replace BK223 := kx BK223 hb; replace BK224 := kx BK224 hb; replace HB := hs (hb2 HB GE223 GE224) hb; (try clear hb); (try clear hb2); (try clear hk); (try clear hi))); try go_wp2_with (first | ((with_reducible refine gate_dst (N := 2) rfl ?_); refine be_ 2 #[.int .i64 a0_0, .slice A0_1 l0_1.length c0_1] 26 ?_; intro gb223 hg w25 hbox hb; have BK223 := Aside0.mk (hbox); have GW223 := wq (hb0 HB) hg; have GE223 := wq (hb0 HB) hg; replace HB := hs (hb0 HB) hb; clear hb hbox hg) | ((with_reducible refine gate_dst (N := 3) rfl ?_); refine be_ 3 #[.int .i64 a1_0, .int .i64 a1_1] 42 ?_; intro gb224 hg w26 hbox hb; have BK224 := Aside0.mk (hbox); have GW224 := wq (hb1 HB GE223) hg; have GE224 := wq (hb1 HB GE223) hg; replace HB := hs (hb1 HB GE223) hb; have NB223_224 := lx BK223 hg; have NB224_223 := gx BK223 hg; replace BK223 := kx BK223 hb; clear hb hbox hg; have hnb27 := NB223_224.out; have hnc27 := NB224_223.out; have hcz28_0 : w26.cell? ⟨gb223, 0, none⟩ = some (.int .i64 a0_0) := bc BK223 0; have hcz28_1 : w26.cell? ⟨gb223, 1, none⟩ = some (.slice A0_1 l0_1.length c0_1) := bc BK223 1; have hfz28_0 := blk_frozen BK223.out 0; have hfz28_1 := blk_frozen BK223.out 1) | (go_at_call 25; (with_reducible refine (tangramref03_Valid.calls k a0_0 _ _ l0_1 false _ ?side1 ?side2 A3.out).mono ?_); (case side1 => repeat (first | exact (Kd.C_below HR0_1.out HB.out) | (with_reducible refine Kd.C_alloc ?_ _) | (with_reducible refine Kd.C_drewN ?_ _) | (with_reducible refine Kd.C_drew ?_))); (case side2 => exact HC0_1.out); rintro e w29 ⟨rfl, hb⟩; replace BK223 := kx BK223 hb; replace BK224 := kx BK224 hb; replace HB := hs (hb2 HB GE223 GE224) hb; (try clear hb); (try clear hb2); (try clear hk); (try clear hi))))
  go_ret
  exact ⟨by first | rfl | (simp [errW_none, errW_some] <;> rfl) | (simp [*, errW_none, errW_some] <;> rfl), hb2 HB GE223 GE224⟩

end Go.Proofs.YthejafdcdcchbaaDoor.PSimA
