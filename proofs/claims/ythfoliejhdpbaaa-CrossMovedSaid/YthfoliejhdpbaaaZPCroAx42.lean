import Derived.Test.YthfoliejhdpbaaaZPCroAx0
import Derived.Test.YthfoliejhdpbaaaZPCroAx40
namespace Go.Proofs.Ythfoliejhdpbaaa.PCroA
open Go.RowKit Go.Proofs.YthfoliejhdpbaaaW.PrintWords Go.Proofs.YthfoliejhdpbaaaW.PrintLast Go.Proofs.YthfoliejhdpbaaaW.PrintMore
open Go.Proofs.YthfoliejhdpbaaaX
attribute [local go_sem] max2_int min2_int max_two min_two max_three min_three max_four min_four
set_option linter.unusedVariables false
set_option linter.unusedSimpArgs false

/-! ### tangramref26_Area: function 30 -/
mutual
def tangramref26_Area.j0 : Nat → List (S23) → Bool → Option (Int × Int)
 | 0, _, _ => none
 | k + 1, x0, x17 => if x17 = true then (some (0, 260)) else (tangramref26_Area.l0 k x0 0 0)
def tangramref26_Area.l0 : Nat → List (S23) → Int → Int → Option (Int × Int)
 | 0, _, _, _ => none
 | k + 1, x0, x4, x5 => if x5 < (x0.length : Int) then (if 0 ≤ x5 then (if (x0.length : Int) = 0 then (none) else (if 0 ≤ (Int.tmod (wrap64 (x5 + 1)) (x0.length : Int)) then (if (Int.tmod (wrap64 (x5 + 1)) (x0.length : Int)) < (x0.length : Int) then (tangramref26_Area.l0 k x0 (wrap64 ((wrap64 (x4 + (wrap64 (((rd_T23 x0 x5).f0) * ((rd_T23 x0 (Int.tmod (wrap64 (x5 + 1)) (x0.length : Int))).f1))))) - (wrap64 (((rd_T23 x0 (Int.tmod (wrap64 (x5 + 1)) (x0.length : Int))).f0) * ((rd_T23 x0 x5).f1))))) (wrap64 (x5 + 1))) else (none)) else (none))) else (none)) else (some (x4, 0))
end
def tangramref26_Area.f (k : Nat) (l0 : List (S23)) : Option (Int × Int) := if (l0.length : Int) > 4096 then (tangramref26_Area.j0 k l0 true) else ((tangramref26_Drawing.f k (l0.length : Int) l0).bind fun t453 => (tangramref26_Area.j0 k l0 (!t453)))
theorem tangramref26_Area.mono_l : ∀ k, (∀ y0 y1, LeO (tangramref26_Area.j0 k y0 y1) (tangramref26_Area.j0 (k + 1) y0 y1)) ∧ (∀ y0 y1 y2, LeO (tangramref26_Area.l0 k y0 y1 y2) (tangramref26_Area.l0 (k + 1) y0 y1 y2))
 | 0 => ⟨fun _ _ r h => by simp [tangramref26_Area.j0] at h, fun _ _ _ r h => by simp [tangramref26_Area.l0] at h⟩
 | k + 1 => by
  obtain ⟨ih0, ih1⟩ := tangramref26_Area.mono_l k; refine ⟨?_, ?_⟩
  ·intro y0 y1
   unfold tangramref26_Area.j0
   repeat' first
   | (with_reducible exact ih0 _ _)
   | (with_reducible exact ih1 _ _ _)
   | (with_reducible exact tangramref26_Drawing.mono _ _ _)
   | (with_reducible exact LeO.refl _)
   | (with_reducible exact LeO.none _)
   | (with_reducible refine LeO.ite ?_ ?_)
   | (with_reducible refine LeO.bind ?_ (fun _ => ?_))
   | exact LeO.none _
   | refine LeO.ite ?_ ?_
   | refine LeO.bind ?_ (fun _ => ?_)
  ·intro y0 y1 y2
   unfold tangramref26_Area.l0
   repeat' first
   | (with_reducible exact ih0 _ _)
   | (with_reducible exact ih1 _ _ _)
   | (with_reducible exact tangramref26_Drawing.mono _ _ _)
   | (with_reducible exact LeO.refl _)
   | (with_reducible exact LeO.none _)
   | (with_reducible refine LeO.ite ?_ ?_)
   | (with_reducible refine LeO.bind ?_ (fun _ => ?_))
   | exact LeO.none _
   | refine LeO.ite ?_ ?_
   | refine LeO.bind ?_ (fun _ => ?_)
theorem tangramref26_Area.mono : ∀ a0 k, LeO (tangramref26_Area.f k a0) (tangramref26_Area.f (k + 1) a0) := by
 intro a0 k; obtain ⟨ih0, ih1⟩ := tangramref26_Area.mono_l k
 unfold tangramref26_Area.f
 repeat' first
   | (with_reducible exact ih0 _ _)
   | (with_reducible exact ih1 _ _ _)
   | (with_reducible exact tangramref26_Drawing.mono _ _ _)
   | (with_reducible exact LeO.refl _)
   | (with_reducible exact LeO.none _)
   | (with_reducible refine LeO.ite ?_ ?_)
   | (with_reducible refine LeO.bind ?_ (fun _ => ?_))
   | exact LeO.none _
   | refine LeO.ite ?_ ?_
   | refine LeO.bind ?_ (fun _ => ?_)
set_option maxHeartbeats 8000000 in
set_option maxRecDepth 100000 in
theorem tangramref26_Area.calls (k : Nat) (A0 : Option Addr) (c0 : Nat) (l0 : List (S23)) (r1 : Int) (r2 : Int) (w : World) (hr0 : Kd.C k23 w A0 l0.length l0) (hc0 : l0.length ≤ c0) (h : tangramref26_Area.f k l0 = some (r1, r2)) :
  Calls Try.prog 30 #[.slice A0 l0.length c0] w fun e w' => e = .returned (.tuple #[.int .i64 r1, .int .i64 r2]) ∧ Below w.heap.size w w' := by
 have hu23 := Try.underlying23; have HR0 := Aside0.mk hr0; have HC0 := Aside0.mk hc0; clear hr0 hc0; have HB := Aside0.mk (Below.refl w.heap.size w); have H : (if (l0.length : Int) > 4096 then (tangramref26_Area.j0 k l0 true) else ((tangramref26_Drawing.f k (l0.length : Int) l0).bind fun t453 => (tangramref26_Area.j0 k l0 (!t453)))) = some (r1, r2) := h; clear h; have HC2 := Aside0.mk H; clear H
 go_enter Try.func30, Try.ntmps30
 go_upto_region 1 with (fail)
 go_cut [17] (fun v17 wc => ∃ (kq : Nat) (x17_1 : Bool), v17 = .bool x17_1 ∧ Aside0 (tangramref26_Area.j0 kq l0 x17_1 = some (r1, r2)) ∧ Aside0 (kq ≤ k) ∧ Aside0 (Below w.heap.size w wc))
 case first => as_aux_lemma =>
  have H := HC2.out; clear HC2
  by_cases c3 : (l0.length : Int) > 4096
  ·rw [if_pos c3] at H; have c3b0 : decide (4096 < (l0.length : Int)) = true := decide_eq_true c3; have c3b1 : decide (4096 < l0.length) = true := decide_eq_true (by omega); clear c3
   (first | rw [c3b0] | (simp only [i64_w, i32_w]; rw [c3b0]) | skip)
   have H' := Aside0.mk H; clear H
   go_wp2
   go_meet
   case rel => exact ⟨_, (true), (by first | rfl | (simp; done) | (simp [*]; done)), H', ⟨by first | omega | exact Nat.le_refl _⟩, ⟨hb0 HB⟩⟩
  ·rw [if_neg c3] at H; have c3b0 : decide (4096 < (l0.length : Int)) = false := decide_eq_false c3; have c3b1 : decide (4096 < l0.length) = false := decide_eq_false (by omega); clear c3
   (first | rw [c3b0] | (simp only [i64_w, i32_w]; rw [c3b0]) | skip)
   replace H := Option.bind_eq_some_iff.mp H; obtain ⟨t453, A40, H⟩ := H; replace H : (tangramref26_Area.j0 k l0 (!t453)) = some (r1, r2) := H; have A4 := Aside0.mk A40; clear A40; have H' := Aside0.mk H; clear H
   go_wp2_with (first | (go_at_call 47; (with_reducible refine (tangramref26_Drawing.calls k (l0.length : Int) _ _ l0 t453 _ ?side1 ?side2 A4.out).mono ?_); (case side1 => repeat (first | exact (Kd.C_below HR0.out HB.out) | (with_reducible refine Kd.C_alloc ?_ _) | (with_reducible refine Kd.C_drewN ?_ _) | (with_reducible refine Kd.C_drew ?_))); (case side2 => exact HC0.out); rintro e w5 ⟨rfl, hb⟩; replace HB := hs (hb0 HB) hb; (try clear hb); (try clear hb2); (try clear hk); (try clear hi)))
   go_meet
   case rel => exact ⟨_, (!t453), (by first | rfl | (simp; done) | (simp [*]; done)), H', ⟨by first | omega | exact Nat.le_refl _⟩, ⟨hb0 HB⟩⟩
 case rest => as_aux_lemma =>
  clear HC2
  try clear p2
  try clear c3
  try clear c3b0
  try clear c3b1
  obtain ⟨kq, x17_1, rfl, HA, HJ1, HB⟩ := hcut
  cases kq with
  | zero => exact absurd HA.out (by simp [tangramref26_Area.j0])
  | succ kj1 =>
   have H := HA.out; clear HA; simp only [tangramref26_Area.j0] at H
   by_cases c6 : x17_1 = true
   ·subst c6; have H1 : (some (0, 260)) = some (r1, r2) := by rw [if_pos rfl] at H; exact H
    clear H; have H := H1; clear H1; simp only [Option.some.injEq, Prod.mk.injEq] at H; obtain ⟨rfl, rfl⟩ := H
    go_wp2
    go_ret2
    exact ⟨by rfl, hb0 HB⟩
   ·replace c6 := Bool.eq_false_iff.mpr c6; subst c6; have H1 : (tangramref26_Area.l0 kj1 l0 0 0) = some (r1, r2) := by rw [if_neg (show ¬ (false = true) by decide)] at H; exact H
    clear H; have H := H1; clear H1; have H' := Aside0.mk H; clear H
    go_wp2
    go_loopg [4, 5] kj1 (fun kq v4 v5 w' => ∃ (x4_2 : Int) (x5_2 : Int), v4 = .int .i64 x4_2 ∧ v5 = .int .i64 x5_2 ∧ Aside0 (tangramref26_Area.l0 kq l0 x4_2 x5_2 = some (r1, r2)) ∧ Aside0 (kq ≤ kj1) ∧ Aside0 (Below w.heap.size w w'))
    case atStart => exact ⟨(0), (0), (by first | rfl | (simp; done) | (simp [*]; done)), (by first | rfl | (simp; done) | (simp [*]; done)), H', ⟨Nat.le_refl _⟩, ⟨hb0 HB⟩⟩
    case round =>
     clear H'
     try clear p2
     try clear c3
     try clear c3b0
     try clear c3b1
     try clear c6
     try clear p2
     obtain ⟨x4_2, x5_2, rfl, rfl, HA, HK2, HB⟩ := hrel
     cases gk with
     | zero => exact absurd HA.out (by simp [tangramref26_Area.l0])
     | succ k2 =>
      have H := HA.out; clear HA; simp only [tangramref26_Area.l0] at H
      by_cases c7 : x5_2 < (l0.length : Int)
      ·rw [if_pos c7] at H; have c7b0 : decide (x5_2 < (l0.length : Int)) = true := decide_eq_true c7; clear c7
       by_cases c8 : 0 ≤ x5_2
       ·rw [if_pos c8] at H; have c8b0 : decide (0 ≤ x5_2) = true := decide_eq_true c8; clear c8
        by_cases c9 : (l0.length : Int) = 0
        ·rw [if_pos c9] at H; exact absurd H (by simp)
        ·rw [if_neg c9] at H; have c9b0 : ((l0.length : Int) == 0) = false := beq_eq_false_iff_ne.mpr c9; have c9b1 : ((l0.length : Int) != 0) = true := bne_iff_ne.mpr c9; have c9b2 : ¬ (l0 = []) := fun h_ => c9 (by rw [h_]; rfl)
         obtain ⟨ji10, hji10⟩ : ∃ j_ : Int, (Int.tmod (wrap64 (x5_2 + 1)) (l0.length : Int)) = j_ := ⟨_, rfl⟩; replace H : (if 0 ≤ (ji10) then (if (ji10) < (l0.length : Int) then (tangramref26_Area.l0 k2 l0 (wrap64 ((wrap64 (x4_2 + (wrap64 (((rd_T23 l0 x5_2).f0) * ((rd_T23 l0 (ji10)).f1))))) - (wrap64 (((rd_T23 l0 (ji10)).f0) * ((rd_T23 l0 x5_2).f1))))) (wrap64 (x5_2 + 1))) else (none)) else (none)) = some (r1, r2) := by first | (rw [hji10] at H; exact H) | (simp only [hji10] at H ⊢; exact H)
         by_cases c11 : 0 ≤ (ji10)
         ·rw [if_pos c11] at H; have c11b0 : decide (0 ≤ (ji10)) = true := decide_eq_true c11; clear c11
          by_cases c12 : (ji10) < (l0.length : Int)
          ·rw [if_pos c12] at H; have c12b0 : decide ((ji10) < (l0.length : Int)) = true := decide_eq_true c12; clear c12; have H' := Aside0.mk H; clear H; have p454 : 0 ≤ (x5_2 : Int) := of_decide_eq_true (by first | (with_reducible assumption) | assumption); have q454 : x5_2 < (l0.length : Int) := of_decide_eq_true (by first | (with_reducible assumption) | assumption); obtain ⟨ad454, e454, hx454_0, hx454_1⟩ := at_T23 HR0.out x5_2 p454 q454
           cases e454
           replace hx454_0 := (HB.out.cell (World.block_lt_of_cell? w _ hx454_0)).trans hx454_0; replace hx454_1 := (HB.out.cell (World.block_lt_of_cell? w _ hx454_1)).trans hx454_1; replace p454 := eq_true p454; replace q454 := eq_true q454
           go_wp2_with (first | ((with_reducible refine gate_dst (N := 6) rfl ?_); (try (refine gate_guard (by rfl) ?_; dsimp only)); refine be_ 6 #[.int .i64 0, .int .i64 0] 23 ?_; intro gb455 hg w13 hbox hb; have BK455 := Aside0.mk (hbox); have GW455 := wq (hb0 HB) hg; have GE455 := wq (hb0 HB) hg; replace HB := hs (hb0 HB) hb; clear hb hbox hg; have hcz14_0 : w13.cell? ⟨gb455, 0, none⟩ = some (.int .i64 0) := bc BK455 0; have hcz14_1 : w13.cell? ⟨gb455, 1, none⟩ = some (.int .i64 0) := bc BK455 1; have hfz14_0 := blk_frozen BK455.out 0; have hfz14_1 := blk_frozen BK455.out 1; have p456 : 0 ≤ ((ji10) : Int) := of_decide_eq_true (by first | (with_reducible assumption) | assumption); have q456 : (ji10) < (l0.length : Int) := of_decide_eq_true (by first | (with_reducible assumption) | assumption); obtain ⟨ad456, e456, hx456_0, hx456_1⟩ := at_T23 HR0.out (ji10) p456 q456; obtain rfl : ad454 = ad456 := (by injection e456); have hn456_0 : ad454.block ≠ gb455 := Nat.ne_of_lt (Nat.lt_of_lt_of_le (by have := World.block_lt_of_cell? _ _ hx456_0; first | rwa [add_block] at this | exact this) GW455.out); have hn456_1 : ad454.block ≠ gb455 := Nat.ne_of_lt (Nat.lt_of_lt_of_le (by have := World.block_lt_of_cell? _ _ hx456_0; first | rwa [add_block] at this | exact this) GW455.out); replace hx456_0 := (HB.out.cell (World.block_lt_of_cell? w _ hx456_0)).trans hx456_0; replace hx456_1 := (HB.out.cell (World.block_lt_of_cell? w _ hx456_1)).trans hx456_1; replace hx456_0 := (cell_far (p := ⟨gb455, 0, none⟩) (by first | (rw [add_block]; exact hn456_0) | (show (Addr.add _ _).block ≠ _; rw [add_block]; exact hn456_0) | exact hn456_0) (.int .i64 ((rd_T23 l0 x5_2).f0))).trans hx456_0; replace hx456_1 := (cell_far (p := ⟨gb455, 0, none⟩) (by first | (rw [add_block]; exact hn456_0) | (show (Addr.add _ _).block ≠ _; rw [add_block]; exact hn456_0) | exact hn456_0) (.int .i64 ((rd_T23 l0 x5_2).f0))).trans hx456_1; replace hx456_0 := (cell_far (p := ⟨gb455, 1, none⟩) (by first | (rw [add_block]; exact hn456_1) | (show (Addr.add _ _).block ≠ _; rw [add_block]; exact hn456_1) | exact hn456_1) (.int .i64 ((rd_T23 l0 x5_2).f1))).trans hx456_0; replace hx456_1 := (cell_far (p := ⟨gb455, 1, none⟩) (by first | (rw [add_block]; exact hn456_1) | (show (Addr.add _ _).block ≠ _; rw [add_block]; exact hn456_1) | exact hn456_1) (.int .i64 ((rd_T23 l0 x5_2).f1))).trans hx456_1; clear hn456_0; clear hn456_1; replace p456 := eq_true p456; replace q456 := eq_true q456) | ((with_reducible refine gate_dst (N := 7) rfl ?_); (try (refine gate_guard (by rfl) ?_; dsimp only)); refine be_ 7 #[.int .i64 0, .int .i64 0] 23 ?_; intro gb457 hg w15 hbox hb; have BK457 := Aside0.mk (hbox); have GW457 := wq (hb1 HB GE455) hg; have GE457 := wq (hb1 HB GE455) hg; replace HB := hs (hb1 HB GE455) hb; have NB455_457 := Aside0.mk ((by rw [hg]; exact Nat.ne_of_lt (blk_lt (g := gb455) (o := .cells #[.int .i64 ((rd_T23 l0 x5_2).f0), .int .i64 ((rd_T23 l0 x5_2).f1)] 23 (0, 0)) (bp BK455)) : gb455 ≠ gb457)); have NB457_455 := Aside0.mk ((by rw [hg]; exact Nat.ne_of_gt (blk_lt (g := gb455) (o := .cells #[.int .i64 ((rd_T23 l0 x5_2).f0), .int .i64 ((rd_T23 l0 x5_2).f1)] 23 (0, 0)) (bp BK455)) : gb457 ≠ gb455)); replace BK455 := Aside0.mk (blk_below (g := gb455) (o := .cells #[.int .i64 ((rd_T23 l0 x5_2).f0), .int .i64 ((rd_T23 l0 x5_2).f1)] 23 (0, 0)) (bp BK455) hb); clear hb hbox hg; have hnb16 := NB457_455.out; have hnc16 := NB455_457.out; have hcz17_0 : w15.cell? ⟨gb457, 0, none⟩ = some (.int .i64 0) := bc BK457 0; have hcz17_1 : w15.cell? ⟨gb457, 1, none⟩ = some (.int .i64 0) := bc BK457 1; have hfz17_0 := blk_frozen BK457.out 0; have hfz17_1 := blk_frozen BK457.out 1; have hcz18_0 : w15.cell? ⟨gb455, 0, none⟩ = some (.int .i64 ((rd_T23 l0 x5_2).f0)) := bc BK455 0; have hcz18_1 : w15.cell? ⟨gb455, 1, none⟩ = some (.int .i64 ((rd_T23 l0 x5_2).f1)) := bc BK455 1; have hfz18_0 := blk_frozen BK455.out 0; have hfz18_1 := blk_frozen BK455.out 1))
           go_roundg k2
           case measure => have := HJ1.out; have := HK2.out; omega
           case rel => exact ⟨(wrap64 ((wrap64 (x4_2 + (wrap64 (((rd_T23 l0 x5_2).f0) * ((rd_T23 l0 (ji10)).f1))))) - (wrap64 (((rd_T23 l0 (ji10)).f0) * ((rd_T23 l0 x5_2).f1))))), (wrap64 (x5_2 + 1)), (by first | rfl | (simp; done) | (simp only [← hji10] <;> (first | rfl | simp)) | (simp [*]; done)), (by first | rfl | (simp; done) | (simp [*]; done)), H', ⟨by have := HJ1.out; have := HK2.out; omega⟩, ⟨hb2 HB GE455 GE457⟩⟩
          ·rw [if_neg c12] at H; exact absurd H (by simp)
         ·rw [if_neg c11] at H; exact absurd H (by simp)
       ·rw [if_neg c8] at H; exact absurd H (by simp)
      ·rw [if_neg c7] at H; have c7b0 : decide (x5_2 < (l0.length : Int)) = false := decide_eq_false c7; clear c7; simp only [Option.some.injEq, Prod.mk.injEq] at H; obtain ⟨rfl, rfl⟩ := H
       go_wp2
       go_ret2
       exact ⟨by rfl, hb0 HB⟩

end Go.Proofs.Ythfoliejhdpbaaa.PCroA
