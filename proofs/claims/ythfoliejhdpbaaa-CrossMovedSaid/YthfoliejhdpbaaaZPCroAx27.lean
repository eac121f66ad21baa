import Derived.Test.YthfoliejhdpbaaaZPCroAx0
import Derived.Test.YthfoliejhdpbaaaZPCroAx3
namespace Go.Proofs.Ythfoliejhdpbaaa.PCroA
open Go.RowKit Go.Proofs.YthfoliejhdpbaaaW.PrintWords Go.Proofs.YthfoliejhdpbaaaW.PrintLast Go.Proofs.YthfoliejhdpbaaaW.PrintMore
open Go.Proofs.YthfoliejhdpbaaaX
attribute [local go_sem] max2_int min2_int max_two min_two max_three min_three max_four min_four
set_option linter.unusedVariables false
set_option linter.unusedSimpArgs false

/-! ### cross_Area: function 29 -/
mutual
def cross_Area.j0 : Nat → List (S23) → Bool → Option (Int × Int)
 | 0, _, _ => none
 | k + 1, x0, x14 => if x14 = true then (some (0, 260)) else (cross_Area.l0 k x0 0 x0 (x0.length : Int) 0)
def cross_Area.l0 : Nat → List (S23) → Int → List (S23) → Int → Int → Option (Int × Int)
 | 0, _, _, _, _, _ => none
 | k + 1, x0, x4, x15, x16, x17 => if x17 < x16 then (if 0 ≤ x17 then (if x17 < (x15.length : Int) then (if (x0.length : Int) = 0 then (none) else (if 0 ≤ (Int.tmod (wrap64 (x17 + 1)) (x0.length : Int)) then (if (Int.tmod (wrap64 (x17 + 1)) (x0.length : Int)) < (x0.length : Int) then (cross_Area.l0 k x0 (wrap64 (x4 + (wrap64 ((wrap64 (((rd_T23 x15 x17).f0) * ((rd_T23 x0 (Int.tmod (wrap64 (x17 + 1)) (x0.length : Int))).f1))) - (wrap64 (((rd_T23 x0 (Int.tmod (wrap64 (x17 + 1)) (x0.length : Int))).f0) * ((rd_T23 x15 x17).f1))))))) x15 x16 (wrap64 (x17 + 1))) else (none)) else (none))) else (none)) else (none)) else (some (x4, 0))
end
def cross_Area.f (k : Nat) (l0 : List (S23)) : Option (Int × Int) := if (l0.length : Int) > 4096 then (cross_Area.j0 k l0 true) else ((cross_beyond.f k l0).bind fun t282 => (cross_Area.j0 k l0 t282))
theorem cross_Area.mono_l : ∀ k, (∀ y0 y1, LeO (cross_Area.j0 k y0 y1) (cross_Area.j0 (k + 1) y0 y1)) ∧ (∀ y0 y1 y2 y3 y4, LeO (cross_Area.l0 k y0 y1 y2 y3 y4) (cross_Area.l0 (k + 1) y0 y1 y2 y3 y4))
 | 0 => ⟨fun _ _ r h => by simp [cross_Area.j0] at h, fun _ _ _ _ _ r h => by simp [cross_Area.l0] at h⟩
 | k + 1 => by
  obtain ⟨ih0, ih1⟩ := cross_Area.mono_l k; refine ⟨?_, ?_⟩
  ·intro y0 y1
   unfold cross_Area.j0
   repeat' first
   | (with_reducible exact ih0 _ _)
   | (with_reducible exact ih1 _ _ _ _ _)
   | (with_reducible exact cross_beyond.mono _ _)
   | (with_reducible exact LeO.refl _)
   | (with_reducible exact LeO.none _)
   | (with_reducible refine LeO.ite ?_ ?_)
   | (with_reducible refine LeO.bind ?_ (fun _ => ?_))
   | exact LeO.none _
   | refine LeO.ite ?_ ?_
   | refine LeO.bind ?_ (fun _ => ?_)
  ·intro y0 y1 y2 y3 y4
   unfold cross_Area.l0
   repeat' first
   | (with_reducible exact ih0 _ _)
   | (with_reducible exact ih1 _ _ _ _ _)
   | (with_reducible exact cross_beyond.mono _ _)
   | (with_reducible exact LeO.refl _)
   | (with_reducible exact LeO.none _)
   | (with_reducible refine LeO.ite ?_ ?_)
   | (with_reducible refine LeO.bind ?_ (fun _ => ?_))
   | exact LeO.none _
   | refine LeO.ite ?_ ?_
   | refine LeO.bind ?_ (fun _ => ?_)
theorem cross_Area.mono : ∀ a0 k, LeO (cross_Area.f k a0) (cross_Area.f (k + 1) a0) := by
 intro a0 k; obtain ⟨ih0, ih1⟩ := cross_Area.mono_l k
 unfold cross_Area.f
 repeat' first
   | (with_reducible exact ih0 _ _)
   | (with_reducible exact ih1 _ _ _ _ _)
   | (with_reducible exact cross_beyond.mono _ _)
   | (with_reducible exact LeO.refl _)
   | (with_reducible exact LeO.none _)
   | (with_reducible refine LeO.ite ?_ ?_)
   | (with_reducible refine LeO.bind ?_ (fun _ => ?_))
   | exact LeO.none _
   | refine LeO.ite ?_ ?_
   | refine LeO.bind ?_ (fun _ => ?_)
set_option maxHeartbeats 8000000 in
set_option maxRecDepth 100000 in
theorem cross_Area.calls (k : Nat) (A0 : Option Addr) (c0 : Nat) (l0 : List (S23)) (r1 : Int) (r2 : Int) (w : World) (hr0 : Kd.C k23 w A0 l0.length l0) (hc0 : l0.length ≤ c0) (h : cross_Area.f k l0 = some (r1, r2)) :
  Calls Try.prog 29 #[.slice A0 l0.length c0] w fun e w' => e = .returned (.tuple #[.int .i64 r1, .int .i64 r2]) ∧ Below w.heap.size w w' := by
 have hu23 := Try.underlying23; have HR0 := Aside0.mk hr0; have HC0 := Aside0.mk hc0; clear hr0 hc0; have HB := Aside0.mk (Below.refl w.heap.size w); have H : (if (l0.length : Int) > 4096 then (cross_Area.j0 k l0 true) else ((cross_beyond.f k l0).bind fun t282 => (cross_Area.j0 k l0 t282))) = some (r1, r2) := h; clear h; have HC2 := Aside0.mk H; clear H
 go_enter Try.func29, Try.ntmps29
 go_upto_region 1 with (fail)
 go_cut [14] (fun v14 wc => ∃ (kq : Nat) (x14_1 : Bool), v14 = .bool x14_1 ∧ Aside0 (cross_Area.j0 kq l0 x14_1 = some (r1, r2)) ∧ Aside0 (kq ≤ k) ∧ Aside0 (Below w.heap.size w wc))
 case first => as_aux_lemma =>
  have H := HC2.out; clear HC2
  by_cases c3 : (l0.length : Int) > 4096
  ·rw [if_pos c3] at H; have c3b0 : decide (4096 < (l0.length : Int)) = true := decide_eq_true c3; have c3b1 : decide (4096 < l0.length) = true := decide_eq_true (by omega); clear c3
   (first | rw [c3b0] | (simp only [i64_w, i32_w]; rw [c3b0]) | skip)
   have H' := Aside0.mk H; clear H
   go_wp2
   go_meet
   case rel => exact ⟨_, (true), (by first | rfl | (simp; done) | (simp [*]; done)), H', ⟨by first | omega | exact Nat.le_refl _⟩, ⟨hb0 HB⟩⟩
  ·rw [if_neg c3] at H; have c3b0 : decide (4096 < (l0.length : Int)) = false := decide_eq_false c3; have c3b1 : decide (4096 < l0.length) = false := decide_eq_false (by omega); clear c3
   (first | rw [c3b0] | (simp only [i64_w, i32_w]; rw [c3b0]) | skip)
   replace H := Option.bind_eq_some_iff.mp H; obtain ⟨t282, A40, H⟩ := H; replace H : (cross_Area.j0 k l0 t282) = some (r1, r2) := H; have A4 := Aside0.mk A40; clear A40; have H' := Aside0.mk H; clear H
   go_wp2_with (first | (go_at_call 37; (with_reducible refine (cross_beyond.calls k _ _ l0 t282 _ ?side1 ?side2 A4.out).mono ?_); (case side1 => repeat (first | exact (Kd.C_below HR0.out HB.out) | (with_reducible refine Kd.C_alloc ?_ _) | (with_reducible refine Kd.C_drewN ?_ _) | (with_reducible refine Kd.C_drew ?_))); (case side2 => exact HC0.out); rintro e w5 ⟨rfl, hb⟩; replace HB := hs (hb0 HB) hb; (try clear hb); (try clear hb2); (try clear hk); (try clear hi)))
   go_meet
   case rel => exact ⟨_, (t282), (by first | rfl | (simp; done) | (simp [*]; done)), H', ⟨by first | omega | exact Nat.le_refl _⟩, ⟨hb0 HB⟩⟩
 case rest => as_aux_lemma =>
  clear HC2
  try clear c2
  try clear p2
  try clear c3
  try clear c3b0
  try clear c3b1
  obtain ⟨kq, x14_1, rfl, HA, HJ1, HB⟩ := hcut
  cases kq with
  | zero => exact absurd HA.out (by simp [cross_Area.j0])
  | succ kj1 =>
   have H := HA.out; clear HA; simp only [cross_Area.j0] at H
   by_cases c6 : x14_1 = true
   ·subst c6; have H1 : (some (0, 260)) = some (r1, r2) := by rw [if_pos rfl] at H; exact H
    clear H; have H := H1; clear H1; simp only [Option.some.injEq, Prod.mk.injEq] at H; obtain ⟨rfl, rfl⟩ := H
    go_wp2
    go_ret2
    exact ⟨by rfl, hb0 HB⟩
   ·replace c6 := Bool.eq_false_iff.mpr c6; subst c6; have H1 : (cross_Area.l0 kj1 l0 0 l0 (l0.length : Int) 0) = some (r1, r2) := by rw [if_neg (show ¬ (false = true) by decide)] at H; exact H
    clear H; have H := H1; clear H1; have H' := Aside0.mk H; clear H
    go_wp2
    go_loopg [4, 17] kj1 (fun kq v4 v17 w' => ∃ (x4_2 : Int) (x17_2 : Int), v4 = .int .i64 x4_2 ∧ v17 = .int .i64 x17_2 ∧ Aside0 (cross_Area.l0 kq l0 x4_2 l0 (l0.length : Int) x17_2 = some (r1, r2)) ∧ Aside0 (kq ≤ kj1) ∧ Aside0 (Below w.heap.size w w'))
    case atStart => exact ⟨(0), (0), (by first | rfl | (simp; done) | (simp [*]; done)), (by first | rfl | (simp; done) | (simp [*]; done)), H', ⟨Nat.le_refl _⟩, ⟨hb0 HB⟩⟩
    case round =>
     clear H'
     try clear c2
     try clear p2
     try clear c3
     try clear c3b0
     try clear c3b1
     try clear c6
     try clear p2
     obtain ⟨x4_2, x17_2, rfl, rfl, HA, HK2, HB⟩ := hrel
     cases gk with
     | zero => exact absurd HA.out (by simp [cross_Area.l0])
     | succ k2 =>
      have H := HA.out; clear HA; simp only [cross_Area.l0] at H
      by_cases c7 : x17_2 < (l0.length : Int)
      ·rw [if_pos c7] at H; have c7b0 : decide (x17_2 < (l0.length : Int)) = true := decide_eq_true c7; clear c7
       by_cases c8 : 0 ≤ x17_2
       ·rw [if_pos c8] at H; have c8b0 : decide (0 ≤ x17_2) = true := decide_eq_true c8; clear c8
        by_cases c9 : x17_2 < (l0.length : Int)
        ·rw [if_pos c9] at H; have c9b0 : decide (x17_2 < (l0.length : Int)) = true := decide_eq_true c9; clear c9
         by_cases c10 : (l0.length : Int) = 0
         ·rw [if_pos c10] at H; exact absurd H (by simp)
         ·rw [if_neg c10] at H; have c10b0 : ((l0.length : Int) == 0) = false := beq_eq_false_iff_ne.mpr c10; have c10b1 : ((l0.length : Int) != 0) = true := bne_iff_ne.mpr c10; have c10b2 : ¬ (l0 = []) := fun h_ => c10 (by rw [h_]; rfl)
          obtain ⟨ji11, hji11⟩ : ∃ j_ : Int, (Int.tmod (wrap64 (x17_2 + 1)) (l0.length : Int)) = j_ := ⟨_, rfl⟩; replace H : (if 0 ≤ (ji11) then (if (ji11) < (l0.length : Int) then (cross_Area.l0 k2 l0 (wrap64 (x4_2 + (wrap64 ((wrap64 (((rd_T23 l0 x17_2).f0) * ((rd_T23 l0 (ji11)).f1))) - (wrap64 (((rd_T23 l0 (ji11)).f0) * ((rd_T23 l0 x17_2).f1))))))) l0 (l0.length : Int) (wrap64 (x17_2 + 1))) else (none)) else (none)) = some (r1, r2) := by first | (rw [hji11] at H; exact H) | (simp only [hji11] at H ⊢; exact H)
          by_cases c12 : 0 ≤ (ji11)
          ·rw [if_pos c12] at H; have c12b0 : decide (0 ≤ (ji11)) = true := decide_eq_true c12; clear c12
           by_cases c13 : (ji11) < (l0.length : Int)
           ·rw [if_pos c13] at H; have c13b0 : decide ((ji11) < (l0.length : Int)) = true := decide_eq_true c13; clear c13; have H' := Aside0.mk H; clear H; have p283 : 0 ≤ (x17_2 : Int) := of_decide_eq_true (by first | (with_reducible assumption) | assumption); have q283 : x17_2 < (l0.length : Int) := of_decide_eq_true (by first | (with_reducible assumption) | assumption); obtain ⟨ad283, e283, hx283_0, hx283_1⟩ := at_T23 HR0.out x17_2 p283 q283
            cases e283
            replace hx283_0 := (HB.out.cell (World.block_lt_of_cell? w _ hx283_0)).trans hx283_0; replace hx283_1 := (HB.out.cell (World.block_lt_of_cell? w _ hx283_1)).trans hx283_1; replace p283 := eq_true p283; replace q283 := eq_true q283
            go_wp2_with (first | ((with_reducible refine gate_dst (N := 6) rfl ?_); refine be_ 6 #[.int .i64 0, .int .i64 0] 23 ?_; intro gb284 hg w14 hbox hb; have BK284 := Aside0.mk (hbox); have GW284 := wq (hb0 HB) hg; have GE284 := wq (hb0 HB) hg; replace HB := hs (hb0 HB) hb; clear hb hbox hg; have hcz15_0 : w14.cell? ⟨gb284, 0, none⟩ = some (.int .i64 0) := bc BK284 0; have hcz15_1 : w14.cell? ⟨gb284, 1, none⟩ = some (.int .i64 0) := bc BK284 1; have hfz15_0 := blk_frozen BK284.out 0; have hfz15_1 := blk_frozen BK284.out 1; have p285 : 0 ≤ ((ji11) : Int) := of_decide_eq_true (by first | (with_reducible assumption) | assumption); have q285 : (ji11) < (l0.length : Int) := of_decide_eq_true (by first | (with_reducible assumption) | assumption); obtain ⟨ad285, e285, hx285_0, hx285_1⟩ := at_T23 HR0.out (ji11) p285 q285; obtain rfl : ad283 = ad285 := (by injection e285); have hn285_0 : ad283.block ≠ gb284 := Nat.ne_of_lt (Nat.lt_of_lt_of_le (by have := World.block_lt_of_cell? _ _ hx285_0; first | rwa [add_block] at this | exact this) GW284.out); have hn285_1 : ad283.block ≠ gb284 := Nat.ne_of_lt (Nat.lt_of_lt_of_le (by have := World.block_lt_of_cell? _ _ hx285_0; first | rwa [add_block] at this | exact this) GW284.out); replace hx285_0 := (HB.out.cell (World.block_lt_of_cell? w _ hx285_0)).trans hx285_0; replace hx285_1 := (HB.out.cell (World.block_lt_of_cell? w _ hx285_1)).trans hx285_1; replace hx285_0 := (cell_far (p := ⟨gb284, 0, none⟩) (by first | (rw [add_block]; exact hn285_0) | (show (Addr.add _ _).block ≠ _; rw [add_block]; exact hn285_0) | exact hn285_0) (.int .i64 ((rd_T23 l0 x17_2).f0))).trans hx285_0; replace hx285_1 := (cell_far (p := ⟨gb284, 0, none⟩) (by first | (rw [add_block]; exact hn285_0) | (show (Addr.add _ _).block ≠ _; rw [add_block]; exact hn285_0) | exact hn285_0) (.int .i64 ((rd_T23 l0 x17_2).f0))).trans hx285_1; replace hx285_0 := (cell_far (p := ⟨gb284, 1, none⟩) (by first | (rw [add_block]; exact hn285_1) | (show (Addr.add _ _).block ≠ _; rw [add_block]; exact hn285_1) | exact hn285_1) (.int .i64 ((rd_T23 l0 x17_2).f1))).trans hx285_0; replace hx285_1 := (cell_far (p := ⟨gb284, 1, none⟩) (by first | (rw [add_block]; exact hn285_1) | (show (Addr.add _ _).block ≠ _; rw [add_block]; exact hn285_1) | exact hn285_1) (.int .i64 ((rd_T23 l0 x17_2).f1))).trans hx285_1; clear hn285_0; clear hn285_1; replace p285 := eq_true p285; replace q285 := eq_true q285) | ((with_reducible refine gate_dst (N := 7) rfl ?_); refine be_ 7 #[.int .i64 0, .int .i64 0] 23 ?_; intro gb286 hg w16 hbox hb; have BK286 := Aside0.mk (hbox); have GW286 := wq (hb1 HB GE284) hg; have GE286 := wq (hb1 HB GE284) hg; replace HB := hs (hb1 HB GE284) hb; have NB284_286 := Aside0.mk ((by rw [hg]; exact Nat.ne_of_lt (blk_lt (g := gb284) (o := .cells #[.int .i64 ((rd_T23 l0 x17_2).f0), .int .i64 ((rd_T23 l0 x17_2).f1)] 23 (0, 0)) (bp BK284)) : gb284 ≠ gb286)); have NB286_284 := Aside0.mk ((by rw [hg]; exact Nat.ne_of_gt (blk_lt (g := gb284) (o := .cells #[.int .i64 ((rd_T23 l0 x17_2).f0), .int .i64 ((rd_T23 l0 x17_2).f1)] 23 (0, 0)) (bp BK284)) : gb286 ≠ gb284)); replace BK284 := Aside0.mk (blk_below (g := gb284) (o := .cells #[.int .i64 ((rd_T23 l0 x17_2).f0), .int .i64 ((rd_T23 l0 x17_2).f1)] 23 (0, 0)) (bp BK284) hb); clear hb hbox hg; have hnb17 := NB286_284.out; have hnc17 := NB284_286.out; have hcz18_0 : w16.cell? ⟨gb286, 0, none⟩ = some (.int .i64 0) := bc BK286 0; have hcz18_1 : w16.cell? ⟨gb286, 1, none⟩ = some (.int .i64 0) := bc BK286 1; have hfz18_0 := blk_frozen BK286.out 0; have hfz18_1 := blk_frozen BK286.out 1; have hcz19_0 : w16.cell? ⟨gb284, 0, none⟩ = some (.int .i64 ((rd_T23 l0 x17_2).f0)) := bc BK284 0; have hcz19_1 : w16.cell? ⟨gb284, 1, none⟩ = some (.int .i64 ((rd_T23 l0 x17_2).f1)) := bc BK284 1; have hfz19_0 := blk_frozen BK284.out 0; have hfz19_1 := blk_frozen BK284.out 1))
            go_roundg k2
            case measure => have := HJ1.out; have := HK2.out; omega
            case rel => exact ⟨(wrap64 (x4_2 + (wrap64 ((wrap64 (((rd_T23 l0 x17_2).f0) * ((rd_T23 l0 (ji11)).f1))) - (wrap64 (((rd_T23 l0 (ji11)).f0) * ((rd_T23 l0 x17_2).f1))))))), (wrap64 (x17_2 + 1)), (by first | rfl | (simp; done) | (simp only [← hji11] <;> (first | rfl | simp)) | (simp [*]; done)), (by first | rfl | (simp; done) | (simp [*]; done)), H', ⟨by have := HJ1.out; have := HK2.out; omega⟩, ⟨hb2 HB GE284 GE286⟩⟩
           ·rw [if_neg c13] at H; exact absurd H (by simp)
          ·rw [if_neg c12] at H; exact absurd H (by simp)
        ·rw [if_neg c9] at H; exact absurd H (by simp)
       ·rw [if_neg c8] at H; exact absurd H (by simp)
      ·rw [if_neg c7] at H; have c7b0 : decide (x17_2 < (l0.length : Int)) = false := decide_eq_false c7; clear c7; simp only [Option.some.injEq, Prod.mk.injEq] at H; obtain ⟨rfl, rfl⟩ := H
       go_wp2
       go_ret2
       exact ⟨by rfl, hb0 HB⟩

end Go.Proofs.Ythfoliejhdpbaaa.PCroA
