-- PRINTED by print.py (a twelfth state) out of the translation. Not trusted: Lean checks it.
import Derived.Test.YtdaeaejmikhmcaaZPEditCx0
import Derived.Test.YtdaeaejmikhmcaaZPEditCx4
namespace Go.Proofs.Ytdaeaejmikhmcaa.PEditC
open Go.RowKit Go.Proofs.YtdaeaejmikhmcaaW.PrintWords Go.Proofs.YtdaeaejmikhmcaaW.PrintLast Go.Proofs.YtdaeaejmikhmcaaW.PrintMore
open Go.Proofs.YtdaeaejmikhmcaaX
attribute [local go_sem] max2_int min2_int max_two min_two max_three min_three max_four min_four   -- for this text's walks alone
set_option linter.unusedVariables false
set_option linter.unusedSimpArgs false

/-! ### edit_made: function 38 -/
def edit_made.l0 : Nat → Int → List (S46) → List (S46) → Int → Int → Option (Int × (List (S46)))
 | 0, _, _, _, _, _ => none
 | k + 1, x0, x5, x11, x12, x13 => if x13 < x12 then (if 0 ≤ x13 then (if x13 < (x11.length : Int) then (if x5.length < 8796093022208 then (edit_made.l0 k x0 (x5 ++ [(⟨mn ((rd_T46 x11 x13).f0) ((rd_T46 x11 x13).f1), mx ((rd_T46 x11 x13).f0) ((rd_T46 x11 x13).f1)⟩ : S46)]) x11 x12 (wrap64 (x13 + 1))) else (none)) else (none)) else (none)) else ((api_Edge_51.f x5 0).bind fun t118 => (some (x0, t118)))
def edit_made.f (k : Nat) (a0 : Int) (l1 : List (S46)) : Option (Int × (List (S46))) := if 0 ≤ (l1.length : Int) then (if ((l1.length : Int) : Int).toNat ≤ 17592186044416 then (edit_made.l0 k a0 (([] : List (S46))) l1 (l1.length : Int) 0) else (none)) else (none)
theorem edit_made.mono_l : ∀ k, (∀ y0 y1 y2 y3 y4, LeO (edit_made.l0 k y0 y1 y2 y3 y4) (edit_made.l0 (k + 1) y0 y1 y2 y3 y4))
 | 0 => fun _ _ _ _ _ r h => by simp [edit_made.l0] at h
 | k + 1 => by
  have ih0 := edit_made.mono_l k
  ·intro y0 y1 y2 y3 y4
   unfold edit_made.l0
   repeat' first
   | (with_reducible exact ih0 _ _ _ _ _)
   | (with_reducible exact LeO.refl _)
   | (with_reducible exact LeO.none _)
   | (with_reducible refine LeO.ite ?_ ?_)
   | (with_reducible refine LeO.bind ?_ (fun _ => ?_))
   | exact ih0 _ _ _ _ _
   | exact LeO.none _
   | refine LeO.ite ?_ ?_
   | refine LeO.bind ?_ (fun _ => ?_)
theorem edit_made.mono : ∀ a0 a1 k, LeO (edit_made.f k a0 a1) (edit_made.f (k + 1) a0 a1) := by
 intro a0 a1 k; have ih0 := edit_made.mono_l k
 unfold edit_made.f
 repeat' first
   | (with_reducible exact ih0 _ _ _ _ _)
   | (with_reducible exact LeO.refl _)
   | (with_reducible exact LeO.none _)
   | (with_reducible refine LeO.ite ?_ ?_)
   | (with_reducible refine LeO.bind ?_ (fun _ => ?_))
   | exact ih0 _ _ _ _ _
   | exact LeO.none _
   | refine LeO.ite ?_ ?_
   | refine LeO.bind ?_ (fun _ => ?_)
set_option maxHeartbeats 8000000 in
set_option maxRecDepth 100000 in
theorem edit_made.calls (k : Nat) (a0 : Int) (A1 : Option Addr) (c1 : Nat) (l1 : List (S46)) (r1 : Int) (r2 : List (S46)) (w : World) (hr1 : Kd.C k46 w A1 l1.length l1) (hc1 : l1.length ≤ c1) (h : edit_made.f k a0 l1 = some (r1, r2)) :
  Calls Try.prog 38 #[.int .i64 a0, .slice A1 l1.length c1] w fun e w' => ∃ v1_ : Value, e = .returned (.agg #[.int .i64 r1, v1_]) ∧ Kd.R k46 46 w' w.heap.size (fun _ => True) v1_ r2 ∧ Below w.heap.size w w' := by
 have hu25 := Try.underlying25; have hu46 := Try.underlying46; have HR1 := Aside0.mk hr1; have HC1 := Aside0.mk hc1; clear hr1 hc1; have HB := Aside0.mk (Below.refl w.heap.size w); have H : (if 0 ≤ (l1.length : Int) then (if ((l1.length : Int) : Int).toNat ≤ 17592186044416 then (edit_made.l0 k a0 (([] : List (S46))) l1 (l1.length : Int) 0) else (none)) else (none)) = some (r1, r2) := h; clear h
 by_cases c3 : 0 ≤ (l1.length : Int)
 ·rw [if_pos c3] at H; have c3b0 := eq_true c3; have c3b1 : decide (0 ≤ (l1.length : Int)) = true := decide_eq_true c3; clear c3
  by_cases c4 : ((l1.length : Int) : Int).toNat ≤ 17592186044416
  ·rw [if_pos c4] at H; have c4b0 := eq_true c4; have c4b1 : decide (((l1.length : Int) : Int).toNat ≤ 17592186044416) = true := decide_eq_true c4; clear c4; obtain ⟨y110, hy110⟩ : ∃ y_ : List (S46), y_ = (([] : List (S46))) := ⟨_, rfl⟩; replace H : (edit_made.l0 k a0 y110 l1 (l1.length : Int) 0) = some (r1, r2) := by first | (rw [hy110]; with_reducible exact H) | (have H2_ := (Option.bind_some _ _).symm.trans H; rw [hy110]; with_reducible exact H2_) | (have H2_ := (Option.bind_some _ _).symm.trans H; with_reducible exact H2_) | with_reducible exact H | (rw [hy110]; exact H) | exact H
   have Ny110 := Aside0.mk hy110; clear hy110; have H' := Aside0.mk H; clear H
   go_enter Try.func38, Try.ntmps38
   go_wp2_with (first | ((with_reducible refine gate_dst (N := 4) rfl ?_); refine be_ 4 #[.int .i64 0, .slice none 0 0] 25 ?_; intro gb109 hg w5 hbox hb; have BK109 := Aside0.mk (hbox); have GW109 := wq (hb0 HB) hg; have GE109 := wq (hb0 HB) hg; replace HB := hs (hb0 HB) hb; clear hb hbox hg) | ((with_reducible refine gate_dst (N := 10) rfl ?_); refine Go.Proofs.YtdaeaejmikhmcaaX.R_make0 k46 _ 46 rfl (N := 10) rfl 23 _ _ rfl (l1.length : Int) rfl rfl Try.underlying23 (.agg #[(.int .i64 0), (.int .i64 0)]) 16 info46 (by omega) (ok := fun _ => True) trivial (of_decide_eq_true (by first | (with_reducible assumption) | assumption)) (Nat.le_trans (Nat.mul_le_mul_right _ (of_decide_eq_true (by first | (with_reducible assumption) | assumption) : (l1.length : Int).toNat ≤ 17592186044416)) (by omega)) (Below.refl _ _) (Nat.le_refl _) ?_; intro v111 w6 ho7 hb hg_ hnew_; clear hg_ hnew_; (first | rw [← Ny110.out] at ho7 | (simp only [Int.reduceToNat] at ho7; rw [← Ny110.out] at ho7)); have HO112 := Aside0.mk (Kd.R_lower ho7 (below_size (hb1 HB GE109))); replace BK109 := kx BK109 hb; replace HB := hs (hb1 HB GE109) hb; clear hb ho7))
   go_loopg [5, 13] k (fun kq v5 v13 w' => ∃ (x5_1 : List (S46)) (x13_1 : Int), v13 = .int .i64 x13_1 ∧ Aside0 (edit_made.l0 kq a0 x5_1 l1 (l1.length : Int) x13_1 = some (r1, r2)) ∧ Aside0 (kq ≤ k) ∧ Aside0 (Kd.R k46 46 w' w.heap.size (fun _ => True) v5 x5_1) ∧ Aside0 (w'.heap[gb109]? = some (.cells #[.int .i64 0, (.slice none 0 0)] 25 (0, 0))) ∧ Aside0 (Below w.heap.size w w'))
   case atStart => exact ⟨(y110), (0), (by first | rfl | (simp; done) | (simp [*]; done)), H', ⟨Nat.le_refl _⟩, ⟨rx HO112⟩, ⟨bx BK109⟩, ⟨hb1 HB GE109⟩⟩
   case round =>
    clear H'
    try clear c1
    try clear p2
    try clear c3
    try clear c3b0
    try clear c3b1
    try clear c4
    try clear c4b0
    try clear c4b1
    obtain ⟨x5_1, x13_1, rfl, HA, HK1, HO_5, BK109, HB⟩ := hrel
    cases gk with
    | zero => exact absurd HA.out (by simp [edit_made.l0])
    | succ k1 =>
     have H := HA.out; clear HA; simp only [edit_made.l0] at H
     by_cases c8 : x13_1 < (l1.length : Int)
     ·rw [if_pos c8] at H; have c8b0 : decide (x13_1 < (l1.length : Int)) = true := decide_eq_true c8; clear c8
      by_cases c9 : 0 ≤ x13_1
      ·rw [if_pos c9] at H; have c9b0 : decide (0 ≤ x13_1) = true := decide_eq_true c9; clear c9
       by_cases c10 : x13_1 < (l1.length : Int)
       ·rw [if_pos c10] at H; have c10b0 : decide (x13_1 < (l1.length : Int)) = true := decide_eq_true c10; clear c10; obtain ⟨ji11, hji11⟩ : ∃ j_ : Int, (mn ((rd_T46 l1 x13_1).f0) ((rd_T46 l1 x13_1).f1)) = j_ := ⟨_, rfl⟩; replace H : (if x5_1.length < 8796093022208 then (edit_made.l0 k1 a0 (x5_1 ++ [(⟨ji11, mx ((rd_T46 l1 x13_1).f0) ((rd_T46 l1 x13_1).f1)⟩ : S46)]) l1 (l1.length : Int) (wrap64 (x13_1 + 1))) else (none)) = some (r1, r2) := by first | (rw [hji11] at H; exact H) | (simp only [hji11] at H ⊢; exact H)
        have hji11_ : (if ((rd_T46 l1 x13_1).f1) < ((rd_T46 l1 x13_1).f0) then ((rd_T46 l1 x13_1).f1) else ((rd_T46 l1 x13_1).f0)) = ji11 := hji11; obtain ⟨ji12, hji12⟩ : ∃ j_ : Int, (mx ((rd_T46 l1 x13_1).f0) ((rd_T46 l1 x13_1).f1)) = j_ := ⟨_, rfl⟩; replace H : (if x5_1.length < 8796093022208 then (edit_made.l0 k1 a0 (x5_1 ++ [(⟨ji11, ji12⟩ : S46)]) l1 (l1.length : Int) (wrap64 (x13_1 + 1))) else (none)) = some (r1, r2) := by first | (rw [hji12] at H; exact H) | (simp only [hji12] at H ⊢; exact H)
        have hji12_ : (if ((rd_T46 l1 x13_1).f0) < ((rd_T46 l1 x13_1).f1) then ((rd_T46 l1 x13_1).f1) else ((rd_T46 l1 x13_1).f0)) = ji12 := hji12
        by_cases c13 : x5_1.length < 8796093022208
        ·rw [if_pos c13] at H; have LMc13 := Aside0.mk c13; clear c13; obtain ⟨y115, hy115⟩ : ∃ y_ : List (S46), y_ = (x5_1 ++ [(⟨ji11, ji12⟩ : S46)]) := ⟨_, rfl⟩; replace H : (edit_made.l0 k1 a0 y115 l1 (l1.length : Int) (wrap64 (x13_1 + 1))) = some (r1, r2) := by first | (rw [hy115]; with_reducible exact H) | (have H2_ := (Option.bind_some _ _).symm.trans H; rw [hy115]; with_reducible exact H2_) | (have H2_ := (Option.bind_some _ _).symm.trans H; with_reducible exact H2_) | with_reducible exact H | (rw [hy115]; exact H) | exact H
         have Ny115 := Aside0.mk hy115; clear hy115; have H' := Aside0.mk H; clear H; have p113 : 0 ≤ (x13_1 : Int) := of_decide_eq_true (by first | (with_reducible assumption) | assumption); have q113 : x13_1 < (l1.length : Int) := of_decide_eq_true (by first | (with_reducible assumption) | assumption); obtain ⟨ad113, e113, hx113_0, hx113_1⟩ := at_T46 HR1.out x13_1 p113 q113
         cases e113
         replace hx113_0 := (HB.out.cell (World.block_lt_of_cell? w _ hx113_0)).trans hx113_0; replace hx113_1 := (HB.out.cell (World.block_lt_of_cell? w _ hx113_1)).trans hx113_1; replace p113 := eq_true p113; replace q113 := eq_true q113
         go_wp2_with (first | ((with_reducible refine gate_dst (N := 7) rfl ?_); refine be_ 7 #[.int .i64 0, .int .i64 0] 46 ?_; intro gb114 hg w14 hbox hb; replace HO_5 := Aside0.mk (Kd.R_below (Kd.R_elderB (rx HO_5) gb114 (Nat.le_of_eq hg.symm)) hb); have BK114 := Aside0.mk (hbox); have GW114 := wq (hb1 HB GE109) hg; have GE114 := wq (hb1 HB GE109) hg; replace HB := hs (hb1 HB GE109) hb; have NB109_114 := lx BK109 hg; have NB114_109 := gx BK109 hg; replace BK109 := kx BK109 hb; clear hb hbox hg; have hnb15 := NB114_109.out; have hnc15 := NB109_114.out; have hcz16_0 : w14.cell? ⟨gb114, 0, none⟩ = some (.int .i64 0) := bc BK114 0; have hcz16_1 : w14.cell? ⟨gb114, 1, none⟩ = some (.int .i64 0) := bc BK114 1; have hfz16_0 := blk_frozen BK114.out 0; have hfz16_1 := blk_frozen BK114.out 1) | ((with_reducible refine gate_builtin (b := .append) (xs := #[.tmp 17, .tmp 29]) rfl ?_); at_builtin; refine Kd.R_append k46 (w0 := w) w.heap.size rfl (.tmp 17) (.tmp 29) 23 46 (.agg #[(.int .i64 0), (.int .i64 0)]) 16 rfl Try.underlying23 info46 rfl (by decide) (by omega) u5 x5_1 (⟨ji11, ji12⟩ : S46) [.int .i64 ji11, .int .i64 ji12] (fun k_ => k_ ≠ gb114) (fun _ => False) rfl (by first | (go_simp; done) | (go_simp; rfl)) ?aP (fun _ hk => hk.elim) ?aF ?aO ?aB ?aS ?aL ?_; (case aP => exact k46_mkM _ _ _ (⟨ji11, ji12⟩ : S46)); (case aB => exact (hb2 HB GE109 GE114)); (case aF => exact (fun k_ hk => Kd.freshB (g := gb114) (o := .cells #[.int .i64 ((rd_T46 l1 x13_1).f0), .int .i64 ((rd_T46 l1 x13_1).f1)] 46 (0, 0)) (bp BK114) k_ hk)); (case aO => exact (by (with_reducible repeat (first | apply Kd.R_alloc | apply Kd.R_drewN | apply Kd.R_drew)); exact Kd.R_mono (Kd.R_far (p := ⟨gb114, 1, none⟩) (Kd.R_far (p := ⟨gb114, 0, none⟩) (Kd.R_mono HO_5.out (fun k_ hk => (⟨hk, hk.2⟩ : _ ∧ k_ ≠ gb114))) (fun _ hk => hk.2) (.int .i64 ((rd_T46 l1 x13_1).f0))) (fun _ hk => hk.2) (.int .i64 ((rd_T46 l1 x13_1).f1))) (fun _ hk => hk.1.2))); (case aS => exact (below_size (hb2 HB GE109 GE114))); (case aL => have := LMc13.out; omega); intro v116 w17 ho hb hg hat; rw [← Ny115.out] at ho; have n0_ := Aside0.mk (blk_grown (bx1 BK109 NB109_114) hg (Kd.R_ne HO_5.out BK109.out (by decide))); have n1_ := Aside0.mk (blk_grown (g := gb114) (o := .cells #[.int .i64 ((rd_T46 l1 x13_1).f0), .int .i64 ((rd_T46 l1 x13_1).f1)] 46 (0, 0)) (bp BK114) hg (Kd.R_away HO_5.out (fun _ hk => hk.2))); have n2_ := Aside0.mk (hb); have n3_ := Aside0.mk (ho); clear BK109; clear BK114; clear HB; clear HO_5; have BK109 := n0_; have BK114 := n1_; have HB := n2_; have HO117 := n3_; clear n0_ n1_ n2_ n3_; clear ho hb hg hat))
         go_roundg k1
         case measure => have := HK1.out; omega
         case rel => exact ⟨(y115), (wrap64 (x13_1 + 1)), (by first | rfl | (simp; done) | (simp [*]; done)), H', ⟨by have := HK1.out; omega⟩, ⟨Kd.R_mono (rx HO117) (fun _ hk => trivial)⟩, ⟨bx BK109⟩, ⟨hb2 HB GE109 GE114⟩⟩
        ·rw [if_neg c13] at H; exact absurd H (by simp)
       ·rw [if_neg c10] at H; exact absurd H (by simp)
      ·rw [if_neg c9] at H; exact absurd H (by simp)
     ·rw [if_neg c8] at H; have c8b0 : decide (x13_1 < (l1.length : Int)) = false := decide_eq_false c8; clear c8; replace H := Option.bind_eq_some_iff.mp H; obtain ⟨t118, A180, H⟩ := H; replace H : (some (a0, t118)) = some (r1, r2) := H; have A18 := Aside0.mk A180; clear A180; simp only [Option.some.injEq, Prod.mk.injEq] at H; obtain ⟨rfl, rfl⟩ := H; obtain ⟨Ao19, co19, eo19⟩ := Kd.R_slice HO_5.out; subst eo19
      go_wp2_with (first | ((with_reducible refine gate_callee (f := 51) rfl ?_); refine gl_ (some 33) Try.func51 #[.slice Ao19 x5_1.length co19, .func (Fn.func 52) #[] #[]] ?_; (with_reducible refine (api_Edge_51.calls (fun k_ => some k_ = (.slice Ao19 x5_1.length co19 : Value).ownBlock) (.slice Ao19 x5_1.length co19) x5_1 0 t118 w _ ?side1 ?side2 A18.out).mono ?_); (case side1 => repeat (first | (with_reducible first | exact HB.out | apply below_alloc | apply pw_below_drewN | apply below_drew1 | refine below_set ?_ GE109.out) | exact HB.out)); (case side2 => exact Kd.R_tight rfl HO_5.out); rintro e w20 ⟨rfl, hy0, hb, hkp⟩; refine ⟨_, rfl, ?_⟩; replace BK109 := Aside0.mk (blk_kept (bx BK109) hkp (fun hs_ => (fun e_ => (Kd.R_ne HO_5.out BK109.out (by decide)) e_) hs_)); replace HO_5 := Aside0.mk (Kd.R_reok rfl hy0 (fun k_ e_ => HO_5.out.1 k_ e_)); replace HB := Aside0.mk (hb); (try clear hb); (try clear hkp); (try clear hy0); have hcz21_0 : w20.cell? ⟨gb109, 0, none⟩ = some (.int .i64 0) := bc BK109 0; have hcz21_1 : w20.cell? ⟨gb109, 1, none⟩ = some (.slice none 0 0) := bc BK109 1; have hfz21_0 := blk_frozen BK109.out 0; have hfz21_1 := blk_frozen BK109.out 1))
      refine bodyPost_ret (results_cell_row rfl _ _ gb109 25 #[.int .i64 a0, .slice Ao19 x5_1.length co19] (0, 0) _ rfl (bp BK109) Try.underlying25 rfl (by kernel_rfl)) rfl ?_; exact ⟨_, by first | rfl | (simp [errW_none, errW_some] <;> rfl) | (simp [*, errW_none, errW_some] <;> rfl), Kd.R_mono (rf HO_5 BK109) (fun _ hk => trivial), hb1 HB GE109⟩
  ·rw [if_neg c4] at H; exact absurd H (by simp)
 ·rw [if_neg c3] at H; exact absurd H (by simp)

end Go.Proofs.Ytdaeaejmikhmcaa.PEditC
