-- PRINTED by print.py (a twelfth state) out of the translation. Not trusted: Lean checks it.
import Derived.Test.YtjgaicdieddekaaZPParAx0
import Derived.Test.YtjgaicdieddekaaZPParAx2
namespace Go.Proofs.Ytjgaicdieddekaa.PParA
open Go.RowKit Go.Proofs.YtjgaicdieddekaaW.PrintWords Go.Proofs.YtjgaicdieddekaaW.PrintLast Go.Proofs.YtjgaicdieddekaaW.PrintMore
open Go.Proofs.YtjgaicdieddekaaX
attribute [local go_sem] max2_int min2_int max_two min_two max_three min_three max_four min_four   -- for this text's walks alone
set_option linter.unusedVariables false
set_option linter.unusedSimpArgs false

attribute [local go_sem high] eqA40
/-! ### tangramlaw02_same: function 9 -/
mutual
def tangramlaw02_same.j0 : Nat → Bool → Int → List (S40) → Int → List Int → List Int → Int → Int → Option (Bool)
 | 0, _, _, _, _, _, _, _, _ => none
 | k + 1, x35, x357000, x357001, x359000, x359001, x359002, x359003, x359004 => if x35 = true then (some false) else (tangramlaw02_same.l0 k (x357001.length : Int) 0 x357000 x357001 x359000 x359001 x359002 x359003 x359004)
def tangramlaw02_same.l0 : Nat → Int → Int → Int → List (S40) → Int → List Int → List Int → Int → Int → Option (Bool)
 | 0, _, _, _, _, _, _, _, _, _ => none
 | k + 1, x38, x39, x357000, x357001, x359000, x359001, x359002, x359003, x359004 => if x39 < x38 then (if 0 ≤ x39 then (if x39 < (x357001.length : Int) then (if x39 < (x359001.length : Int) then (if x39 < (x359002.length : Int) then (if (!(((rd_T40 x357001 x39).f0) == (rd x359001 x39)) || (!(((rd_T40 x357001 x39).f1) == (rd x359002 x39)))) = true then (some false) else (tangramlaw02_same.l0 k x38 (wrap64 (x39 + 1)) x357000 x357001 x359000 x359001 x359002 x359003 x359004)) else (none)) else (none)) else (none)) else (none)) else (some true)
end
def tangramlaw02_same.f (k : Nat) (a0_0 : Int) (l0_1 : List (S40)) (a1_0 : Int) (a1_1 : Int) (a2_0 : Int) (l2_1 : List Int) (l2_2 : List Int) (a2_3 : Int) (a2_4 : Int) : Option (Bool) := if a1_0 = a2_3 then (if a1_1 = a2_4 then (if a0_0 = a2_0 then (tangramlaw02_same.j0 k ((l0_1.length : Int) != (l2_1.length : Int)) a0_0 l0_1 a2_0 l2_1 l2_2 a2_3 a2_4) else (tangramlaw02_same.j0 k true a0_0 l0_1 a2_0 l2_1 l2_2 a2_3 a2_4)) else (tangramlaw02_same.j0 k true a0_0 l0_1 a2_0 l2_1 l2_2 a2_3 a2_4)) else (tangramlaw02_same.j0 k true a0_0 l0_1 a2_0 l2_1 l2_2 a2_3 a2_4)
theorem tangramlaw02_same.mono_l : ∀ k, (∀ y0 y1 y2 y3 y4 y5 y6 y7, LeO (tangramlaw02_same.j0 k y0 y1 y2 y3 y4 y5 y6 y7) (tangramlaw02_same.j0 (k + 1) y0 y1 y2 y3 y4 y5 y6 y7)) ∧ (∀ y0 y1 y2 y3 y4 y5 y6 y7 y8, LeO (tangramlaw02_same.l0 k y0 y1 y2 y3 y4 y5 y6 y7 y8) (tangramlaw02_same.l0 (k + 1) y0 y1 y2 y3 y4 y5 y6 y7 y8))
 | 0 => ⟨fun _ _ _ _ _ _ _ _ r h => by simp [tangramlaw02_same.j0] at h, fun _ _ _ _ _ _ _ _ _ r h => by simp [tangramlaw02_same.l0] at h⟩
 | k + 1 => by
  obtain ⟨ih0, ih1⟩ := tangramlaw02_same.mono_l k; refine ⟨?_, ?_⟩
  ·intro y0 y1 y2 y3 y4 y5 y6 y7
   unfold tangramlaw02_same.j0
   repeat' first
   | (with_reducible exact ih0 _ _ _ _ _ _ _ _)
   | (with_reducible exact ih1 _ _ _ _ _ _ _ _ _)
   | (with_reducible exact LeO.refl _)
   | (with_reducible exact LeO.none _)
   | (with_reducible refine LeO.ite ?_ ?_)
   | (with_reducible refine LeO.bind ?_ (fun _ => ?_))
   | exact ih0 _ _ _ _ _ _ _ _
   | exact ih1 _ _ _ _ _ _ _ _ _
   | exact LeO.none _
   | refine LeO.ite ?_ ?_
   | refine LeO.bind ?_ (fun _ => ?_)
  ·intro y0 y1 y2 y3 y4 y5 y6 y7 y8
   unfold tangramlaw02_same.l0
   repeat' first
   | (with_reducible exact ih0 _ _ _ _ _ _ _ _)
   | (with_reducible exact ih1 _ _ _ _ _ _ _ _ _)
   | (with_reducible exact LeO.refl _)
   | (with_reducible exact LeO.none _)
   | (with_reducible refine LeO.ite ?_ ?_)
   | (with_reducible refine LeO.bind ?_ (fun _ => ?_))
   | exact ih0 _ _ _ _ _ _ _ _
   | exact ih1 _ _ _ _ _ _ _ _ _
   | exact LeO.none _
   | refine LeO.ite ?_ ?_
   | refine LeO.bind ?_ (fun _ => ?_)
theorem tangramlaw02_same.mono : ∀ a0 a1 a2 a3 a4 a5 a6 a7 a8 k, LeO (tangramlaw02_same.f k a0 a1 a2 a3 a4 a5 a6 a7 a8) (tangramlaw02_same.f (k + 1) a0 a1 a2 a3 a4 a5 a6 a7 a8) := by
 intro a0 a1 a2 a3 a4 a5 a6 a7 a8 k; obtain ⟨ih0, ih1⟩ := tangramlaw02_same.mono_l k
 unfold tangramlaw02_same.f
 repeat' first
   | (with_reducible exact ih0 _ _ _ _ _ _ _ _)
   | (with_reducible exact ih1 _ _ _ _ _ _ _ _ _)
   | (with_reducible exact LeO.refl _)
   | (with_reducible exact LeO.none _)
   | (with_reducible refine LeO.ite ?_ ?_)
   | (with_reducible refine LeO.bind ?_ (fun _ => ?_))
   | exact ih0 _ _ _ _ _ _ _ _
   | exact ih1 _ _ _ _ _ _ _ _ _
   | exact LeO.none _
   | refine LeO.ite ?_ ?_
   | refine LeO.bind ?_ (fun _ => ?_)
set_option maxHeartbeats 8000000 in
set_option maxRecDepth 100000 in
theorem tangramlaw02_same.calls (k : Nat) (a0_0 : Int) (A0_1 : Option Addr) (c0_1 : Nat) (l0_1 : List (S40)) (a1_0 : Int) (a1_1 : Int) (a2_0 : Int) (A2_1 : Option Addr) (c2_1 : Nat) (l2_1 : List Int) (A2_2 : Option Addr) (c2_2 : Nat) (l2_2 : List Int) (a2_3 : Int) (a2_4 : Int) (r : Bool) (w : World) (hr0_1 : Kd.C k40 w A0_1 l0_1.length l0_1) (hc0_1 : l0_1.length ≤ c0_1) (hr2_1 : Kd.C (Kd.int .i64) w A2_1 l2_1.length l2_1) (hc2_1 : l2_1.length ≤ c2_1) (hr2_2 : Kd.C (Kd.int .i64) w A2_2 l2_2.length l2_2) (hc2_2 : l2_2.length ≤ c2_2) (h : tangramlaw02_same.f k a0_0 l0_1 a1_0 a1_1 a2_0 l2_1 l2_2 a2_3 a2_4 = some r) :
  Calls Try.prog 9 #[.agg #[.int .i64 a0_0, .slice A0_1 l0_1.length c0_1], .agg #[.int .i64 a1_0, .int .i64 a1_1], .agg #[.int .i64 a2_0, .slice A2_1 l2_1.length c2_1, .slice A2_2 l2_2.length c2_2, .int .i64 a2_3, .int .i64 a2_4]] w fun e w' => e = .returned (.bool r) ∧ Below w.heap.size w w' := by
 have hu26 := Try.underlying26; have hu29 := Try.underlying29; have hu34 := Try.underlying34; have hu40 := Try.underlying40; have HR0_1 := Aside0.mk hr0_1; have HC0_1 := Aside0.mk hc0_1; clear hr0_1 hc0_1; have HR2_1 := Aside0.mk hr2_1; have HC2_1 := Aside0.mk hc2_1; clear hr2_1 hc2_1; have HR2_2 := Aside0.mk hr2_2; have HC2_2 := Aside0.mk hc2_2; clear hr2_2 hc2_2; have HB := Aside0.mk (Below.refl w.heap.size w); have H : (if a1_0 = a2_3 then (if a1_1 = a2_4 then (if a0_0 = a2_0 then (tangramlaw02_same.j0 k ((l0_1.length : Int) != (l2_1.length : Int)) a0_0 l0_1 a2_0 l2_1 l2_2 a2_3 a2_4) else (tangramlaw02_same.j0 k true a0_0 l0_1 a2_0 l2_1 l2_2 a2_3 a2_4)) else (tangramlaw02_same.j0 k true a0_0 l0_1 a2_0 l2_1 l2_2 a2_3 a2_4)) else (tangramlaw02_same.j0 k true a0_0 l0_1 a2_0 l2_1 l2_2 a2_3 a2_4)) = some r := h; clear h; have HC4 := Aside0.mk H; clear H
 go_enter Try.func9, Try.ntmps9
 go_upto_region 1 with (first | ((with_reducible refine gate_dst (N := 3) rfl ?_); (try (refine gate_guard (by rfl) ?_; dsimp only)); refine be_ 3 #[.int .i64 a0_0, .slice A0_1 l0_1.length c0_1] 26 ?_; intro gb356 hg w5 hbox hb; have BK356 := Aside0.mk (hbox); have GW356 := wq (hb0 HB) hg; have GE356 := wq (hb0 HB) hg; replace HB := hs (hb0 HB) hb; clear hb hbox hg) | ((with_reducible refine gate_dst (N := 4) rfl ?_); (try (refine gate_guard (by rfl) ?_; dsimp only)); refine be_ 4 #[.int .i64 a1_0, .int .i64 a1_1] 29 ?_; intro gb357 hg w6 hbox hb; have BK357 := Aside0.mk (hbox); have GW357 := wq (hb1 HB GE356) hg; have GE357 := wq (hb1 HB GE356) hg; replace HB := hs (hb1 HB GE356) hb; have NB356_357 := lx BK356 hg; have NB357_356 := gx BK356 hg; replace BK356 := kx BK356 hb; clear hb hbox hg) | ((with_reducible refine gate_dst (N := 5) rfl ?_); (try (refine gate_guard (by rfl) ?_; dsimp only)); refine be_ 5 #[.int .i64 a2_0, .slice A2_1 l2_1.length c2_1, .slice A2_2 l2_2.length c2_2, .int .i64 a2_3, .int .i64 a2_4] 34 ?_; intro gb358 hg w7 hbox hb; have BK358 := Aside0.mk (hbox); have GW358 := wq (hb2 HB GE356 GE357) hg; have GE358 := wq (hb2 HB GE356 GE357) hg; replace HB := hs (hb2 HB GE356 GE357) hb; have NB356_358 := lx BK356 hg; have NB358_356 := gx BK356 hg; replace BK356 := kx BK356 hb; have NB357_358 := lx BK357 hg; have NB358_357 := gx BK357 hg; replace BK357 := kx BK357 hb; clear hb hbox hg))
 repeat (go_quiet (first | ((with_reducible refine gate_dst (N := 3) rfl ?_); (try (refine gate_guard (by rfl) ?_; dsimp only)); refine be_ 3 #[.int .i64 a0_0, .slice A0_1 l0_1.length c0_1] 26 ?_; intro gb356 hg w5 hbox hb; have BK356 := Aside0.mk (hbox); have GW356 := wq (hb0 HB) hg; have GE356 := wq (hb0 HB) hg; replace HB := hs (hb0 HB) hb; clear hb hbox hg) | ((with_reducible refine gate_dst (N := 4) rfl ?_); (try (refine gate_guard (by rfl) ?_; dsimp only)); refine be_ 4 #[.int .i64 a1_0, .int .i64 a1_1] 29 ?_; intro gb357 hg w6 hbox hb; have BK357 := Aside0.mk (hbox); have GW357 := wq (hb1 HB GE356) hg; have GE357 := wq (hb1 HB GE356) hg; replace HB := hs (hb1 HB GE356) hb; have NB356_357 := lx BK356 hg; have NB357_356 := gx BK356 hg; replace BK356 := kx BK356 hb; clear hb hbox hg) | ((with_reducible refine gate_dst (N := 5) rfl ?_); (try (refine gate_guard (by rfl) ?_; dsimp only)); refine be_ 5 #[.int .i64 a2_0, .slice A2_1 l2_1.length c2_1, .slice A2_2 l2_2.length c2_2, .int .i64 a2_3, .int .i64 a2_4] 34 ?_; intro gb358 hg w7 hbox hb; have BK358 := Aside0.mk (hbox); have GW358 := wq (hb2 HB GE356 GE357) hg; have GE358 := wq (hb2 HB GE356 GE357) hg; replace HB := hs (hb2 HB GE356 GE357) hb; have NB356_358 := lx BK356 hg; have NB358_356 := gx BK356 hg; replace BK356 := kx BK356 hb; have NB357_358 := lx BK357 hg; have NB358_357 := gx BK357 hg; replace BK357 := kx BK357 hb; clear hb hbox hg)); go_upto_region 1 with (first | ((with_reducible refine gate_dst (N := 3) rfl ?_); (try (refine gate_guard (by rfl) ?_; dsimp only)); refine be_ 3 #[.int .i64 a0_0, .slice A0_1 l0_1.length c0_1] 26 ?_; intro gb356 hg w5 hbox hb; have BK356 := Aside0.mk (hbox); have GW356 := wq (hb0 HB) hg; have GE356 := wq (hb0 HB) hg; replace HB := hs (hb0 HB) hb; clear hb hbox hg) | ((with_reducible refine gate_dst (N := 4) rfl ?_); (try (refine gate_guard (by rfl) ?_; dsimp only)); refine be_ 4 #[.int .i64 a1_0, .int .i64 a1_1] 29 ?_; intro gb357 hg w6 hbox hb; have BK357 := Aside0.mk (hbox); have GW357 := wq (hb1 HB GE356) hg; have GE357 := wq (hb1 HB GE356) hg; replace HB := hs (hb1 HB GE356) hb; have NB356_357 := lx BK356 hg; have NB357_356 := gx BK356 hg; replace BK356 := kx BK356 hb; clear hb hbox hg) | ((with_reducible refine gate_dst (N := 5) rfl ?_); (try (refine gate_guard (by rfl) ?_; dsimp only)); refine be_ 5 #[.int .i64 a2_0, .slice A2_1 l2_1.length c2_1, .slice A2_2 l2_2.length c2_2, .int .i64 a2_3, .int .i64 a2_4] 34 ?_; intro gb358 hg w7 hbox hb; have BK358 := Aside0.mk (hbox); have GW358 := wq (hb2 HB GE356 GE357) hg; have GE358 := wq (hb2 HB GE356 GE357) hg; replace HB := hs (hb2 HB GE356 GE357) hb; have NB356_358 := lx BK356 hg; have NB358_356 := gx BK356 hg; replace BK356 := kx BK356 hb; have NB357_358 := lx BK357 hg; have NB358_357 := gx BK357 hg; replace BK357 := kx BK357 hb; clear hb hbox hg)))
 (try simp only [Act.put, List.setIfInBounds_toArray, List.set_cons_zero, List.set_cons_succ])
 go_cut [35] (fun v35 wc => ∃ (kq : Nat) (x35_3 : Bool), v35 = .bool x35_3 ∧ Aside0 (tangramlaw02_same.j0 kq x35_3 a0_0 l0_1 a2_0 l2_1 l2_2 a2_3 a2_4 = some r) ∧ Aside0 (kq ≤ k) ∧ Aside0 (wc.heap[gb356]? = some (.cells #[.int .i64 a0_0, (.slice A0_1 l0_1.length c0_1)] 26 (0, 0))) ∧ Aside0 (wc.heap[gb357]? = some (.cells #[.int .i64 a1_0, .int .i64 a1_1] 29 (0, 0))) ∧ Aside0 (wc.heap[gb358]? = some (.cells #[.int .i64 a2_0, (.slice A2_1 l2_1.length c2_1), (.slice A2_2 l2_2.length c2_2), .int .i64 a2_3, .int .i64 a2_4] 34 (0, 0))) ∧ Aside0 (Below w.heap.size w wc))
 case first => as_aux_lemma =>
  have H := HC4.out; clear HC4
  by_cases c8 : a1_0 = a2_3
  ·rw [if_pos c8] at H; have c8b0 : (a1_0 == a2_3) = true := beq_iff_eq.mpr c8; have c8b1 : (a1_0 != a2_3) = false := bne_eq_false_iff_eq.mpr c8; clear c8
   (first | rw [c8b0] | (simp only [i64_w, i32_w]; rw [c8b0]) | skip)
   by_cases c9 : a1_1 = a2_4
   ·rw [if_pos c9] at H; have c9b0 : (a1_1 == a2_4) = true := beq_iff_eq.mpr c9; have c9b1 : (a1_1 != a2_4) = false := bne_eq_false_iff_eq.mpr c9; clear c9
    by_cases c10 : a0_0 = a2_0
    ·rw [if_pos c10] at H; have c10b0 : (a0_0 == a2_0) = true := beq_iff_eq.mpr c10; have c10b1 : (a0_0 != a2_0) = false := bne_eq_false_iff_eq.mpr c10; clear c10; have H' := Aside0.mk H; clear H; have hnb11 := NB357_356.out; have hnc11 := NB356_357.out; have hnb12 := NB357_358.out; have hnc12 := NB358_357.out; have hcz13_0 : w7.cell? ⟨gb357, 0, none⟩ = some (.int .i64 a1_0) := bc BK357 0; have hcz13_1 : w7.cell? ⟨gb357, 1, none⟩ = some (.int .i64 a1_1) := bc BK357 1; have hfz13_0 := blk_frozen BK357.out 0; have hfz13_1 := blk_frozen BK357.out 1; have hnb14 := NB358_356.out; have hnc14 := NB356_358.out; have hcz15_0 : w7.cell? ⟨gb358, 0, none⟩ = some (.int .i64 a2_0) := bc BK358 0; have hcz15_1 : w7.cell? ⟨gb358, 1, none⟩ = some (.slice A2_1 l2_1.length c2_1) := bc BK358 1; have hcz15_2 : w7.cell? ⟨gb358, 2, none⟩ = some (.slice A2_2 l2_2.length c2_2) := bc BK358 2; have hcz15_3 : w7.cell? ⟨gb358, 3, none⟩ = some (.int .i64 a2_3) := bc BK358 3; have hcz15_4 : w7.cell? ⟨gb358, 4, none⟩ = some (.int .i64 a2_4) := bc BK358 4; have hfz15_0 := blk_frozen BK358.out 0; have hfz15_1 := blk_frozen BK358.out 1; have hfz15_2 := blk_frozen BK358.out 2; have hfz15_3 := blk_frozen BK358.out 3; have hfz15_4 := blk_frozen BK358.out 4; have hcz16_0 : w7.cell? ⟨gb356, 0, none⟩ = some (.int .i64 a0_0) := bc BK356 0; have hcz16_1 : w7.cell? ⟨gb356, 1, none⟩ = some (.slice A0_1 l0_1.length c0_1) := bc BK356 1; have hfz16_0 := blk_frozen BK356.out 0; have hfz16_1 := blk_frozen BK356.out 1
     go_wp2
     repeat (go_quiet (fail); try go_wp2)
     go_meet
     case rel => exact ⟨_, (((l0_1.length : Int) != (l2_1.length : Int))), (by first | rfl | (simp; done) | (simp [*]; done)), H', ⟨by first | omega | exact Nat.le_refl _⟩, ⟨bx BK356⟩, ⟨bx BK357⟩, ⟨bx BK358⟩, ⟨hb3 HB GE356 GE357 GE358⟩⟩
    ·rw [if_neg c10] at H; have c10b0 : (a0_0 == a2_0) = false := beq_eq_false_iff_ne.mpr c10; have c10b1 : (a0_0 != a2_0) = true := bne_iff_ne.mpr c10; have H' := Aside0.mk H; clear H; have hnb17 := NB357_356.out; have hnc17 := NB356_357.out; have hnb18 := NB357_358.out; have hnc18 := NB358_357.out; have hcz19_0 : w7.cell? ⟨gb357, 0, none⟩ = some (.int .i64 a1_0) := bc BK357 0; have hcz19_1 : w7.cell? ⟨gb357, 1, none⟩ = some (.int .i64 a1_1) := bc BK357 1; have hfz19_0 := blk_frozen BK357.out 0; have hfz19_1 := blk_frozen BK357.out 1; have hnb20 := NB358_356.out; have hnc20 := NB356_358.out; have hcz21_0 : w7.cell? ⟨gb358, 0, none⟩ = some (.int .i64 a2_0) := bc BK358 0; have hcz21_1 : w7.cell? ⟨gb358, 1, none⟩ = some (.slice A2_1 l2_1.length c2_1) := bc BK358 1; have hcz21_2 : w7.cell? ⟨gb358, 2, none⟩ = some (.slice A2_2 l2_2.length c2_2) := bc BK358 2; have hcz21_3 : w7.cell? ⟨gb358, 3, none⟩ = some (.int .i64 a2_3) := bc BK358 3; have hcz21_4 : w7.cell? ⟨gb358, 4, none⟩ = some (.int .i64 a2_4) := bc BK358 4; have hfz21_0 := blk_frozen BK358.out 0; have hfz21_1 := blk_frozen BK358.out 1; have hfz21_2 := blk_frozen BK358.out 2; have hfz21_3 := blk_frozen BK358.out 3; have hfz21_4 := blk_frozen BK358.out 4; have hcz22_0 : w7.cell? ⟨gb356, 0, none⟩ = some (.int .i64 a0_0) := bc BK356 0; have hcz22_1 : w7.cell? ⟨gb356, 1, none⟩ = some (.slice A0_1 l0_1.length c0_1) := bc BK356 1; have hfz22_0 := blk_frozen BK356.out 0; have hfz22_1 := blk_frozen BK356.out 1
     go_wp2
     repeat (go_quiet (fail); try go_wp2)
     go_meet
     case rel => exact ⟨_, (true), (by first | rfl | (simp; done) | (simp [*]; done)), H', ⟨by first | omega | exact Nat.le_refl _⟩, ⟨bx BK356⟩, ⟨bx BK357⟩, ⟨bx BK358⟩, ⟨hb3 HB GE356 GE357 GE358⟩⟩
   ·rw [if_neg c9] at H; have c9b0 : (a1_1 == a2_4) = false := beq_eq_false_iff_ne.mpr c9; have c9b1 : (a1_1 != a2_4) = true := bne_iff_ne.mpr c9; have H' := Aside0.mk H; clear H; have hnb23 := NB357_356.out; have hnc23 := NB356_357.out; have hnb24 := NB357_358.out; have hnc24 := NB358_357.out; have hcz25_0 : w7.cell? ⟨gb357, 0, none⟩ = some (.int .i64 a1_0) := bc BK357 0; have hcz25_1 : w7.cell? ⟨gb357, 1, none⟩ = some (.int .i64 a1_1) := bc BK357 1; have hfz25_0 := blk_frozen BK357.out 0; have hfz25_1 := blk_frozen BK357.out 1; have hnb26 := NB358_356.out; have hnc26 := NB356_358.out; have hcz27_0 : w7.cell? ⟨gb358, 0, none⟩ = some (.int .i64 a2_0) := bc BK358 0; have hcz27_1 : w7.cell? ⟨gb358, 1, none⟩ = some (.slice A2_1 l2_1.length c2_1) := bc BK358 1; have hcz27_2 : w7.cell? ⟨gb358, 2, none⟩ = some (.slice A2_2 l2_2.length c2_2) := bc BK358 2; have hcz27_3 : w7.cell? ⟨gb358, 3, none⟩ = some (.int .i64 a2_3) := bc BK358 3; have hcz27_4 : w7.cell? ⟨gb358, 4, none⟩ = some (.int .i64 a2_4) := bc BK358 4; have hfz27_0 := blk_frozen BK358.out 0; have hfz27_1 := blk_frozen BK358.out 1; have hfz27_2 := blk_frozen BK358.out 2; have hfz27_3 := blk_frozen BK358.out 3; have hfz27_4 := blk_frozen BK358.out 4
    go_wp2
    repeat (go_quiet (fail); try go_wp2)
    go_meet
    case rel => exact ⟨_, (true), (by first | rfl | (simp; done) | (simp [*]; done)), H', ⟨by first | omega | exact Nat.le_refl _⟩, ⟨bx BK356⟩, ⟨bx BK357⟩, ⟨bx BK358⟩, ⟨hb3 HB GE356 GE357 GE358⟩⟩
  ·rw [if_neg c8] at H; have c8b0 : (a1_0 == a2_3) = false := beq_eq_false_iff_ne.mpr c8; have c8b1 : (a1_0 != a2_3) = true := bne_iff_ne.mpr c8
   (first | rw [c8b0] | (simp only [i64_w, i32_w]; rw [c8b0]) | skip)
   have H' := Aside0.mk H; clear H; have hnb28 := NB357_356.out; have hnc28 := NB356_357.out; have hnb29 := NB357_358.out; have hnc29 := NB358_357.out; have hcz30_0 : w7.cell? ⟨gb357, 0, none⟩ = some (.int .i64 a1_0) := bc BK357 0; have hcz30_1 : w7.cell? ⟨gb357, 1, none⟩ = some (.int .i64 a1_1) := bc BK357 1; have hfz30_0 := blk_frozen BK357.out 0; have hfz30_1 := blk_frozen BK357.out 1; have hnb31 := NB358_356.out; have hnc31 := NB356_358.out; have hcz32_0 : w7.cell? ⟨gb358, 0, none⟩ = some (.int .i64 a2_0) := bc BK358 0; have hcz32_1 : w7.cell? ⟨gb358, 1, none⟩ = some (.slice A2_1 l2_1.length c2_1) := bc BK358 1; have hcz32_2 : w7.cell? ⟨gb358, 2, none⟩ = some (.slice A2_2 l2_2.length c2_2) := bc BK358 2; have hcz32_3 : w7.cell? ⟨gb358, 3, none⟩ = some (.int .i64 a2_3) := bc BK358 3; have hcz32_4 : w7.cell? ⟨gb358, 4, none⟩ = some (.int .i64 a2_4) := bc BK358 4; have hfz32_0 := blk_frozen BK358.out 0; have hfz32_1 := blk_frozen BK358.out 1; have hfz32_2 := blk_frozen BK358.out 2; have hfz32_3 := blk_frozen BK358.out 3; have hfz32_4 := blk_frozen BK358.out 4
   go_wp2
   repeat (go_quiet (fail); try go_wp2)
   go_meet
   case rel => exact ⟨_, (true), (by first | rfl | (simp; done) | (simp [*]; done)), H', ⟨by first | omega | exact Nat.le_refl _⟩, ⟨bx BK356⟩, ⟨bx BK357⟩, ⟨bx BK358⟩, ⟨hb3 HB GE356 GE357 GE358⟩⟩
 case rest => as_aux_lemma =>
  clear HC4
  try clear c1
  try clear c2
  try clear p2
  try clear c3
  try clear c8
  try clear c8b0
  try clear c8b1
  try clear c9
  try clear c9b0
  try clear c9b1
  try clear c10
  try clear c10b0
  try clear c10b1
  try clear c11
  try clear c12
  try clear c14
  try clear c17
  try clear c18
  try clear c20
  try clear c23
  try clear c24
  try clear c26
  try clear c28
  try clear c29
  try clear c31
  try clear hcz13_0
  try clear hcz13_1
  try clear hcz15_0
  try clear hcz15_1
  try clear hcz15_2
  try clear hcz15_3
  try clear hcz15_4
  try clear hcz16_0
  try clear hcz16_1
  try clear hcz19_0
  try clear hcz19_1
  try clear hcz21_0
  try clear hcz21_1
  try clear hcz21_2
  try clear hcz21_3
  try clear hcz21_4
  try clear hcz22_0
  try clear hcz22_1
  try clear hcz25_0
  try clear hcz25_1
  try clear hcz27_0
  try clear hcz27_1
  try clear hcz27_2
  try clear hcz27_3
  try clear hcz27_4
  try clear hcz30_0
  try clear hcz30_1
  try clear hcz32_0
  try clear hcz32_1
  try clear hcz32_2
  try clear hcz32_3
  try clear hcz32_4
  try clear hfz13_0
  try clear hfz13_1
  try clear hfz15_0
  try clear hfz15_1
  try clear hfz15_2
  try clear hfz15_3
  try clear hfz15_4
  try clear hfz16_0
  try clear hfz16_1
  try clear hfz19_0
  try clear hfz19_1
  try clear hfz21_0
  try clear hfz21_1
  try clear hfz21_2
  try clear hfz21_3
  try clear hfz21_4
  try clear hfz22_0
  try clear hfz22_1
  try clear hfz25_0
  try clear hfz25_1
  try clear hfz27_0
  try clear hfz27_1
  try clear hfz27_2
  try clear hfz27_3
  try clear hfz27_4
  try clear hfz30_0
  try clear hfz30_1
  try clear hfz32_0
  try clear hfz32_1
  try clear hfz32_2
  try clear hfz32_3
  try clear hfz32_4
  obtain ⟨kq, x35_3, rfl, HA, HJ3, BK356, BK357, BK358, HB⟩ := hcut
  cases kq with
  | zero => exact absurd HA.out (by simp [tangramlaw02_same.j0])
  | succ kj3 =>
   have H := HA.out; clear HA; simp only [tangramlaw02_same.j0] at H
   by_cases c33 : x35_3 = true
   ·subst c33; rw [if_pos rfl] at H; obtain rfl := Option.some.inj H
    go_wp2
    repeat (go_quiet (fail); try go_wp2)
    go_ret
    exact ⟨by first | rfl | (simp [errW_none, errW_some] <;> rfl) | (simp [*, errW_none, errW_some] <;> rfl), hb3 HB GE356 GE357 GE358⟩
   ·replace c33 := Bool.eq_false_iff.mpr c33; subst c33; rw [if_neg (show ¬ (false = true) by decide)] at H; have H' := Aside0.mk H; clear H; have hnb34 := NB356_357.out; have hnc34 := NB357_356.out; have hnb35 := NB356_358.out; have hnc35 := NB358_356.out; have hcz36_0 : wc.cell? ⟨gb356, 0, none⟩ = some (.int .i64 a0_0) := bc BK356 0; have hcz36_1 : wc.cell? ⟨gb356, 1, none⟩ = some (.slice A0_1 l0_1.length c0_1) := bc BK356 1; have hfz36_0 := blk_frozen BK356.out 0; have hfz36_1 := blk_frozen BK356.out 1
    go_wp2
    repeat (go_quiet (fail); try go_wp2)
    go_loopg [39] kj3 (fun kq v39 w' => ∃ (x39_2 : Int), v39 = .int .i64 x39_2 ∧ Aside0 (tangramlaw02_same.l0 kq (l0_1.length : Int) x39_2 a0_0 l0_1 a2_0 l2_1 l2_2 a2_3 a2_4 = some r) ∧ Aside0 (kq ≤ kj3) ∧ Aside0 (w'.heap[gb356]? = some (.cells #[.int .i64 a0_0, (.slice A0_1 l0_1.length c0_1)] 26 (0, 0))) ∧ Aside0 (w'.heap[gb357]? = some (.cells #[.int .i64 a1_0, .int .i64 a1_1] 29 (0, 0))) ∧ Aside0 (w'.heap[gb358]? = some (.cells #[.int .i64 a2_0, (.slice A2_1 l2_1.length c2_1), (.slice A2_2 l2_2.length c2_2), .int .i64 a2_3, .int .i64 a2_4] 34 (0, 0))) ∧ Aside0 (Below w.heap.size w w'))
    case atStart => exact ⟨(0), (by first | rfl | (simp; done) | (simp [*]; done)), H', ⟨Nat.le_refl _⟩, ⟨bx BK356⟩, ⟨bx BK357⟩, ⟨bx BK358⟩, ⟨hb3 HB GE356 GE357 GE358⟩⟩
    case round =>
     clear H'
     try clear c1
     try clear c2
     try clear p2
     try clear c3
     try clear c8
     try clear c8b0
     try clear c8b1
     try clear c9
     try clear c9b0
     try clear c9b1
     try clear c10
     try clear c10b0
     try clear c10b1
     try clear c11
     try clear c12
     try clear c14
     try clear c17
     try clear c18
     try clear c20
     try clear c23
     try clear c24
     try clear c26
     try clear c28
     try clear c29
     try clear c31
     try clear c33
     try clear c34
     try clear c35
     try clear hcz13_0
     try clear hcz13_1
     try clear hcz15_0
     try clear hcz15_1
     try clear hcz15_2
     try clear hcz15_3
     try clear hcz15_4
     try clear hcz16_0
     try clear hcz16_1
     try clear hcz19_0
     try clear hcz19_1
     try clear hcz21_0
     try clear hcz21_1
     try clear hcz21_2
     try clear hcz21_3
     try clear hcz21_4
     try clear hcz22_0
     try clear hcz22_1
     try clear hcz25_0
     try clear hcz25_1
     try clear hcz27_0
     try clear hcz27_1
     try clear hcz27_2
     try clear hcz27_3
     try clear hcz27_4
     try clear hcz30_0
     try clear hcz30_1
     try clear hcz32_0
     try clear hcz32_1
     try clear hcz32_2
     try clear hcz32_3
     try clear hcz32_4
     try clear hcz36_0
     try clear hcz36_1
     try clear hfz13_0
     try clear hfz13_1
     try clear hfz15_0
     try clear hfz15_1
     try clear hfz15_2
     try clear hfz15_3
     try clear hfz15_4
     try clear hfz16_0
     try clear hfz16_1
     try clear hfz19_0
     try clear hfz19_1
     try clear hfz21_0
     try clear hfz21_1
     try clear hfz21_2
     try clear hfz21_3
     try clear hfz21_4
     try clear hfz22_0
     try clear hfz22_1
     try clear hfz25_0
     try clear hfz25_1
     try clear hfz27_0
     try clear hfz27_1
     try clear hfz27_2
     try clear hfz27_3
     try clear hfz27_4
     try clear hfz30_0
     try clear hfz30_1
     try clear hfz32_0
     try clear hfz32_1
     try clear hfz32_2
     try clear hfz32_3
     try clear hfz32_4
     try clear hfz36_0
     try clear hfz36_1
     try clear p2
     obtain ⟨x39_2, rfl, HA, HK2, BK356, BK357, BK358, HB⟩ := hrel
     cases gk with
     | zero => exact absurd HA.out (by simp [tangramlaw02_same.l0])
     | succ k2 =>
      have H := HA.out; clear HA; simp only [tangramlaw02_same.l0] at H
      by_cases c37 : x39_2 < (l0_1.length : Int)
      ·rw [if_pos c37] at H; have c37b0 : decide (x39_2 < (l0_1.length : Int)) = true := decide_eq_true c37; clear c37
       by_cases c38 : 0 ≤ x39_2
       ·rw [if_pos c38] at H; have c38b0 : decide (0 ≤ x39_2) = true := decide_eq_true c38; clear c38
        by_cases c39 : x39_2 < (l0_1.length : Int)
        ·rw [if_pos c39] at H; have c39b0 : decide (x39_2 < (l0_1.length : Int)) = true := decide_eq_true c39; clear c39
         by_cases c40 : x39_2 < (l2_1.length : Int)
         ·rw [if_pos c40] at H; have c40b0 : decide (x39_2 < (l2_1.length : Int)) = true := decide_eq_true c40; clear c40
          by_cases c41 : x39_2 < (l2_2.length : Int)
          ·rw [if_pos c41] at H; have c41b0 : decide (x39_2 < (l2_2.length : Int)) = true := decide_eq_true c41; clear c41
           by_cases c42 : (!(((rd_T40 l0_1 x39_2).f0) == (rd l2_1 x39_2)) || (!(((rd_T40 l0_1 x39_2).f1) == (rd l2_2 x39_2)))) = true
           ·rw [if_pos c42] at H; have c42b0 : (!(((rd_T40 l0_1 x39_2).f0) == (rd l2_1 x39_2)) || (!(((rd_T40 l0_1 x39_2).f1) == (rd l2_2 x39_2)))) = true := c42; clear c42; obtain rfl := Option.some.inj H; have hnb43 := NB356_357.out; have hnc43 := NB357_356.out; have hnb44 := NB356_358.out; have hnc44 := NB358_356.out; have hcz45_0 : wr.cell? ⟨gb356, 0, none⟩ = some (.int .i64 a0_0) := bc BK356 0; have hcz45_1 : wr.cell? ⟨gb356, 1, none⟩ = some (.slice A0_1 l0_1.length c0_1) := bc BK356 1; have hfz45_0 := blk_frozen BK356.out 0; have hfz45_1 := blk_frozen BK356.out 1; have p359 : 0 ≤ (x39_2 : Int) := of_decide_eq_true (by first | (with_reducible assumption) | assumption); have q359 : x39_2 < (l0_1.length : Int) := of_decide_eq_true (by first | (with_reducible assumption) | assumption); obtain ⟨ad359, e359, hx359_0, hx359_1⟩ := at_T40 HR0_1.out x39_2 p359 q359
            cases e359
            replace hx359_0 := (HB.out.cell (World.block_lt_of_cell? w _ hx359_0)).trans hx359_0; replace hx359_1 := (HB.out.cell (World.block_lt_of_cell? w _ hx359_1)).trans hx359_1; replace p359 := eq_true p359; replace q359 := eq_true q359; have hnb46 := NB358_357.out; have hnc46 := NB357_358.out; have hcz47_0 : wr.cell? ⟨gb358, 0, none⟩ = some (.int .i64 a2_0) := bc BK358 0; have hcz47_1 : wr.cell? ⟨gb358, 1, none⟩ = some (.slice A2_1 l2_1.length c2_1) := bc BK358 1; have hcz47_2 : wr.cell? ⟨gb358, 2, none⟩ = some (.slice A2_2 l2_2.length c2_2) := bc BK358 2; have hcz47_3 : wr.cell? ⟨gb358, 3, none⟩ = some (.int .i64 a2_3) := bc BK358 3; have hcz47_4 : wr.cell? ⟨gb358, 4, none⟩ = some (.int .i64 a2_4) := bc BK358 4; have hfz47_0 := blk_frozen BK358.out 0; have hfz47_1 := blk_frozen BK358.out 1; have hfz47_2 := blk_frozen BK358.out 2; have hfz47_3 := blk_frozen BK358.out 3; have hfz47_4 := blk_frozen BK358.out 4; have p360 : 0 ≤ (x39_2 : Int) := of_decide_eq_true (by first | (with_reducible assumption) | assumption); have q360 : x39_2 < (l2_1.length : Int) := of_decide_eq_true (by first | (with_reducible assumption) | assumption); obtain ⟨ad360, e360, hx360_0⟩ := Kd.at_int HR2_1.out x39_2 p360 q360
            cases e360
            replace hx360_0 := (HB.out.cell (World.block_lt_of_cell? w _ hx360_0)).trans hx360_0; replace p360 := eq_true p360; replace q360 := eq_true q360; have p361 : 0 ≤ (x39_2 : Int) := of_decide_eq_true (by first | (with_reducible assumption) | assumption); have q361 : x39_2 < (l2_2.length : Int) := of_decide_eq_true (by first | (with_reducible assumption) | assumption); obtain ⟨ad361, e361, hx361_0⟩ := Kd.at_int HR2_2.out x39_2 p361 q361
            cases e361
            replace hx361_0 := (HB.out.cell (World.block_lt_of_cell? w _ hx361_0)).trans hx361_0; replace p361 := eq_true p361; replace q361 := eq_true q361
            go_wp2
            repeat (go_quiet (fail); try go_wp2)
            go_ret
            exact ⟨by first | rfl | (simp [errW_none, errW_some] <;> rfl) | (simp [*, errW_none, errW_some] <;> rfl), hb3 HB GE356 GE357 GE358⟩
           ·rw [if_neg c42] at H; have c42b0 : (!(((rd_T40 l0_1 x39_2).f0) == (rd l2_1 x39_2)) || (!(((rd_T40 l0_1 x39_2).f1) == (rd l2_2 x39_2)))) = false := by simpa using c42
            clear c42; have H' := Aside0.mk H; clear H; have hnb48 := NB356_357.out; have hnc48 := NB357_356.out; have hnb49 := NB356_358.out; have hnc49 := NB358_356.out; have hcz50_0 : wr.cell? ⟨gb356, 0, none⟩ = some (.int .i64 a0_0) := bc BK356 0; have hcz50_1 : wr.cell? ⟨gb356, 1, none⟩ = some (.slice A0_1 l0_1.length c0_1) := bc BK356 1; have hfz50_0 := blk_frozen BK356.out 0; have hfz50_1 := blk_frozen BK356.out 1; have p359 : 0 ≤ (x39_2 : Int) := of_decide_eq_true (by first | (with_reducible assumption) | assumption); have q359 : x39_2 < (l0_1.length : Int) := of_decide_eq_true (by first | (with_reducible assumption) | assumption); obtain ⟨ad359, e359, hx359_0, hx359_1⟩ := at_T40 HR0_1.out x39_2 p359 q359
            cases e359
            replace hx359_0 := (HB.out.cell (World.block_lt_of_cell? w _ hx359_0)).trans hx359_0; replace hx359_1 := (HB.out.cell (World.block_lt_of_cell? w _ hx359_1)).trans hx359_1; replace p359 := eq_true p359; replace q359 := eq_true q359; have hnb51 := NB358_357.out; have hnc51 := NB357_358.out; have hcz52_0 : wr.cell? ⟨gb358, 0, none⟩ = some (.int .i64 a2_0) := bc BK358 0; have hcz52_1 : wr.cell? ⟨gb358, 1, none⟩ = some (.slice A2_1 l2_1.length c2_1) := bc BK358 1; have hcz52_2 : wr.cell? ⟨gb358, 2, none⟩ = some (.slice A2_2 l2_2.length c2_2) := bc BK358 2; have hcz52_3 : wr.cell? ⟨gb358, 3, none⟩ = some (.int .i64 a2_3) := bc BK358 3; have hcz52_4 : wr.cell? ⟨gb358, 4, none⟩ = some (.int .i64 a2_4) := bc BK358 4; have hfz52_0 := blk_frozen BK358.out 0; have hfz52_1 := blk_frozen BK358.out 1; have hfz52_2 := blk_frozen BK358.out 2; have hfz52_3 := blk_frozen BK358.out 3; have hfz52_4 := blk_frozen BK358.out 4; have p360 : 0 ≤ (x39_2 : Int) := of_decide_eq_true (by first | (with_reducible assumption) | assumption); have q360 : x39_2 < (l2_1.length : Int) := of_decide_eq_true (by first | (with_reducible assumption) | assumption); obtain ⟨ad360, e360, hx360_0⟩ := Kd.at_int HR2_1.out x39_2 p360 q360
            cases e360
            replace hx360_0 := (HB.out.cell (World.block_lt_of_cell? w _ hx360_0)).trans hx360_0; replace p360 := eq_true p360; replace q360 := eq_true q360; have p361 : 0 ≤ (x39_2 : Int) := of_decide_eq_true (by first | (with_reducible assumption) | assumption); have q361 : x39_2 < (l2_2.length : Int) := of_decide_eq_true (by first | (with_reducible assumption) | assumption); obtain ⟨ad361, e361, hx361_0⟩ := Kd.at_int HR2_2.out x39_2 p361 q361
            cases e361
            replace hx361_0 := (HB.out.cell (World.block_lt_of_cell? w _ hx361_0)).trans hx361_0; replace p361 := eq_true p361; replace q361 := eq_true q361
            go_wp2
            repeat (go_quiet (fail); try go_wp2)
            go_roundg k2
            case measure => have := HJ3.out; have := HK2.out; omega
            case rel => exact ⟨(wrap64 (x39_2 + 1)), (by first | rfl | (simp; done) | (simp [*]; done)), H', ⟨by have := HJ3.out; have := HK2.out; omega⟩, ⟨bx BK356⟩, ⟨bx BK357⟩, ⟨bx BK358⟩, ⟨hb3 HB GE356 GE357 GE358⟩⟩
          ·rw [if_neg c41] at H; exact absurd H (by simp)
         ·rw [if_neg c40] at H; exact absurd H (by simp)
        ·rw [if_neg c39] at H; exact absurd H (by simp)
       ·rw [if_neg c38] at H; exact absurd H (by simp)
      ·rw [if_neg c37] at H; have c37b0 : decide (x39_2 < (l0_1.length : Int)) = false := decide_eq_false c37; clear c37; obtain rfl := Option.some.inj H
       go_wp2
       repeat (go_quiet (fail); try go_wp2)
       go_ret
       exact ⟨by first | rfl | (simp [errW_none, errW_some] <;> rfl) | (simp [*, errW_none, errW_some] <;> rfl), hb3 HB GE356 GE357 GE358⟩

end Go.Proofs.Ytjgaicdieddekaa.PParA
