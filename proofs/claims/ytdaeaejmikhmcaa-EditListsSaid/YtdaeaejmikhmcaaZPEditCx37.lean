-- PRINTED by print.py (a twelfth state) out of the translation. Not trusted: Lean checks it.
import Derived.Test.YtdaeaejmikhmcaaZPEditCx0
import Derived.Test.YtdaeaejmikhmcaaZPEditCx36
namespace Go.Proofs.Ytdaeaejmikhmcaa.PEditC
open Go.RowKit Go.Proofs.YtdaeaejmikhmcaaW.PrintWords Go.Proofs.YtdaeaejmikhmcaaW.PrintLast Go.Proofs.YtdaeaejmikhmcaaW.PrintMore
open Go.Proofs.YtdaeaejmikhmcaaX
attribute [local go_sem] max2_int min2_int max_two min_two max_three min_three max_four min_four   -- for this text's walks alone
set_option linter.unusedVariables false
set_option linter.unusedSimpArgs false

/-! ### tangramref14_put: function 48 -/
mutual
def tangramref14_put.j0 : Nat → List (S46) → Bool → Int → Int → Option ((List (S46)))
 | 0, _, _, _, _ => none
 | k + 1, x0, x30, x512000, x512001 => if x30 = true then (if x0.length < 8796093022208 then (some (x0 ++ [(⟨x512000, x512001⟩ : S46)])) else (none)) else (tangramref14_put.l0 k x0 ([] : List (S46)) false 0 x512000 x512001)
def tangramref14_put.l0 : Nat → List (S46) → List (S46) → Bool → Int → Int → Int → Option ((List (S46)))
 | 0, _, _, _, _, _, _ => none
 | k + 1, x0, x8, x9, x10, x512000, x512001 => if x10 < (x0.length : Int) then (if x9 = true then (if 0 ≤ x10 then (if x8.length < 8796093022208 then (tangramref14_put.l0 k x0 (x8 ++ [(⟨(rd_T46 x0 x10).f0, (rd_T46 x0 x10).f1⟩ : S46)]) x9 (wrap64 (x10 + 1)) x512000 x512001) else (none)) else (none)) else (if 0 ≤ x10 then ((tangramref14_less.f x512000 x512001 ((rd_T46 x0 x10).f0) ((rd_T46 x0 x10).f1)).bind fun t522 => (if t522 = true then (if x8.length < 8796093022208 then ((some (x8 ++ [(⟨x512000, x512001⟩ : S46)] : List (S46))).bind fun y523 => (if y523.length < 8796093022208 then (tangramref14_put.l0 k x0 (y523 ++ [(⟨(rd_T46 x0 x10).f0, (rd_T46 x0 x10).f1⟩ : S46)]) true (wrap64 (x10 + 1)) x512000 x512001) else (none))) else (none)) else (if x8.length < 8796093022208 then (tangramref14_put.l0 k x0 (x8 ++ [(⟨(rd_T46 x0 x10).f0, (rd_T46 x0 x10).f1⟩ : S46)]) x9 (wrap64 (x10 + 1)) x512000 x512001) else (none)))) else (none))) else (some x8)
end
def tangramref14_put.f (k : Nat) (l0 : List (S46)) (a1 : Int) (a2 : Int) : Option ((List (S46))) := if (l0.length : Int) = 0 then (tangramref14_put.j0 k l0 true (mn a1 a2) (mx a1 a2)) else (if 0 ≤ (wrap64 ((l0.length : Int) - 1)) then (if (wrap64 ((l0.length : Int) - 1)) < (l0.length : Int) then ((tangramref14_less.f ((rd_T46 l0 (wrap64 ((l0.length : Int) - 1))).f0) ((rd_T46 l0 (wrap64 ((l0.length : Int) - 1))).f1) (mn a1 a2) (mx a1 a2)).bind fun t513 => (tangramref14_put.j0 k l0 t513 (mn a1 a2) (mx a1 a2))) else (none)) else (none))
theorem tangramref14_put.mono_l : ∀ k, (∀ y0 y1 y2 y3, LeO (tangramref14_put.j0 k y0 y1 y2 y3) (tangramref14_put.j0 (k + 1) y0 y1 y2 y3)) ∧ (∀ y0 y1 y2 y3 y4 y5, LeO (tangramref14_put.l0 k y0 y1 y2 y3 y4 y5) (tangramref14_put.l0 (k + 1) y0 y1 y2 y3 y4 y5))
 | 0 => ⟨fun _ _ _ _ r h => by simp [tangramref14_put.j0] at h, fun _ _ _ _ _ _ r h => by simp [tangramref14_put.l0] at h⟩
 | k + 1 => by
  obtain ⟨ih0, ih1⟩ := tangramref14_put.mono_l k; refine ⟨?_, ?_⟩
  ·intro y0 y1 y2 y3
   unfold tangramref14_put.j0
   repeat' first
   | (with_reducible exact ih0 _ _ _ _)
   | (with_reducible exact ih1 _ _ _ _ _ _)
   | (with_reducible exact LeO.refl _)
   | (with_reducible exact LeO.none _)
   | (with_reducible refine LeO.ite ?_ ?_)
   | (with_reducible refine LeO.bind ?_ (fun _ => ?_))
   | exact ih0 _ _ _ _
   | exact ih1 _ _ _ _ _ _
   | exact LeO.none _
   | refine LeO.ite ?_ ?_
   | refine LeO.bind ?_ (fun _ => ?_)
  ·intro y0 y1 y2 y3 y4 y5
   unfold tangramref14_put.l0
   repeat' first
   | (with_reducible exact ih0 _ _ _ _)
   | (with_reducible exact ih1 _ _ _ _ _ _)
   | (with_reducible exact LeO.refl _)
   | (with_reducible exact LeO.none _)
   | (with_reducible refine LeO.ite ?_ ?_)
   | (with_reducible refine LeO.bind ?_ (fun _ => ?_))
   | exact ih0 _ _ _ _
   | exact ih1 _ _ _ _ _ _
   | exact LeO.none _
   | refine LeO.ite ?_ ?_
   | refine LeO.bind ?_ (fun _ => ?_)
theorem tangramref14_put.mono : ∀ a0 a1 a2 k, LeO (tangramref14_put.f k a0 a1 a2) (tangramref14_put.f (k + 1) a0 a1 a2) := by
 intro a0 a1 a2 k; obtain ⟨ih0, ih1⟩ := tangramref14_put.mono_l k
 unfold tangramref14_put.f
 repeat' first
   | (with_reducible exact ih0 _ _ _ _)
   | (with_reducible exact ih1 _ _ _ _ _ _)
   | (with_reducible exact LeO.refl _)
   | (with_reducible exact LeO.none _)
   | (with_reducible refine LeO.ite ?_ ?_)
   | (with_reducible refine LeO.bind ?_ (fun _ => ?_))
   | exact ih0 _ _ _ _
   | exact ih1 _ _ _ _ _ _
   | exact LeO.none _
   | refine LeO.ite ?_ ?_
   | refine LeO.bind ?_ (fun _ => ?_)
def tangramref14_put.T2 : Bool × List (List Nat × List Nat) := (true, [([], []), ([0], [0]), ([1], [1]), ([2], [2]), ([3], [3]), ([3], [3]), ([5, 3], [3, 5]), ([6, 3], [3, 6]), ([4, 7, 3], [3, 4, 7]), ([8, 3], [3, 8]), ([3], [3]), ([9, 10, 3, 3], [3, 9, 10]), ([3, 11], [3, 11])])
def tangramref14_put.B2 : List Nat := [0, 1, 3, 7, 15, 15, 47, 111, 255, 511, 15, 2047, 4095]
theorem tangramref14_put.tab2 : rtab .any (opsOf Try.f48 2) = tangramref14_put.T2 := by kernel_rfl
theorem tangramref14_put.bits2 : waitsOk tangramref14_put.T2.2 tangramref14_put.B2 = true := by kernel_rfl
def tangramref14_put.T9 : Bool × List (List Nat × List Nat) := (true, [([], []), ([0], [0]), ([1], [1]), ([2], [2]), ([2], [2]), ([2], [2]), ([4, 5, 2], [2, 4, 5]), ([6, 2], [2, 6]), ([3, 7, 2, 2], [2, 3, 7]), ([2, 8], [2, 8])])
def tangramref14_put.B9 : List Nat := [0, 1, 3, 7, 7, 7, 55, 119, 255, 511]
theorem tangramref14_put.tab9 : rtab .any (opsOf Try.f48 9) = tangramref14_put.T9 := by kernel_rfl
theorem tangramref14_put.bits9 : waitsOk tangramref14_put.T9.2 tangramref14_put.B9 = true := by kernel_rfl
set_option maxHeartbeats 8000000 in
set_option maxRecDepth 100000 in
theorem tangramref14_put.calls (k : Nat) (P0_ : Nat → Prop) (u9000_ : Value) (l0 : List (S46)) (a1 : Int) (a2 : Int) (r : List (S46)) (w0 w : World) (hB : Below w0.heap.size w0 w) (ho0 : Kd.R k46 46 w w0.heap.size P0_ u9000_ l0) (h : tangramref14_put.f k l0 a1 a2 = some r) :
  Calls Try.prog 48 #[u9000_, .int .i64 a1, .int .i64 a2] w fun e w' => ∃ v0_ : Value, e = .returned (v0_) ∧ Kd.R k46 46 w' w0.heap.size (fun k_ => (P0_ k_ ∨ w.heap.size ≤ k_)) v0_ r ∧ Below w0.heap.size w0 w' ∧ Kept w w' (fun k_ => P0_ k_) := by
 have hu46 := Try.underlying46; have HO0 := Aside0.mk (show Kd.R k46 46 w w0.heap.size (fun k_ => (P0_ k_ ∨ w.heap.size ≤ k_)) u9000_ l0 from Kd.R_mono ho0 (fun k_ hk => (.inl hk))); have HK := Aside0.mk (Kept.refl w (fun k_ => P0_ k_)); have HW0 := Aside0.mk hB.size; have HB := Aside0.mk hB; clear hB; have H : (if (l0.length : Int) = 0 then (tangramref14_put.j0 k l0 true (mn a1 a2) (mx a1 a2)) else (if 0 ≤ (wrap64 ((l0.length : Int) - 1)) then (if (wrap64 ((l0.length : Int) - 1)) < (l0.length : Int) then ((tangramref14_less.f ((rd_T46 l0 (wrap64 ((l0.length : Int) - 1))).f0) ((rd_T46 l0 (wrap64 ((l0.length : Int) - 1))).f1) (mn a1 a2) (mx a1 a2)).bind fun t513 => (tangramref14_put.j0 k l0 t513 (mn a1 a2) (mx a1 a2))) else (none)) else (none))) = some r := h; clear h; obtain ⟨ji4, hji4⟩ : ∃ j_ : Int, (mn a1 a2) = j_ := ⟨_, rfl⟩; replace H : (if (l0.length : Int) = 0 then (tangramref14_put.j0 k l0 true ji4 (mx a1 a2)) else (if 0 ≤ (wrap64 ((l0.length : Int) - 1)) then (if (wrap64 ((l0.length : Int) - 1)) < (l0.length : Int) then ((tangramref14_less.f ((rd_T46 l0 (wrap64 ((l0.length : Int) - 1))).f0) ((rd_T46 l0 (wrap64 ((l0.length : Int) - 1))).f1) (ji4) (mx a1 a2)).bind fun t513 => (tangramref14_put.j0 k l0 t513 ji4 (mx a1 a2))) else (none)) else (none))) = some r := by first | (rw [hji4] at H; exact H) | (simp only [hji4] at H ⊢; exact H)
 have hji4_ : (if a2 < a1 then a2 else a1) = ji4 := hji4; obtain ⟨ji5, hji5⟩ : ∃ j_ : Int, (mx a1 a2) = j_ := ⟨_, rfl⟩; replace H : (if (l0.length : Int) = 0 then (tangramref14_put.j0 k l0 true ji4 ji5) else (if 0 ≤ (wrap64 ((l0.length : Int) - 1)) then (if (wrap64 ((l0.length : Int) - 1)) < (l0.length : Int) then ((tangramref14_less.f ((rd_T46 l0 (wrap64 ((l0.length : Int) - 1))).f0) ((rd_T46 l0 (wrap64 ((l0.length : Int) - 1))).f1) (ji4) (ji5)).bind fun t513 => (tangramref14_put.j0 k l0 t513 ji4 ji5)) else (none)) else (none))) = some r := by first | (rw [hji5] at H; exact H) | (simp only [hji5] at H ⊢; exact H)
 have hji5_ : (if a1 < a2 then a2 else a1) = ji5 := hji5; have HC6 := Aside0.mk H; clear H
 go_enter Try.func48, Try.ntmps48
 go_upto_region 2 with (first | ((with_reducible refine gate_dst (N := 7) rfl ?_); (try (refine gate_guard (by rfl) ?_; dsimp only)); refine be_ 7 #[.int .i64 0, .int .i64 0] 46 ?_; intro gb511 hg w7 hbox hb; replace HO0 := Aside0.mk (Kd.R_below (Kd.R_elderB (rx HO0) gb511 (Nat.le_of_eq hg.symm)) hb); have BK511 := Aside0.mk (hbox); have GW511 := Aside0.mk ((by rw [hg]; exact (by first | exact HK.out.1 | exact (show Kept w _ (fun k_ => P0_ k_) from by repeat (first | (with_reducible first | exact HK.out | apply Kept.alloc | apply Kept.drewN | apply Kept.drew) | exact HK.out)).1) : w.heap.size ≤ gb511)); replace HK := Aside0.mk (Kept.below (S := (fun k_ => P0_ k_)) (by repeat (first | (with_reducible first | exact HK.out | apply Kept.alloc | apply Kept.drewN | apply Kept.drew) | exact HK.out)) hb); have GE511 := wq (hb0 HB) hg; replace HB := hs (hb0 HB) hb; clear hb hbox hg; have hcz8_0 : w7.cell? ⟨gb511, 0, none⟩ = some (.int .i64 0) := bc BK511 0; have hcz8_1 : w7.cell? ⟨gb511, 1, none⟩ = some (.int .i64 0) := bc BK511 1; have hfz8_0 := blk_frozen BK511.out 0; have hfz8_1 := blk_frozen BK511.out 1))
 (try simp only [Act.put, List.setIfInBounds_toArray, List.set_cons_zero, List.set_cons_succ])
 go_cut [30] (fun v30 wc => ∃ (kq : Nat) (x30_5 : Bool), v30 = .bool x30_5 ∧ Aside0 (tangramref14_put.j0 kq l0 x30_5 ji4 ji5 = some r) ∧ Aside0 (kq ≤ k) ∧ Aside0 (Kd.R k46 46 wc w0.heap.size (fun k_ => (P0_ k_ ∨ w.heap.size ≤ k_) ∧ k_ ≠ gb511) u9000_ l0) ∧ Aside0 (wc.heap[gb511]? = some (.cells #[.int .i64 ji4, .int .i64 ji5] 46 (0, 0))) ∧ Aside0 (Kept w wc (fun k_ => P0_ k_)) ∧ Aside0 (Below w0.heap.size w0 wc))
 case first => as_aux_lemma =>
  have H := HC6.out; clear HC6
  by_cases c9 : (l0.length : Int) = 0
  ·rw [if_pos c9] at H; have c9b0 : ((l0.length : Int) == 0) = true := beq_iff_eq.mpr c9; have c9b1 : ((l0.length : Int) != 0) = false := bne_eq_false_iff_eq.mpr c9; clear c9
   (first | rw [c9b0] | (simp only [i64_w, i32_w]; rw [c9b0]) | skip)
   have H' := Aside0.mk H; clear H
   try go_wp2
   have n0_ : Aside0 (Kd.R k46 46 ((w7.setCell ⟨gb511, 0, none⟩ (.int .i64 ji4)).setCell ⟨gb511, 1, none⟩ (.int .i64 ji5)) w0.heap.size (fun k_ => (P0_ k_ ∨ w.heap.size ≤ k_) ∧ k_ ≠ gb511) u9000_ l0) := ⟨by (with_reducible repeat (first | apply Kd.R_alloc | apply Kd.R_drewN | apply Kd.R_drew)); exact Kd.R_mono (Kd.R_far (p := ⟨gb511, 1, none⟩) (Kd.R_far (p := ⟨gb511, 0, none⟩) (Kd.R_mono HO0.out (fun k_ hk => (⟨hk, hk.2⟩ : _ ∧ k_ ≠ gb511))) (fun _ hk => hk.2) (.int .i64 ji4)) (fun _ hk => hk.2) (.int .i64 ji5)) (fun _ hk => ⟨hk.1.1, hk.1.2⟩)⟩; have n1_ : Aside0 (((w7.setCell ⟨gb511, 0, none⟩ (.int .i64 ji4)).setCell ⟨gb511, 1, none⟩ (.int .i64 ji5)).heap[gb511]? = some (.cells #[.int .i64 ji4, .int .i64 ji5] 46 (0, 0))) := ⟨bp BK511⟩; have n2_ : Aside0 (Kept w ((w7.setCell ⟨gb511, 0, none⟩ (.int .i64 ji4)).setCell ⟨gb511, 1, none⟩ (.int .i64 ji5)) (fun k_ => P0_ k_)) := ⟨by repeat (first | (with_reducible first | exact HK.out | apply Kept.alloc | apply Kept.drewN | apply Kept.drew | refine Kept.setCell ?_ (.inr GW511.out) _) | exact HK.out)⟩; have n3_ : Aside0 (Below w0.heap.size w0 ((w7.setCell ⟨gb511, 0, none⟩ (.int .i64 ji4)).setCell ⟨gb511, 1, none⟩ (.int .i64 ji5))) := ⟨hb1 HB GE511⟩
   (try clear HO0)
   (try clear BK511)
   (try clear HK)
   (try clear HB)
   generalize ((w7.setCell ⟨gb511, 0, none⟩ (.int .i64 ji4)).setCell ⟨gb511, 1, none⟩ (.int .i64 ji5)) = w10 at n0_ n1_ n2_ n3_ ⊢; have HO0 := n0_; have BK511 := n1_; have HK := n2_; have HB := n3_; clear n0_ n1_ n2_ n3_; replace HO0 := rd HO0; replace BK511 := bd BK511; replace HK := Aside0.mk (Kept.drew HK.out); replace HB := Aside0.mk (below_drew1 HB.out); obtain ⟨Ao12, co12, eo12⟩ := Kd.R_slice HO0.out
   (first | subst eo12 | obtain ⟨rfl, rfl⟩ := sx eo12)
   refine start_ (n := 13) (S := fun w' => True) (ds := []) (pf 0 13) (by kernel_rfl) rfl rfl trivial (fun hHeld => ?_); refine with_tabW tangramref14_put.tab2 tangramref14_put.bits2 (fun HT_ HW_ => ?_); generalize w10.drew = w11 at HO0 BK511 HK HB hHeld ⊢; refine pu_ 0 (some 18) (pf 1 13) HT_ ?_; refine pu_ 1 (some 19) (pf 2 13) HT_ ?_; refine pu_ 2 (some 20) (pf 3 13) HT_ ?_; refine pu_ 3 (some 21) (pf 4 13) HT_ ?_; refine pn_ 4 (some 22) (pf 5 13) HT_ ?_; refine pn_ 5 (some 23) (pf 6 13) HT_ ?_; refine pn_ 6 (some 24) (pf 7 13) HT_ ?_; refine pn_ 7 (some 25) (pf 8 13) HT_ ?_; refine pn_ 8 (some 26) (pf 9 13) HT_ ?_; refine pn_ 9 (some 27) (pf 10 13) HT_ ?_; refine pn_ 10 (some 28) (pf 11 13) HT_ ?_; refine pn_ 11 (some 29) (pf 12 13) HT_ ?_; refine pu_ 12 (some 30) (pf 13 13) HT_ ?_; refine done_ (done_of HT_.out (by kernel_rfl)) ?_
   try go_wp2
   go_meet
   case rel => exact ⟨_, (true), (by first | rfl | (simp; done) | (simp [*]; done)), H', ⟨by first | omega | exact Nat.le_refl _⟩, ⟨rx HO0⟩, ⟨bx BK511⟩, ⟨by repeat (first | (with_reducible first | exact HK.out | apply Kept.alloc | apply Kept.drewN | apply Kept.drew | refine Kept.setCell ?_ (.inr GW511.out) _) | exact HK.out)⟩, ⟨hb1 HB GE511⟩⟩
  ·rw [if_neg c9] at H; have c9b0 : ((l0.length : Int) == 0) = false := beq_eq_false_iff_ne.mpr c9; have c9b1 : ((l0.length : Int) != 0) = true := bne_iff_ne.mpr c9; have c9b2 : ¬ (l0 = []) := fun h_ => c9 (by rw [h_]; rfl)
   (first | rw [c9b0] | (simp only [i64_w, i32_w]; rw [c9b0]) | skip)
   obtain ⟨ji13, hji13⟩ : ∃ j_ : Int, (wrap64 ((l0.length : Int) - 1)) = j_ := ⟨_, rfl⟩; replace H : (if 0 ≤ (ji13) then (if (ji13) < (l0.length : Int) then ((tangramref14_less.f ((rd_T46 l0 (ji13)).f0) ((rd_T46 l0 (ji13)).f1) (ji4) (ji5)).bind fun t513 => (tangramref14_put.j0 k l0 t513 ji4 ji5)) else (none)) else (none)) = some r := by first | (rw [hji13] at H; exact H) | (simp only [hji13] at H ⊢; exact H)
   have hji13w : (IntKind.i64.wrap ((l0.length : Int) - 1)) = ji13 := (i64_w _).trans hji13
   by_cases c14 : 0 ≤ (ji13)
   ·rw [if_pos c14] at H; have c14b0 : decide (0 ≤ (ji13)) = true := decide_eq_true c14; clear c14
    by_cases c15 : (ji13) < (l0.length : Int)
    ·rw [if_pos c15] at H; have c15b0 : decide ((ji13) < (l0.length : Int)) = true := decide_eq_true c15; clear c15; replace H := Option.bind_eq_some_iff.mp H; obtain ⟨t513, A160, H⟩ := H; (try dsimp only at H); have A16 := Aside0.mk A160; clear A160; have H' := Aside0.mk H; clear H
     try go_wp2
     have n0_ : Aside0 (Kd.R k46 46 ((w7.setCell ⟨gb511, 0, none⟩ (.int .i64 ji4)).setCell ⟨gb511, 1, none⟩ (.int .i64 ji5)) w0.heap.size (fun k_ => (P0_ k_ ∨ w.heap.size ≤ k_) ∧ k_ ≠ gb511) u9000_ l0) := ⟨by (with_reducible repeat (first | apply Kd.R_alloc | apply Kd.R_drewN | apply Kd.R_drew)); exact Kd.R_mono (Kd.R_far (p := ⟨gb511, 1, none⟩) (Kd.R_far (p := ⟨gb511, 0, none⟩) (Kd.R_mono HO0.out (fun k_ hk => (⟨hk, hk.2⟩ : _ ∧ k_ ≠ gb511))) (fun _ hk => hk.2) (.int .i64 ji4)) (fun _ hk => hk.2) (.int .i64 ji5)) (fun _ hk => ⟨hk.1.1, hk.1.2⟩)⟩; have n1_ : Aside0 (((w7.setCell ⟨gb511, 0, none⟩ (.int .i64 ji4)).setCell ⟨gb511, 1, none⟩ (.int .i64 ji5)).heap[gb511]? = some (.cells #[.int .i64 ji4, .int .i64 ji5] 46 (0, 0))) := ⟨bp BK511⟩; have n2_ : Aside0 (Kept w ((w7.setCell ⟨gb511, 0, none⟩ (.int .i64 ji4)).setCell ⟨gb511, 1, none⟩ (.int .i64 ji5)) (fun k_ => P0_ k_)) := ⟨by repeat (first | (with_reducible first | exact HK.out | apply Kept.alloc | apply Kept.drewN | apply Kept.drew | refine Kept.setCell ?_ (.inr GW511.out) _) | exact HK.out)⟩; have n3_ : Aside0 (Below w0.heap.size w0 ((w7.setCell ⟨gb511, 0, none⟩ (.int .i64 ji4)).setCell ⟨gb511, 1, none⟩ (.int .i64 ji5))) := ⟨hb1 HB GE511⟩
     (try clear HO0)
     (try clear BK511)
     (try clear HK)
     (try clear HB)
     generalize ((w7.setCell ⟨gb511, 0, none⟩ (.int .i64 ji4)).setCell ⟨gb511, 1, none⟩ (.int .i64 ji5)) = w17 at n0_ n1_ n2_ n3_ ⊢; have HO0 := n0_; have BK511 := n1_; have HK := n2_; have HB := n3_; clear n0_ n1_ n2_ n3_; replace HO0 := rd HO0; replace BK511 := bd BK511; replace HK := Aside0.mk (Kept.drew HK.out); replace HB := Aside0.mk (below_drew1 HB.out); obtain ⟨Ao19, co19, eo19⟩ := Kd.R_slice HO0.out
     (first | subst eo19 | obtain ⟨rfl, rfl⟩ := sx eo19)
     have p512 : 0 ≤ ((ji13) : Int) := of_decide_eq_true (by first | (with_reducible assumption) | assumption); have q512 : (ji13) < (l0.length : Int) := of_decide_eq_true (by first | (with_reducible assumption) | assumption); obtain ⟨ad512, e512, hx512_0, hx512_1⟩ := at_T46 (Kd.R_reads' HO0.out).2.2 (ji13) p512 q512
     cases e512
     replace p512 := eq_true p512; replace q512 := eq_true q512; refine start_ (n := 13) (S := fun w' => w'.cell? ⟨gb511, 0, none⟩ = some (.int .i64 ji4) ∧ w'.cell? ⟨gb511, 1, none⟩ = some (.int .i64 ji5) ∧ w'.cell? (ad512.add (((ji13)).toNat * 2)) = some (.int .i64 ((rd_T46 l0 (ji13)).f0)) ∧ w'.cell? ⟨(ad512.add (((ji13)).toNat * 2)).block, (ad512.add (((ji13)).toNat * 2)).off + 1, none⟩ = some (.int .i64 ((rd_T46 l0 (ji13)).f1))) (ds := []) (pf 0 13) (by kernel_rfl) rfl rfl ⟨bc BK511 0, bc BK511 1, hx512_0, hx512_1⟩ (fun hHeld => ?_); refine with_tabW tangramref14_put.tab2 tangramref14_put.bits2 (fun HT_ HW_ => ?_); generalize w17.drew = w18 at HO0 BK511 HK HB hx512_0 hx512_1 hHeld ⊢; refine pu_ 0 (some 18) (pf 1 13) HT_ ?_; refine pu_ 1 (some 19) (pf 2 13) HT_ ?_; refine pu_ 2 (some 20) (pf 3 13) HT_ ?_; refine pu_ 3 (some 21) (pf 4 13) HT_ ?_; refine pu_ 4 (some 22) (pf 5 13) HT_ ?_; refine pu_ 5 (some 23) (pf 6 13) HT_ ?_; refine pu_ 6 (some 24) (pf 7 13) HT_ ?_; refine pu_ 7 (some 25) (pf 8 13) HT_ ?_; refine pu_ 8 (some 26) (pf 9 13) HT_ ?_; refine tk4_ 9 (some 27) (pf 10 13) HT_ HW_ hHeld ?_; refine tk4_ 10 (some 28) (pf 11 13) HT_ HW_ hHeld ?_
     refine on_ 11 (some 29) (pf 12 13) HT_ (fun K hK => ?_); refine goes_ Try.func56 (by kernel_rfl) rfl #[.agg #[.int .i64 ((rd_T46 l0 (ji13)).f0), .int .i64 ((rd_T46 l0 (ji13)).f1)], .agg #[.int .i64 ji4, .int .i64 ji5]] (by rfl) rfl rfl (by (try simp only [List.map_toArray, List.map_cons, List.map_nil]); first | done | (simp only [hji13, hji4, hji5]; rfl) | rfl | (simp only [List.length_drop, List.length_take]; rfl)) ?_
     with_reducible refine (tangramref14_less.calls ((rd_T46 l0 (ji13)).f0) ((rd_T46 l0 (ji13)).f1) ji4 ji5 t513 _ A16.out).mono ?_
     rintro e w20 ⟨rfl, hb⟩; have HS2_ := (hb.cell (World.block_lt_of_cell? _ _ (hHeld.2.2.1))).trans (hHeld.2.2.1); have HS3_ := (hb.cell (World.block_lt_of_cell? _ _ (hHeld.2.2.2))).trans (hHeld.2.2.2); refine ⟨_, rfl, ?_⟩; replace HO0 := ry HO0 hb; replace BK511 := kx BK511 hb; replace HK := Aside0.mk (Kept.below (S := (fun k_ => P0_ k_)) (by repeat (first | (with_reducible first | exact HK.out | apply Kept.alloc | apply Kept.drewN | apply Kept.drew | refine Kept.setCell ?_ (.inr GW511.out) _) | exact HK.out)) hb); replace HB := hs (hb1 HB GE511) hb
     (try clear hb)
     (try clear hb2)
     (try clear hk)
     (try clear hi)
     refine hK.out _ _ ⟨bc BK511 0, bc BK511 1, HS2_, HS3_⟩ (fun hHeld => ?_); clear hK K; refine nm_ (some 29) ?_; refine pu_ 12 (some 30) (pf 13 13) HT_ ?_; refine done_ (done_of HT_.out (by kernel_rfl)) ?_
     try go_wp2
     go_meet
     case rel => exact ⟨_, (t513), (by first | rfl | (simp; done) | (simp [*]; done)), H', ⟨by first | omega | exact Nat.le_refl _⟩, ⟨rx HO0⟩, ⟨bx BK511⟩, ⟨by repeat (first | (with_reducible first | exact HK.out | apply Kept.alloc | apply Kept.drewN | apply Kept.drew | refine Kept.setCell ?_ (.inr GW511.out) _) | exact HK.out)⟩, ⟨hb1 HB GE511⟩⟩
    ·rw [if_neg c15] at H; exact absurd H (by simp)
   ·rw [if_neg c14] at H; exact absurd H (by simp)
 case rest => as_aux_lemma =>
  clear HC6
  try clear c1
  try clear p2
  try clear c4
  try clear c5
  try clear p5
  try clear q5
  try clear hx5
  try clear p6
  try clear c9
  try clear c9b0
  try clear c9b1
  try clear c9b2
  try clear c14
  try clear c14b0
  try clear c15
  try clear c15b0
  try clear hcz8_0
  try clear hcz8_1
  try clear hfz8_0
  try clear hfz8_1
  try clear hx512_0
  try clear hx512_1
  try clear p512
  try clear q512
  obtain ⟨kq, x30_5, rfl, HA, HJ5, HO_0, BK511, HK, HB⟩ := hcut
  cases kq with
  | zero => exact absurd HA.out (by simp [tangramref14_put.j0])
  | succ kj5 =>
   have H := HA.out; clear HA; simp only [tangramref14_put.j0] at H
   by_cases c21 : x30_5 = true
   ·subst c21; rw [if_pos rfl] at H
    by_cases c22 : l0.length < 8796093022208
    ·rw [if_pos c22] at H; have LMc22 := Aside0.mk c22; clear c22; obtain ⟨y514, hy514⟩ : ∃ y_ : List (S46), y_ = (l0 ++ [(⟨ji4, ji5⟩ : S46)]) := ⟨_, rfl⟩; replace H : (some y514) = some r := by first | (rw [hy514]; with_reducible exact H) | (have H2_ := (Option.bind_some _ _).symm.trans H; rw [hy514]; with_reducible exact H2_) | (have H2_ := (Option.bind_some _ _).symm.trans H; with_reducible exact H2_) | with_reducible exact H | (rw [hy514]; exact H) | exact H
     have Ny514 := Aside0.mk hy514; clear hy514; obtain rfl := Option.some.inj H; have hcz23_0 : wc.cell? ⟨gb511, 0, none⟩ = some (.int .i64 ji4) := bc BK511 0; have hcz23_1 : wc.cell? ⟨gb511, 1, none⟩ = some (.int .i64 ji5) := bc BK511 1; have hfz23_0 := blk_frozen BK511.out 0; have hfz23_1 := blk_frozen BK511.out 1
     go_wp2_with (first | ((with_reducible refine gate_builtin (b := .append) (xs := #[.tmp 31, .tmp 33]) rfl ?_); (try (refine gate_guard (by rfl) ?_; dsimp only)); at_builtin; refine Kd.R_append k46 (w0 := w0) w0.heap.size rfl (.tmp 31) (.tmp 33) 23 46 (.agg #[(.int .i64 0), (.int .i64 0)]) 16 rfl Try.underlying23 info46 rfl (by decide) (by omega) u9000_ l0 (⟨ji4, ji5⟩ : S46) [.int .i64 ji4, .int .i64 ji5] (fun k_ => (P0_ k_ ∨ w.heap.size ≤ k_) ∧ k_ ≠ gb511) (fun _ => False) rfl rfl ?aP (fun _ hk => hk.elim) ?aF ?aO ?aB ?aS ?aL ?_; (case aP => exact k46_mkM _ _ _ (⟨ji4, ji5⟩ : S46)); (case aB => exact (hb1 HB GE511)); (case aF => exact (fun k_ hk => ⟨(.inr (Nat.le_trans (by first | exact HK.out.1 | exact (show Kept w _ (fun k_ => P0_ k_) from by repeat (first | (with_reducible first | exact HK.out | apply Kept.alloc | apply Kept.drewN | apply Kept.drew | refine Kept.setCell ?_ (.inr GW511.out) _) | exact HK.out)).1) hk)), Kd.freshB (bx BK511) k_ hk⟩)); (case aO => exact (rx HO_0)); (case aS => exact (below_size (hb1 HB GE511))); (case aL => have := LMc22.out; omega); intro v515 w24 ho hb hg hat; rw [← Ny514.out] at ho; have n0_ := Aside0.mk (blk_grown (bx BK511) hg (Kd.R_away HO_0.out (fun _ hk => hk.2))); have n1_ := Aside0.mk (hb); have n2_ := Aside0.mk (Kept.of_grown (S := (fun k_ => P0_ k_)) hg (by repeat (first | (with_reducible first | exact HK.out | apply Kept.alloc | apply Kept.drewN | apply Kept.drew | refine Kept.setCell ?_ (.inr GW511.out) _) | exact HK.out)) (fun k_ e_ => (HO_0.out.1 k_ e_).1)); have n3_ := Aside0.mk (ho); clear BK511; clear HB; clear HK; clear HO_0; have BK511 := n0_; have HB := n1_; have HK := n2_; have HO516 := n3_; clear n0_ n1_ n2_ n3_; clear ho hb hg hat))
     go_ret
     exact ⟨_, by first | rfl | (simp [errW_none, errW_some] <;> rfl) | (simp only [← hji4, ← hji5]; first | rfl | (simp [errW_none, errW_some] <;> rfl)) | (simp [*, errW_none, errW_some] <;> rfl), by (with_reducible repeat (first | apply Kd.R_alloc | apply Kd.R_drewN | apply Kd.R_drew)); exact Kd.R_mono HO516.out (fun _ hk => hk.1), hb1 HB GE511, by repeat (first | (with_reducible first | exact HK.out | apply Kept.alloc | apply Kept.drewN | apply Kept.drew | refine Kept.setCell ?_ (.inr GW511.out) _) | exact HK.out)⟩
    ·rw [if_neg c22] at H; exact absurd H (by simp)
   ·replace c21 := Bool.eq_false_iff.mpr c21; subst c21; rw [if_neg (show ¬ (false = true) by decide)] at H; have H' := Aside0.mk H; clear H
    go_wp2
    go_loopg [8, 9, 10] kj5 (fun kq v8 v9 v10 w' => ∃ (x8_2 : List (S46)) (x9_2 : Bool) (x10_2 : Int), v9 = .bool x9_2 ∧ v10 = .int .i64 x10_2 ∧ Aside0 (tangramref14_put.l0 kq l0 x8_2 x9_2 x10_2 ji4 ji5 = some r) ∧ Aside0 (kq ≤ kj5) ∧ Aside0 (Kd.R k46 46 w' w0.heap.size (fun k_ => (P0_ k_ ∨ w.heap.size ≤ k_) ∧ some k_ ≠ (v8 : Value).ownBlock ∧ k_ ≠ gb511) u9000_ l0) ∧ Aside0 (Kd.R k46 46 w' w0.heap.size (fun k_ => (P0_ k_ ∨ w.heap.size ≤ k_) ∧ some k_ ≠ (u9000_ : Value).ownBlock ∧ k_ ≠ gb511) v8 x8_2) ∧ Aside0 (w'.heap[gb511]? = some (.cells #[.int .i64 ji4, .int .i64 ji5] 46 (0, 0))) ∧ Aside0 (Kept w w' (fun k_ => P0_ k_)) ∧ Aside0 (Below w0.heap.size w0 w'))
    case atStart => exact ⟨(([] : List (S46))), (false), (0), (by first | rfl | (simp; done) | (simp [*]; done)), (by first | rfl | (simp; done) | (simp [*]; done)), H', ⟨Nat.le_refl _⟩, ⟨by (with_reducible repeat (first | apply Kd.R_alloc | apply Kd.R_drewN | apply Kd.R_drew)); exact Kd.R_mono HO_0.out (fun _ hk => ⟨hk.1, ⟨(by simp [Value.ownBlock]), hk.2⟩⟩)⟩, ⟨by first | exact Kd.R_nil _ _ _ _ _ | exact Kd.N_nil _ _ _ _ _ | exact Kd.V_nil _ _ _ _ _ | exact Kd.Q_nil _ _ _ _ _ | exact Kd.S_nil _ _ _ _ _⟩, ⟨bx BK511⟩, ⟨by repeat (first | (with_reducible first | exact HK.out | apply Kept.alloc | apply Kept.drewN | apply Kept.drew | refine Kept.setCell ?_ (.inr GW511.out) _) | exact HK.out)⟩, ⟨hb1 HB GE511⟩⟩
    case round =>
     clear H'
     try clear c1
     try clear c2
     try clear p2
     try clear c4
     try clear c5
     try clear p5
     try clear q5
     try clear hx5
     try clear p6
     try clear c9
     try clear c9b0
     try clear c9b1
     try clear c9b2
     try clear c14
     try clear c14b0
     try clear c15
     try clear c15b0
     try clear c21
     try clear c22
     try clear hcz23_0
     try clear hcz23_1
     try clear hcz8_0
     try clear hcz8_1
     try clear hfz23_0
     try clear hfz23_1
     try clear hfz8_0
     try clear hfz8_1
     try clear hx512_0
     try clear hx512_1
     try clear p2
     try clear p5
     try clear p512
     try clear p6
     try clear q5
     try clear q512
     obtain ⟨x8_2, x9_2, x10_2, rfl, rfl, HA, HK2, HO_0, HO_8, BK511, HK, HB⟩ := hrel
     cases gk with
     | zero => exact absurd HA.out (by simp [tangramref14_put.l0])
     | succ k2 =>
      have H := HA.out; clear HA; simp only [tangramref14_put.l0] at H
      by_cases c25 : x10_2 < (l0.length : Int)
      ·rw [if_pos c25] at H; have c25b0 : decide (x10_2 < (l0.length : Int)) = true := decide_eq_true c25; clear c25
       by_cases c26 : x9_2 = true
       ·subst c26; rw [if_pos rfl] at H
        by_cases c27 : 0 ≤ x10_2
        ·rw [if_pos c27] at H; have c27b0 : decide (0 ≤ x10_2) = true := decide_eq_true c27; clear c27
         by_cases c28 : x8_2.length < 8796093022208
         ·rw [if_pos c28] at H; have LMc28 := Aside0.mk c28; clear c28; obtain ⟨y518, hy518⟩ : ∃ y_ : List (S46), y_ = (x8_2 ++ [(⟨(rd_T46 l0 x10_2).f0, (rd_T46 l0 x10_2).f1⟩ : S46)]) := ⟨_, rfl⟩; replace H : (tangramref14_put.l0 k2 l0 y518 true (wrap64 (x10_2 + 1)) ji4 ji5) = some r := by first | (rw [hy518]; with_reducible exact H) | (have H2_ := (Option.bind_some _ _).symm.trans H; rw [hy518]; with_reducible exact H2_) | (have H2_ := (Option.bind_some _ _).symm.trans H; with_reducible exact H2_) | with_reducible exact H | (rw [hy518]; exact H) | exact H
          have Ny518 := Aside0.mk hy518; clear hy518; have H' := Aside0.mk H; clear H; obtain ⟨Ao29, co29, eo29⟩ := Kd.R_slice HO_0.out; subst eo29
          try go_wp2
          replace HO_0 := rd HO_0; replace HO_8 := rd HO_8; replace BK511 := bd BK511; replace HK := Aside0.mk (Kept.drew HK.out); replace HB := Aside0.mk (below_drew1 HB.out); refine start_ (n := 10) (S := fun w' => True) (ds := []) (pf 0 10) (by kernel_rfl) rfl rfl trivial (fun hHeld => ?_); refine with_tabW tangramref14_put.tab9 tangramref14_put.bits9 (fun HT_ HW_ => ?_); generalize wr.drew = w30 at HO_0 HO_8 BK511 HK HB hHeld ⊢; refine pu_ 0 (some 41) (pf 1 10) HT_ ?_; refine pu_ 1 (some 42) (pf 2 10) HT_ ?_; refine pu_ 2 (some 43) (pf 3 10) HT_ ?_; refine pn_ 3 (some 44) (pf 4 10) HT_ ?_; refine pn_ 4 (some 45) (pf 5 10) HT_ ?_; refine pn_ 5 (some 46) (pf 6 10) HT_ ?_; refine pn_ 6 (some 47) (pf 7 10) HT_ ?_; refine pn_ 7 (some 48) (pf 8 10) HT_ ?_; refine pn_ 8 (some 49) (pf 9 10) HT_ ?_; refine pu_ 9 (some 50) (pf 10 10) HT_ ?_; refine done_ (done_of HT_.out (by kernel_rfl)) ?_; have p517 : 0 ≤ (x10_2 : Int) := of_decide_eq_true (by first | (with_reducible assumption) | assumption); have q517 : x10_2 < (l0.length : Int) := of_decide_eq_true (by first | (with_reducible assumption) | assumption); obtain ⟨ad517, e517, hx517_0, hx517_1⟩ := at_T46 (Kd.R_reads' HO_0.out).2.2 x10_2 p517 q517
          cases e517
          replace p517 := eq_true p517; replace q517 := eq_true q517
          try go_wp2_with (first | ((with_reducible refine gate_builtin (b := .append) (xs := #[.tmp 55, .tmp 60]) rfl ?_); (try (refine gate_guard (by rfl) ?_; dsimp only)); at_builtin; refine Kd.R_append k46 (w0 := w0) w0.heap.size rfl (.tmp 55) (.tmp 60) 23 46 (.agg #[(.int .i64 0), (.int .i64 0)]) 16 rfl Try.underlying23 info46 rfl (by decide) (by omega) u8 x8_2 (⟨(rd_T46 l0 x10_2).f0, (rd_T46 l0 x10_2).f1⟩ : S46) [.int .i64 ((rd_T46 l0 x10_2).f0), .int .i64 ((rd_T46 l0 x10_2).f1)] (fun k_ => (P0_ k_ ∨ w.heap.size ≤ k_) ∧ some k_ ≠ (.slice (some ad517) l0.length co29 : Value).ownBlock ∧ k_ ≠ gb511) (fun _ => False) rfl rfl ?aP (fun _ hk => hk.elim) ?aF ?aO ?aB ?aS ?aL ?_; (case aP => exact k46_mkM _ _ _ (⟨(rd_T46 l0 x10_2).f0, (rd_T46 l0 x10_2).f1⟩ : S46)); (case aB => exact (hb1 HB GE511)); (case aF => exact (fun k_ hk => ⟨(.inr (Nat.le_trans (by first | exact HK.out.1 | exact (show Kept w _ (fun k_ => P0_ k_) from by repeat (first | (with_reducible first | exact HK.out | apply Kept.alloc | apply Kept.drewN | apply Kept.drew | refine Kept.setCell ?_ (.inr GW511.out) _) | exact HK.out)).1) hk)), Kd.fresh' (Kd.R_lt (rx HO_0)) k_ hk, Kd.freshB (bx BK511) k_ hk⟩)); (case aO => exact (rx HO_8)); (case aS => exact (below_size (hb1 HB GE511))); (case aL => have := LMc28.out; omega); intro v519 w31 ho hb hg hat; rw [← Ny518.out] at ho; have n0_ := Aside0.mk (Kd.R_after (ok := (fun k_ => (P0_ k_ ∨ w.heap.size ≤ k_) ∧ k_ ≠ gb511)) (Kd.R_mono (rx HO_0) (fun _ hk => ⟨⟨hk.1, hk.2.2⟩, hk.2.1⟩)) hg hat); have n1_ := Aside0.mk (blk_grown (bx BK511) hg (Kd.R_away HO_8.out (fun _ hk => hk.2.2))); have n2_ := Aside0.mk (hb); have n3_ := Aside0.mk (Kept.of_grown (S := (fun k_ => P0_ k_)) hg (by repeat (first | (with_reducible first | exact HK.out | apply Kept.alloc | apply Kept.drewN | apply Kept.drew | refine Kept.setCell ?_ (.inr GW511.out) _) | exact HK.out)) (fun k_ e_ => (HO_8.out.1 k_ e_).1)); have n4_ := Aside0.mk (ho); clear HO_0; clear BK511; clear HB; clear HK; clear HO_8; have HO_0 := n0_; have BK511 := n1_; have HB := n2_; have HK := n3_; have HO520 := n4_; clear n0_ n1_ n2_ n3_ n4_; clear ho hb hg hat))
          go_roundg k2
          case measure => have := HJ5.out; have := HK2.out; omega
          case rel => exact ⟨(y518), (true), (wrap64 (x10_2 + 1)), (by first | rfl | (simp; done) | (simp [*]; done)), (by first | rfl | (simp; done) | (simp [*]; done)), H', ⟨by have := HJ5.out; have := HK2.out; omega⟩, ⟨Kd.R_mono (rx HO_0) (fun _ hk => ⟨hk.1.1, ⟨hk.2, hk.1.2⟩⟩)⟩, ⟨rx HO520⟩, ⟨bx BK511⟩, ⟨by repeat (first | (with_reducible first | exact HK.out | apply Kept.alloc | apply Kept.drewN | apply Kept.drew | refine Kept.setCell ?_ (.inr GW511.out) _) | exact HK.out)⟩, ⟨hb1 HB GE511⟩⟩
         ·rw [if_neg c28] at H; exact absurd H (by simp)
        ·rw [if_neg c27] at H; exact absurd H (by simp)
       ·replace c26 := Bool.eq_false_iff.mpr c26; subst c26; rw [if_neg (show ¬ (false = true) by decide)] at H
        by_cases c32 : 0 ≤ x10_2
        ·rw [if_pos c32] at H; have c32b0 : decide (0 ≤ x10_2) = true := decide_eq_true c32; clear c32; replace H := Option.bind_eq_some_iff.mp H; obtain ⟨t522, A330, H⟩ := H; (try dsimp only at H); have A33 := Aside0.mk A330; clear A330
         by_cases c34 : t522 = true
         ·subst c34; rw [if_pos rfl] at H
          by_cases c35 : x8_2.length < 8796093022208
          ·rw [if_pos c35] at H; have LMc35 := Aside0.mk c35; clear c35; obtain ⟨y523, hy523⟩ : ∃ y_ : List (S46), y_ = (x8_2 ++ [(⟨ji4, ji5⟩ : S46)]) := ⟨_, rfl⟩; replace H : (if y523.length < 8796093022208 then (tangramref14_put.l0 k2 l0 (y523 ++ [(⟨(rd_T46 l0 x10_2).f0, (rd_T46 l0 x10_2).f1⟩ : S46)]) true (wrap64 (x10_2 + 1)) ji4 ji5) else (none)) = some r := by first | (rw [hy523]; with_reducible exact H) | (have H2_ := (Option.bind_some _ _).symm.trans H; rw [hy523]; with_reducible exact H2_) | (have H2_ := (Option.bind_some _ _).symm.trans H; with_reducible exact H2_) | with_reducible exact H | (rw [hy523]; exact H) | exact H
           have Ny523 := Aside0.mk hy523; clear hy523
           by_cases c36 : y523.length < 8796093022208
           ·rw [if_pos c36] at H; have LMc36 := Aside0.mk c36; clear c36; obtain ⟨y527, hy527⟩ : ∃ y_ : List (S46), y_ = (y523 ++ [(⟨(rd_T46 l0 x10_2).f0, (rd_T46 l0 x10_2).f1⟩ : S46)]) := ⟨_, rfl⟩; replace H : (tangramref14_put.l0 k2 l0 y527 true (wrap64 (x10_2 + 1)) ji4 ji5) = some r := by first | (rw [hy527]; with_reducible exact H) | (have H2_ := (Option.bind_some _ _).symm.trans H; rw [hy527]; with_reducible exact H2_) | (have H2_ := (Option.bind_some _ _).symm.trans H; with_reducible exact H2_) | with_reducible exact H | (rw [hy527]; exact H) | exact H
            have Ny527 := Aside0.mk hy527; clear hy527; have H' := Aside0.mk H; clear H; obtain ⟨Ao37, co37, eo37⟩ := Kd.R_slice HO_0.out; subst eo37
            try go_wp2
            replace HO_0 := rd HO_0; replace HO_8 := rd HO_8; replace BK511 := bd BK511; replace HK := Aside0.mk (Kept.drew HK.out); replace HB := Aside0.mk (below_drew1 HB.out); have p521 : 0 ≤ (x10_2 : Int) := of_decide_eq_true (by first | (with_reducible assumption) | assumption); have q521 : x10_2 < (l0.length : Int) := of_decide_eq_true (by first | (with_reducible assumption) | assumption); obtain ⟨ad521, e521, hx521_0, hx521_1⟩ := at_T46 (Kd.R_reads' HO_0.out).2.2 x10_2 p521 q521
            cases e521
            replace p521 := eq_true p521; replace q521 := eq_true q521; refine start_ (n := 10) (S := fun w' => w'.cell? ⟨gb511, 0, none⟩ = some (.int .i64 ji4) ∧ w'.cell? ⟨gb511, 1, none⟩ = some (.int .i64 ji5) ∧ w'.cell? (ad521.add ((x10_2).toNat * 2)) = some (.int .i64 ((rd_T46 l0 x10_2).f0)) ∧ w'.cell? ⟨(ad521.add ((x10_2).toNat * 2)).block, (ad521.add ((x10_2).toNat * 2)).off + 1, none⟩ = some (.int .i64 ((rd_T46 l0 x10_2).f1))) (ds := []) (pf 0 10) (by kernel_rfl) rfl rfl ⟨bc BK511 0, bc BK511 1, hx521_0, hx521_1⟩ (fun hHeld => ?_); refine with_tabW tangramref14_put.tab9 tangramref14_put.bits9 (fun HT_ HW_ => ?_); generalize wr.drew = w38 at HO_0 HO_8 BK511 HK HB hx521_0 hx521_1 hHeld ⊢; refine pu_ 0 (some 41) (pf 1 10) HT_ ?_; refine pu_ 1 (some 42) (pf 2 10) HT_ ?_; refine pu_ 2 (some 43) (pf 3 10) HT_ ?_; refine pu_ 4 (some 45) #[T_,T_,T_,F_,T_,F_,F_,F_,F_,F_] HT_ ?_; refine pu_ 5 (some 46) #[T_,T_,T_,F_,T_,T_,F_,F_,F_,F_] HT_ ?_; refine pu_ 6 (some 47) #[T_,T_,T_,F_,T_,T_,T_,F_,F_,F_] HT_ ?_; refine tk4_ 3 (some 44) (pf 7 10) HT_ HW_ hHeld ?_; refine tk4_ 7 (some 48) (pf 8 10) HT_ HW_ hHeld ?_; refine on_ 8 (some 49) (pf 9 10) HT_ (fun K hK => ?_); refine goes_ Try.func56 (by kernel_rfl) rfl #[.agg #[.int .i64 ji4, .int .i64 ji5], .agg #[.int .i64 ((rd_T46 l0 x10_2).f0), .int .i64 ((rd_T46 l0 x10_2).f1)]] (by rfl) rfl rfl (by (try simp only [List.map_toArray, List.map_cons, List.map_nil]); first | done | (simp only [hji4, hji5]; rfl) | rfl | (simp only [List.length_drop, List.length_take]; rfl)) ?_
            with_reducible refine (tangramref14_less.calls ji4 ji5 ((rd_T46 l0 x10_2).f0) ((rd_T46 l0 x10_2).f1) true _ A33.out).mono ?_
            rintro e w39 ⟨rfl, hb⟩; have HS2_ := (hb.cell (World.block_lt_of_cell? _ _ (hHeld.2.2.1))).trans (hHeld.2.2.1); have HS3_ := (hb.cell (World.block_lt_of_cell? _ _ (hHeld.2.2.2))).trans (hHeld.2.2.2); refine ⟨_, rfl, ?_⟩; replace HO_0 := ry HO_0 hb; replace HO_8 := ry HO_8 hb; replace BK511 := kx BK511 hb; replace HK := Aside0.mk (Kept.below (S := (fun k_ => P0_ k_)) (by repeat (first | (with_reducible first | exact HK.out | apply Kept.alloc | apply Kept.drewN | apply Kept.drew | refine Kept.setCell ?_ (.inr GW511.out) _) | exact HK.out)) hb); replace HB := hs (hb1 HB GE511) hb
            (try clear hb)
            (try clear hb2)
            (try clear hk)
            (try clear hi)
            refine hK.out _ _ ⟨bc BK511 0, bc BK511 1, HS2_, HS3_⟩ (fun hHeld => ?_); clear hK K; refine nm_ (some 49) ?_; refine pu_ 9 (some 50) (pf 10 10) HT_ ?_; refine done_ (done_of HT_.out (by kernel_rfl)) ?_; have hcz40_0 : w39.cell? ⟨gb511, 0, none⟩ = some (.int .i64 ji4) := bc BK511 0; have hcz40_1 : w39.cell? ⟨gb511, 1, none⟩ = some (.int .i64 ji5) := bc BK511 1; have hfz40_0 := blk_frozen BK511.out 0; have hfz40_1 := blk_frozen BK511.out 1
            try go_wp2_with (first | ((with_reducible refine gate_builtin (b := .append) (xs := #[.tmp 51, .tmp 53]) rfl ?_); (try (refine gate_guard (by rfl) ?_; dsimp only)); at_builtin; refine Kd.R_append k46 (w0 := w0) w0.heap.size rfl (.tmp 51) (.tmp 53) 23 46 (.agg #[(.int .i64 0), (.int .i64 0)]) 16 rfl Try.underlying23 info46 rfl (by decide) (by omega) u8 x8_2 (⟨ji4, ji5⟩ : S46) [.int .i64 ji4, .int .i64 ji5] (fun k_ => (P0_ k_ ∨ w.heap.size ≤ k_) ∧ some k_ ≠ (.slice (some ad521) l0.length co37 : Value).ownBlock ∧ k_ ≠ gb511) (fun _ => False) rfl rfl ?aP (fun _ hk => hk.elim) ?aF ?aO ?aB ?aS ?aL ?_; (case aP => exact k46_mkM _ _ _ (⟨ji4, ji5⟩ : S46)); (case aB => exact (hb1 HB GE511)); (case aF => exact (fun k_ hk => ⟨(.inr (Nat.le_trans (by first | exact HK.out.1 | exact (show Kept w _ (fun k_ => P0_ k_) from by repeat (first | (with_reducible first | exact HK.out | apply Kept.alloc | apply Kept.drewN | apply Kept.drew | refine Kept.setCell ?_ (.inr GW511.out) _) | exact HK.out)).1) hk)), Kd.fresh' (Kd.R_lt (rx HO_0)) k_ hk, Kd.freshB (bx BK511) k_ hk⟩)); (case aO => exact (rx HO_8)); (case aS => exact (below_size (hb1 HB GE511))); (case aL => have := LMc35.out; omega); intro v524 w41 ho hb hg hat; rw [← Ny523.out] at ho; have n0_ := Aside0.mk (Kd.R_after (ok := (fun k_ => (P0_ k_ ∨ w.heap.size ≤ k_) ∧ k_ ≠ gb511)) (Kd.R_mono (rx HO_0) (fun _ hk => ⟨⟨hk.1, hk.2.2⟩, hk.2.1⟩)) hg hat); have n1_ := Aside0.mk (blk_grown (bx BK511) hg (Kd.R_away HO_8.out (fun _ hk => hk.2.2))); have n2_ := Aside0.mk (hb); have n3_ := Aside0.mk (Kept.of_grown (S := (fun k_ => P0_ k_)) hg (by repeat (first | (with_reducible first | exact HK.out | apply Kept.alloc | apply Kept.drewN | apply Kept.drew | refine Kept.setCell ?_ (.inr GW511.out) _) | exact HK.out)) (fun k_ e_ => (HO_8.out.1 k_ e_).1)); have n4_ := Aside0.mk (ho); clear HO_0; clear BK511; clear HB; clear HK; clear HO_8; have HO_0 := n0_; have BK511 := n1_; have HB := n2_; have HK := n3_; have HO525 := n4_; clear n0_ n1_ n2_ n3_ n4_; clear ho hb hg hat; have p526 : 0 ≤ (x10_2 : Int) := of_decide_eq_true (by first | (with_reducible assumption) | assumption); have q526 : x10_2 < (l0.length : Int) := of_decide_eq_true (by first | (with_reducible assumption) | assumption); obtain ⟨ad526, e526, hx526_0, hx526_1⟩ := at_T46 (Kd.R_reads' HO_0.out).2.2 x10_2 p526 q526; obtain rfl : ad521 = ad526 := (by injection e526); replace p526 := eq_true p526; replace q526 := eq_true q526) | ((with_reducible refine gate_builtin (b := .append) (xs := #[.tmp 55, .tmp 60]) rfl ?_); (try (refine gate_guard (by rfl) ?_; dsimp only)); at_builtin; refine Kd.R_append k46 (w0 := w0) w0.heap.size rfl (.tmp 55) (.tmp 60) 23 46 (.agg #[(.int .i64 0), (.int .i64 0)]) 16 rfl Try.underlying23 info46 rfl (by decide) (by omega) v524 y523 (⟨(rd_T46 l0 x10_2).f0, (rd_T46 l0 x10_2).f1⟩ : S46) [.int .i64 ((rd_T46 l0 x10_2).f0), .int .i64 ((rd_T46 l0 x10_2).f1)] (fun k_ => (P0_ k_ ∨ w.heap.size ≤ k_) ∧ some k_ ≠ (.slice (some ad521) l0.length co37 : Value).ownBlock ∧ k_ ≠ gb511) (fun _ => False) rfl rfl ?aP (fun _ hk => hk.elim) ?aF ?aO ?aB ?aS ?aL ?_; (case aP => exact k46_mkM _ _ _ (⟨(rd_T46 l0 x10_2).f0, (rd_T46 l0 x10_2).f1⟩ : S46)); (case aB => exact (hb1 HB GE511)); (case aF => exact (fun k_ hk => ⟨(.inr (Nat.le_trans (by first | exact HK.out.1 | exact (show Kept w _ (fun k_ => P0_ k_) from by repeat (first | (with_reducible first | exact HK.out | apply Kept.alloc | apply Kept.drewN | apply Kept.drew | refine Kept.setCell ?_ (.inr GW511.out) _) | exact HK.out)).1) hk)), Kd.fresh' (Kd.R_lt (rx HO_0)) k_ hk, Kd.freshB (bx BK511) k_ hk⟩)); (case aO => exact (rx HO525)); (case aS => exact (below_size (hb1 HB GE511))); (case aL => have := LMc36.out; omega); intro v528 w42 ho hb hg hat; rw [← Ny527.out] at ho; have n0_ := Aside0.mk (Kd.R_after (ok := (fun k_ => (P0_ k_ ∨ w.heap.size ≤ k_) ∧ k_ ≠ gb511)) (rx HO_0) hg hat); have n1_ := Aside0.mk (blk_grown (bx BK511) hg (Kd.R_away HO525.out (fun _ hk => hk.2.2))); have n2_ := Aside0.mk (hb); have n3_ := Aside0.mk (Kept.of_grown (S := (fun k_ => P0_ k_)) hg (by repeat (first | (with_reducible first | exact HK.out | apply Kept.alloc | apply Kept.drewN | apply Kept.drew | refine Kept.setCell ?_ (.inr GW511.out) _) | exact HK.out)) (fun k_ e_ => (HO525.out.1 k_ e_).1)); have n4_ := Aside0.mk (ho); clear HO_0; clear BK511; clear HB; clear HK; clear HO525; have HO_0 := n0_; have BK511 := n1_; have HB := n2_; have HK := n3_; have HO529 := n4_; clear n0_ n1_ n2_ n3_ n4_; clear ho hb hg hat))
            go_roundg k2
            case measure => have := HJ5.out; have := HK2.out; omega
            case rel => exact ⟨(y527), (true), (wrap64 (x10_2 + 1)), (by first | rfl | (simp; done) | (simp [*]; done)), (by first | rfl | (simp; done) | (simp [*]; done)), H', ⟨by have := HJ5.out; have := HK2.out; omega⟩, ⟨Kd.R_mono (rx HO_0) (fun _ hk => ⟨hk.1.1, ⟨hk.2, hk.1.2⟩⟩)⟩, ⟨rx HO529⟩, ⟨bx BK511⟩, ⟨by repeat (first | (with_reducible first | exact HK.out | apply Kept.alloc | apply Kept.drewN | apply Kept.drew | refine Kept.setCell ?_ (.inr GW511.out) _) | exact HK.out)⟩, ⟨hb1 HB GE511⟩⟩
           ·rw [if_neg c36] at H; exact absurd H (by simp)
          ·rw [if_neg c35] at H; exact absurd H (by simp)
         ·replace c34 := Bool.eq_false_iff.mpr c34; subst c34; rw [if_neg (show ¬ (false = true) by decide)] at H
          by_cases c43 : x8_2.length < 8796093022208
          ·rw [if_pos c43] at H; have LMc43 := Aside0.mk c43; clear c43; obtain ⟨y531, hy531⟩ : ∃ y_ : List (S46), y_ = (x8_2 ++ [(⟨(rd_T46 l0 x10_2).f0, (rd_T46 l0 x10_2).f1⟩ : S46)]) := ⟨_, rfl⟩; replace H : (tangramref14_put.l0 k2 l0 y531 false (wrap64 (x10_2 + 1)) ji4 ji5) = some r := by first | (rw [hy531]; with_reducible exact H) | (have H2_ := (Option.bind_some _ _).symm.trans H; rw [hy531]; with_reducible exact H2_) | (have H2_ := (Option.bind_some _ _).symm.trans H; with_reducible exact H2_) | with_reducible exact H | (rw [hy531]; exact H) | exact H
           have Ny531 := Aside0.mk hy531; clear hy531; have H' := Aside0.mk H; clear H; obtain ⟨Ao44, co44, eo44⟩ := Kd.R_slice HO_0.out; subst eo44
           try go_wp2
           replace HO_0 := rd HO_0; replace HO_8 := rd HO_8; replace BK511 := bd BK511; replace HK := Aside0.mk (Kept.drew HK.out); replace HB := Aside0.mk (below_drew1 HB.out); have p521 : 0 ≤ (x10_2 : Int) := of_decide_eq_true (by first | (with_reducible assumption) | assumption); have q521 : x10_2 < (l0.length : Int) := of_decide_eq_true (by first | (with_reducible assumption) | assumption); obtain ⟨ad521, e521, hx521_0, hx521_1⟩ := at_T46 (Kd.R_reads' HO_0.out).2.2 x10_2 p521 q521
           cases e521
           replace p521 := eq_true p521; replace q521 := eq_true q521; refine start_ (n := 10) (S := fun w' => w'.cell? ⟨gb511, 0, none⟩ = some (.int .i64 ji4) ∧ w'.cell? ⟨gb511, 1, none⟩ = some (.int .i64 ji5) ∧ w'.cell? (ad521.add ((x10_2).toNat * 2)) = some (.int .i64 ((rd_T46 l0 x10_2).f0)) ∧ w'.cell? ⟨(ad521.add ((x10_2).toNat * 2)).block, (ad521.add ((x10_2).toNat * 2)).off + 1, none⟩ = some (.int .i64 ((rd_T46 l0 x10_2).f1))) (ds := []) (pf 0 10) (by kernel_rfl) rfl rfl ⟨bc BK511 0, bc BK511 1, hx521_0, hx521_1⟩ (fun hHeld => ?_); refine with_tabW tangramref14_put.tab9 tangramref14_put.bits9 (fun HT_ HW_ => ?_); generalize wr.drew = w45 at HO_0 HO_8 BK511 HK HB hx521_0 hx521_1 hHeld ⊢; refine pu_ 0 (some 41) (pf 1 10) HT_ ?_; refine pu_ 1 (some 42) (pf 2 10) HT_ ?_; refine pu_ 2 (some 43) (pf 3 10) HT_ ?_; refine pu_ 4 (some 45) #[T_,T_,T_,F_,T_,F_,F_,F_,F_,F_] HT_ ?_; refine pu_ 5 (some 46) #[T_,T_,T_,F_,T_,T_,F_,F_,F_,F_] HT_ ?_; refine pu_ 6 (some 47) #[T_,T_,T_,F_,T_,T_,T_,F_,F_,F_] HT_ ?_; refine tk4_ 3 (some 44) (pf 7 10) HT_ HW_ hHeld ?_; refine tk4_ 7 (some 48) (pf 8 10) HT_ HW_ hHeld ?_; refine on_ 8 (some 49) (pf 9 10) HT_ (fun K hK => ?_); refine goes_ Try.func56 (by kernel_rfl) rfl #[.agg #[.int .i64 ji4, .int .i64 ji5], .agg #[.int .i64 ((rd_T46 l0 x10_2).f0), .int .i64 ((rd_T46 l0 x10_2).f1)]] (by rfl) rfl rfl (by (try simp only [List.map_toArray, List.map_cons, List.map_nil]); first | done | (simp only [hji4, hji5]; rfl) | rfl | (simp only [List.length_drop, List.length_take]; rfl)) ?_
           with_reducible refine (tangramref14_less.calls ji4 ji5 ((rd_T46 l0 x10_2).f0) ((rd_T46 l0 x10_2).f1) false _ A33.out).mono ?_
           rintro e w46 ⟨rfl, hb⟩; have HS2_ := (hb.cell (World.block_lt_of_cell? _ _ (hHeld.2.2.1))).trans (hHeld.2.2.1); have HS3_ := (hb.cell (World.block_lt_of_cell? _ _ (hHeld.2.2.2))).trans (hHeld.2.2.2); refine ⟨_, rfl, ?_⟩; replace HO_0 := ry HO_0 hb; replace HO_8 := ry HO_8 hb; replace BK511 := kx BK511 hb; replace HK := Aside0.mk (Kept.below (S := (fun k_ => P0_ k_)) (by repeat (first | (with_reducible first | exact HK.out | apply Kept.alloc | apply Kept.drewN | apply Kept.drew | refine Kept.setCell ?_ (.inr GW511.out) _) | exact HK.out)) hb); replace HB := hs (hb1 HB GE511) hb
           (try clear hb)
           (try clear hb2)
           (try clear hk)
           (try clear hi)
           refine hK.out _ _ ⟨bc BK511 0, bc BK511 1, HS2_, HS3_⟩ (fun hHeld => ?_); clear hK K; refine nm_ (some 49) ?_; refine pu_ 9 (some 50) (pf 10 10) HT_ ?_; refine done_ (done_of HT_.out (by kernel_rfl)) ?_; have p530 : 0 ≤ (x10_2 : Int) := of_decide_eq_true (by first | (with_reducible assumption) | assumption); have q530 : x10_2 < (l0.length : Int) := of_decide_eq_true (by first | (with_reducible assumption) | assumption); obtain ⟨ad530, e530, hx530_0, hx530_1⟩ := at_T46 (Kd.R_reads' HO_0.out).2.2 x10_2 p530 q530; obtain rfl : ad521 = ad530 := (by injection e530); replace p530 := eq_true p530; replace q530 := eq_true q530
           try go_wp2_with (first | ((with_reducible refine gate_builtin (b := .append) (xs := #[.tmp 55, .tmp 60]) rfl ?_); (try (refine gate_guard (by rfl) ?_; dsimp only)); at_builtin; refine Kd.R_append k46 (w0 := w0) w0.heap.size rfl (.tmp 55) (.tmp 60) 23 46 (.agg #[(.int .i64 0), (.int .i64 0)]) 16 rfl Try.underlying23 info46 rfl (by decide) (by omega) u8 x8_2 (⟨(rd_T46 l0 x10_2).f0, (rd_T46 l0 x10_2).f1⟩ : S46) [.int .i64 ((rd_T46 l0 x10_2).f0), .int .i64 ((rd_T46 l0 x10_2).f1)] (fun k_ => (P0_ k_ ∨ w.heap.size ≤ k_) ∧ some k_ ≠ (.slice (some ad521) l0.length co44 : Value).ownBlock ∧ k_ ≠ gb511) (fun _ => False) rfl rfl ?aP (fun _ hk => hk.elim) ?aF ?aO ?aB ?aS ?aL ?_; (case aP => exact k46_mkM _ _ _ (⟨(rd_T46 l0 x10_2).f0, (rd_T46 l0 x10_2).f1⟩ : S46)); (case aB => exact (hb1 HB GE511)); (case aF => exact (fun k_ hk => ⟨(.inr (Nat.le_trans (by first | exact HK.out.1 | exact (show Kept w _ (fun k_ => P0_ k_) from by repeat (first | (with_reducible first | exact HK.out | apply Kept.alloc | apply Kept.drewN | apply Kept.drew | refine Kept.setCell ?_ (.inr GW511.out) _) | exact HK.out)).1) hk)), Kd.fresh' (Kd.R_lt (rx HO_0)) k_ hk, Kd.freshB (bx BK511) k_ hk⟩)); (case aO => exact (rx HO_8)); (case aS => exact (below_size (hb1 HB GE511))); (case aL => have := LMc43.out; omega); intro v532 w47 ho hb hg hat; rw [← Ny531.out] at ho; have n0_ := Aside0.mk (Kd.R_after (ok := (fun k_ => (P0_ k_ ∨ w.heap.size ≤ k_) ∧ k_ ≠ gb511)) (Kd.R_mono (rx HO_0) (fun _ hk => ⟨⟨hk.1, hk.2.2⟩, hk.2.1⟩)) hg hat); have n1_ := Aside0.mk (blk_grown (bx BK511) hg (Kd.R_away HO_8.out (fun _ hk => hk.2.2))); have n2_ := Aside0.mk (hb); have n3_ := Aside0.mk (Kept.of_grown (S := (fun k_ => P0_ k_)) hg (by repeat (first | (with_reducible first | exact HK.out | apply Kept.alloc | apply Kept.drewN | apply Kept.drew | refine Kept.setCell ?_ (.inr GW511.out) _) | exact HK.out)) (fun k_ e_ => (HO_8.out.1 k_ e_).1)); have n4_ := Aside0.mk (ho); clear HO_0; clear BK511; clear HB; clear HK; clear HO_8; have HO_0 := n0_; have BK511 := n1_; have HB := n2_; have HK := n3_; have HO533 := n4_; clear n0_ n1_ n2_ n3_ n4_; clear ho hb hg hat))
           go_roundg k2
           case measure => have := HJ5.out; have := HK2.out; omega
           case rel => exact ⟨(y531), (false), (wrap64 (x10_2 + 1)), (by first | rfl | (simp; done) | (simp [*]; done)), (by first | rfl | (simp; done) | (simp [*]; done)), H', ⟨by have := HJ5.out; have := HK2.out; omega⟩, ⟨Kd.R_mono (rx HO_0) (fun _ hk => ⟨hk.1.1, ⟨hk.2, hk.1.2⟩⟩)⟩, ⟨rx HO533⟩, ⟨bx BK511⟩, ⟨by repeat (first | (with_reducible first | exact HK.out | apply Kept.alloc | apply Kept.drewN | apply Kept.drew | refine Kept.setCell ?_ (.inr GW511.out) _) | exact HK.out)⟩, ⟨hb1 HB GE511⟩⟩
          ·rw [if_neg c43] at H; exact absurd H (by simp)
        ·rw [if_neg c32] at H; exact absurd H (by simp)
      ·rw [if_neg c25] at H; have c25b0 : decide (x10_2 < (l0.length : Int)) = false := decide_eq_false c25; clear c25; obtain rfl := Option.some.inj H; obtain ⟨Ao48, co48, eo48⟩ := Kd.R_slice HO_0.out; subst eo48
       go_wp2
       go_ret
       exact ⟨_, by first | rfl | (simp [errW_none, errW_some] <;> rfl) | (simp only [← hji4, ← hji5]; first | rfl | (simp [errW_none, errW_some] <;> rfl)) | (simp [*, errW_none, errW_some] <;> rfl), by (with_reducible repeat (first | apply Kd.R_alloc | apply Kd.R_drewN | apply Kd.R_drew)); exact Kd.R_mono HO_8.out (fun _ hk => hk.1), hb1 HB GE511, by repeat (first | (with_reducible first | exact HK.out | apply Kept.alloc | apply Kept.drewN | apply Kept.drew | refine Kept.setCell ?_ (.inr GW511.out) _) | exact HK.out)⟩

end Go.Proofs.Ytdaeaejmikhmcaa.PEditC
