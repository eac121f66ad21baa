-- PRINTED by print.py (a twelfth state) out of the translation. Not trusted: Lean checks it.
import Derived.Test.YtdaeaejmikhmcaaZPEditCx0
import Derived.Test.YtdaeaejmikhmcaaZPEditCx3
import Derived.Test.YtdaeaejmikhmcaaZPEditCx5
import Derived.Test.YtdaeaejmikhmcaaZPEditCx21
namespace Go.Proofs.Ytdaeaejmikhmcaa.PEditC
open Go.RowKit Go.Proofs.YtdaeaejmikhmcaaW.PrintWords Go.Proofs.YtdaeaejmikhmcaaW.PrintLast Go.Proofs.YtdaeaejmikhmcaaW.PrintMore
open Go.Proofs.YtdaeaejmikhmcaaX
attribute [local go_sem] max2_int min2_int max_two min_two max_three min_three max_four min_four   -- for this text's walks alone
set_option linter.unusedVariables false
set_option linter.unusedSimpArgs false

/-! ### edit_Apex: function 33 -/
def edit_Apex.l0 : Nat → List (S46) → Int → Int → Int → List (S46) → Option (Int × (List (S46)) × Int)
 | 0, _, _, _, _, _ => none
 | k + 1, x4, x29, x30, x571000, x571001 => if x30 < x29 then (if x4.length < 8796093022208 then (edit_Apex.l0 k (x4 ++ [(⟨x30, x571000⟩ : S46)]) x29 (wrap64 (x30 + 1)) x571000 x571001) else (none)) else ((edit_made.f k (wrap64 (x571000 + 1)) x4).bind fun bt579 => (some (bt579.1, bt579.2, 0)))
def edit_Apex.f (k : Nat) (a0_0 : Int) (l0_1 : List (S46)) : Option (Int × (List (S46)) × Int) := (simple_Valid.f k a0_0 l0_1).bind fun t572 => (if t572 = true then (if a0_0 ≥ 1048576 then (some (0, ([] : List (S46)), 141)) else (if (wrap64 ((l0_1.length : Int) + a0_0)) > 4194304 then (some (0, ([] : List (S46)), 141)) else ((api_Edge_40.f l0_1).bind fun t573 => (edit_Apex.l0 k t573 a0_0 0 a0_0 l0_1)))) else (some (0, ([] : List (S46)), 1)))
theorem edit_Apex.mono_l : ∀ k, (∀ y0 y1 y2 y3 y4, LeO (edit_Apex.l0 k y0 y1 y2 y3 y4) (edit_Apex.l0 (k + 1) y0 y1 y2 y3 y4))
 | 0 => fun _ _ _ _ _ r h => by simp [edit_Apex.l0] at h
 | k + 1 => by
  have ih0 := edit_Apex.mono_l k
  ·intro y0 y1 y2 y3 y4
   unfold edit_Apex.l0
   repeat' first
   | (with_reducible exact ih0 _ _ _ _ _)
   | (with_reducible exact edit_made.mono _ _ _)
   | (with_reducible exact simple_Valid.mono _ _ _)
   | (with_reducible exact LeO.refl _)
   | (with_reducible exact LeO.none _)
   | (with_reducible refine LeO.ite ?_ ?_)
   | (with_reducible refine LeO.bind ?_ (fun _ => ?_))
   | exact ih0 _ _ _ _ _
   | exact edit_made.mono _ _ _
   | exact simple_Valid.mono _ _ _
   | exact LeO.none _
   | refine LeO.ite ?_ ?_
   | refine LeO.bind ?_ (fun _ => ?_)
theorem edit_Apex.mono : ∀ a0 a1 k, LeO (edit_Apex.f k a0 a1) (edit_Apex.f (k + 1) a0 a1) := by
 intro a0 a1 k; have ih0 := edit_Apex.mono_l k
 unfold edit_Apex.f
 repeat' first
   | (with_reducible exact ih0 _ _ _ _ _)
   | (with_reducible exact edit_made.mono _ _ _)
   | (with_reducible exact simple_Valid.mono _ _ _)
   | (with_reducible exact LeO.refl _)
   | (with_reducible exact LeO.none _)
   | (with_reducible refine LeO.ite ?_ ?_)
   | (with_reducible refine LeO.bind ?_ (fun _ => ?_))
   | exact ih0 _ _ _ _ _
   | exact edit_made.mono _ _ _
   | exact simple_Valid.mono _ _ _
   | exact LeO.none _
   | refine LeO.ite ?_ ?_
   | refine LeO.bind ?_ (fun _ => ?_)
set_option maxHeartbeats 8000000 in
set_option maxRecDepth 100000 in
theorem edit_Apex.calls (k : Nat) (a0_0 : Int) (A0_1 : Option Addr) (c0_1 : Nat) (l0_1 : List (S46)) (r1 : Int) (r2 : List (S46)) (r3 : Int) (w : World) (hr0_1 : Kd.C k46 w A0_1 l0_1.length l0_1) (hc0_1 : l0_1.length ≤ c0_1) (h : edit_Apex.f k a0_0 l0_1 = some (r1, r2, r3)) :
  Calls Try.prog 33 #[.agg #[.int .i64 a0_0, .slice A0_1 l0_1.length c0_1]] w fun e w' => ∃ v1_ : Value, e = .returned (.tuple #[.agg #[.int .i64 r1, v1_], .int .i64 r3]) ∧ Kd.R k46 46 w' w.heap.size (fun _ => True) v1_ r2 ∧ Below w.heap.size w w' := by
 have hu25 := Try.underlying25; have hu46 := Try.underlying46; have HR0_1 := Aside0.mk hr0_1; have HC0_1 := Aside0.mk hc0_1; clear hr0_1 hc0_1; have HB := Aside0.mk (Below.refl w.heap.size w); have H : ((simple_Valid.f k a0_0 l0_1).bind fun t572 => (if t572 = true then (if a0_0 ≥ 1048576 then (some (0, ([] : List (S46)), 141)) else (if (wrap64 ((l0_1.length : Int) + a0_0)) > 4194304 then (some (0, ([] : List (S46)), 141)) else ((api_Edge_40.f l0_1).bind fun t573 => (edit_Apex.l0 k t573 a0_0 0 a0_0 l0_1)))) else (some (0, ([] : List (S46)), 1)))) = some (r1, r2, r3) := h; clear h; replace H := Option.bind_eq_some_iff.mp H; obtain ⟨t572, A20, H⟩ := H; replace H : (if t572 = true then (if a0_0 ≥ 1048576 then (some (0, ([] : List (S46)), 141)) else (if (wrap64 ((l0_1.length : Int) + a0_0)) > 4194304 then (some (0, ([] : List (S46)), 141)) else ((api_Edge_40.f l0_1).bind fun t573 => (edit_Apex.l0 k t573 a0_0 0 a0_0 l0_1)))) else (some (0, ([] : List (S46)), 1))) = some (r1, r2, r3) := H; have A2 := Aside0.mk A20; clear A20
 by_cases c3 : t572 = true
 ·subst c3; have H1 : (if a0_0 ≥ 1048576 then (some (0, ([] : List (S46)), 141)) else (if (wrap64 ((l0_1.length : Int) + a0_0)) > 4194304 then (some (0, ([] : List (S46)), 141)) else ((api_Edge_40.f l0_1).bind fun t573 => (edit_Apex.l0 k t573 a0_0 0 a0_0 l0_1)))) = some (r1, r2, r3) := by rw [if_pos rfl] at H; exact H
  clear H; have H := H1; clear H1
  by_cases c4 : a0_0 ≥ 1048576
  ·rw [if_pos c4] at H; have c4b0 : decide (1048576 ≤ a0_0) = true := decide_eq_true c4; clear c4; simp only [Option.some.injEq, Prod.mk.injEq] at H; obtain ⟨rfl, rfl, rfl⟩ := H
   go_enter Try.func33, Try.ntmps33
   go_wp2_with (first | ((with_reducible refine gate_dst (N := 1) rfl ?_); (try (refine gate_guard (by rfl) ?_; dsimp only)); refine be_ 1 #[.int .i64 a0_0, .slice A0_1 l0_1.length c0_1] 25 ?_; intro gb570 hg w5 hbox hb; have BK570 := Aside0.mk (hbox); have GW570 := wq (hb0 HB) hg; have GE570 := wq (hb0 HB) hg; replace HB := hs (hb0 HB) hb; clear hb hbox hg) | ((with_reducible refine gate_dst (N := 2) rfl ?_); (try (refine gate_guard (by rfl) ?_; dsimp only)); refine be_ 2 #[.int .i64 0, .slice none 0 0] 25 ?_; intro gb571 hg w6 hbox hb; have BK571 := Aside0.mk (hbox); have GW571 := wq (hb1 HB GE570) hg; have GE571 := wq (hb1 HB GE570) hg; replace HB := hs (hb1 HB GE570) hb; have NB570_571 := lx BK570 hg; have NB571_570 := gx BK570 hg; replace BK570 := kx BK570 hb; clear hb hbox hg; have hnb7 := NB570_571.out; have hnc7 := NB571_570.out; have hcz8_0 : w6.cell? ⟨gb570, 0, none⟩ = some (.int .i64 a0_0) := bc BK570 0; have hcz8_1 : w6.cell? ⟨gb570, 1, none⟩ = some (.slice A0_1 l0_1.length c0_1) := bc BK570 1; have hfz8_0 := blk_frozen BK570.out 0; have hfz8_1 := blk_frozen BK570.out 1) | ((with_reducible refine gate_callee (f := 37) rfl ?_); refine gl_ (some 8) Try.func37 #[.agg #[.int .i64 a0_0, .slice A0_1 l0_1.length c0_1]] ?_; (with_reducible refine (simple_Valid.calls k a0_0 _ _ l0_1 true _ ?side1 ?side2 A2.out).mono ?_); (case side1 => repeat (first | exact (Kd.C_below HR0_1.out HB.out) | (with_reducible refine Kd.C_alloc ?_ _) | (with_reducible refine Kd.C_drewN ?_ _) | (with_reducible refine Kd.C_drew ?_))); (case side2 => exact HC0_1.out); rintro e w9 ⟨rfl, hb⟩; refine ⟨_, rfl, ?_⟩; replace BK570 := kx BK570 hb; replace BK571 := kx BK571 hb; replace HB := hs (hb2 HB GE570 GE571) hb; (try clear hb); (try clear hb2); (try clear hk); (try clear hi); have hcz10_0 : w9.cell? ⟨gb570, 0, none⟩ = some (.int .i64 a0_0) := bc BK570 0; have hcz10_1 : w9.cell? ⟨gb570, 1, none⟩ = some (.slice A0_1 l0_1.length c0_1) := bc BK570 1; have hfz10_0 := blk_frozen BK570.out 0; have hfz10_1 := blk_frozen BK570.out 1; have hcz11_0 : w9.cell? ⟨gb571, 0, none⟩ = some (.int .i64 0) := bc BK571 0; have hcz11_1 : w9.cell? ⟨gb571, 1, none⟩ = some (.slice none 0 0) := bc BK571 1; have hfz11_0 := blk_frozen BK571.out 0; have hfz11_1 := blk_frozen BK571.out 1))
   refine bodyPost_ret (results_ct rfl _ _ gb571 25 #[.int .i64 0, .slice none 0 0] (0, 0) _ rfl (bp BK571) Try.underlying25 rfl (by kernel_rfl)) rfl ?_; exact ⟨_, by first | rfl | (simp [errW_none, errW_some] <;> rfl) | (simp [*, errW_none, errW_some] <;> rfl), by first | exact Kd.R_nil _ _ _ _ _ | exact Kd.N_nil _ _ _ _ _ | exact Kd.V_nil _ _ _ _ _ | exact Kd.Q_nil _ _ _ _ _ | exact Kd.S_nil _ _ _ _ _, hb2 HB GE570 GE571⟩
  ·rw [if_neg c4] at H; have c4b0 : decide (1048576 ≤ a0_0) = false := decide_eq_false c4; clear c4
   by_cases c12 : (wrap64 ((l0_1.length : Int) + a0_0)) > 4194304
   ·rw [if_pos c12] at H; have c12b0 : decide (4194304 < (wrap64 ((l0_1.length : Int) + a0_0))) = true := decide_eq_true c12; clear c12; simp only [Option.some.injEq, Prod.mk.injEq] at H; obtain ⟨rfl, rfl, rfl⟩ := H
    go_enter Try.func33, Try.ntmps33
    go_wp2_with (first | ((with_reducible refine gate_dst (N := 1) rfl ?_); (try (refine gate_guard (by rfl) ?_; dsimp only)); refine be_ 1 #[.int .i64 a0_0, .slice A0_1 l0_1.length c0_1] 25 ?_; intro gb570 hg w13 hbox hb; have BK570 := Aside0.mk (hbox); have GW570 := wq (hb0 HB) hg; have GE570 := wq (hb0 HB) hg; replace HB := hs (hb0 HB) hb; clear hb hbox hg) | ((with_reducible refine gate_dst (N := 2) rfl ?_); (try (refine gate_guard (by rfl) ?_; dsimp only)); refine be_ 2 #[.int .i64 0, .slice none 0 0] 25 ?_; intro gb571 hg w14 hbox hb; have BK571 := Aside0.mk (hbox); have GW571 := wq (hb1 HB GE570) hg; have GE571 := wq (hb1 HB GE570) hg; replace HB := hs (hb1 HB GE570) hb; have NB570_571 := lx BK570 hg; have NB571_570 := gx BK570 hg; replace BK570 := kx BK570 hb; clear hb hbox hg; have hnb15 := NB570_571.out; have hnc15 := NB571_570.out; have hcz16_0 : w14.cell? ⟨gb570, 0, none⟩ = some (.int .i64 a0_0) := bc BK570 0; have hcz16_1 : w14.cell? ⟨gb570, 1, none⟩ = some (.slice A0_1 l0_1.length c0_1) := bc BK570 1; have hfz16_0 := blk_frozen BK570.out 0; have hfz16_1 := blk_frozen BK570.out 1) | ((with_reducible refine gate_callee (f := 37) rfl ?_); refine gl_ (some 8) Try.func37 #[.agg #[.int .i64 a0_0, .slice A0_1 l0_1.length c0_1]] ?_; (with_reducible refine (simple_Valid.calls k a0_0 _ _ l0_1 true _ ?side1 ?side2 A2.out).mono ?_); (case side1 => repeat (first | exact (Kd.C_below HR0_1.out HB.out) | (with_reducible refine Kd.C_alloc ?_ _) | (with_reducible refine Kd.C_drewN ?_ _) | (with_reducible refine Kd.C_drew ?_))); (case side2 => exact HC0_1.out); rintro e w17 ⟨rfl, hb⟩; refine ⟨_, rfl, ?_⟩; replace BK570 := kx BK570 hb; replace BK571 := kx BK571 hb; replace HB := hs (hb2 HB GE570 GE571) hb; (try clear hb); (try clear hb2); (try clear hk); (try clear hi); have hcz18_0 : w17.cell? ⟨gb570, 0, none⟩ = some (.int .i64 a0_0) := bc BK570 0; have hcz18_1 : w17.cell? ⟨gb570, 1, none⟩ = some (.slice A0_1 l0_1.length c0_1) := bc BK570 1; have hfz18_0 := blk_frozen BK570.out 0; have hfz18_1 := blk_frozen BK570.out 1; have hcz19_0 : w17.cell? ⟨gb571, 0, none⟩ = some (.int .i64 0) := bc BK571 0; have hcz19_1 : w17.cell? ⟨gb571, 1, none⟩ = some (.slice none 0 0) := bc BK571 1; have hfz19_0 := blk_frozen BK571.out 0; have hfz19_1 := blk_frozen BK571.out 1))
    refine bodyPost_ret (results_ct rfl _ _ gb571 25 #[.int .i64 0, .slice none 0 0] (0, 0) _ rfl (bp BK571) Try.underlying25 rfl (by kernel_rfl)) rfl ?_; exact ⟨_, by first | rfl | (simp [errW_none, errW_some] <;> rfl) | (simp [*, errW_none, errW_some] <;> rfl), by first | exact Kd.R_nil _ _ _ _ _ | exact Kd.N_nil _ _ _ _ _ | exact Kd.V_nil _ _ _ _ _ | exact Kd.Q_nil _ _ _ _ _ | exact Kd.S_nil _ _ _ _ _, hb2 HB GE570 GE571⟩
   ·rw [if_neg c12] at H; have c12b0 : decide (4194304 < (wrap64 ((l0_1.length : Int) + a0_0))) = false := decide_eq_false c12; clear c12; replace H := Option.bind_eq_some_iff.mp H; obtain ⟨t573, A200, H⟩ := H; replace H : (edit_Apex.l0 k t573 a0_0 0 a0_0 l0_1) = some (r1, r2, r3) := H; have A20 := Aside0.mk A200; clear A200; have H' := Aside0.mk H; clear H
    go_enter Try.func33, Try.ntmps33
    go_wp2_with (first | ((with_reducible refine gate_dst (N := 1) rfl ?_); (try (refine gate_guard (by rfl) ?_; dsimp only)); refine be_ 1 #[.int .i64 a0_0, .slice A0_1 l0_1.length c0_1] 25 ?_; intro gb570 hg w21 hbox hb; have BK570 := Aside0.mk (hbox); have GW570 := wq (hb0 HB) hg; have GE570 := wq (hb0 HB) hg; replace HB := hs (hb0 HB) hb; clear hb hbox hg) | ((with_reducible refine gate_dst (N := 2) rfl ?_); (try (refine gate_guard (by rfl) ?_; dsimp only)); refine be_ 2 #[.int .i64 0, .slice none 0 0] 25 ?_; intro gb571 hg w22 hbox hb; have BK571 := Aside0.mk (hbox); have GW571 := wq (hb1 HB GE570) hg; have GE571 := wq (hb1 HB GE570) hg; replace HB := hs (hb1 HB GE570) hb; have NB570_571 := lx BK570 hg; have NB571_570 := gx BK570 hg; replace BK570 := kx BK570 hb; clear hb hbox hg; have hnb23 := NB570_571.out; have hnc23 := NB571_570.out; have hcz24_0 : w22.cell? ⟨gb570, 0, none⟩ = some (.int .i64 a0_0) := bc BK570 0; have hcz24_1 : w22.cell? ⟨gb570, 1, none⟩ = some (.slice A0_1 l0_1.length c0_1) := bc BK570 1; have hfz24_0 := blk_frozen BK570.out 0; have hfz24_1 := blk_frozen BK570.out 1) | ((with_reducible refine gate_callee (f := 37) rfl ?_); refine gl_ (some 8) Try.func37 #[.agg #[.int .i64 a0_0, .slice A0_1 l0_1.length c0_1]] ?_; (with_reducible refine (simple_Valid.calls k a0_0 _ _ l0_1 true _ ?side1 ?side2 A2.out).mono ?_); (case side1 => repeat (first | exact (Kd.C_below HR0_1.out HB.out) | (with_reducible refine Kd.C_alloc ?_ _) | (with_reducible refine Kd.C_drewN ?_ _) | (with_reducible refine Kd.C_drew ?_))); (case side2 => exact HC0_1.out); rintro e w25 ⟨rfl, hb⟩; refine ⟨_, rfl, ?_⟩; replace BK570 := kx BK570 hb; replace BK571 := kx BK571 hb; replace HB := hs (hb2 HB GE570 GE571) hb; (try clear hb); (try clear hb2); (try clear hk); (try clear hi); have hcz26_0 : w25.cell? ⟨gb570, 0, none⟩ = some (.int .i64 a0_0) := bc BK570 0; have hcz26_1 : w25.cell? ⟨gb570, 1, none⟩ = some (.slice A0_1 l0_1.length c0_1) := bc BK570 1; have hfz26_0 := blk_frozen BK570.out 0; have hfz26_1 := blk_frozen BK570.out 1) | ((with_reducible refine gate_callee (f := 40) rfl ?_); refine gl_ (some 27) Try.func40 #[.slice A0_1 l0_1.length c0_1] ?_; (with_reducible refine (api_Edge_40.calls _ _ l0_1 t573 _ ?side1 ?side2 A20.out).mono ?_); (case side1 => repeat (first | exact (Kd.C_below HR0_1.out HB.out) | (with_reducible refine Kd.C_alloc ?_ _) | (with_reducible refine Kd.C_drewN ?_ _) | (with_reducible refine Kd.C_drew ?_))); (case side2 => exact HC0_1.out); rintro e w27 ⟨v574, rfl, ho0, hb⟩; refine ⟨_, rfl, ?_⟩; have HO575 := Aside0.mk (Kd.R_lower ho0 (below_size (hb2 HB GE570 GE571))); replace BK570 := kx BK570 hb; replace BK571 := kx BK571 hb; replace HB := hs (hb2 HB GE570 GE571) hb; (try clear hb); (try clear hb2); (try clear hk); (try clear hi); (try clear ho0); have hcz28_0 : w27.cell? ⟨gb570, 0, none⟩ = some (.int .i64 a0_0) := bc BK570 0; have hcz28_1 : w27.cell? ⟨gb570, 1, none⟩ = some (.slice A0_1 l0_1.length c0_1) := bc BK570 1; have hfz28_0 := blk_frozen BK570.out 0; have hfz28_1 := blk_frozen BK570.out 1))
    go_loopg [4, 30] k (fun kq v4 v30 w' => ∃ (x4_1 : List (S46)) (x30_1 : Int), v30 = .int .i64 x30_1 ∧ Aside0 (edit_Apex.l0 kq x4_1 a0_0 x30_1 a0_0 l0_1 = some (r1, r2, r3)) ∧ Aside0 (kq ≤ k) ∧ Aside0 (Kd.R k46 46 w' w.heap.size (fun _ => True) v4 x4_1) ∧ Aside0 (w'.heap[gb570]? = some (.cells #[.int .i64 a0_0, (.slice A0_1 l0_1.length c0_1)] 25 (0, 0))) ∧ Aside0 (w'.heap[gb571]? = some (.cells #[.int .i64 0, (.slice none 0 0)] 25 (0, 0))) ∧ Aside0 (Below w.heap.size w w'))
    case atStart => exact ⟨(t573), (0), (by first | rfl | (simp; done) | (simp [*]; done)), H', ⟨Nat.le_refl _⟩, ⟨rx HO575⟩, ⟨bx BK570⟩, ⟨bx BK571⟩, ⟨hb2 HB GE570 GE571⟩⟩
    case round =>
     clear H'
     try clear c1
     try clear c2
     try clear p2
     try clear c3
     try clear c4
     try clear c4b0
     try clear p6
     try clear c7
     try clear c12
     try clear c12b0
     try clear c15
     try clear c23
     try clear hcz10_0
     try clear hcz10_1
     try clear hcz11_0
     try clear hcz11_1
     try clear hcz16_0
     try clear hcz16_1
     try clear hcz18_0
     try clear hcz18_1
     try clear hcz19_0
     try clear hcz19_1
     try clear hcz24_0
     try clear hcz24_1
     try clear hcz26_0
     try clear hcz26_1
     try clear hcz28_0
     try clear hcz28_1
     try clear hcz8_0
     try clear hcz8_1
     try clear hfz10_0
     try clear hfz10_1
     try clear hfz11_0
     try clear hfz11_1
     try clear hfz16_0
     try clear hfz16_1
     try clear hfz18_0
     try clear hfz18_1
     try clear hfz19_0
     try clear hfz19_1
     try clear hfz24_0
     try clear hfz24_1
     try clear hfz26_0
     try clear hfz26_1
     try clear hfz28_0
     try clear hfz28_1
     try clear hfz8_0
     try clear hfz8_1
     obtain ⟨x4_1, x30_1, rfl, HA, HK1, HO_4, BK570, BK571, HB⟩ := hrel
     cases gk with
     | zero => exact absurd HA.out (by simp [edit_Apex.l0])
     | succ k1 =>
      have H := HA.out; clear HA; simp only [edit_Apex.l0] at H
      by_cases c29 : x30_1 < a0_0
      ·rw [if_pos c29] at H; have c29b0 : decide (x30_1 < a0_0) = true := decide_eq_true c29; clear c29
       by_cases c30 : x4_1.length < 8796093022208
       ·rw [if_pos c30] at H; have LMc30 := Aside0.mk c30; clear c30; obtain ⟨y576, hy576⟩ : ∃ y_ : List (S46), y_ = (x4_1 ++ [(⟨x30_1, a0_0⟩ : S46)]) := ⟨_, rfl⟩; replace H : (edit_Apex.l0 k1 y576 a0_0 (wrap64 (x30_1 + 1)) a0_0 l0_1) = some (r1, r2, r3) := by first | (rw [hy576]; with_reducible exact H) | (have H2_ := (Option.bind_some _ _).symm.trans H; rw [hy576]; with_reducible exact H2_) | (have H2_ := (Option.bind_some _ _).symm.trans H; with_reducible exact H2_) | with_reducible exact H | (rw [hy576]; exact H) | exact H
        have Ny576 := Aside0.mk hy576; clear hy576; have H' := Aside0.mk H; clear H; have hnb31 := NB570_571.out; have hnc31 := NB571_570.out; have hcz32_0 : wr.cell? ⟨gb570, 0, none⟩ = some (.int .i64 a0_0) := bc BK570 0; have hcz32_1 : wr.cell? ⟨gb570, 1, none⟩ = some (.slice A0_1 l0_1.length c0_1) := bc BK570 1; have hfz32_0 := blk_frozen BK570.out 0; have hfz32_1 := blk_frozen BK570.out 1
        go_wp2_with (first | ((with_reducible refine gate_builtin (b := .append) (xs := #[.tmp 33, .tmp 38]) rfl ?_); (try (refine gate_guard (by rfl) ?_; dsimp only)); at_builtin; refine Kd.R_append k46 (w0 := w) w.heap.size rfl (.tmp 33) (.tmp 38) 23 46 (.agg #[(.int .i64 0), (.int .i64 0)]) 16 rfl Try.underlying23 info46 rfl (by decide) (by omega) u4 x4_1 (⟨x30_1, a0_0⟩ : S46) [.int .i64 x30_1, .int .i64 a0_0] (fun _ => True) (fun _ => False) rfl rfl ?aP (fun _ hk => hk.elim) ?aF ?aO ?aB ?aS ?aL ?_; (case aP => exact k46_mkM _ _ _ (⟨x30_1, a0_0⟩ : S46)); (case aB => exact (hb2 HB GE570 GE571)); (case aF => exact (fun _ _ => trivial)); (case aO => exact (rx HO_4)); (case aS => exact (below_size (hb2 HB GE570 GE571))); (case aL => have := LMc30.out; omega); intro v577 w33 ho hb hg hat; rw [← Ny576.out] at ho; have n0_ := Aside0.mk (blk_grown (bx BK570) hg (Kd.R_ne HO_4.out BK570.out (by decide))); have n1_ := Aside0.mk (blk_grown (bx BK571) hg (Kd.R_ne HO_4.out BK571.out (by decide))); have n2_ := Aside0.mk (hb); have n3_ := Aside0.mk (ho); clear BK570; clear BK571; clear HB; clear HO_4; have BK570 := n0_; have BK571 := n1_; have HB := n2_; have HO578 := n3_; clear n0_ n1_ n2_ n3_; clear ho hb hg hat))
        go_roundg k1
        case measure => have := HK1.out; omega
        case rel => exact ⟨(y576), (wrap64 (x30_1 + 1)), (by first | rfl | (simp; done) | (simp [*]; done)), H', ⟨by have := HK1.out; omega⟩, ⟨rx HO578⟩, ⟨bx BK570⟩, ⟨bx BK571⟩, ⟨hb2 HB GE570 GE571⟩⟩
       ·rw [if_neg c30] at H; exact absurd H (by simp)
      ·rw [if_neg c29] at H; have c29b0 : decide (x30_1 < a0_0) = false := decide_eq_false c29; clear c29; replace H := Option.bind_eq_some_iff.mp H; obtain ⟨⟨t579, t580⟩, A340, H⟩ := H; replace H : (some (t579, t580, 0)) = some (r1, r2, r3) := H; have A34 := Aside0.mk A340; clear A340; simp only [Option.some.injEq, Prod.mk.injEq] at H; obtain ⟨rfl, rfl, rfl⟩ := H; have hnb35 := NB570_571.out; have hnc35 := NB571_570.out; have hcz36_0 : wr.cell? ⟨gb570, 0, none⟩ = some (.int .i64 a0_0) := bc BK570 0; have hcz36_1 : wr.cell? ⟨gb570, 1, none⟩ = some (.slice A0_1 l0_1.length c0_1) := bc BK570 1; have hfz36_0 := blk_frozen BK570.out 0; have hfz36_1 := blk_frozen BK570.out 1; obtain ⟨Ao37, co37, eo37⟩ := Kd.R_slice HO_4.out; subst eo37
       go_wp2_with (first | ((with_reducible refine gate_callee (f := 38) rfl ?_); refine gl_ (some 45) Try.func38 #[.int .i64 (wrap64 (a0_0 + 1)), .slice Ao37 x4_1.length co37] ?_; (with_reducible refine (edit_made.calls k1 (wrap64 (a0_0 + 1)) _ _ x4_1 t579 t580 _ ?side1 ?side2 A34.out).mono ?_); (case side1 => exact cr HO_4); (case side2 => exact (Kd.R_reads' HO_4.out).2.1); rintro e w38 ⟨v581, rfl, ho0, hb⟩; refine ⟨_, rfl, ?_⟩; have HO582 := Aside0.mk (Kd.R_lower (Kd.R_new' ho0 (Kd.R_lt (rx HO_4))) (below_size (hb2 HB GE570 GE571))); replace HO_4 := el (rx HO_4) ho0 hb; replace BK570 := kx BK570 hb; replace BK571 := kx BK571 hb; replace HB := hs (hb2 HB GE570 GE571) hb; (try clear hb); (try clear hb2); (try clear hk); (try clear hi); (try clear ho0); have hcz39_0 : w38.cell? ⟨gb571, 0, none⟩ = some (.int .i64 0) := bc BK571 0; have hcz39_1 : w38.cell? ⟨gb571, 1, none⟩ = some (.slice none 0 0) := bc BK571 1; have hfz39_0 := blk_frozen BK571.out 0; have hfz39_1 := blk_frozen BK571.out 1; obtain ⟨Ao40, co40, eo40⟩ := Kd.R_slice HO582.out; subst eo40))
       refine bodyPost_ret (results_ct rfl _ _ gb571 25 #[.int .i64 t579, .slice Ao40 t580.length co40] (0, 0) _ rfl (bp BK571) Try.underlying25 rfl (by kernel_rfl)) rfl ?_; exact ⟨_, by first | rfl | (simp [errW_none, errW_some] <;> rfl) | (simp [*, errW_none, errW_some] <;> rfl), Kd.R_mono (rf HO582 BK571) (fun _ hk => trivial), hb2 HB GE570 GE571⟩
 ·replace c3 := Bool.eq_false_iff.mpr c3; subst c3; have H1 : (some (0, ([] : List (S46)), 1)) = some (r1, r2, r3) := by rw [if_neg (show ¬ (false = true) by decide)] at H; exact H
  clear H; have H := H1; clear H1; simp only [Option.some.injEq, Prod.mk.injEq] at H; obtain ⟨rfl, rfl, rfl⟩ := H
  go_enter Try.func33, Try.ntmps33
  go_wp2_with (first | ((with_reducible refine gate_dst (N := 1) rfl ?_); (try (refine gate_guard (by rfl) ?_; dsimp only)); refine be_ 1 #[.int .i64 a0_0, .slice A0_1 l0_1.length c0_1] 25 ?_; intro gb570 hg w41 hbox hb; have BK570 := Aside0.mk (hbox); have GW570 := wq (hb0 HB) hg; have GE570 := wq (hb0 HB) hg; replace HB := hs (hb0 HB) hb; clear hb hbox hg) | ((with_reducible refine gate_dst (N := 2) rfl ?_); (try (refine gate_guard (by rfl) ?_; dsimp only)); refine be_ 2 #[.int .i64 0, .slice none 0 0] 25 ?_; intro gb571 hg w42 hbox hb; have BK571 := Aside0.mk (hbox); have GW571 := wq (hb1 HB GE570) hg; have GE571 := wq (hb1 HB GE570) hg; replace HB := hs (hb1 HB GE570) hb; have NB570_571 := lx BK570 hg; have NB571_570 := gx BK570 hg; replace BK570 := kx BK570 hb; clear hb hbox hg; have hnb43 := NB570_571.out; have hnc43 := NB571_570.out; have hcz44_0 : w42.cell? ⟨gb570, 0, none⟩ = some (.int .i64 a0_0) := bc BK570 0; have hcz44_1 : w42.cell? ⟨gb570, 1, none⟩ = some (.slice A0_1 l0_1.length c0_1) := bc BK570 1; have hfz44_0 := blk_frozen BK570.out 0; have hfz44_1 := blk_frozen BK570.out 1) | ((with_reducible refine gate_callee (f := 37) rfl ?_); refine gl_ (some 8) Try.func37 #[.agg #[.int .i64 a0_0, .slice A0_1 l0_1.length c0_1]] ?_; (with_reducible refine (simple_Valid.calls k a0_0 _ _ l0_1 false _ ?side1 ?side2 A2.out).mono ?_); (case side1 => repeat (first | exact (Kd.C_below HR0_1.out HB.out) | (with_reducible refine Kd.C_alloc ?_ _) | (with_reducible refine Kd.C_drewN ?_ _) | (with_reducible refine Kd.C_drew ?_))); (case side2 => exact HC0_1.out); rintro e w45 ⟨rfl, hb⟩; refine ⟨_, rfl, ?_⟩; replace BK570 := kx BK570 hb; replace BK571 := kx BK571 hb; replace HB := hs (hb2 HB GE570 GE571) hb; (try clear hb); (try clear hb2); (try clear hk); (try clear hi); have hcz46_0 : w45.cell? ⟨gb571, 0, none⟩ = some (.int .i64 0) := bc BK571 0; have hcz46_1 : w45.cell? ⟨gb571, 1, none⟩ = some (.slice none 0 0) := bc BK571 1; have hfz46_0 := blk_frozen BK571.out 0; have hfz46_1 := blk_frozen BK571.out 1))
  refine bodyPost_ret (results_ct rfl _ _ gb571 25 #[.int .i64 0, .slice none 0 0] (0, 0) _ rfl (bp BK571) Try.underlying25 rfl (by kernel_rfl)) rfl ?_; exact ⟨_, by first | rfl | (simp [errW_none, errW_some] <;> rfl) | (simp [*, errW_none, errW_some] <;> rfl), by first | exact Kd.R_nil _ _ _ _ _ | exact Kd.N_nil _ _ _ _ _ | exact Kd.V_nil _ _ _ _ _ | exact Kd.Q_nil _ _ _ _ _ | exact Kd.S_nil _ _ _ _ _, hb2 HB GE570 GE571⟩

end Go.Proofs.Ytdaeaejmikhmcaa.PEditC
