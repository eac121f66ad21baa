-- PRINTED by print.py (a twelfth state) out of the translation. Not trusted: Lean checks it.
import Derived.Test.YtdaeaejmikhmcaaZPEditCx0
import Derived.Test.YtdaeaejmikhmcaaZPEditCx3
import Derived.Test.YtdaeaejmikhmcaaZPEditCx5
import Derived.Test.YtdaeaejmikhmcaaZPEditCx21
namespace Go.Proofs.Ytdaeaejmikhmcaa.PEditC
open Go.RowKit Go.Proofs.YtdaeaejmikhmcaaW.PrintWords Go.Proofs.YtdaeaejmikhmcaaW.PrintLast Go.Proofs.YtdaeaejmikhmcaaW.PrintMore
open Go.Proofs.YtdaeaejmikhmcaaX
attribute [local go_sem] max2_int min2_int max_two min_two max_three min_three max_four min_four   -- for this text's walks alone
set_option linter.unusedVariables false
set_option linter.unusedSimpArgs false

/-! ### edit_Beside: function 18 -/
mutual
def edit_Beside.j0 : Nat → Bool → Int → List (S46) → Int → List (S46) → Option (Int × (List (S46)) × Int)
 | 0, _, _, _, _, _ => none
 | k + 1, x9, x270000, x270001, x271000, x271001 => if x9 = true then (some (0, ([] : List (S46)), 1)) else (if (wrap64 (x270000 + x271000)) > 1048576 then (some (0, ([] : List (S46)), 141)) else (if (wrap64 ((x270001.length : Int) + (x271001.length : Int))) > 4194304 then (some (0, ([] : List (S46)), 141)) else ((api_Edge_40.f x270001).bind fun t274 => (edit_Beside.l0 k t274 x271001 (x271001.length : Int) 0 x270000 x270001 x271000 x271001))))
def edit_Beside.l0 : Nat → List (S46) → List (S46) → Int → Int → Int → List (S46) → Int → List (S46) → Option (Int × (List (S46)) × Int)
 | 0, _, _, _, _, _, _, _, _ => none
 | k + 1, x6, x41, x42, x43, x270000, x270001, x271000, x271001 => if x43 < x42 then (if 0 ≤ x43 then (if x43 < (x41.length : Int) then (if x6.length < 8796093022208 then (edit_Beside.l0 k (x6 ++ [(⟨wrap64 (x270000 + ((rd_T46 x41 x43).f0)), wrap64 (x270000 + ((rd_T46 x41 x43).f1))⟩ : S46)]) x41 x42 (wrap64 (x43 + 1)) x270000 x270001 x271000 x271001) else (none)) else (none)) else (none)) else ((edit_made.f k (wrap64 (x270000 + x271000)) x6).bind fun bt282 => (some (bt282.1, bt282.2, 0)))
end
def edit_Beside.f (k : Nat) (a0_0 : Int) (l0_1 : List (S46)) (a1_0 : Int) (l1_1 : List (S46)) : Option (Int × (List (S46)) × Int) := (simple_Valid.f k a0_0 l0_1).bind fun t272 => (if t272 = true then ((simple_Valid.f k a1_0 l1_1).bind fun t273 => (edit_Beside.j0 k (!t273) a0_0 l0_1 a1_0 l1_1)) else (edit_Beside.j0 k true a0_0 l0_1 a1_0 l1_1))
theorem edit_Beside.mono_l : ∀ k, (∀ y0 y1 y2 y3 y4, LeO (edit_Beside.j0 k y0 y1 y2 y3 y4) (edit_Beside.j0 (k + 1) y0 y1 y2 y3 y4)) ∧ (∀ y0 y1 y2 y3 y4 y5 y6 y7, LeO (edit_Beside.l0 k y0 y1 y2 y3 y4 y5 y6 y7) (edit_Beside.l0 (k + 1) y0 y1 y2 y3 y4 y5 y6 y7))
 | 0 => ⟨fun _ _ _ _ _ r h => by simp [edit_Beside.j0] at h, fun _ _ _ _ _ _ _ _ r h => by simp [edit_Beside.l0] at h⟩
 | k + 1 => by
  obtain ⟨ih0, ih1⟩ := edit_Beside.mono_l k; refine ⟨?_, ?_⟩
  ·intro y0 y1 y2 y3 y4
   unfold edit_Beside.j0
   repeat' first
   | (with_reducible exact ih0 _ _ _ _ _)
   | (with_reducible exact ih1 _ _ _ _ _ _ _ _)
   | (with_reducible exact edit_made.mono _ _ _)
   | (with_reducible exact simple_Valid.mono _ _ _)
   | (with_reducible exact LeO.refl _)
   | (with_reducible exact LeO.none _)
   | (with_reducible refine LeO.ite ?_ ?_)
   | (with_reducible refine LeO.bind ?_ (fun _ => ?_))
   | exact ih0 _ _ _ _ _
   | exact ih1 _ _ _ _ _ _ _ _
   | exact edit_made.mono _ _ _
   | exact simple_Valid.mono _ _ _
   | exact LeO.none _
   | refine LeO.ite ?_ ?_
   | refine LeO.bind ?_ (fun _ => ?_)
  ·intro y0 y1 y2 y3 y4 y5 y6 y7
   unfold edit_Beside.l0
   repeat' first
   | (with_reducible exact ih0 _ _ _ _ _)
   | (with_reducible exact ih1 _ _ _ _ _ _ _ _)
   | (with_reducible exact edit_made.mono _ _ _)
   | (with_reducible exact simple_Valid.mono _ _ _)
   | (with_reducible exact LeO.refl _)
   | (with_reducible exact LeO.none _)
   | (with_reducible refine LeO.ite ?_ ?_)
   | (with_reducible refine LeO.bind ?_ (fun _ => ?_))
   | exact ih0 _ _ _ _ _
   | exact ih1 _ _ _ _ _ _ _ _
   | exact edit_made.mono _ _ _
   | exact simple_Valid.mono _ _ _
   | exact LeO.none _
   | refine LeO.ite ?_ ?_
   | refine LeO.bind ?_ (fun _ => ?_)
theorem edit_Beside.mono : ∀ a0 a1 a2 a3 k, LeO (edit_Beside.f k a0 a1 a2 a3) (edit_Beside.f (k + 1) a0 a1 a2 a3) := by
 intro a0 a1 a2 a3 k; obtain ⟨ih0, ih1⟩ := edit_Beside.mono_l k
 unfold edit_Beside.f
 repeat' first
   | (with_reducible exact ih0 _ _ _ _ _)
   | (with_reducible exact ih1 _ _ _ _ _ _ _ _)
   | (with_reducible exact edit_made.mono _ _ _)
   | (with_reducible exact simple_Valid.mono _ _ _)
   | (with_reducible exact LeO.refl _)
   | (with_reducible exact LeO.none _)
   | (with_reducible refine LeO.ite ?_ ?_)
   | (with_reducible refine LeO.bind ?_ (fun _ => ?_))
   | exact ih0 _ _ _ _ _
   | exact ih1 _ _ _ _ _ _ _ _
   | exact edit_made.mono _ _ _
   | exact simple_Valid.mono _ _ _
   | exact LeO.none _
   | refine LeO.ite ?_ ?_
   | refine LeO.bind ?_ (fun _ => ?_)
set_option maxHeartbeats 8000000 in
set_option maxRecDepth 100000 in
theorem edit_Beside.calls (k : Nat) (a0_0 : Int) (A0_1 : Option Addr) (c0_1 : Nat) (l0_1 : List (S46)) (a1_0 : Int) (A1_1 : Option Addr) (c1_1 : Nat) (l1_1 : List (S46)) (r1 : Int) (r2 : List (S46)) (r3 : Int) (w : World) (hr0_1 : Kd.C k46 w A0_1 l0_1.length l0_1) (hc0_1 : l0_1.length ≤ c0_1) (hr1_1 : Kd.C k46 w A1_1 l1_1.length l1_1) (hc1_1 : l1_1.length ≤ c1_1) (h : edit_Beside.f k a0_0 l0_1 a1_0 l1_1 = some (r1, r2, r3)) :
  Calls Try.prog 18 #[.agg #[.int .i64 a0_0, .slice A0_1 l0_1.length c0_1], .agg #[.int .i64 a1_0, .slice A1_1 l1_1.length c1_1]] w fun e w' => ∃ v1_ : Value, e = .returned (.tuple #[.agg #[.int .i64 r1, v1_], .int .i64 r3]) ∧ Kd.R k46 46 w' w.heap.size (fun _ => True) v1_ r2 ∧ Below w.heap.size w w' := by
 have hu25 := Try.underlying25; have hu46 := Try.underlying46; have HR0_1 := Aside0.mk hr0_1; have HC0_1 := Aside0.mk hc0_1; clear hr0_1 hc0_1; have HR1_1 := Aside0.mk hr1_1; have HC1_1 := Aside0.mk hc1_1; clear hr1_1 hc1_1; have HB := Aside0.mk (Below.refl w.heap.size w); have H : ((simple_Valid.f k a0_0 l0_1).bind fun t272 => (if t272 = true then ((simple_Valid.f k a1_0 l1_1).bind fun t273 => (edit_Beside.j0 k (!t273) a0_0 l0_1 a1_0 l1_1)) else (edit_Beside.j0 k true a0_0 l0_1 a1_0 l1_1))) = some (r1, r2, r3) := h; clear h; have HC3 := Aside0.mk H; clear H
 go_enter Try.func18, Try.ntmps18
 go_upto_region 1 with (first | ((with_reducible refine gate_dst (N := 2) rfl ?_); (try (refine gate_guard (by rfl) ?_; dsimp only)); refine be_ 2 #[.int .i64 a0_0, .slice A0_1 l0_1.length c0_1] 25 ?_; intro gb269 hg w4 hbox hb; have BK269 := Aside0.mk (hbox); have GW269 := wq (hb0 HB) hg; have GE269 := wq (hb0 HB) hg; replace HB := hs (hb0 HB) hb; clear hb hbox hg) | ((with_reducible refine gate_dst (N := 3) rfl ?_); (try (refine gate_guard (by rfl) ?_; dsimp only)); refine be_ 3 #[.int .i64 a1_0, .slice A1_1 l1_1.length c1_1] 25 ?_; intro gb270 hg w5 hbox hb; have BK270 := Aside0.mk (hbox); have GW270 := wq (hb1 HB GE269) hg; have GE270 := wq (hb1 HB GE269) hg; replace HB := hs (hb1 HB GE269) hb; have NB269_270 := lx BK269 hg; have NB270_269 := gx BK269 hg; replace BK269 := kx BK269 hb; clear hb hbox hg) | ((with_reducible refine gate_dst (N := 4) rfl ?_); (try (refine gate_guard (by rfl) ?_; dsimp only)); refine be_ 4 #[.int .i64 0, .slice none 0 0] 25 ?_; intro gb271 hg w6 hbox hb; have BK271 := Aside0.mk (hbox); have GW271 := wq (hb2 HB GE269 GE270) hg; have GE271 := wq (hb2 HB GE269 GE270) hg; replace HB := hs (hb2 HB GE269 GE270) hb; have NB269_271 := lx BK269 hg; have NB271_269 := gx BK269 hg; replace BK269 := kx BK269 hb; have NB270_271 := lx BK270 hg; have NB271_270 := gx BK270 hg; replace BK270 := kx BK270 hb; clear hb hbox hg))
 (try simp only [Act.put, List.setIfInBounds_toArray, List.set_cons_zero, List.set_cons_succ])
 go_cut [9] (fun v9 wc => ∃ (kq : Nat) (x9_2 : Bool), v9 = .bool x9_2 ∧ Aside0 (edit_Beside.j0 kq x9_2 a0_0 l0_1 a1_0 l1_1 = some (r1, r2, r3)) ∧ Aside0 (kq ≤ k) ∧ Aside0 (wc.heap[gb269]? = some (.cells #[.int .i64 a0_0, (.slice A0_1 l0_1.length c0_1)] 25 (0, 0))) ∧ Aside0 (wc.heap[gb270]? = some (.cells #[.int .i64 a1_0, (.slice A1_1 l1_1.length c1_1)] 25 (0, 0))) ∧ Aside0 (wc.heap[gb271]? = some (.cells #[.int .i64 0, (.slice none 0 0)] 25 (0, 0))) ∧ Aside0 (Below w.heap.size w wc))
 case first => as_aux_lemma =>
  have H := HC3.out; clear HC3; replace H := Option.bind_eq_some_iff.mp H; obtain ⟨t272, A70, H⟩ := H; replace H : (if t272 = true then ((simple_Valid.f k a1_0 l1_1).bind fun t273 => (edit_Beside.j0 k (!t273) a0_0 l0_1 a1_0 l1_1)) else (edit_Beside.j0 k true a0_0 l0_1 a1_0 l1_1)) = some (r1, r2, r3) := H; have A7 := Aside0.mk A70; clear A70
  by_cases c8 : t272 = true
  ·subst c8; have H1 : ((simple_Valid.f k a1_0 l1_1).bind fun t273 => (edit_Beside.j0 k (!t273) a0_0 l0_1 a1_0 l1_1)) = some (r1, r2, r3) := by rw [if_pos rfl] at H; exact H
   clear H; have H := H1; clear H1; replace H := Option.bind_eq_some_iff.mp H; obtain ⟨t273, A90, H⟩ := H; replace H : (edit_Beside.j0 k (!t273) a0_0 l0_1 a1_0 l1_1) = some (r1, r2, r3) := H; have A9 := Aside0.mk A90; clear A90; have H' := Aside0.mk H; clear H; have hnb10 := NB269_270.out; have hnc10 := NB270_269.out; have hnb11 := NB269_271.out; have hnc11 := NB271_269.out; have hcz12_0 : w6.cell? ⟨gb269, 0, none⟩ = some (.int .i64 a0_0) := bc BK269 0; have hcz12_1 : w6.cell? ⟨gb269, 1, none⟩ = some (.slice A0_1 l0_1.length c0_1) := bc BK269 1; have hfz12_0 := blk_frozen BK269.out 0; have hfz12_1 := blk_frozen BK269.out 1
   go_wp2_with (first | ((with_reducible refine gate_callee (f := 37) rfl ?_); refine gl_ (some 11) Try.func37 #[.agg #[.int .i64 a0_0, .slice A0_1 l0_1.length c0_1]] ?_; (with_reducible refine (simple_Valid.calls k a0_0 _ _ l0_1 true _ ?side1 ?side2 A7.out).mono ?_); (case side1 => repeat (first | exact (Kd.C_below HR0_1.out HB.out) | (with_reducible refine Kd.C_alloc ?_ _) | (with_reducible refine Kd.C_drewN ?_ _) | (with_reducible refine Kd.C_drew ?_))); (case side2 => exact HC0_1.out); rintro e w13 ⟨rfl, hb⟩; refine ⟨_, rfl, ?_⟩; replace BK269 := kx BK269 hb; replace BK270 := kx BK270 hb; replace BK271 := kx BK271 hb; replace HB := hs (hb3 HB GE269 GE270 GE271) hb; (try clear hb); (try clear hb2); (try clear hk); (try clear hi); have hnb14 := NB270_271.out; have hnc14 := NB271_270.out; have hcz15_0 : w13.cell? ⟨gb270, 0, none⟩ = some (.int .i64 a1_0) := bc BK270 0; have hcz15_1 : w13.cell? ⟨gb270, 1, none⟩ = some (.slice A1_1 l1_1.length c1_1) := bc BK270 1; have hfz15_0 := blk_frozen BK270.out 0; have hfz15_1 := blk_frozen BK270.out 1) | (go_at_call 37; (with_reducible refine (simple_Valid.calls k a1_0 _ _ l1_1 t273 _ ?side1 ?side2 A9.out).mono ?_); (case side1 => repeat (first | exact (Kd.C_below HR1_1.out HB.out) | (with_reducible refine Kd.C_alloc ?_ _) | (with_reducible refine Kd.C_drewN ?_ _) | (with_reducible refine Kd.C_drew ?_))); (case side2 => exact HC1_1.out); rintro e w16 ⟨rfl, hb⟩; replace BK269 := kx BK269 hb; replace BK270 := kx BK270 hb; replace BK271 := kx BK271 hb; replace HB := hs (hb3 HB GE269 GE270 GE271) hb; (try clear hb); (try clear hb2); (try clear hk); (try clear hi)))
   go_meet
   case rel => exact ⟨_, (!t273), (by first | rfl | (simp; done) | (simp [*]; done)), H', ⟨by first | omega | exact Nat.le_refl _⟩, ⟨bx BK269⟩, ⟨bx BK270⟩, ⟨bx BK271⟩, ⟨hb3 HB GE269 GE270 GE271⟩⟩
  ·replace c8 := Bool.eq_false_iff.mpr c8; subst c8; have H1 : (edit_Beside.j0 k true a0_0 l0_1 a1_0 l1_1) = some (r1, r2, r3) := by rw [if_neg (show ¬ (false = true) by decide)] at H; exact H
   clear H; have H := H1; clear H1; have H' := Aside0.mk H; clear H; have hnb17 := NB269_270.out; have hnc17 := NB270_269.out; have hnb18 := NB269_271.out; have hnc18 := NB271_269.out; have hcz19_0 : w6.cell? ⟨gb269, 0, none⟩ = some (.int .i64 a0_0) := bc BK269 0; have hcz19_1 : w6.cell? ⟨gb269, 1, none⟩ = some (.slice A0_1 l0_1.length c0_1) := bc BK269 1; have hfz19_0 := blk_frozen BK269.out 0; have hfz19_1 := blk_frozen BK269.out 1
   go_wp2_with (first | ((with_reducible refine gate_callee (f := 37) rfl ?_); refine gl_ (some 11) Try.func37 #[.agg #[.int .i64 a0_0, .slice A0_1 l0_1.length c0_1]] ?_; (with_reducible refine (simple_Valid.calls k a0_0 _ _ l0_1 false _ ?side1 ?side2 A7.out).mono ?_); (case side1 => repeat (first | exact (Kd.C_below HR0_1.out HB.out) | (with_reducible refine Kd.C_alloc ?_ _) | (with_reducible refine Kd.C_drewN ?_ _) | (with_reducible refine Kd.C_drew ?_))); (case side2 => exact HC0_1.out); rintro e w20 ⟨rfl, hb⟩; refine ⟨_, rfl, ?_⟩; replace BK269 := kx BK269 hb; replace BK270 := kx BK270 hb; replace BK271 := kx BK271 hb; replace HB := hs (hb3 HB GE269 GE270 GE271) hb; (try clear hb); (try clear hb2); (try clear hk); (try clear hi)))
   go_meet
   case rel => exact ⟨_, (true), (by first | rfl | (simp; done) | (simp [*]; done)), H', ⟨by first | omega | exact Nat.le_refl _⟩, ⟨bx BK269⟩, ⟨bx BK270⟩, ⟨bx BK271⟩, ⟨hb3 HB GE269 GE270 GE271⟩⟩
 case rest => as_aux_lemma =>
  clear HC3
  try clear c1
  try clear p2
  try clear c3
  try clear c8
  try clear c10
  try clear c11
  try clear c14
  try clear c17
  try clear c18
  try clear hcz12_0
  try clear hcz12_1
  try clear hcz15_0
  try clear hcz15_1
  try clear hcz19_0
  try clear hcz19_1
  try clear hfz12_0
  try clear hfz12_1
  try clear hfz15_0
  try clear hfz15_1
  try clear hfz19_0
  try clear hfz19_1
  obtain ⟨kq, x9_2, rfl, HA, HJ2, BK269, BK270, BK271, HB⟩ := hcut
  cases kq with
  | zero => exact absurd HA.out (by simp [edit_Beside.j0])
  | succ kj2 =>
   have H := HA.out; clear HA; simp only [edit_Beside.j0] at H
   by_cases c21 : x9_2 = true
   ·subst c21; have H1 : (some (0, ([] : List (S46)), 1)) = some (r1, r2, r3) := by rw [if_pos rfl] at H; exact H
    clear H; have H := H1; clear H1; simp only [Option.some.injEq, Prod.mk.injEq] at H; obtain ⟨rfl, rfl, rfl⟩ := H; have hnb22 := NB271_269.out; have hnc22 := NB269_271.out; have hnb23 := NB271_270.out; have hnc23 := NB270_271.out; have hcz24_0 : wc.cell? ⟨gb271, 0, none⟩ = some (.int .i64 0) := bc BK271 0; have hcz24_1 : wc.cell? ⟨gb271, 1, none⟩ = some (.slice none 0 0) := bc BK271 1; have hfz24_0 := blk_frozen BK271.out 0; have hfz24_1 := blk_frozen BK271.out 1
    go_wp2
    refine bodyPost_ret (results_ct rfl _ _ gb271 25 #[.int .i64 0, .slice none 0 0] (0, 0) _ rfl (bp BK271) Try.underlying25 rfl (by kernel_rfl)) rfl ?_; exact ⟨_, by first | rfl | (simp [errW_none, errW_some] <;> rfl) | (simp [*, errW_none, errW_some] <;> rfl), by first | exact Kd.R_nil _ _ _ _ _ | exact Kd.N_nil _ _ _ _ _ | exact Kd.V_nil _ _ _ _ _ | exact Kd.Q_nil _ _ _ _ _ | exact Kd.S_nil _ _ _ _ _, hb3 HB GE269 GE270 GE271⟩
   ·replace c21 := Bool.eq_false_iff.mpr c21; subst c21; have H1 : (if (wrap64 (a0_0 + a1_0)) > 1048576 then (some (0, ([] : List (S46)), 141)) else (if (wrap64 ((l0_1.length : Int) + (l1_1.length : Int))) > 4194304 then (some (0, ([] : List (S46)), 141)) else ((api_Edge_40.f l0_1).bind fun t274 => (edit_Beside.l0 kj2 t274 l1_1 (l1_1.length : Int) 0 a0_0 l0_1 a1_0 l1_1)))) = some (r1, r2, r3) := by rw [if_neg (show ¬ (false = true) by decide)] at H; exact H
    clear H; have H := H1; clear H1
    by_cases c25 : (wrap64 (a0_0 + a1_0)) > 1048576
    ·rw [if_pos c25] at H; have c25b0 : decide (1048576 < (wrap64 (a0_0 + a1_0))) = true := decide_eq_true c25; clear c25; simp only [Option.some.injEq, Prod.mk.injEq] at H; obtain ⟨rfl, rfl, rfl⟩ := H; have hnb26 := NB269_270.out; have hnc26 := NB270_269.out; have hnb27 := NB269_271.out; have hnc27 := NB271_269.out; have hcz28_0 : wc.cell? ⟨gb269, 0, none⟩ = some (.int .i64 a0_0) := bc BK269 0; have hcz28_1 : wc.cell? ⟨gb269, 1, none⟩ = some (.slice A0_1 l0_1.length c0_1) := bc BK269 1; have hfz28_0 := blk_frozen BK269.out 0; have hfz28_1 := blk_frozen BK269.out 1; have hnb29 := NB270_271.out; have hnc29 := NB271_270.out; have hcz30_0 : wc.cell? ⟨gb270, 0, none⟩ = some (.int .i64 a1_0) := bc BK270 0; have hcz30_1 : wc.cell? ⟨gb270, 1, none⟩ = some (.slice A1_1 l1_1.length c1_1) := bc BK270 1; have hfz30_0 := blk_frozen BK270.out 0; have hfz30_1 := blk_frozen BK270.out 1; have hcz31_0 : wc.cell? ⟨gb271, 0, none⟩ = some (.int .i64 0) := bc BK271 0; have hcz31_1 : wc.cell? ⟨gb271, 1, none⟩ = some (.slice none 0 0) := bc BK271 1; have hfz31_0 := blk_frozen BK271.out 0; have hfz31_1 := blk_frozen BK271.out 1
     go_wp2
     refine bodyPost_ret (results_ct rfl _ _ gb271 25 #[.int .i64 0, .slice none 0 0] (0, 0) _ rfl (bp BK271) Try.underlying25 rfl (by kernel_rfl)) rfl ?_; exact ⟨_, by first | rfl | (simp [errW_none, errW_some] <;> rfl) | (simp [*, errW_none, errW_some] <;> rfl), by first | exact Kd.R_nil _ _ _ _ _ | exact Kd.N_nil _ _ _ _ _ | exact Kd.V_nil _ _ _ _ _ | exact Kd.Q_nil _ _ _ _ _ | exact Kd.S_nil _ _ _ _ _, hb3 HB GE269 GE270 GE271⟩
    ·rw [if_neg c25] at H; have c25b0 : decide (1048576 < (wrap64 (a0_0 + a1_0))) = false := decide_eq_false c25; clear c25
     by_cases c32 : (wrap64 ((l0_1.length : Int) + (l1_1.length : Int))) > 4194304
     ·rw [if_pos c32] at H; have c32b0 : decide (4194304 < (wrap64 ((l0_1.length : Int) + (l1_1.length : Int)))) = true := decide_eq_true c32; clear c32; simp only [Option.some.injEq, Prod.mk.injEq] at H; obtain ⟨rfl, rfl, rfl⟩ := H; have hnb33 := NB269_270.out; have hnc33 := NB270_269.out; have hnb34 := NB269_271.out; have hnc34 := NB271_269.out; have hcz35_0 : wc.cell? ⟨gb269, 0, none⟩ = some (.int .i64 a0_0) := bc BK269 0; have hcz35_1 : wc.cell? ⟨gb269, 1, none⟩ = some (.slice A0_1 l0_1.length c0_1) := bc BK269 1; have hfz35_0 := blk_frozen BK269.out 0; have hfz35_1 := blk_frozen BK269.out 1; have hnb36 := NB270_271.out; have hnc36 := NB271_270.out; have hcz37_0 : wc.cell? ⟨gb270, 0, none⟩ = some (.int .i64 a1_0) := bc BK270 0; have hcz37_1 : wc.cell? ⟨gb270, 1, none⟩ = some (.slice A1_1 l1_1.length c1_1) := bc BK270 1; have hfz37_0 := blk_frozen BK270.out 0; have hfz37_1 := blk_frozen BK270.out 1; have hcz38_0 : wc.cell? ⟨gb271, 0, none⟩ = some (.int .i64 0) := bc BK271 0; have hcz38_1 : wc.cell? ⟨gb271, 1, none⟩ = some (.slice none 0 0) := bc BK271 1; have hfz38_0 := blk_frozen BK271.out 0; have hfz38_1 := blk_frozen BK271.out 1
      go_wp2
      refine bodyPost_ret (results_ct rfl _ _ gb271 25 #[.int .i64 0, .slice none 0 0] (0, 0) _ rfl (bp BK271) Try.underlying25 rfl (by kernel_rfl)) rfl ?_; exact ⟨_, by first | rfl | (simp [errW_none, errW_some] <;> rfl) | (simp [*, errW_none, errW_some] <;> rfl), by first | exact Kd.R_nil _ _ _ _ _ | exact Kd.N_nil _ _ _ _ _ | exact Kd.V_nil _ _ _ _ _ | exact Kd.Q_nil _ _ _ _ _ | exact Kd.S_nil _ _ _ _ _, hb3 HB GE269 GE270 GE271⟩
     ·rw [if_neg c32] at H; have c32b0 : decide (4194304 < (wrap64 ((l0_1.length : Int) + (l1_1.length : Int)))) = false := decide_eq_false c32; clear c32; replace H := Option.bind_eq_some_iff.mp H; obtain ⟨t274, A390, H⟩ := H; replace H : (edit_Beside.l0 kj2 t274 l1_1 (l1_1.length : Int) 0 a0_0 l0_1 a1_0 l1_1) = some (r1, r2, r3) := H; have A39 := Aside0.mk A390; clear A390; have H' := Aside0.mk H; clear H; have hnb40 := NB269_270.out; have hnc40 := NB270_269.out; have hnb41 := NB269_271.out; have hnc41 := NB271_269.out; have hcz42_0 : wc.cell? ⟨gb269, 0, none⟩ = some (.int .i64 a0_0) := bc BK269 0; have hcz42_1 : wc.cell? ⟨gb269, 1, none⟩ = some (.slice A0_1 l0_1.length c0_1) := bc BK269 1; have hfz42_0 := blk_frozen BK269.out 0; have hfz42_1 := blk_frozen BK269.out 1; have hnb43 := NB270_271.out; have hnc43 := NB271_270.out; have hcz44_0 : wc.cell? ⟨gb270, 0, none⟩ = some (.int .i64 a1_0) := bc BK270 0; have hcz44_1 : wc.cell? ⟨gb270, 1, none⟩ = some (.slice A1_1 l1_1.length c1_1) := bc BK270 1; have hfz44_0 := blk_frozen BK270.out 0; have hfz44_1 := blk_frozen BK270.out 1
      go_wp2_with (first | ((with_reducible refine gate_callee (f := 40) rfl ?_); refine gl_ (some 39) Try.func40 #[.slice A0_1 l0_1.length c0_1] ?_; (with_reducible refine (api_Edge_40.calls _ _ l0_1 t274 _ ?side1 ?side2 A39.out).mono ?_); (case side1 => repeat (first | exact (Kd.C_below HR0_1.out HB.out) | (with_reducible refine Kd.C_alloc ?_ _) | (with_reducible refine Kd.C_drewN ?_ _) | (with_reducible refine Kd.C_drew ?_))); (case side2 => exact HC0_1.out); rintro e w45 ⟨v275, rfl, ho0, hb⟩; refine ⟨_, rfl, ?_⟩; have HO276 := Aside0.mk (Kd.R_lower ho0 (below_size (hb3 HB GE269 GE270 GE271))); replace BK269 := kx BK269 hb; replace BK270 := kx BK270 hb; replace BK271 := kx BK271 hb; replace HB := hs (hb3 HB GE269 GE270 GE271) hb; (try clear hb); (try clear hb2); (try clear hk); (try clear hi); (try clear ho0); have hcz46_0 : w45.cell? ⟨gb270, 0, none⟩ = some (.int .i64 a1_0) := bc BK270 0; have hcz46_1 : w45.cell? ⟨gb270, 1, none⟩ = some (.slice A1_1 l1_1.length c1_1) := bc BK270 1; have hfz46_0 := blk_frozen BK270.out 0; have hfz46_1 := blk_frozen BK270.out 1))
      go_loopg [6, 43] kj2 (fun kq v6 v43 w' => ∃ (x6_2 : List (S46)) (x43_2 : Int), v43 = .int .i64 x43_2 ∧ Aside0 (edit_Beside.l0 kq x6_2 l1_1 (l1_1.length : Int) x43_2 a0_0 l0_1 a1_0 l1_1 = some (r1, r2, r3)) ∧ Aside0 (kq ≤ kj2) ∧ Aside0 (Kd.R k46 46 w' w.heap.size (fun _ => True) v6 x6_2) ∧ Aside0 (w'.heap[gb269]? = some (.cells #[.int .i64 a0_0, (.slice A0_1 l0_1.length c0_1)] 25 (0, 0))) ∧ Aside0 (w'.heap[gb270]? = some (.cells #[.int .i64 a1_0, (.slice A1_1 l1_1.length c1_1)] 25 (0, 0))) ∧ Aside0 (w'.heap[gb271]? = some (.cells #[.int .i64 0, (.slice none 0 0)] 25 (0, 0))) ∧ Aside0 (Below w.heap.size w w'))
      case atStart => exact ⟨(t274), (0), (by first | rfl | (simp; done) | (simp [*]; done)), H', ⟨Nat.le_refl _⟩, ⟨rx HO276⟩, ⟨bx BK269⟩, ⟨bx BK270⟩, ⟨bx BK271⟩, ⟨hb3 HB GE269 GE270 GE271⟩⟩
      case round =>
       clear H'
       try clear c1
       try clear c2
       try clear p2
       try clear c3
       try clear c4
       try clear p6
       try clear c8
       try clear c10
       try clear c11
       try clear c14
       try clear c17
       try clear c18
       try clear c21
       try clear c22
       try clear c23
       try clear c25
       try clear c25b0
       try clear c26
       try clear c27
       try clear c29
       try clear c32
       try clear c32b0
       try clear c33
       try clear c34
       try clear c36
       try clear c37
       try clear c40
       try clear c41
       try clear c43
       try clear hcz12_0
       try clear hcz12_1
       try clear hcz15_0
       try clear hcz15_1
       try clear hcz19_0
       try clear hcz19_1
       try clear hcz24_0
       try clear hcz24_1
       try clear hcz28_0
       try clear hcz28_1
       try clear hcz30_0
       try clear hcz30_1
       try clear hcz31_0
       try clear hcz31_1
       try clear hcz35_0
       try clear hcz35_1
       try clear hcz37_0
       try clear hcz37_1
       try clear hcz38_0
       try clear hcz38_1
       try clear hcz42_0
       try clear hcz42_1
       try clear hcz44_0
       try clear hcz44_1
       try clear hcz46_0
       try clear hcz46_1
       try clear hfz12_0
       try clear hfz12_1
       try clear hfz15_0
       try clear hfz15_1
       try clear hfz19_0
       try clear hfz19_1
       try clear hfz24_0
       try clear hfz24_1
       try clear hfz28_0
       try clear hfz28_1
       try clear hfz30_0
       try clear hfz30_1
       try clear hfz31_0
       try clear hfz31_1
       try clear hfz35_0
       try clear hfz35_1
       try clear hfz37_0
       try clear hfz37_1
       try clear hfz38_0
       try clear hfz38_1
       try clear hfz42_0
       try clear hfz42_1
       try clear hfz44_0
       try clear hfz44_1
       try clear hfz46_0
       try clear hfz46_1
       try clear p2
       obtain ⟨x6_2, x43_2, rfl, HA, HK2, HO_6, BK269, BK270, BK271, HB⟩ := hrel
       cases gk with
       | zero => exact absurd HA.out (by simp [edit_Beside.l0])
       | succ k2 =>
        have H := HA.out; clear HA; simp only [edit_Beside.l0] at H
        by_cases c47 : x43_2 < (l1_1.length : Int)
        ·rw [if_pos c47] at H; have c47b0 : decide (x43_2 < (l1_1.length : Int)) = true := decide_eq_true c47; clear c47
         by_cases c48 : 0 ≤ x43_2
         ·rw [if_pos c48] at H; have c48b0 : decide (0 ≤ x43_2) = true := decide_eq_true c48; clear c48
          by_cases c49 : x43_2 < (l1_1.length : Int)
          ·rw [if_pos c49] at H; have c49b0 : decide (x43_2 < (l1_1.length : Int)) = true := decide_eq_true c49; clear c49
           by_cases c50 : x6_2.length < 8796093022208
           ·rw [if_pos c50] at H; have LMc50 := Aside0.mk c50; clear c50; obtain ⟨y279, hy279⟩ : ∃ y_ : List (S46), y_ = (x6_2 ++ [(⟨wrap64 (a0_0 + ((rd_T46 l1_1 x43_2).f0)), wrap64 (a0_0 + ((rd_T46 l1_1 x43_2).f1))⟩ : S46)]) := ⟨_, rfl⟩; replace H : (edit_Beside.l0 k2 y279 l1_1 (l1_1.length : Int) (wrap64 (x43_2 + 1)) a0_0 l0_1 a1_0 l1_1) = some (r1, r2, r3) := by first | (rw [hy279]; with_reducible exact H) | (have H2_ := (Option.bind_some _ _).symm.trans H; rw [hy279]; with_reducible exact H2_) | (have H2_ := (Option.bind_some _ _).symm.trans H; with_reducible exact H2_) | with_reducible exact H | (rw [hy279]; exact H) | exact H
            have Ny279 := Aside0.mk hy279; clear hy279; have H' := Aside0.mk H; clear H; have p277 : 0 ≤ (x43_2 : Int) := of_decide_eq_true (by first | (with_reducible assumption) | assumption); have q277 : x43_2 < (l1_1.length : Int) := of_decide_eq_true (by first | (with_reducible assumption) | assumption); obtain ⟨ad277, e277, hx277_0, hx277_1⟩ := at_T46 HR1_1.out x43_2 p277 q277
            cases e277
            replace hx277_0 := (HB.out.cell (World.block_lt_of_cell? w _ hx277_0)).trans hx277_0; replace hx277_1 := (HB.out.cell (World.block_lt_of_cell? w _ hx277_1)).trans hx277_1; replace p277 := eq_true p277; replace q277 := eq_true q277
            go_wp2_with (first | ((with_reducible refine gate_dst (N := 8) rfl ?_); (try (refine gate_guard (by rfl) ?_; dsimp only)); refine be_ 8 #[.int .i64 0, .int .i64 0] 46 ?_; intro gb278 hg w51 hbox hb; replace HO_6 := Aside0.mk (Kd.R_below (Kd.R_elderB (rx HO_6) gb278 (Nat.le_of_eq hg.symm)) hb); have BK278 := Aside0.mk (hbox); have GW278 := wq (hb3 HB GE269 GE270 GE271) hg; have GE278 := wq (hb3 HB GE269 GE270 GE271) hg; replace HB := hs (hb3 HB GE269 GE270 GE271) hb; have NB269_278 := lx BK269 hg; have NB278_269 := gx BK269 hg; replace BK269 := kx BK269 hb; have NB270_278 := lx BK270 hg; have NB278_270 := gx BK270 hg; replace BK270 := kx BK270 hb; have NB271_278 := lx BK271 hg; have NB278_271 := gx BK271 hg; replace BK271 := kx BK271 hb; clear hb hbox hg; have hnb52 := NB278_269.out; have hnc52 := NB269_278.out; have hnb53 := NB278_270.out; have hnc53 := NB270_278.out; have hnb54 := NB278_271.out; have hnc54 := NB271_278.out; have hcz55_0 : w51.cell? ⟨gb278, 0, none⟩ = some (.int .i64 0) := bc BK278 0; have hcz55_1 : w51.cell? ⟨gb278, 1, none⟩ = some (.int .i64 0) := bc BK278 1; have hfz55_0 := blk_frozen BK278.out 0; have hfz55_1 := blk_frozen BK278.out 1; have hnb56 := NB269_270.out; have hnc56 := NB270_269.out; have hnb57 := NB269_271.out; have hnc57 := NB271_269.out; have hcz58_0 : w51.cell? ⟨gb269, 0, none⟩ = some (.int .i64 a0_0) := bc BK269 0; have hcz58_1 : w51.cell? ⟨gb269, 1, none⟩ = some (.slice A0_1 l0_1.length c0_1) := bc BK269 1; have hfz58_0 := blk_frozen BK269.out 0; have hfz58_1 := blk_frozen BK269.out 1) | ((with_reducible refine gate_builtin (b := .append) (xs := #[.tmp 47, .tmp 59]) rfl ?_); (try (refine gate_guard (by rfl) ?_; dsimp only)); at_builtin; refine Kd.R_append k46 (w0 := w) w.heap.size rfl (.tmp 47) (.tmp 59) 23 46 (.agg #[(.int .i64 0), (.int .i64 0)]) 16 rfl Try.underlying23 info46 rfl (by decide) (by omega) u6 x6_2 (⟨wrap64 (a0_0 + ((rd_T46 l1_1 x43_2).f0)), wrap64 (a0_0 + ((rd_T46 l1_1 x43_2).f1))⟩ : S46) [.int .i64 (wrap64 (a0_0 + ((rd_T46 l1_1 x43_2).f0))), .int .i64 (wrap64 (a0_0 + ((rd_T46 l1_1 x43_2).f1)))] (fun k_ => k_ ≠ gb278) (fun _ => False) rfl (by first | (go_simp; done) | (go_simp; rfl)) ?aP (fun _ hk => hk.elim) ?aF ?aO ?aB ?aS ?aL ?_; (case aP => exact k46_mkM _ _ _ (⟨wrap64 (a0_0 + ((rd_T46 l1_1 x43_2).f0)), wrap64 (a0_0 + ((rd_T46 l1_1 x43_2).f1))⟩ : S46)); (case aB => exact (hb4 HB GE269 GE270 GE271 GE278)); (case aF => exact (fun k_ hk => Kd.freshB (g := gb278) (o := .cells #[.int .i64 ((rd_T46 l1_1 x43_2).f0), .int .i64 ((rd_T46 l1_1 x43_2).f1)] 46 (0, 0)) (bp BK278) k_ hk)); (case aO => exact (by (with_reducible repeat (first | apply Kd.R_alloc | apply Kd.R_drewN | apply Kd.R_drew)); exact Kd.R_mono (Kd.R_far (p := ⟨gb278, 1, none⟩) (Kd.R_far (p := ⟨gb278, 0, none⟩) (Kd.R_mono HO_6.out (fun k_ hk => (⟨hk, hk.2⟩ : _ ∧ k_ ≠ gb278))) (fun _ hk => hk.2) (.int .i64 ((rd_T46 l1_1 x43_2).f0))) (fun _ hk => hk.2) (.int .i64 ((rd_T46 l1_1 x43_2).f1))) (fun _ hk => hk.1.2))); (case aS => exact (below_size (hb4 HB GE269 GE270 GE271 GE278))); (case aL => have := LMc50.out; omega); intro v280 w59 ho hb hg hat; rw [← Ny279.out] at ho; have n0_ := Aside0.mk (blk_grown (bx1 BK269 NB269_278) hg (Kd.R_ne HO_6.out BK269.out (by decide))); have n1_ := Aside0.mk (blk_grown (bx1 BK270 NB270_278) hg (Kd.R_ne HO_6.out BK270.out (by decide))); have n2_ := Aside0.mk (blk_grown (bx1 BK271 NB271_278) hg (Kd.R_ne HO_6.out BK271.out (by decide))); have n3_ := Aside0.mk (blk_grown (g := gb278) (o := .cells #[.int .i64 ((rd_T46 l1_1 x43_2).f0), .int .i64 ((rd_T46 l1_1 x43_2).f1)] 46 (0, 0)) (bp BK278) hg (Kd.R_away HO_6.out (fun _ hk => hk.2))); have n4_ := Aside0.mk (hb); have n5_ := Aside0.mk (ho); clear BK269; clear BK270; clear BK271; clear BK278; clear HB; clear HO_6; have BK269 := n0_; have BK270 := n1_; have BK271 := n2_; have BK278 := n3_; have HB := n4_; have HO281 := n5_; clear n0_ n1_ n2_ n3_ n4_ n5_; clear ho hb hg hat))
            go_roundg k2
            case measure => have := HJ2.out; have := HK2.out; omega
            case rel => exact ⟨(y279), (wrap64 (x43_2 + 1)), (by first | rfl | (simp; done) | (simp [*]; done)), H', ⟨by have := HJ2.out; have := HK2.out; omega⟩, ⟨Kd.R_mono (rx HO281) (fun _ hk => trivial)⟩, ⟨bx BK269⟩, ⟨bx BK270⟩, ⟨bx BK271⟩, ⟨hb4 HB GE269 GE270 GE271 GE278⟩⟩
           ·rw [if_neg c50] at H; exact absurd H (by simp)
          ·rw [if_neg c49] at H; exact absurd H (by simp)
         ·rw [if_neg c48] at H; exact absurd H (by simp)
        ·rw [if_neg c47] at H; have c47b0 : decide (x43_2 < (l1_1.length : Int)) = false := decide_eq_false c47; clear c47; replace H := Option.bind_eq_some_iff.mp H; obtain ⟨⟨t282, t283⟩, A600, H⟩ := H; replace H : (some (t282, t283, 0)) = some (r1, r2, r3) := H; have A60 := Aside0.mk A600; clear A600; simp only [Option.some.injEq, Prod.mk.injEq] at H; obtain ⟨rfl, rfl, rfl⟩ := H; have hnb61 := NB269_270.out; have hnc61 := NB270_269.out; have hnb62 := NB269_271.out; have hnc62 := NB271_269.out; have hcz63_0 : wr.cell? ⟨gb269, 0, none⟩ = some (.int .i64 a0_0) := bc BK269 0; have hcz63_1 : wr.cell? ⟨gb269, 1, none⟩ = some (.slice A0_1 l0_1.length c0_1) := bc BK269 1; have hfz63_0 := blk_frozen BK269.out 0; have hfz63_1 := blk_frozen BK269.out 1; have hnb64 := NB270_271.out; have hnc64 := NB271_270.out; have hcz65_0 : wr.cell? ⟨gb270, 0, none⟩ = some (.int .i64 a1_0) := bc BK270 0; have hcz65_1 : wr.cell? ⟨gb270, 1, none⟩ = some (.slice A1_1 l1_1.length c1_1) := bc BK270 1; have hfz65_0 := blk_frozen BK270.out 0; have hfz65_1 := blk_frozen BK270.out 1; obtain ⟨Ao66, co66, eo66⟩ := Kd.R_slice HO_6.out; subst eo66
         go_wp2_with (first | ((with_reducible refine gate_callee (f := 38) rfl ?_); refine gl_ (some 68) Try.func38 #[.int .i64 (wrap64 (a0_0 + a1_0)), .slice Ao66 x6_2.length co66] ?_; (with_reducible refine (edit_made.calls k2 (wrap64 (a0_0 + a1_0)) _ _ x6_2 t282 t283 _ ?side1 ?side2 A60.out).mono ?_); (case side1 => exact cr HO_6); (case side2 => exact (Kd.R_reads' HO_6.out).2.1); rintro e w67 ⟨v284, rfl, ho0, hb⟩; refine ⟨_, rfl, ?_⟩; have HO285 := Aside0.mk (Kd.R_lower (Kd.R_new' ho0 (Kd.R_lt (rx HO_6))) (below_size (hb3 HB GE269 GE270 GE271))); replace HO_6 := el (rx HO_6) ho0 hb; replace BK269 := kx BK269 hb; replace BK270 := kx BK270 hb; replace BK271 := kx BK271 hb; replace HB := hs (hb3 HB GE269 GE270 GE271) hb; (try clear hb); (try clear hb2); (try clear hk); (try clear hi); (try clear ho0); have hcz68_0 : w67.cell? ⟨gb271, 0, none⟩ = some (.int .i64 0) := bc BK271 0; have hcz68_1 : w67.cell? ⟨gb271, 1, none⟩ = some (.slice none 0 0) := bc BK271 1; have hfz68_0 := blk_frozen BK271.out 0; have hfz68_1 := blk_frozen BK271.out 1; obtain ⟨Ao69, co69, eo69⟩ := Kd.R_slice HO285.out; subst eo69))
         refine bodyPost_ret (results_ct rfl _ _ gb271 25 #[.int .i64 t282, .slice Ao69 t283.length co69] (0, 0) _ rfl (bp BK271) Try.underlying25 rfl (by kernel_rfl)) rfl ?_; exact ⟨_, by first | rfl | (simp [errW_none, errW_some] <;> rfl) | (simp [*, errW_none, errW_some] <;> rfl), Kd.R_mono (rf HO285 BK271) (fun _ hk => trivial), hb3 HB GE269 GE270 GE271⟩

end Go.Proofs.Ytdaeaejmikhmcaa.PEditC
