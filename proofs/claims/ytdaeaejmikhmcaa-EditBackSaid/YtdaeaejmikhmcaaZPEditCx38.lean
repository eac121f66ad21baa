-- PRINTED by print.py (a twelfth state) out of the translation. Not trusted: Lean checks it.
import Derived.Test.YtdaeaejmikhmcaaZPEditCx0
import Derived.Test.YtdaeaejmikhmcaaZPEditCx1
import Derived.Test.YtdaeaejmikhmcaaZPEditCx23
import Derived.Test.YtdaeaejmikhmcaaZPEditCx26
import Derived.Test.YtdaeaejmikhmcaaZPEditCx37
namespace Go.Proofs.Ytdaeaejmikhmcaa.PEditC
open Go.RowKit Go.Proofs.YtdaeaejmikhmcaaW.PrintWords Go.Proofs.YtdaeaejmikhmcaaW.PrintLast Go.Proofs.YtdaeaejmikhmcaaW.PrintMore
open Go.Proofs.YtdaeaejmikhmcaaX
attribute [local go_sem] max2_int min2_int max_two min_two max_three min_three max_four min_four   -- for this text's walks alone
set_option linter.unusedVariables false
set_option linter.unusedSimpArgs false

attribute [local go_sem high] eqA46
/-! ### tangramref14_With: function 30 -/
mutual
def tangramref14_With.j0 : Nat → Bool → Int → List (S46) → Int → Int → Option (Int × (List (S46)) × Int)
 | 0, _, _, _, _, _ => none
 | k + 1, x27, x535000, x535001, x536000, x536001 => if x27 = true then (some (0, ([] : List (S46)), 2)) else (tangramref14_With.l0 k 0 x535000 x535001 x536000 x536001)
def tangramref14_With.l0 : Nat → Int → Int → List (S46) → Int → Int → Option (Int × (List (S46)) × Int)
 | 0, _, _, _, _, _ => none
 | k + 1, x6, x535000, x535001, x536000, x536001 => if x6 < (x535001.length : Int) then (if 0 ≤ x6 then (if (((rd_T46 x535001 x6).f0) == x536000 && (((rd_T46 x535001 x6).f1) == x536001)) = true then (some (0, ([] : List (S46)), 140)) else (tangramref14_With.l0 k (wrap64 (x6 + 1)) x535000 x535001 x536000 x536001)) else (none)) else (if (x535001.length : Int) ≥ 4194304 then (some (0, ([] : List (S46)), 141)) else ((tangramref14_kept.f x535001).bind fun t539 => ((tangramref14_put.f k t539 x536000 x536001).bind fun t542 => (some (x535000, t542, 0)))))
end
def tangramref14_With.f (k : Nat) (a0_0 : Int) (l0_1 : List (S46)) (a1_0 : Int) (a1_1 : Int) : Option (Int × (List (S46)) × Int) := (tangramref03_Valid.f k a0_0 l0_1).bind fun t537 => (if t537 = true then (if a1_0 < 0 then (tangramref14_With.j0 k true a0_0 l0_1 a1_0 a1_1) else (if a1_0 ≥ a1_1 then (tangramref14_With.j0 k true a0_0 l0_1 a1_0 a1_1) else (tangramref14_With.j0 k (decide (a1_1 ≥ a0_0)) a0_0 l0_1 a1_0 a1_1))) else (some (0, ([] : List (S46)), 1)))
theorem tangramref14_With.mono_l : ∀ k, (∀ y0 y1 y2 y3 y4, LeO (tangramref14_With.j0 k y0 y1 y2 y3 y4) (tangramref14_With.j0 (k + 1) y0 y1 y2 y3 y4)) ∧ (∀ y0 y1 y2 y3 y4, LeO (tangramref14_With.l0 k y0 y1 y2 y3 y4) (tangramref14_With.l0 (k + 1) y0 y1 y2 y3 y4))
 | 0 => ⟨fun _ _ _ _ _ r h => by simp [tangramref14_With.j0] at h, fun _ _ _ _ _ r h => by simp [tangramref14_With.l0] at h⟩
 | k + 1 => by
  obtain ⟨ih0, ih1⟩ := tangramref14_With.mono_l k; refine ⟨?_, ?_⟩
  ·intro y0 y1 y2 y3 y4
   unfold tangramref14_With.j0
   repeat' first
   | (with_reducible exact ih0 _ _ _ _ _)
   | (with_reducible exact ih1 _ _ _ _ _)
   | (with_reducible exact tangramref03_Valid.mono _ _ _)
   | (with_reducible exact tangramref14_put.mono _ _ _ _)
   | (with_reducible exact LeO.refl _)
   | (with_reducible exact LeO.none _)
   | (with_reducible refine LeO.ite ?_ ?_)
   | (with_reducible refine LeO.bind ?_ (fun _ => ?_))
   | exact ih0 _ _ _ _ _
   | exact ih1 _ _ _ _ _
   | exact tangramref03_Valid.mono _ _ _
   | exact tangramref14_put.mono _ _ _ _
   | exact LeO.none _
   | refine LeO.ite ?_ ?_
   | refine LeO.bind ?_ (fun _ => ?_)
  ·intro y0 y1 y2 y3 y4
   unfold tangramref14_With.l0
   repeat' first
   | (with_reducible exact ih0 _ _ _ _ _)
   | (with_reducible exact ih1 _ _ _ _ _)
   | (with_reducible exact tangramref03_Valid.mono _ _ _)
   | (with_reducible exact tangramref14_put.mono _ _ _ _)
   | (with_reducible exact LeO.refl _)
   | (with_reducible exact LeO.none _)
   | (with_reducible refine LeO.ite ?_ ?_)
   | (with_reducible refine LeO.bind ?_ (fun _ => ?_))
   | exact ih0 _ _ _ _ _
   | exact ih1 _ _ _ _ _
   | exact tangramref03_Valid.mono _ _ _
   | exact tangramref14_put.mono _ _ _ _
   | exact LeO.none _
   | refine LeO.ite ?_ ?_
   | refine LeO.bind ?_ (fun _ => ?_)
theorem tangramref14_With.mono : ∀ a0 a1 a2 a3 k, LeO (tangramref14_With.f k a0 a1 a2 a3) (tangramref14_With.f (k + 1) a0 a1 a2 a3) := by
 intro a0 a1 a2 a3 k; obtain ⟨ih0, ih1⟩ := tangramref14_With.mono_l k
 unfold tangramref14_With.f
 repeat' first
   | (with_reducible exact ih0 _ _ _ _ _)
   | (with_reducible exact ih1 _ _ _ _ _)
   | (with_reducible exact tangramref03_Valid.mono _ _ _)
   | (with_reducible exact tangramref14_put.mono _ _ _ _)
   | (with_reducible exact LeO.refl _)
   | (with_reducible exact LeO.none _)
   | (with_reducible refine LeO.ite ?_ ?_)
   | (with_reducible refine LeO.bind ?_ (fun _ => ?_))
   | exact ih0 _ _ _ _ _
   | exact ih1 _ _ _ _ _
   | exact tangramref03_Valid.mono _ _ _
   | exact tangramref14_put.mono _ _ _ _
   | exact LeO.none _
   | refine LeO.ite ?_ ?_
   | refine LeO.bind ?_ (fun _ => ?_)
def tangramref14_With.T12 : Bool × List (List Nat × List Nat) := (true, [([], []), ([0], [0]), ([], []), ([2], [2]), ([3], [3]), ([], []), ([5], [5]), ([], []), ([7], [7]), ([4, 6, 8, 4], [4, 6, 8]), ([1, 9], [1, 9]), ([10, 9, 0, 1, 2, 3, 4, 5, 6, 7, 8, 9, 10], [10]), ([11, 0, 1, 2, 3, 4, 5, 6, 7, 8, 9, 10, 11], [])])
def tangramref14_With.B12 : List Nat := [0, 1, 0, 4, 12, 0, 32, 0, 128, 508, 1023, 2047, 4095]
theorem tangramref14_With.tab12 : rtab .any (opsOf Try.f30 12) = tangramref14_With.T12 := by kernel_rfl
theorem tangramref14_With.bits12 : waitsOk tangramref14_With.T12.2 tangramref14_With.B12 = true := by kernel_rfl
set_option maxHeartbeats 8000000 in
set_option maxRecDepth 100000 in
theorem tangramref14_With.calls (k : Nat) (a0_0 : Int) (A0_1 : Option Addr) (c0_1 : Nat) (l0_1 : List (S46)) (a1_0 : Int) (a1_1 : Int) (r1 : Int) (r2 : List (S46)) (r3 : Int) (w : World) (hr0_1 : Kd.C k46 w A0_1 l0_1.length l0_1) (hc0_1 : l0_1.length ≤ c0_1) (h : tangramref14_With.f k a0_0 l0_1 a1_0 a1_1 = some (r1, r2, r3)) :
  Calls Try.prog 30 #[.agg #[.int .i64 a0_0, .slice A0_1 l0_1.length c0_1], .agg #[.int .i64 a1_0, .int .i64 a1_1]] w fun e w' => ∃ v1_ : Value, e = .returned (.tuple #[.agg #[.int .i64 r1, v1_], .int .i64 r3]) ∧ Kd.R k46 46 w' w.heap.size (fun _ => True) v1_ r2 ∧ Below w.heap.size w w' := by
 have hu25 := Try.underlying25; have hu46 := Try.underlying46; have HR0_1 := Aside0.mk hr0_1; have HC0_1 := Aside0.mk hc0_1; clear hr0_1 hc0_1; have HB := Aside0.mk (Below.refl w.heap.size w); have H : ((tangramref03_Valid.f k a0_0 l0_1).bind fun t537 => (if t537 = true then (if a1_0 < 0 then (tangramref14_With.j0 k true a0_0 l0_1 a1_0 a1_1) else (if a1_0 ≥ a1_1 then (tangramref14_With.j0 k true a0_0 l0_1 a1_0 a1_1) else (tangramref14_With.j0 k (decide (a1_1 ≥ a0_0)) a0_0 l0_1 a1_0 a1_1))) else (some (0, ([] : List (S46)), 1)))) = some (r1, r2, r3) := h; clear h; replace H := Option.bind_eq_some_iff.mp H; obtain ⟨t537, A30, H⟩ := H; replace H : (if t537 = true then (if a1_0 < 0 then (tangramref14_With.j0 k true a0_0 l0_1 a1_0 a1_1) else (if a1_0 ≥ a1_1 then (tangramref14_With.j0 k true a0_0 l0_1 a1_0 a1_1) else (tangramref14_With.j0 k (decide (a1_1 ≥ a0_0)) a0_0 l0_1 a1_0 a1_1))) else (some (0, ([] : List (S46)), 1))) = some (r1, r2, r3) := H; have A3 := Aside0.mk A30; clear A30
 by_cases c4 : t537 = true
 ·subst c4; have H1 : (if a1_0 < 0 then (tangramref14_With.j0 k true a0_0 l0_1 a1_0 a1_1) else (if a1_0 ≥ a1_1 then (tangramref14_With.j0 k true a0_0 l0_1 a1_0 a1_1) else (tangramref14_With.j0 k (decide (a1_1 ≥ a0_0)) a0_0 l0_1 a1_0 a1_1))) = some (r1, r2, r3) := by rw [if_pos rfl] at H; exact H
  clear H; have H := H1; clear H1; have HC5 := Aside0.mk H; clear H
  go_enter Try.func30, Try.ntmps30
  go_upto_region 3 with (first | ((with_reducible refine gate_dst (N := 2) rfl ?_); refine be_ 2 #[.int .i64 a0_0, .slice A0_1 l0_1.length c0_1] 25 ?_; intro gb534 hg w6 hbox hb; have BK534 := Aside0.mk (hbox); have GW534 := wq (hb0 HB) hg; have GE534 := wq (hb0 HB) hg; replace HB := hs (hb0 HB) hb; clear hb hbox hg) | ((with_reducible refine gate_dst (N := 3) rfl ?_); refine be_ 3 #[.int .i64 a1_0, .int .i64 a1_1] 46 ?_; intro gb535 hg w7 hbox hb; have BK535 := Aside0.mk (hbox); have GW535 := wq (hb1 HB GE534) hg; have GE535 := wq (hb1 HB GE534) hg; replace HB := hs (hb1 HB GE534) hb; have NB534_535 := lx BK534 hg; have NB535_534 := gx BK534 hg; replace BK534 := kx BK534 hb; clear hb hbox hg) | ((with_reducible refine gate_dst (N := 4) rfl ?_); refine be_ 4 #[.int .i64 0, .slice none 0 0] 25 ?_; intro gb536 hg w8 hbox hb; have BK536 := Aside0.mk (hbox); have GW536 := wq (hb2 HB GE534 GE535) hg; have GE536 := wq (hb2 HB GE534 GE535) hg; replace HB := hs (hb2 HB GE534 GE535) hb; have NB534_536 := lx BK534 hg; have NB536_534 := gx BK534 hg; replace BK534 := kx BK534 hb; have NB535_536 := lx BK535 hg; have NB536_535 := gx BK535 hg; replace BK535 := kx BK535 hb; clear hb hbox hg; have hnb9 := NB534_535.out; have hnc9 := NB535_534.out; have hnb10 := NB534_536.out; have hnc10 := NB536_534.out; have hcz11_0 : w8.cell? ⟨gb534, 0, none⟩ = some (.int .i64 a0_0) := bc BK534 0; have hcz11_1 : w8.cell? ⟨gb534, 1, none⟩ = some (.slice A0_1 l0_1.length c0_1) := bc BK534 1; have hfz11_0 := blk_frozen BK534.out 0; have hfz11_1 := blk_frozen BK534.out 1) | ((with_reducible refine gate_callee (f := 11) rfl ?_); refine gl_ (some 8) Try.func11 #[.agg #[.int .i64 a0_0, .slice A0_1 l0_1.length c0_1]] ?_; (with_reducible refine (tangramref03_Valid.calls k a0_0 _ _ l0_1 true _ ?side1 ?side2 A3.out).mono ?_); (case side1 => repeat (first | exact (Kd.C_below HR0_1.out HB.out) | (with_reducible refine Kd.C_alloc ?_ _) | (with_reducible refine Kd.C_drewN ?_ _) | (with_reducible refine Kd.C_drew ?_))); (case side2 => exact HC0_1.out); rintro e w12 ⟨rfl, hb⟩; refine ⟨_, rfl, ?_⟩; replace BK534 := kx BK534 hb; replace BK535 := kx BK535 hb; replace BK536 := kx BK536 hb; replace HB := hs (hb3 HB GE534 GE535 GE536) hb; (try clear hb); (try clear hb2); (try clear hk); (try clear hi)))
  (try simp only [Act.put, List.setIfInBounds_toArray, List.set_cons_zero, List.set_cons_succ])
  go_cut [27] (fun v27 wc => ∃ (kq : Nat) (x27_4 : Bool), v27 = .bool x27_4 ∧ Aside0 (tangramref14_With.j0 kq x27_4 a0_0 l0_1 a1_0 a1_1 = some (r1, r2, r3)) ∧ Aside0 (kq ≤ k) ∧ Aside0 (wc.heap[gb534]? = some (.cells #[.int .i64 a0_0, (.slice A0_1 l0_1.length c0_1)] 25 (0, 0))) ∧ Aside0 (wc.heap[gb535]? = some (.cells #[.int .i64 a1_0, .int .i64 a1_1] 46 (0, 0))) ∧ Aside0 (wc.heap[gb536]? = some (.cells #[.int .i64 0, (.slice none 0 0)] 25 (0, 0))) ∧ Aside0 (Below w.heap.size w wc))
  case first => as_aux_lemma =>
   have H := HC5.out; clear HC5
   by_cases c13 : a1_0 < 0
   ·rw [if_pos c13] at H; have c13b0 : decide (a1_0 < 0) = true := decide_eq_true c13; clear c13
    (first | rw [c13b0] | (simp only [i64_w, i32_w]; rw [c13b0]) | skip)
    have H' := Aside0.mk H; clear H; have hnb14 := NB535_534.out; have hnc14 := NB534_535.out; have hnb15 := NB535_536.out; have hnc15 := NB536_535.out; have hcz16_0 : w12.cell? ⟨gb535, 0, none⟩ = some (.int .i64 a1_0) := bc BK535 0; have hcz16_1 : w12.cell? ⟨gb535, 1, none⟩ = some (.int .i64 a1_1) := bc BK535 1; have hfz16_0 := blk_frozen BK535.out 0; have hfz16_1 := blk_frozen BK535.out 1
    go_wp2
    go_meet
    case rel => exact ⟨_, (true), (by first | rfl | (simp; done) | (simp [*]; done)), H', ⟨by first | omega | exact Nat.le_refl _⟩, ⟨bx BK534⟩, ⟨bx BK535⟩, ⟨bx BK536⟩, ⟨hb3 HB GE534 GE535 GE536⟩⟩
   ·rw [if_neg c13] at H; have c13b0 : decide (a1_0 < 0) = false := decide_eq_false c13; clear c13
    (first | rw [c13b0] | (simp only [i64_w, i32_w]; rw [c13b0]) | skip)
    by_cases c17 : a1_0 ≥ a1_1
    ·rw [if_pos c17] at H; have c17b0 : decide (a1_1 ≤ a1_0) = true := decide_eq_true c17; clear c17; have H' := Aside0.mk H; clear H; have hnb18 := NB535_534.out; have hnc18 := NB534_535.out; have hnb19 := NB535_536.out; have hnc19 := NB536_535.out; have hcz20_0 : w12.cell? ⟨gb535, 0, none⟩ = some (.int .i64 a1_0) := bc BK535 0; have hcz20_1 : w12.cell? ⟨gb535, 1, none⟩ = some (.int .i64 a1_1) := bc BK535 1; have hfz20_0 := blk_frozen BK535.out 0; have hfz20_1 := blk_frozen BK535.out 1
     go_wp2
     go_meet
     case rel => exact ⟨_, (true), (by first | rfl | (simp; done) | (simp [*]; done)), H', ⟨by first | omega | exact Nat.le_refl _⟩, ⟨bx BK534⟩, ⟨bx BK535⟩, ⟨bx BK536⟩, ⟨hb3 HB GE534 GE535 GE536⟩⟩
    ·rw [if_neg c17] at H; have c17b0 : decide (a1_1 ≤ a1_0) = false := decide_eq_false c17; clear c17; have H' := Aside0.mk H; clear H; have hnb21 := NB535_534.out; have hnc21 := NB534_535.out; have hnb22 := NB535_536.out; have hnc22 := NB536_535.out; have hcz23_0 : w12.cell? ⟨gb535, 0, none⟩ = some (.int .i64 a1_0) := bc BK535 0; have hcz23_1 : w12.cell? ⟨gb535, 1, none⟩ = some (.int .i64 a1_1) := bc BK535 1; have hfz23_0 := blk_frozen BK535.out 0; have hfz23_1 := blk_frozen BK535.out 1; have hnb24 := NB534_536.out; have hnc24 := NB536_534.out; have hcz25_0 : w12.cell? ⟨gb534, 0, none⟩ = some (.int .i64 a0_0) := bc BK534 0; have hcz25_1 : w12.cell? ⟨gb534, 1, none⟩ = some (.slice A0_1 l0_1.length c0_1) := bc BK534 1; have hfz25_0 := blk_frozen BK534.out 0; have hfz25_1 := blk_frozen BK534.out 1
     go_wp2
     go_meet
     case rel => exact ⟨_, (decide (a1_1 ≥ a0_0)), (by first | rfl | (simp; done) | (simp [*]; done)), H', ⟨by first | omega | exact Nat.le_refl _⟩, ⟨bx BK534⟩, ⟨bx BK535⟩, ⟨bx BK536⟩, ⟨hb3 HB GE534 GE535 GE536⟩⟩
  case rest => as_aux_lemma =>
   clear HC5
   try clear c1
   try clear c2
   try clear p2
   try clear c3
   try clear c4
   try clear c9
   try clear c10
   try clear c11
   try clear c13
   try clear c13b0
   try clear c14
   try clear c15
   try clear c17
   try clear c17b0
   try clear c18
   try clear c19
   try clear c21
   try clear c22
   try clear c24
   try clear hcz11_0
   try clear hcz11_1
   try clear hcz16_0
   try clear hcz16_1
   try clear hcz20_0
   try clear hcz20_1
   try clear hcz23_0
   try clear hcz23_1
   try clear hcz25_0
   try clear hcz25_1
   try clear hfz11_0
   try clear hfz11_1
   try clear hfz16_0
   try clear hfz16_1
   try clear hfz20_0
   try clear hfz20_1
   try clear hfz23_0
   try clear hfz23_1
   try clear hfz25_0
   try clear hfz25_1
   obtain ⟨kq, x27_4, rfl, HA, HJ4, BK534, BK535, BK536, HB⟩ := hcut
   cases kq with
   | zero => exact absurd HA.out (by simp [tangramref14_With.j0])
   | succ kj4 =>
    have H := HA.out; clear HA; simp only [tangramref14_With.j0] at H
    by_cases c26 : x27_4 = true
    ·subst c26; have H1 : (some (0, ([] : List (S46)), 2)) = some (r1, r2, r3) := by rw [if_pos rfl] at H; exact H
     clear H; have H := H1; clear H1; simp only [Option.some.injEq, Prod.mk.injEq] at H; obtain ⟨rfl, rfl, rfl⟩ := H; have hnb27 := NB536_534.out; have hnc27 := NB534_536.out; have hnb28 := NB536_535.out; have hnc28 := NB535_536.out; have hcz29_0 : wc.cell? ⟨gb536, 0, none⟩ = some (.int .i64 0) := bc BK536 0; have hcz29_1 : wc.cell? ⟨gb536, 1, none⟩ = some (.slice none 0 0) := bc BK536 1; have hfz29_0 := blk_frozen BK536.out 0; have hfz29_1 := blk_frozen BK536.out 1
     go_wp2
     refine bodyPost_ret (results_ct rfl _ _ gb536 25 #[.int .i64 0, .slice none 0 0] (0, 0) _ rfl (bp BK536) Try.underlying25 rfl (by kernel_rfl)) rfl ?_; exact ⟨_, by first | rfl | (simp [errW_none, errW_some] <;> rfl) | (simp [*, errW_none, errW_some] <;> rfl), by first | exact Kd.R_nil _ _ _ _ _ | exact Kd.N_nil _ _ _ _ _ | exact Kd.V_nil _ _ _ _ _ | exact Kd.Q_nil _ _ _ _ _ | exact Kd.S_nil _ _ _ _ _, hb3 HB GE534 GE535 GE536⟩
    ·replace c26 := Bool.eq_false_iff.mpr c26; subst c26; have H1 : (tangramref14_With.l0 kj4 0 a0_0 l0_1 a1_0 a1_1) = some (r1, r2, r3) := by rw [if_neg (show ¬ (false = true) by decide)] at H; exact H
     clear H; have H := H1; clear H1; have H' := Aside0.mk H; clear H
     go_wp2
     go_loopg [6] kj4 (fun kq v6 w' => ∃ (x6_2 : Int) (x537000_2 : Int), v6 = .int .i64 x6_2 ∧ Aside0 (tangramref14_With.l0 kq x6_2 a0_0 l0_1 a1_0 a1_1 = some (r1, r2, r3)) ∧ Aside0 (kq ≤ kj4) ∧ Aside0 (w'.heap[gb534]? = some (.cells #[.int .i64 a0_0, (.slice A0_1 l0_1.length c0_1)] 25 (0, 0))) ∧ Aside0 (w'.heap[gb535]? = some (.cells #[.int .i64 a1_0, .int .i64 a1_1] 46 (0, 0))) ∧ Aside0 (w'.heap[gb536]? = some (.cells #[.int .i64 x537000_2, (.slice none 0 0)] 25 (0, 0))) ∧ Aside0 (Below w.heap.size w w'))
     case atStart => exact ⟨(0), (0), (by first | rfl | (simp; done) | (simp [*]; done)), H', ⟨Nat.le_refl _⟩, ⟨bx BK534⟩, ⟨bx BK535⟩, ⟨bx BK536⟩, ⟨hb3 HB GE534 GE535 GE536⟩⟩
     case round =>
      clear H'
      try clear c1
      try clear c2
      try clear p2
      try clear c3
      try clear c4
      try clear c9
      try clear c10
      try clear c11
      try clear c13
      try clear c13b0
      try clear c14
      try clear c15
      try clear c17
      try clear c17b0
      try clear c18
      try clear c19
      try clear c21
      try clear c22
      try clear c24
      try clear c26
      try clear c27
      try clear c28
      try clear hcz11_0
      try clear hcz11_1
      try clear hcz16_0
      try clear hcz16_1
      try clear hcz20_0
      try clear hcz20_1
      try clear hcz23_0
      try clear hcz23_1
      try clear hcz25_0
      try clear hcz25_1
      try clear hcz29_0
      try clear hcz29_1
      try clear hfz11_0
      try clear hfz11_1
      try clear hfz16_0
      try clear hfz16_1
      try clear hfz20_0
      try clear hfz20_1
      try clear hfz23_0
      try clear hfz23_1
      try clear hfz25_0
      try clear hfz25_1
      try clear hfz29_0
      try clear hfz29_1
      try clear p2
      obtain ⟨x6_2, x537000_2, rfl, HA, HK2, BK534, BK535, BK536, HB⟩ := hrel
      cases gk with
      | zero => exact absurd HA.out (by simp [tangramref14_With.l0])
      | succ k2 =>
       have H := HA.out; clear HA; simp only [tangramref14_With.l0] at H
       by_cases c30 : x6_2 < (l0_1.length : Int)
       ·rw [if_pos c30] at H; have c30b0 : decide (x6_2 < (l0_1.length : Int)) = true := decide_eq_true c30; clear c30
        by_cases c31 : 0 ≤ x6_2
        ·rw [if_pos c31] at H; have c31b0 : decide (0 ≤ x6_2) = true := decide_eq_true c31; clear c31
         by_cases c32 : (((rd_T46 l0_1 x6_2).f0) == a1_0 && (((rd_T46 l0_1 x6_2).f1) == a1_1)) = true
         ·rw [if_pos c32] at H; have c32b0 : (((rd_T46 l0_1 x6_2).f0) == a1_0 && (((rd_T46 l0_1 x6_2).f1) == a1_1)) = true := c32
          (try (have c32b1 : decide (((rd_T46 l0_1 x6_2).f0) = a1_0 && (((rd_T46 l0_1 x6_2).f1) == a1_1)) = true := by simpa using c32))
          (try (have c32b2 : (((rd_T46 l0_1 x6_2).f0) == a1_0 && (((rd_T46 l0_1 x6_2).f1) == a1_1)) = true := by simpa using c32))
          clear c32; simp only [Option.some.injEq, Prod.mk.injEq] at H; obtain ⟨rfl, rfl, rfl⟩ := H; have hnb33 := NB534_535.out; have hnc33 := NB535_534.out; have hnb34 := NB534_536.out; have hnc34 := NB536_534.out; have hcz35_0 : wr.cell? ⟨gb534, 0, none⟩ = some (.int .i64 a0_0) := bc BK534 0; have hcz35_1 : wr.cell? ⟨gb534, 1, none⟩ = some (.slice A0_1 l0_1.length c0_1) := bc BK534 1; have hfz35_0 := blk_frozen BK534.out 0; have hfz35_1 := blk_frozen BK534.out 1
          try go_wp2
          replace BK534 := bd BK534; replace BK535 := bd BK535; replace BK536 := bd BK536; replace HB := Aside0.mk (below_drew1 HB.out); have p538 : 0 ≤ (x6_2 : Int) := of_decide_eq_true (by first | (with_reducible assumption) | assumption); have q538 : x6_2 < (l0_1.length : Int) := of_decide_eq_true (by first | (with_reducible assumption) | assumption); obtain ⟨ad538, e538, hx538_0, hx538_1⟩ := at_T46 HR0_1.out x6_2 p538 q538; have hw538_1 := hx538_1; have hw538_0 := hx538_0
          cases e538
          replace hx538_0 := (HB.out.cell (World.block_lt_of_cell? w _ hx538_0)).trans hx538_0; replace hx538_1 := (HB.out.cell (World.block_lt_of_cell? w _ hx538_1)).trans hx538_1; replace p538 := eq_true p538; replace q538 := eq_true q538; refine start_ (n := 7) (S := fun w' => w'.cell? ⟨gb534, 0, none⟩ = some (.int .i64 a0_0) ∧ w'.cell? ⟨gb534, 1, none⟩ = some (.slice (some ad538) l0_1.length c0_1) ∧ w'.cell? ⟨gb535, 0, none⟩ = some (.int .i64 a1_0) ∧ w'.cell? ⟨gb535, 1, none⟩ = some (.int .i64 a1_1) ∧ w'.cell? (ad538.add ((x6_2).toNat * 2)) = some (.int .i64 ((rd_T46 l0_1 x6_2).f0)) ∧ w'.cell? ⟨(ad538.add ((x6_2).toNat * 2)).block, (ad538.add ((x6_2).toNat * 2)).off + 1, none⟩ = some (.int .i64 ((rd_T46 l0_1 x6_2).f1))) (ds := []) (pf 0 7) (by kernel_rfl) rfl rfl ⟨bc BK534 0, bc BK534 1, bc BK535 0, bc BK535 1, ((HB.out.cell (World.block_lt_of_cell? w _ hw538_0)).trans hw538_0), ((HB.out.cell (World.block_lt_of_cell? w _ hw538_1)).trans hw538_1)⟩ (fun hHeld => ?_); generalize wr.drew = w36 at BK534 BK535 BK536 HB hx538_0 hx538_1 hHeld ⊢; refine pure_ (i := 0) (N := some 36) (v := ?_) (a' := ?_) (pf 1 7) rfl rfl (by kernel_rfl) (fun _ _ _ h => h) (Or.inl ⟨by rfl, ?_⟩) ?_ ?_; rotate_left
          ·intro w'; go_simp
           with_reducible rfl
          rotate_left
          ·simp only [Act.put, List.setIfInBounds_toArray, List.set_cons_zero, List.set_cons_succ, i64_w, i32_w]; rfl
          refine pure_ (i := 2) (N := some 38) (v := ?_) (a' := ?_) #[T_,F_,T_,F_,F_,F_,F_] rfl rfl (by kernel_rfl) (fun _ _ _ h => h) (Or.inl ⟨by rfl, ?_⟩) ?_ ?_; rotate_left
          ·intro w'; go_simp
           with_reducible rfl
          rotate_left
          ·simp only [Act.put, List.setIfInBounds_toArray, List.set_cons_zero, List.set_cons_succ, i64_w, i32_w]; rfl
          refine take_ (i := 1) (N := some 37) (v := ?_) (a' := ?_) (pf 3 7) rfl rfl (by kernel_rfl) (fun _ _ _ h => h) (Or.inl ⟨by rfl, ?_⟩) hHeld ?_ ?_; rotate_left
          ·rintro w' ⟨s0, s1, s2, s3, s4, s5⟩; go_simp
           with_reducible rfl
          rotate_left
          ·simp only [Act.put, List.setIfInBounds_toArray, List.set_cons_zero, List.set_cons_succ, i64_w, i32_w]; rfl
          refine pure_ (i := 3) (N := some 39) (v := ?_) (a' := ?_) (pf 4 7) rfl rfl (by kernel_rfl) (fun _ _ _ h => h) (Or.inl ⟨by rfl, ?_⟩) ?_ ?_; rotate_left
          ·intro w'; go_simp
           with_reducible rfl
          rotate_left
          ·simp only [Act.put, List.setIfInBounds_toArray, List.set_cons_zero, List.set_cons_succ, i64_w, i32_w]; rfl
          refine take_ (i := 4) (N := some 40) (v := ?_) (a' := ?_) (pf 5 7) rfl rfl (by kernel_rfl) (fun _ _ _ h => h) (Or.inl ⟨by rfl, ?_⟩) hHeld ?_ ?_; rotate_left
          ·rintro w' ⟨s0, s1, s2, s3, s4, s5⟩; go_simp
           with_reducible rfl
          rotate_left
          ·simp only [Act.put, List.setIfInBounds_toArray, List.set_cons_zero, List.set_cons_succ, i64_w, i32_w]; rfl
          refine take_ (i := 5) (N := some 41) (v := ?_) (a' := ?_) (pf 6 7) rfl rfl (by kernel_rfl) (fun _ _ _ h => h) (Or.inl ⟨by rfl, ?_⟩) hHeld ?_ ?_; rotate_left
          ·rintro w' ⟨s0, s1, s2, s3, s4, s5⟩; go_simp
           with_reducible rfl
          rotate_left
          ·simp only [Act.put, List.setIfInBounds_toArray, List.set_cons_zero, List.set_cons_succ, i64_w, i32_w]; rfl
          refine pure_ (i := 6) (N := some 42) (v := ?_) (a' := ?_) (pf 7 7) rfl rfl (by kernel_rfl) (fun _ _ _ h => h) (Or.inl ⟨by rfl, ?_⟩) ?_ ?_; rotate_left
          ·intro w'; go_simp
           with_reducible rfl
          rotate_left
          ·simp only [Act.put, List.setIfInBounds_toArray, List.set_cons_zero, List.set_cons_succ, i64_w, i32_w]; rfl
          refine done_ (by kernel_rfl) ?_; have hnb37 := NB536_535.out; have hnc37 := NB535_536.out; have hcz38_0 : w36.cell? ⟨gb536, 0, none⟩ = some (.int .i64 x537000_2) := bc BK536 0; have hcz38_1 : w36.cell? ⟨gb536, 1, none⟩ = some (.slice none 0 0) := bc BK536 1; have hfz38_0 := blk_frozen BK536.out 0; have hfz38_1 := blk_frozen BK536.out 1
          try go_wp2
          refine bodyPost_ret (results_ct rfl _ _ gb536 25 #[.int .i64 0, .slice none 0 0] (0, 0) _ rfl (bp BK536) Try.underlying25 rfl (by kernel_rfl)) rfl ?_; exact ⟨_, by first | rfl | (simp [errW_none, errW_some] <;> rfl) | (simp [*, errW_none, errW_some] <;> rfl), by first | exact Kd.R_nil _ _ _ _ _ | exact Kd.N_nil _ _ _ _ _ | exact Kd.V_nil _ _ _ _ _ | exact Kd.Q_nil _ _ _ _ _ | exact Kd.S_nil _ _ _ _ _, hb3 HB GE534 GE535 GE536⟩
         ·rw [if_neg c32] at H; have c32b0 : (((rd_T46 l0_1 x6_2).f0) == a1_0 && (((rd_T46 l0_1 x6_2).f1) == a1_1)) = false := by simpa using c32
          (try (have c32b1 : decide (((rd_T46 l0_1 x6_2).f0) = a1_0 && (((rd_T46 l0_1 x6_2).f1) == a1_1)) = false := by simpa using c32))
          (try (have c32b2 : (((rd_T46 l0_1 x6_2).f0) == a1_0 && (((rd_T46 l0_1 x6_2).f1) == a1_1)) = false := by simpa using c32))
          (try (have c32b3 : ¬ (((rd_T46 l0_1 x6_2).f0) = a1_0 && (((rd_T46 l0_1 x6_2).f1) == a1_1)) := by simpa using c32))
          clear c32; have H' := Aside0.mk H; clear H; have hnb39 := NB534_535.out; have hnc39 := NB535_534.out; have hnb40 := NB534_536.out; have hnc40 := NB536_534.out; have hcz41_0 : wr.cell? ⟨gb534, 0, none⟩ = some (.int .i64 a0_0) := bc BK534 0; have hcz41_1 : wr.cell? ⟨gb534, 1, none⟩ = some (.slice A0_1 l0_1.length c0_1) := bc BK534 1; have hfz41_0 := blk_frozen BK534.out 0; have hfz41_1 := blk_frozen BK534.out 1
          try go_wp2
          replace BK534 := bd BK534; replace BK535 := bd BK535; replace BK536 := bd BK536; replace HB := Aside0.mk (below_drew1 HB.out); have p538 : 0 ≤ (x6_2 : Int) := of_decide_eq_true (by first | (with_reducible assumption) | assumption); have q538 : x6_2 < (l0_1.length : Int) := of_decide_eq_true (by first | (with_reducible assumption) | assumption); obtain ⟨ad538, e538, hx538_0, hx538_1⟩ := at_T46 HR0_1.out x6_2 p538 q538; have hw538_1 := hx538_1; have hw538_0 := hx538_0
          cases e538
          replace hx538_0 := (HB.out.cell (World.block_lt_of_cell? w _ hx538_0)).trans hx538_0; replace hx538_1 := (HB.out.cell (World.block_lt_of_cell? w _ hx538_1)).trans hx538_1; replace p538 := eq_true p538; replace q538 := eq_true q538; refine start_ (n := 7) (S := fun w' => w'.cell? ⟨gb534, 0, none⟩ = some (.int .i64 a0_0) ∧ w'.cell? ⟨gb534, 1, none⟩ = some (.slice (some ad538) l0_1.length c0_1) ∧ w'.cell? ⟨gb535, 0, none⟩ = some (.int .i64 a1_0) ∧ w'.cell? ⟨gb535, 1, none⟩ = some (.int .i64 a1_1) ∧ w'.cell? (ad538.add ((x6_2).toNat * 2)) = some (.int .i64 ((rd_T46 l0_1 x6_2).f0)) ∧ w'.cell? ⟨(ad538.add ((x6_2).toNat * 2)).block, (ad538.add ((x6_2).toNat * 2)).off + 1, none⟩ = some (.int .i64 ((rd_T46 l0_1 x6_2).f1))) (ds := []) (pf 0 7) (by kernel_rfl) rfl rfl ⟨bc BK534 0, bc BK534 1, bc BK535 0, bc BK535 1, ((HB.out.cell (World.block_lt_of_cell? w _ hw538_0)).trans hw538_0), ((HB.out.cell (World.block_lt_of_cell? w _ hw538_1)).trans hw538_1)⟩ (fun hHeld => ?_); generalize wr.drew = w42 at BK534 BK535 BK536 HB hx538_0 hx538_1 hHeld ⊢; refine pure_ (i := 0) (N := some 36) (v := ?_) (a' := ?_) (pf 1 7) rfl rfl (by kernel_rfl) (fun _ _ _ h => h) (Or.inl ⟨by rfl, ?_⟩) ?_ ?_; rotate_left
          ·intro w'; go_simp
           with_reducible rfl
          rotate_left
          ·simp only [Act.put, List.setIfInBounds_toArray, List.set_cons_zero, List.set_cons_succ, i64_w, i32_w]; rfl
          refine pure_ (i := 2) (N := some 38) (v := ?_) (a' := ?_) #[T_,F_,T_,F_,F_,F_,F_] rfl rfl (by kernel_rfl) (fun _ _ _ h => h) (Or.inl ⟨by rfl, ?_⟩) ?_ ?_; rotate_left
          ·intro w'; go_simp
           with_reducible rfl
          rotate_left
          ·simp only [Act.put, List.setIfInBounds_toArray, List.set_cons_zero, List.set_cons_succ, i64_w, i32_w]; rfl
          refine take_ (i := 1) (N := some 37) (v := ?_) (a' := ?_) (pf 3 7) rfl rfl (by kernel_rfl) (fun _ _ _ h => h) (Or.inl ⟨by rfl, ?_⟩) hHeld ?_ ?_; rotate_left
          ·rintro w' ⟨s0, s1, s2, s3, s4, s5⟩; go_simp
           with_reducible rfl
          rotate_left
          ·simp only [Act.put, List.setIfInBounds_toArray, List.set_cons_zero, List.set_cons_succ, i64_w, i32_w]; rfl
          refine pure_ (i := 3) (N := some 39) (v := ?_) (a' := ?_) (pf 4 7) rfl rfl (by kernel_rfl) (fun _ _ _ h => h) (Or.inl ⟨by rfl, ?_⟩) ?_ ?_; rotate_left
          ·intro w'; go_simp
           with_reducible rfl
          rotate_left
          ·simp only [Act.put, List.setIfInBounds_toArray, List.set_cons_zero, List.set_cons_succ, i64_w, i32_w]; rfl
          refine take_ (i := 4) (N := some 40) (v := ?_) (a' := ?_) (pf 5 7) rfl rfl (by kernel_rfl) (fun _ _ _ h => h) (Or.inl ⟨by rfl, ?_⟩) hHeld ?_ ?_; rotate_left
          ·rintro w' ⟨s0, s1, s2, s3, s4, s5⟩; go_simp
           with_reducible rfl
          rotate_left
          ·simp only [Act.put, List.setIfInBounds_toArray, List.set_cons_zero, List.set_cons_succ, i64_w, i32_w]; rfl
          refine take_ (i := 5) (N := some 41) (v := ?_) (a' := ?_) (pf 6 7) rfl rfl (by kernel_rfl) (fun _ _ _ h => h) (Or.inl ⟨by rfl, ?_⟩) hHeld ?_ ?_; rotate_left
          ·rintro w' ⟨s0, s1, s2, s3, s4, s5⟩; go_simp
           with_reducible rfl
          rotate_left
          ·simp only [Act.put, List.setIfInBounds_toArray, List.set_cons_zero, List.set_cons_succ, i64_w, i32_w]; rfl
          refine pure_ (i := 6) (N := some 42) (v := ?_) (a' := ?_) (pf 7 7) rfl rfl (by kernel_rfl) (fun _ _ _ h => h) (Or.inl ⟨by rfl, ?_⟩) ?_ ?_; rotate_left
          ·intro w'; go_simp
           with_reducible rfl
          rotate_left
          ·simp only [Act.put, List.setIfInBounds_toArray, List.set_cons_zero, List.set_cons_succ, i64_w, i32_w]; rfl
          refine done_ (by kernel_rfl) ?_
          try go_wp2
          go_roundg k2
          case measure => have := HJ4.out; have := HK2.out; omega
          case rel => exact ⟨(wrap64 (x6_2 + 1)), (x537000_2), (by first | rfl | (simp; done) | (simp [*]; done)), H', ⟨by have := HJ4.out; have := HK2.out; omega⟩, ⟨bx BK534⟩, ⟨bx BK535⟩, ⟨bx BK536⟩, ⟨hb3 HB GE534 GE535 GE536⟩⟩
        ·rw [if_neg c31] at H; exact absurd H (by simp)
       ·rw [if_neg c30] at H; have c30b0 : decide (x6_2 < (l0_1.length : Int)) = false := decide_eq_false c30; clear c30
        by_cases c43 : (l0_1.length : Int) ≥ 4194304
        ·rw [if_pos c43] at H; have c43b0 : decide (4194304 ≤ (l0_1.length : Int)) = true := decide_eq_true c43; have c43b1 : decide (4194304 ≤ l0_1.length) = true := decide_eq_true (by omega); clear c43; simp only [Option.some.injEq, Prod.mk.injEq] at H; obtain ⟨rfl, rfl, rfl⟩ := H; have hnb44 := NB534_535.out; have hnc44 := NB535_534.out; have hnb45 := NB534_536.out; have hnc45 := NB536_534.out; have hcz46_0 : wr.cell? ⟨gb534, 0, none⟩ = some (.int .i64 a0_0) := bc BK534 0; have hcz46_1 : wr.cell? ⟨gb534, 1, none⟩ = some (.slice A0_1 l0_1.length c0_1) := bc BK534 1; have hfz46_0 := blk_frozen BK534.out 0; have hfz46_1 := blk_frozen BK534.out 1; have hnb47 := NB536_535.out; have hnc47 := NB535_536.out; have hcz48_0 : wr.cell? ⟨gb536, 0, none⟩ = some (.int .i64 x537000_2) := bc BK536 0; have hcz48_1 : wr.cell? ⟨gb536, 1, none⟩ = some (.slice none 0 0) := bc BK536 1; have hfz48_0 := blk_frozen BK536.out 0; have hfz48_1 := blk_frozen BK536.out 1
         go_wp2
         refine bodyPost_ret (results_ct rfl _ _ gb536 25 #[.int .i64 0, .slice none 0 0] (0, 0) _ rfl (bp BK536) Try.underlying25 rfl (by kernel_rfl)) rfl ?_; exact ⟨_, by first | rfl | (simp [errW_none, errW_some] <;> rfl) | (simp [*, errW_none, errW_some] <;> rfl), by first | exact Kd.R_nil _ _ _ _ _ | exact Kd.N_nil _ _ _ _ _ | exact Kd.V_nil _ _ _ _ _ | exact Kd.Q_nil _ _ _ _ _ | exact Kd.S_nil _ _ _ _ _, hb3 HB GE534 GE535 GE536⟩
        ·rw [if_neg c43] at H; have c43b0 : decide (4194304 ≤ (l0_1.length : Int)) = false := decide_eq_false c43; have c43b1 : decide (4194304 ≤ l0_1.length) = false := decide_eq_false (by omega); clear c43; replace H := Option.bind_eq_some_iff.mp H; obtain ⟨t539, A490, H⟩ := H; replace H : ((tangramref14_put.f k2 t539 a1_0 a1_1).bind fun t542 => (some (a0_0, t542, 0))) = some (r1, r2, r3) := H; have A49 := Aside0.mk A490; clear A490; replace H := Option.bind_eq_some_iff.mp H; obtain ⟨t542, A500, H⟩ := H; replace H : (some (a0_0, t542, 0)) = some (r1, r2, r3) := H; have A50 := Aside0.mk A500; clear A500; simp only [Option.some.injEq, Prod.mk.injEq] at H; obtain ⟨rfl, rfl, rfl⟩ := H; have hnb51 := NB534_535.out; have hnc51 := NB535_534.out; have hnb52 := NB534_536.out; have hnc52 := NB536_534.out; have hcz53_0 : wr.cell? ⟨gb534, 0, none⟩ = some (.int .i64 a0_0) := bc BK534 0; have hcz53_1 : wr.cell? ⟨gb534, 1, none⟩ = some (.slice A0_1 l0_1.length c0_1) := bc BK534 1; have hfz53_0 := blk_frozen BK534.out 0; have hfz53_1 := blk_frozen BK534.out 1
         try go_wp2
         replace BK534 := bd BK534; replace BK535 := bd BK535; replace BK536 := bd BK536; replace HB := Aside0.mk (below_drew1 HB.out); refine start_ (n := 13) (S := fun w' => w'.cell? ⟨gb534, 0, none⟩ = some (.int .i64 a0_0) ∧ w'.cell? ⟨gb534, 1, none⟩ = some (.slice A0_1 l0_1.length c0_1) ∧ w'.cell? ⟨gb535, 0, none⟩ = some (.int .i64 a1_0) ∧ w'.cell? ⟨gb535, 1, none⟩ = some (.int .i64 a1_1)) (ds := []) (pf 0 13) (by kernel_rfl) rfl rfl ⟨bc BK534 0, bc BK534 1, bc BK535 0, bc BK535 1⟩ (fun hHeld => ?_); refine with_tabW tangramref14_With.tab12 tangramref14_With.bits12 (fun HT_ HW_ => ?_); generalize wr.drew = w54 at BK534 BK535 BK536 HB hHeld ⊢; refine pu_ 0 (some 49) (pf 1 13) HT_ ?_; refine pu_ 2 (some 51) #[T_,F_,T_,F_,F_,F_,F_,F_,F_,F_,F_,F_,F_] HT_ ?_; refine pu_ 5 (some 54) #[T_,F_,T_,F_,F_,T_,F_,F_,F_,F_,F_,F_,F_] HT_ ?_; refine pu_ 7 (some 56) #[T_,F_,T_,F_,F_,T_,F_,T_,F_,F_,F_,F_,F_] HT_ ?_; refine tk4_ 1 (some 50) #[T_,T_,T_,F_,F_,T_,F_,T_,F_,F_,F_,F_,F_] HT_ HW_ hHeld ?_; refine tk4_ 3 (some 52) #[T_,T_,T_,T_,F_,T_,F_,T_,F_,F_,F_,F_,F_] HT_ HW_ hHeld ?_; refine tk4_ 6 (some 55) #[T_,T_,T_,T_,F_,T_,T_,T_,F_,F_,F_,F_,F_] HT_ HW_ hHeld ?_; refine tk4_ 8 (some 57) #[T_,T_,T_,T_,F_,T_,T_,T_,T_,F_,F_,F_,F_] HT_ HW_ hHeld ?_; refine on_ 4 (some 53) (pf 9 13) HT_ (fun K hK => ?_); refine gs_ Try.func41 #[.slice A0_1 l0_1.length c0_1] ?_
         with_reducible refine (tangramref14_kept.calls _ _ l0_1 t539 _ ?side1 ?side2 A49.out).mono ?_
         (case side1 => repeat (first | exact (Kd.C_below HR0_1.out HB.out) | (with_reducible refine Kd.C_alloc ?_ _) | (with_reducible refine Kd.C_drewN ?_ _) | (with_reducible refine Kd.C_drew ?_)))
         (case side2 => exact HC0_1.out)
         rintro e w55 ⟨v540, rfl, ho0, hb⟩; refine ⟨_, rfl, ?_⟩; have HO541 := Aside0.mk (Kd.R_lower (Kd.R_newB ho0 (bx BK535)) (below_size (hb3 HB GE534 GE535 GE536))); replace BK534 := kx BK534 hb; replace BK535 := kx BK535 hb; replace BK536 := kx BK536 hb; replace HB := hs (hb3 HB GE534 GE535 GE536) hb
         (try clear hb)
         (try clear hb2)
         (try clear hk)
         (try clear hi)
         (try clear ho0)
         obtain ⟨Ao56, co56, eo56⟩ := Kd.R_slice HO541.out
         (first | subst eo56 | obtain ⟨rfl, rfl⟩ := sx eo56)
         refine hK.out _ _ ⟨bc BK534 0, bc BK534 1, bc BK535 0, bc BK535 1⟩ (fun hHeld => ?_); clear hK K; refine nm_ (some 53) ?_; refine on_ 9 (some 58) (pf 10 13) HT_ (fun K hK => ?_); refine gs_ Try.func48 #[.slice Ao56 t539.length co56, .int .i64 a1_0, .int .i64 a1_1] ?_
         with_reducible refine (tangramref14_put.calls k2 (fun k_ => some k_ = (.slice Ao56 t539.length co56 : Value).ownBlock) (.slice Ao56 t539.length co56) t539 a1_0 a1_1 t542 w _ ?side1 ?side2 A50.out).mono ?_
         (case side1 => repeat (first | (with_reducible first | exact HB.out | apply below_alloc | apply pw_below_drewN | apply below_drew1 | refine below_set ?_ GE534.out | refine below_set ?_ GE535.out | refine below_set ?_ GE536.out) | exact HB.out))
         (case side2 => exact Kd.R_tight rfl HO541.out)
         rintro e w57 ⟨v543, rfl, ho0, hb, hkp⟩; refine ⟨_, rfl, ?_⟩; have n0_ := Aside0.mk (blk_kept (bx BK534) hkp (fun hs_ => (fun e_ => (Kd.R_ne HO541.out BK534.out (by decide)) e_) hs_)); have n1_ := Aside0.mk (blk_kept (bx BK535) hkp (fun hs_ => (fun e_ => (Kd.R_away HO541.out (fun _ hk => hk.2)) e_) hs_)); have n2_ := Aside0.mk (blk_kept (bx BK536) hkp (fun hs_ => (fun e_ => (Kd.R_ne HO541.out BK536.out (by decide)) e_) hs_)); have n3_ := Aside0.mk (Kd.R_mono (ok' := fun k_ => k_ ≠ gb535) ho0 (fun k_ hk_ => Or.elim hk_ (fun hs_ => fun e_ => (Kd.R_away HO541.out (fun _ hk => hk.2)) (by rw [← e_]; exact hs_)) (fun hn_ => (Kd.freshB (bx BK535) k_ hn_)))); have n4_ := Aside0.mk (hb); clear BK534 BK535 BK536 HB HO541; have BK534 := n0_; have BK535 := n1_; have BK536 := n2_; have HO544 := n3_; have HB := n4_; clear n0_ n1_ n2_ n3_ n4_
         (try clear hb)
         (try clear hkp)
         (try clear ho0)
         obtain ⟨Ao58, co58, eo58⟩ := Kd.R_slice HO544.out
         (first | subst eo58 | obtain ⟨rfl, rfl⟩ := sx eo58)
         refine hK.out _ _ ⟨bc BK534 0, bc BK534 1, bc BK535 0, bc BK535 1⟩ (fun hHeld => ?_); clear hK K; refine nm_ (some 58) ?_; refine pu_ 10 (some 59) (pf 11 13) HT_ ?_; refine on_ 11 none (pf 12 13) HT_ (fun K hK => ?_); have hs59 : w57.cell? ⟨gb536, 0, none⟩ = some (.int .i64 x537000_2) := bc BK536 0; have hfs59 := blk_frozen BK536.out 0; have hns59_0 := NB534_536.out; have hns59_1 := NB535_536.out; have hms59_0 := NB536_534.out; have hms59_1 := NB536_535.out; have hs60 : w57.cell? ⟨gb536, 1, none⟩ = some (.slice none 0 0) := bc BK536 1; have hfs60 := blk_frozen BK536.out 1; have hns60_0 := NB534_536.out; have hns60_1 := NB535_536.out; have hms60_0 := NB536_534.out; have hms60_1 := NB536_535.out; refine skip_ (w1 := ?_) (by rfl) rfl ?_ ?_; rotate_left
         ·go_simp; rfl
         refine hK.out _ _ ⟨((cell_far (p := ⟨gb536, _, none⟩) NB534_536.out _).trans (((cell_far (p := ⟨gb536, _, none⟩) NB534_536.out _).trans (hHeld.1)))), ((cell_far (p := ⟨gb536, _, none⟩) NB534_536.out _).trans (((cell_far (p := ⟨gb536, _, none⟩) NB534_536.out _).trans (hHeld.2.1)))), ((cell_far (p := ⟨gb536, _, none⟩) NB535_536.out _).trans (((cell_far (p := ⟨gb536, _, none⟩) NB535_536.out _).trans (hHeld.2.2.1)))), ((cell_far (p := ⟨gb536, _, none⟩) NB535_536.out _).trans (((cell_far (p := ⟨gb536, _, none⟩) NB535_536.out _).trans (hHeld.2.2.2))))⟩ (fun hHeld => ?_); clear hK K; refine pu_ 12 (some 5) (pf 13 13) HT_ ?_; refine done_ (done_of HT_.out (by kernel_rfl)) ?_
         try go_wp2
         refine bodyPost_ret (results_ct rfl _ _ gb536 25 #[.int .i64 a0_0, .slice Ao58 t542.length co58] (0, 0) _ rfl (bp BK536) Try.underlying25 rfl (by kernel_rfl)) rfl ?_; exact ⟨_, by first | rfl | (simp [errW_none, errW_some] <;> rfl) | (simp [*, errW_none, errW_some] <;> rfl), Kd.R_mono (rf HO544 BK536) (fun _ hk => trivial), hb3 HB GE534 GE535 GE536⟩
 ·replace c4 := Bool.eq_false_iff.mpr c4; subst c4; have H1 : (some (0, ([] : List (S46)), 1)) = some (r1, r2, r3) := by rw [if_neg (show ¬ (false = true) by decide)] at H; exact H
  clear H; have H := H1; clear H1; simp only [Option.some.injEq, Prod.mk.injEq] at H; obtain ⟨rfl, rfl, rfl⟩ := H
  go_enter Try.func30, Try.ntmps30
  go_wp2_with (first | ((with_reducible refine gate_dst (N := 2) rfl ?_); refine be_ 2 #[.int .i64 a0_0, .slice A0_1 l0_1.length c0_1] 25 ?_; intro gb534 hg w61 hbox hb; have BK534 := Aside0.mk (hbox); have GW534 := wq (hb0 HB) hg; have GE534 := wq (hb0 HB) hg; replace HB := hs (hb0 HB) hb; clear hb hbox hg) | ((with_reducible refine gate_dst (N := 3) rfl ?_); refine be_ 3 #[.int .i64 a1_0, .int .i64 a1_1] 46 ?_; intro gb535 hg w62 hbox hb; have BK535 := Aside0.mk (hbox); have GW535 := wq (hb1 HB GE534) hg; have GE535 := wq (hb1 HB GE534) hg; replace HB := hs (hb1 HB GE534) hb; have NB534_535 := lx BK534 hg; have NB535_534 := gx BK534 hg; replace BK534 := kx BK534 hb; clear hb hbox hg) | ((with_reducible refine gate_dst (N := 4) rfl ?_); refine be_ 4 #[.int .i64 0, .slice none 0 0] 25 ?_; intro gb536 hg w63 hbox hb; have BK536 := Aside0.mk (hbox); have GW536 := wq (hb2 HB GE534 GE535) hg; have GE536 := wq (hb2 HB GE534 GE535) hg; replace HB := hs (hb2 HB GE534 GE535) hb; have NB534_536 := lx BK534 hg; have NB536_534 := gx BK534 hg; replace BK534 := kx BK534 hb; have NB535_536 := lx BK535 hg; have NB536_535 := gx BK535 hg; replace BK535 := kx BK535 hb; clear hb hbox hg; have hnb64 := NB534_535.out; have hnc64 := NB535_534.out; have hnb65 := NB534_536.out; have hnc65 := NB536_534.out; have hcz66_0 : w63.cell? ⟨gb534, 0, none⟩ = some (.int .i64 a0_0) := bc BK534 0; have hcz66_1 : w63.cell? ⟨gb534, 1, none⟩ = some (.slice A0_1 l0_1.length c0_1) := bc BK534 1; have hfz66_0 := blk_frozen BK534.out 0; have hfz66_1 := blk_frozen BK534.out 1) | ((with_reducible refine gate_callee (f := 11) rfl ?_); refine gl_ (some 8) Try.func11 #[.agg #[.int .i64 a0_0, .slice A0_1 l0_1.length c0_1]] ?_; (with_reducible refine (tangramref03_Valid.calls k a0_0 _ _ l0_1 false _ ?side1 ?side2 A3.out).mono ?_); (case side1 => repeat (first | exact (Kd.C_below HR0_1.out HB.out) | (with_reducible refine Kd.C_alloc ?_ _) | (with_reducible refine Kd.C_drewN ?_ _) | (with_reducible refine Kd.C_drew ?_))); (case side2 => exact HC0_1.out); rintro e w67 ⟨rfl, hb⟩; refine ⟨_, rfl, ?_⟩; replace BK534 := kx BK534 hb; replace BK535 := kx BK535 hb; replace BK536 := kx BK536 hb; replace HB := hs (hb3 HB GE534 GE535 GE536) hb; (try clear hb); (try clear hb2); (try clear hk); (try clear hi); have hnb68 := NB536_535.out; have hnc68 := NB535_536.out; have hcz69_0 : w67.cell? ⟨gb536, 0, none⟩ = some (.int .i64 0) := bc BK536 0; have hcz69_1 : w67.cell? ⟨gb536, 1, none⟩ = some (.slice none 0 0) := bc BK536 1; have hfz69_0 := blk_frozen BK536.out 0; have hfz69_1 := blk_frozen BK536.out 1))
  refine bodyPost_ret (results_ct rfl _ _ gb536 25 #[.int .i64 0, .slice none 0 0] (0, 0) _ rfl (bp BK536) Try.underlying25 rfl (by kernel_rfl)) rfl ?_; exact ⟨_, by first | rfl | (simp [errW_none, errW_some] <;> rfl) | (simp [*, errW_none, errW_some] <;> rfl), by first | exact Kd.R_nil _ _ _ _ _ | exact Kd.N_nil _ _ _ _ _ | exact Kd.V_nil _ _ _ _ _ | exact Kd.Q_nil _ _ _ _ _ | exact Kd.S_nil _ _ _ _ _, hb3 HB GE534 GE535 GE536⟩

end Go.Proofs.Ytdaeaejmikhmcaa.PEditC
