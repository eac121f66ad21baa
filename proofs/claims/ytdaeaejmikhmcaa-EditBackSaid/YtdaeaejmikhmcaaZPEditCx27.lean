-- PRINTED by print.py (a twelfth state) out of the translation. Not trusted: Lean checks it.
import Derived.Test.YtdaeaejmikhmcaaZPEditCx0
import Derived.Test.YtdaeaejmikhmcaaZPEditCx23
import Derived.Test.YtdaeaejmikhmcaaZPEditCx26
namespace Go.Proofs.Ytdaeaejmikhmcaa.PEditC
open Go.RowKit Go.Proofs.YtdaeaejmikhmcaaW.PrintWords Go.Proofs.YtdaeaejmikhmcaaW.PrintLast Go.Proofs.YtdaeaejmikhmcaaW.PrintMore
open Go.Proofs.YtdaeaejmikhmcaaX
attribute [local go_sem] max2_int min2_int max_two min_two max_three min_three max_four min_four   -- for this text's walks alone
set_option linter.unusedVariables false
set_option linter.unusedSimpArgs false

/-! ### tangramref14_Beside: function 20 -/
mutual
def tangramref14_Beside.j0 : Nat → Bool → Int → List (S46) → Int → List (S46) → Option (Int × (List (S46)) × Int)
 | 0, _, _, _, _, _ => none
 | k + 1, x15, x305000, x305001, x306000, x306001 => if x15 = true then (some (0, ([] : List (S46)), 1)) else (if (wrap64 (x305000 + x306000)) > 1048576 then (tangramref14_Beside.j1 k true x305000 x305001 x306000 x306001) else (tangramref14_Beside.j1 k (decide ((wrap64 ((x305001.length : Int) + (x306001.length : Int))) > 4194304)) x305000 x305001 x306000 x306001))
def tangramref14_Beside.j1 : Nat → Bool → Int → List (S46) → Int → List (S46) → Option (Int × (List (S46)) × Int)
 | 0, _, _, _, _, _ => none
 | k + 1, x32, x305000, x305001, x306000, x306001 => if x32 = true then (some (0, ([] : List (S46)), 141)) else ((tangramref14_kept.f x305001).bind fun t309 => (tangramref14_Beside.l0 k t309 0 x305000 x305001 x306000 x306001))
def tangramref14_Beside.l0 : Nat → List (S46) → Int → Int → List (S46) → Int → List (S46) → Option (Int × (List (S46)) × Int)
 | 0, _, _, _, _, _, _ => none
 | k + 1, x6, x7, x305000, x305001, x306000, x306001 => if x7 < (x306001.length : Int) then (if 0 ≤ x7 then (if x6.length < 8796093022208 then (tangramref14_Beside.l0 k (x6 ++ [(⟨wrap64 (x305000 + ((rd_T46 x306001 x7).f0)), wrap64 (x305000 + ((rd_T46 x306001 x7).f1))⟩ : S46)]) (wrap64 (x7 + 1)) x305000 x305001 x306000 x306001) else (none)) else (none)) else (some (wrap64 (x305000 + x306000), x6, 0))
end
def tangramref14_Beside.f (k : Nat) (a0_0 : Int) (l0_1 : List (S46)) (a1_0 : Int) (l1_1 : List (S46)) : Option (Int × (List (S46)) × Int) := (tangramref03_Valid.f k a0_0 l0_1).bind fun t307 => (if t307 = true then ((tangramref03_Valid.f k a1_0 l1_1).bind fun t308 => (tangramref14_Beside.j0 k (!t308) a0_0 l0_1 a1_0 l1_1)) else (tangramref14_Beside.j0 k true a0_0 l0_1 a1_0 l1_1))
theorem tangramref14_Beside.mono_l : ∀ k, (∀ y0 y1 y2 y3 y4, LeO (tangramref14_Beside.j0 k y0 y1 y2 y3 y4) (tangramref14_Beside.j0 (k + 1) y0 y1 y2 y3 y4)) ∧ (∀ y0 y1 y2 y3 y4, LeO (tangramref14_Beside.j1 k y0 y1 y2 y3 y4) (tangramref14_Beside.j1 (k + 1) y0 y1 y2 y3 y4)) ∧ (∀ y0 y1 y2 y3 y4 y5, LeO (tangramref14_Beside.l0 k y0 y1 y2 y3 y4 y5) (tangramref14_Beside.l0 (k + 1) y0 y1 y2 y3 y4 y5))
 | 0 => ⟨fun _ _ _ _ _ r h => by simp [tangramref14_Beside.j0] at h, fun _ _ _ _ _ r h => by simp [tangramref14_Beside.j1] at h, fun _ _ _ _ _ _ r h => by simp [tangramref14_Beside.l0] at h⟩
 | k + 1 => by
  obtain ⟨ih0, ih1, ih2⟩ := tangramref14_Beside.mono_l k; refine ⟨?_, ?_, ?_⟩
  ·intro y0 y1 y2 y3 y4
   unfold tangramref14_Beside.j0
   repeat' first
   | (with_reducible exact ih0 _ _ _ _ _)
   | (with_reducible exact ih1 _ _ _ _ _)
   | (with_reducible exact ih2 _ _ _ _ _ _)
   | (with_reducible exact tangramref03_Valid.mono _ _ _)
   | (with_reducible exact LeO.refl _)
   | (with_reducible exact LeO.none _)
   | (with_reducible refine LeO.ite ?_ ?_)
   | (with_reducible refine LeO.bind ?_ (fun _ => ?_))
   | exact ih0 _ _ _ _ _
   | exact ih1 _ _ _ _ _
   | exact ih2 _ _ _ _ _ _
   | exact tangramref03_Valid.mono _ _ _
   | exact LeO.none _
   | refine LeO.ite ?_ ?_
   | refine LeO.bind ?_ (fun _ => ?_)
  ·intro y0 y1 y2 y3 y4
   unfold tangramref14_Beside.j1
   repeat' first
   | (with_reducible exact ih0 _ _ _ _ _)
   | (with_reducible exact ih1 _ _ _ _ _)
   | (with_reducible exact ih2 _ _ _ _ _ _)
   | (with_reducible exact tangramref03_Valid.mono _ _ _)
   | (with_reducible exact LeO.refl _)
   | (with_reducible exact LeO.none _)
   | (with_reducible refine LeO.ite ?_ ?_)
   | (with_reducible refine LeO.bind ?_ (fun _ => ?_))
   | exact ih0 _ _ _ _ _
   | exact ih1 _ _ _ _ _
   | exact ih2 _ _ _ _ _ _
   | exact tangramref03_Valid.mono _ _ _
   | exact LeO.none _
   | refine LeO.ite ?_ ?_
   | refine LeO.bind ?_ (fun _ => ?_)
  ·intro y0 y1 y2 y3 y4 y5
   unfold tangramref14_Beside.l0
   repeat' first
   | (with_reducible exact ih0 _ _ _ _ _)
   | (with_reducible exact ih1 _ _ _ _ _)
   | (with_reducible exact ih2 _ _ _ _ _ _)
   | (with_reducible exact tangramref03_Valid.mono _ _ _)
   | (with_reducible exact LeO.refl _)
   | (with_reducible exact LeO.none _)
   | (with_reducible refine LeO.ite ?_ ?_)
   | (with_reducible refine LeO.bind ?_ (fun _ => ?_))
   | exact ih0 _ _ _ _ _
   | exact ih1 _ _ _ _ _
   | exact ih2 _ _ _ _ _ _
   | exact tangramref03_Valid.mono _ _ _
   | exact LeO.none _
   | refine LeO.ite ?_ ?_
   | refine LeO.bind ?_ (fun _ => ?_)
theorem tangramref14_Beside.mono : ∀ a0 a1 a2 a3 k, LeO (tangramref14_Beside.f k a0 a1 a2 a3) (tangramref14_Beside.f (k + 1) a0 a1 a2 a3) := by
 intro a0 a1 a2 a3 k; obtain ⟨ih0, ih1, ih2⟩ := tangramref14_Beside.mono_l k
 unfold tangramref14_Beside.f
 repeat' first
   | (with_reducible exact ih0 _ _ _ _ _)
   | (with_reducible exact ih1 _ _ _ _ _)
   | (with_reducible exact ih2 _ _ _ _ _ _)
   | (with_reducible exact tangramref03_Valid.mono _ _ _)
   | (with_reducible exact LeO.refl _)
   | (with_reducible exact LeO.none _)
   | (with_reducible refine LeO.ite ?_ ?_)
   | (with_reducible refine LeO.bind ?_ (fun _ => ?_))
   | exact ih0 _ _ _ _ _
   | exact ih1 _ _ _ _ _
   | exact ih2 _ _ _ _ _ _
   | exact tangramref03_Valid.mono _ _ _
   | exact LeO.none _
   | refine LeO.ite ?_ ?_
   | refine LeO.bind ?_ (fun _ => ?_)
def tangramref14_Beside.T9 : Bool × List (List Nat × List Nat) := (true, [([], []), ([], []), ([1], [1]), ([], []), ([3], [3]), ([], []), ([4, 5], [4, 5]), ([6], [6]), ([7], [7]), ([2, 8], [2, 8]), ([], []), ([10], [10]), ([], []), ([12], [12]), ([], []), ([13, 14], [13, 14]), ([15], [15]), ([16], [16]), ([11, 17], [11, 17]), ([9, 18], [9, 18]), ([19], [19]), ([0, 20], [0, 20]), ([21, 21, 0, 1, 2, 3, 4, 5, 6, 7, 8, 9, 10, 11, 12, 13, 14, 15, 16, 17, 18, 19, 20, 21], [0, 21])])
def tangramref14_Beside.B9 : List Nat := [0, 0, 2, 0, 8, 0, 56, 120, 248, 510, 0, 1024, 0, 4096, 0, 28672, 61440, 126976, 261120, 524286, 1048574, 2097151, 4194303]
theorem tangramref14_Beside.tab9 : rtab .any (opsOf Try.f20 9) = tangramref14_Beside.T9 := by kernel_rfl
theorem tangramref14_Beside.bits9 : waitsOk tangramref14_Beside.T9.2 tangramref14_Beside.B9 = true := by kernel_rfl
set_option maxHeartbeats 8000000 in
set_option maxRecDepth 100000 in
theorem tangramref14_Beside.calls (k : Nat) (a0_0 : Int) (A0_1 : Option Addr) (c0_1 : Nat) (l0_1 : List (S46)) (a1_0 : Int) (A1_1 : Option Addr) (c1_1 : Nat) (l1_1 : List (S46)) (r1 : Int) (r2 : List (S46)) (r3 : Int) (w : World) (hr0_1 : Kd.C k46 w A0_1 l0_1.length l0_1) (hc0_1 : l0_1.length ≤ c0_1) (hr1_1 : Kd.C k46 w A1_1 l1_1.length l1_1) (hc1_1 : l1_1.length ≤ c1_1) (h : tangramref14_Beside.f k a0_0 l0_1 a1_0 l1_1 = some (r1, r2, r3)) :
  Calls Try.prog 20 #[.agg #[.int .i64 a0_0, .slice A0_1 l0_1.length c0_1], .agg #[.int .i64 a1_0, .slice A1_1 l1_1.length c1_1]] w fun e w' => ∃ v1_ : Value, e = .returned (.tuple #[.agg #[.int .i64 r1, v1_], .int .i64 r3]) ∧ Kd.R k46 46 w' w.heap.size (fun _ => True) v1_ r2 ∧ Below w.heap.size w w' := by
 have hu25 := Try.underlying25; have hu46 := Try.underlying46; have HR0_1 := Aside0.mk hr0_1; have HC0_1 := Aside0.mk hc0_1; clear hr0_1 hc0_1; have HR1_1 := Aside0.mk hr1_1; have HC1_1 := Aside0.mk hc1_1; clear hr1_1 hc1_1; have HB := Aside0.mk (Below.refl w.heap.size w); have H : ((tangramref03_Valid.f k a0_0 l0_1).bind fun t307 => (if t307 = true then ((tangramref03_Valid.f k a1_0 l1_1).bind fun t308 => (tangramref14_Beside.j0 k (!t308) a0_0 l0_1 a1_0 l1_1)) else (tangramref14_Beside.j0 k true a0_0 l0_1 a1_0 l1_1))) = some (r1, r2, r3) := h; clear h; have HC3 := Aside0.mk H; clear H
 go_enter Try.func20, Try.ntmps20
 go_upto_region 1 with (first | ((with_reducible refine gate_dst (N := 2) rfl ?_); (try (refine gate_guard (by rfl) ?_; dsimp only)); refine be_ 2 #[.int .i64 a0_0, .slice A0_1 l0_1.length c0_1] 25 ?_; intro gb304 hg w4 hbox hb; have BK304 := Aside0.mk (hbox); have GW304 := wq (hb0 HB) hg; have GE304 := wq (hb0 HB) hg; replace HB := hs (hb0 HB) hb; clear hb hbox hg) | ((with_reducible refine gate_dst (N := 3) rfl ?_); (try (refine gate_guard (by rfl) ?_; dsimp only)); refine be_ 3 #[.int .i64 a1_0, .slice A1_1 l1_1.length c1_1] 25 ?_; intro gb305 hg w5 hbox hb; have BK305 := Aside0.mk (hbox); have GW305 := wq (hb1 HB GE304) hg; have GE305 := wq (hb1 HB GE304) hg; replace HB := hs (hb1 HB GE304) hb; have NB304_305 := lx BK304 hg; have NB305_304 := gx BK304 hg; replace BK304 := kx BK304 hb; clear hb hbox hg) | ((with_reducible refine gate_dst (N := 4) rfl ?_); (try (refine gate_guard (by rfl) ?_; dsimp only)); refine be_ 4 #[.int .i64 0, .slice none 0 0] 25 ?_; intro gb306 hg w6 hbox hb; have BK306 := Aside0.mk (hbox); have GW306 := wq (hb2 HB GE304 GE305) hg; have GE306 := wq (hb2 HB GE304 GE305) hg; replace HB := hs (hb2 HB GE304 GE305) hb; have NB304_306 := lx BK304 hg; have NB306_304 := gx BK304 hg; replace BK304 := kx BK304 hb; have NB305_306 := lx BK305 hg; have NB306_305 := gx BK305 hg; replace BK305 := kx BK305 hb; clear hb hbox hg))
 (try simp only [Act.put, List.setIfInBounds_toArray, List.set_cons_zero, List.set_cons_succ])
 go_cut [15] (fun v15 wc => ∃ (kq : Nat) (x15_2 : Bool), v15 = .bool x15_2 ∧ Aside0 (tangramref14_Beside.j0 kq x15_2 a0_0 l0_1 a1_0 l1_1 = some (r1, r2, r3)) ∧ Aside0 (kq ≤ k) ∧ Aside0 (wc.heap[gb304]? = some (.cells #[.int .i64 a0_0, (.slice A0_1 l0_1.length c0_1)] 25 (0, 0))) ∧ Aside0 (wc.heap[gb305]? = some (.cells #[.int .i64 a1_0, (.slice A1_1 l1_1.length c1_1)] 25 (0, 0))) ∧ Aside0 (wc.heap[gb306]? = some (.cells #[.int .i64 0, (.slice none 0 0)] 25 (0, 0))) ∧ Aside0 (Below w.heap.size w wc))
 case first => as_aux_lemma =>
  have H := HC3.out; clear HC3; replace H := Option.bind_eq_some_iff.mp H; obtain ⟨t307, A70, H⟩ := H; replace H : (if t307 = true then ((tangramref03_Valid.f k a1_0 l1_1).bind fun t308 => (tangramref14_Beside.j0 k (!t308) a0_0 l0_1 a1_0 l1_1)) else (tangramref14_Beside.j0 k true a0_0 l0_1 a1_0 l1_1)) = some (r1, r2, r3) := H; have A7 := Aside0.mk A70; clear A70
  by_cases c8 : t307 = true
  ·subst c8; have H1 : ((tangramref03_Valid.f k a1_0 l1_1).bind fun t308 => (tangramref14_Beside.j0 k (!t308) a0_0 l0_1 a1_0 l1_1)) = some (r1, r2, r3) := by rw [if_pos rfl] at H; exact H
   clear H; have H := H1; clear H1; replace H := Option.bind_eq_some_iff.mp H; obtain ⟨t308, A90, H⟩ := H; replace H : (tangramref14_Beside.j0 k (!t308) a0_0 l0_1 a1_0 l1_1) = some (r1, r2, r3) := H; have A9 := Aside0.mk A90; clear A90; have H' := Aside0.mk H; clear H; have hnb10 := NB304_305.out; have hnc10 := NB305_304.out; have hnb11 := NB304_306.out; have hnc11 := NB306_304.out; have hcz12_0 : w6.cell? ⟨gb304, 0, none⟩ = some (.int .i64 a0_0) := bc BK304 0; have hcz12_1 : w6.cell? ⟨gb304, 1, none⟩ = some (.slice A0_1 l0_1.length c0_1) := bc BK304 1; have hfz12_0 := blk_frozen BK304.out 0; have hfz12_1 := blk_frozen BK304.out 1
   go_wp2_with (first | ((with_reducible refine gate_callee (f := 11) rfl ?_); refine gl_ (some 9) Try.func11 #[.agg #[.int .i64 a0_0, .slice A0_1 l0_1.length c0_1]] ?_; (with_reducible refine (tangramref03_Valid.calls k a0_0 _ _ l0_1 true _ ?side1 ?side2 A7.out).mono ?_); (case side1 => repeat (first | exact (Kd.C_below HR0_1.out HB.out) | (with_reducible refine Kd.C_alloc ?_ _) | (with_reducible refine Kd.C_drewN ?_ _) | (with_reducible refine Kd.C_drew ?_))); (case side2 => exact HC0_1.out); rintro e w13 ⟨rfl, hb⟩; refine ⟨_, rfl, ?_⟩; replace BK304 := kx BK304 hb; replace BK305 := kx BK305 hb; replace BK306 := kx BK306 hb; replace HB := hs (hb3 HB GE304 GE305 GE306) hb; (try clear hb); (try clear hb2); (try clear hk); (try clear hi); have hnb14 := NB305_306.out; have hnc14 := NB306_305.out; have hcz15_0 : w13.cell? ⟨gb305, 0, none⟩ = some (.int .i64 a1_0) := bc BK305 0; have hcz15_1 : w13.cell? ⟨gb305, 1, none⟩ = some (.slice A1_1 l1_1.length c1_1) := bc BK305 1; have hfz15_0 := blk_frozen BK305.out 0; have hfz15_1 := blk_frozen BK305.out 1) | (go_at_call 11; (with_reducible refine (tangramref03_Valid.calls k a1_0 _ _ l1_1 t308 _ ?side1 ?side2 A9.out).mono ?_); (case side1 => repeat (first | exact (Kd.C_below HR1_1.out HB.out) | (with_reducible refine Kd.C_alloc ?_ _) | (with_reducible refine Kd.C_drewN ?_ _) | (with_reducible refine Kd.C_drew ?_))); (case side2 => exact HC1_1.out); rintro e w16 ⟨rfl, hb⟩; replace BK304 := kx BK304 hb; replace BK305 := kx BK305 hb; replace BK306 := kx BK306 hb; replace HB := hs (hb3 HB GE304 GE305 GE306) hb; (try clear hb); (try clear hb2); (try clear hk); (try clear hi)))
   go_meet
   case rel => exact ⟨_, (!t308), (by first | rfl | (simp; done) | (simp [*]; done)), H', ⟨by first | omega | exact Nat.le_refl _⟩, ⟨bx BK304⟩, ⟨bx BK305⟩, ⟨bx BK306⟩, ⟨hb3 HB GE304 GE305 GE306⟩⟩
  ·replace c8 := Bool.eq_false_iff.mpr c8; subst c8; have H1 : (tangramref14_Beside.j0 k true a0_0 l0_1 a1_0 l1_1) = some (r1, r2, r3) := by rw [if_neg (show ¬ (false = true) by decide)] at H; exact H
   clear H; have H := H1; clear H1; have H' := Aside0.mk H; clear H; have hnb17 := NB304_305.out; have hnc17 := NB305_304.out; have hnb18 := NB304_306.out; have hnc18 := NB306_304.out; have hcz19_0 : w6.cell? ⟨gb304, 0, none⟩ = some (.int .i64 a0_0) := bc BK304 0; have hcz19_1 : w6.cell? ⟨gb304, 1, none⟩ = some (.slice A0_1 l0_1.length c0_1) := bc BK304 1; have hfz19_0 := blk_frozen BK304.out 0; have hfz19_1 := blk_frozen BK304.out 1
   go_wp2_with (first | ((with_reducible refine gate_callee (f := 11) rfl ?_); refine gl_ (some 9) Try.func11 #[.agg #[.int .i64 a0_0, .slice A0_1 l0_1.length c0_1]] ?_; (with_reducible refine (tangramref03_Valid.calls k a0_0 _ _ l0_1 false _ ?side1 ?side2 A7.out).mono ?_); (case side1 => repeat (first | exact (Kd.C_below HR0_1.out HB.out) | (with_reducible refine Kd.C_alloc ?_ _) | (with_reducible refine Kd.C_drewN ?_ _) | (with_reducible refine Kd.C_drew ?_))); (case side2 => exact HC0_1.out); rintro e w20 ⟨rfl, hb⟩; refine ⟨_, rfl, ?_⟩; replace BK304 := kx BK304 hb; replace BK305 := kx BK305 hb; replace BK306 := kx BK306 hb; replace HB := hs (hb3 HB GE304 GE305 GE306) hb; (try clear hb); (try clear hb2); (try clear hk); (try clear hi)))
   go_meet
   case rel => exact ⟨_, (true), (by first | rfl | (simp; done) | (simp [*]; done)), H', ⟨by first | omega | exact Nat.le_refl _⟩, ⟨bx BK304⟩, ⟨bx BK305⟩, ⟨bx BK306⟩, ⟨hb3 HB GE304 GE305 GE306⟩⟩
 case rest => as_aux_lemma =>
  clear HC3
  try clear c1
  try clear c2
  try clear p2
  try clear c8
  try clear c10
  try clear c11
  try clear c14
  try clear c17
  try clear c18
  try clear c20
  try clear hcz12_0
  try clear hcz12_1
  try clear hcz15_0
  try clear hcz15_1
  try clear hcz19_0
  try clear hcz19_1
  try clear hfz12_0
  try clear hfz12_1
  try clear hfz15_0
  try clear hfz15_1
  try clear hfz19_0
  try clear hfz19_1
  obtain ⟨kq, x15_2, rfl, HA, HJ2, BK304, BK305, BK306, HB⟩ := hcut
  cases kq with
  | zero => exact absurd HA.out (by simp [tangramref14_Beside.j0])
  | succ kj2 =>
   have H := HA.out; clear HA; simp only [tangramref14_Beside.j0] at H
   by_cases c21 : x15_2 = true
   ·subst c21; have H1 : (some (0, ([] : List (S46)), 1)) = some (r1, r2, r3) := by rw [if_pos rfl] at H; exact H
    clear H; have H := H1; clear H1; simp only [Option.some.injEq, Prod.mk.injEq] at H; obtain ⟨rfl, rfl, rfl⟩ := H; have hnb22 := NB306_304.out; have hnc22 := NB304_306.out; have hnb23 := NB306_305.out; have hnc23 := NB305_306.out; have hcz24_0 : wc.cell? ⟨gb306, 0, none⟩ = some (.int .i64 0) := bc BK306 0; have hcz24_1 : wc.cell? ⟨gb306, 1, none⟩ = some (.slice none 0 0) := bc BK306 1; have hfz24_0 := blk_frozen BK306.out 0; have hfz24_1 := blk_frozen BK306.out 1
    go_wp2
    refine bodyPost_ret (results_ct rfl _ _ gb306 25 #[.int .i64 0, .slice none 0 0] (0, 0) _ rfl (bp BK306) Try.underlying25 rfl (by kernel_rfl)) rfl ?_; exact ⟨_, by first | rfl | (simp [errW_none, errW_some] <;> rfl) | (simp [*, errW_none, errW_some] <;> rfl), by first | exact Kd.R_nil _ _ _ _ _ | exact Kd.N_nil _ _ _ _ _ | exact Kd.V_nil _ _ _ _ _ | exact Kd.Q_nil _ _ _ _ _ | exact Kd.S_nil _ _ _ _ _, hb3 HB GE304 GE305 GE306⟩
   ·replace c21 := Bool.eq_false_iff.mpr c21; subst c21; have H1 : (if (wrap64 (a0_0 + a1_0)) > 1048576 then (tangramref14_Beside.j1 kj2 true a0_0 l0_1 a1_0 l1_1) else (tangramref14_Beside.j1 kj2 (decide ((wrap64 ((l0_1.length : Int) + (l1_1.length : Int))) > 4194304)) a0_0 l0_1 a1_0 l1_1)) = some (r1, r2, r3) := by rw [if_neg (show ¬ (false = true) by decide)] at H; exact H
    clear H; have H := H1; clear H1; have HC25 := Aside0.mk H; clear H
    go_upto_region 3 with (fail)
    go_cut [32] (fun v32 wc => ∃ (kq : Nat) (x32_24 : Bool), v32 = .bool x32_24 ∧ Aside0 (tangramref14_Beside.j1 kq x32_24 a0_0 l0_1 a1_0 l1_1 = some (r1, r2, r3)) ∧ Aside0 (kq ≤ kj2) ∧ Aside0 (wc.heap[gb304]? = some (.cells #[.int .i64 a0_0, (.slice A0_1 l0_1.length c0_1)] 25 (0, 0))) ∧ Aside0 (wc.heap[gb305]? = some (.cells #[.int .i64 a1_0, (.slice A1_1 l1_1.length c1_1)] 25 (0, 0))) ∧ Aside0 (wc.heap[gb306]? = some (.cells #[.int .i64 0, (.slice none 0 0)] 25 (0, 0))) ∧ Aside0 (Below w.heap.size w wc))
    case first => as_aux_lemma =>
     have H := HC25.out; clear HC25
     by_cases c26 : (wrap64 (a0_0 + a1_0)) > 1048576
     ·rw [if_pos c26] at H; have c26b0 : decide (1048576 < (wrap64 (a0_0 + a1_0))) = true := decide_eq_true c26; clear c26
      (first | rw [c26b0] | (simp only [i64_w, i32_w]; rw [c26b0]) | skip)
      have H' := Aside0.mk H; clear H; have hnb27 := NB304_305.out; have hnc27 := NB305_304.out; have hnb28 := NB304_306.out; have hnc28 := NB306_304.out; have hcz29_0 : wc.cell? ⟨gb304, 0, none⟩ = some (.int .i64 a0_0) := bc BK304 0; have hcz29_1 : wc.cell? ⟨gb304, 1, none⟩ = some (.slice A0_1 l0_1.length c0_1) := bc BK304 1; have hfz29_0 := blk_frozen BK304.out 0; have hfz29_1 := blk_frozen BK304.out 1; have hnb30 := NB305_306.out; have hnc30 := NB306_305.out; have hcz31_0 : wc.cell? ⟨gb305, 0, none⟩ = some (.int .i64 a1_0) := bc BK305 0; have hcz31_1 : wc.cell? ⟨gb305, 1, none⟩ = some (.slice A1_1 l1_1.length c1_1) := bc BK305 1; have hfz31_0 := blk_frozen BK305.out 0; have hfz31_1 := blk_frozen BK305.out 1
      go_wp2
      go_meet
      case rel => exact ⟨_, (true), (by first | rfl | (simp; done) | (simp [*]; done)), H', ⟨by have := HJ2.out; first | omega | exact Nat.le_refl _⟩, ⟨bx BK304⟩, ⟨bx BK305⟩, ⟨bx BK306⟩, ⟨hb3 HB GE304 GE305 GE306⟩⟩
     ·rw [if_neg c26] at H; have c26b0 : decide (1048576 < (wrap64 (a0_0 + a1_0))) = false := decide_eq_false c26; clear c26
      (first | rw [c26b0] | (simp only [i64_w, i32_w]; rw [c26b0]) | skip)
      have H' := Aside0.mk H; clear H; have hnb32 := NB304_305.out; have hnc32 := NB305_304.out; have hnb33 := NB304_306.out; have hnc33 := NB306_304.out; have hcz34_0 : wc.cell? ⟨gb304, 0, none⟩ = some (.int .i64 a0_0) := bc BK304 0; have hcz34_1 : wc.cell? ⟨gb304, 1, none⟩ = some (.slice A0_1 l0_1.length c0_1) := bc BK304 1; have hfz34_0 := blk_frozen BK304.out 0; have hfz34_1 := blk_frozen BK304.out 1; have hnb35 := NB305_306.out; have hnc35 := NB306_305.out; have hcz36_0 : wc.cell? ⟨gb305, 0, none⟩ = some (.int .i64 a1_0) := bc BK305 0; have hcz36_1 : wc.cell? ⟨gb305, 1, none⟩ = some (.slice A1_1 l1_1.length c1_1) := bc BK305 1; have hfz36_0 := blk_frozen BK305.out 0; have hfz36_1 := blk_frozen BK305.out 1
      go_wp2
      go_meet
      case rel => exact ⟨_, (decide ((wrap64 ((l0_1.length : Int) + (l1_1.length : Int))) > 4194304)), (by first | rfl | (simp; done) | (simp [*]; done)), H', ⟨by have := HJ2.out; first | omega | exact Nat.le_refl _⟩, ⟨bx BK304⟩, ⟨bx BK305⟩, ⟨bx BK306⟩, ⟨hb3 HB GE304 GE305 GE306⟩⟩
    case rest => as_aux_lemma =>
     clear HC25
     try clear c1
     try clear c2
     try clear p2
     try clear c3
     try clear p6
     try clear c8
     try clear c10
     try clear c11
     try clear c14
     try clear c17
     try clear c18
     try clear c20
     try clear c21
     try clear c22
     try clear c23
     try clear c26
     try clear c26b0
     try clear c27
     try clear c28
     try clear c30
     try clear c32
     try clear c33
     try clear c35
     try clear hcz12_0
     try clear hcz12_1
     try clear hcz15_0
     try clear hcz15_1
     try clear hcz19_0
     try clear hcz19_1
     try clear hcz24_0
     try clear hcz24_1
     try clear hcz29_0
     try clear hcz29_1
     try clear hcz31_0
     try clear hcz31_1
     try clear hcz34_0
     try clear hcz34_1
     try clear hcz36_0
     try clear hcz36_1
     try clear hfz12_0
     try clear hfz12_1
     try clear hfz15_0
     try clear hfz15_1
     try clear hfz19_0
     try clear hfz19_1
     try clear hfz24_0
     try clear hfz24_1
     try clear hfz29_0
     try clear hfz29_1
     try clear hfz31_0
     try clear hfz31_1
     try clear hfz34_0
     try clear hfz34_1
     try clear hfz36_0
     try clear hfz36_1
     try clear p2
     obtain ⟨kq, x32_24, rfl, HA, HJ24, BK304, BK305, BK306, HB⟩ := hcut
     cases kq with
     | zero => exact absurd HA.out (by simp [tangramref14_Beside.j1])
     | succ kj24 =>
      have H := HA.out; clear HA; simp only [tangramref14_Beside.j1] at H
      by_cases c37 : x32_24 = true
      ·subst c37; have H1 : (some (0, ([] : List (S46)), 141)) = some (r1, r2, r3) := by rw [if_pos rfl] at H; exact H
       clear H; have H := H1; clear H1; simp only [Option.some.injEq, Prod.mk.injEq] at H; obtain ⟨rfl, rfl, rfl⟩ := H; have hnb38 := NB306_304.out; have hnc38 := NB304_306.out; have hnb39 := NB306_305.out; have hnc39 := NB305_306.out; have hcz40_0 : wc.cell? ⟨gb306, 0, none⟩ = some (.int .i64 0) := bc BK306 0; have hcz40_1 : wc.cell? ⟨gb306, 1, none⟩ = some (.slice none 0 0) := bc BK306 1; have hfz40_0 := blk_frozen BK306.out 0; have hfz40_1 := blk_frozen BK306.out 1
       go_wp2
       refine bodyPost_ret (results_ct rfl _ _ gb306 25 #[.int .i64 0, .slice none 0 0] (0, 0) _ rfl (bp BK306) Try.underlying25 rfl (by kernel_rfl)) rfl ?_; exact ⟨_, by first | rfl | (simp [errW_none, errW_some] <;> rfl) | (simp [*, errW_none, errW_some] <;> rfl), by first | exact Kd.R_nil _ _ _ _ _ | exact Kd.N_nil _ _ _ _ _ | exact Kd.V_nil _ _ _ _ _ | exact Kd.Q_nil _ _ _ _ _ | exact Kd.S_nil _ _ _ _ _, hb3 HB GE304 GE305 GE306⟩
      ·replace c37 := Bool.eq_false_iff.mpr c37; subst c37; have H1 : ((tangramref14_kept.f l0_1).bind fun t309 => (tangramref14_Beside.l0 kj24 t309 0 a0_0 l0_1 a1_0 l1_1)) = some (r1, r2, r3) := by rw [if_neg (show ¬ (false = true) by decide)] at H; exact H
       clear H; have H := H1; clear H1; replace H := Option.bind_eq_some_iff.mp H; obtain ⟨t309, A410, H⟩ := H; replace H : (tangramref14_Beside.l0 kj24 t309 0 a0_0 l0_1 a1_0 l1_1) = some (r1, r2, r3) := H; have A41 := Aside0.mk A410; clear A410; have H' := Aside0.mk H; clear H; have hnb42 := NB304_305.out; have hnc42 := NB305_304.out; have hnb43 := NB304_306.out; have hnc43 := NB306_304.out; have hcz44_0 : wc.cell? ⟨gb304, 0, none⟩ = some (.int .i64 a0_0) := bc BK304 0; have hcz44_1 : wc.cell? ⟨gb304, 1, none⟩ = some (.slice A0_1 l0_1.length c0_1) := bc BK304 1; have hfz44_0 := blk_frozen BK304.out 0; have hfz44_1 := blk_frozen BK304.out 1
       go_wp2_with (first | ((with_reducible refine gate_callee (f := 41) rfl ?_); refine gl_ (some 36) Try.func41 #[.slice A0_1 l0_1.length c0_1] ?_; (with_reducible refine (tangramref14_kept.calls _ _ l0_1 t309 _ ?side1 ?side2 A41.out).mono ?_); (case side1 => repeat (first | exact (Kd.C_below HR0_1.out HB.out) | (with_reducible refine Kd.C_alloc ?_ _) | (with_reducible refine Kd.C_drewN ?_ _) | (with_reducible refine Kd.C_drew ?_))); (case side2 => exact HC0_1.out); rintro e w45 ⟨v310, rfl, ho0, hb⟩; refine ⟨_, rfl, ?_⟩; have HO311 := Aside0.mk (Kd.R_lower ho0 (below_size (hb3 HB GE304 GE305 GE306))); replace BK304 := kx BK304 hb; replace BK305 := kx BK305 hb; replace BK306 := kx BK306 hb; replace HB := hs (hb3 HB GE304 GE305 GE306) hb; (try clear hb); (try clear hb2); (try clear hk); (try clear hi); (try clear ho0)))
       go_loopg [6, 7] kj24 (fun kq v6 v7 w' => ∃ (x6_3 : List (S46)) (x7_3 : Int), v7 = .int .i64 x7_3 ∧ Aside0 (tangramref14_Beside.l0 kq x6_3 x7_3 a0_0 l0_1 a1_0 l1_1 = some (r1, r2, r3)) ∧ Aside0 (kq ≤ kj24) ∧ Aside0 (Kd.R k46 46 w' w.heap.size (fun _ => True) v6 x6_3) ∧ Aside0 (w'.heap[gb304]? = some (.cells #[.int .i64 a0_0, (.slice A0_1 l0_1.length c0_1)] 25 (0, 0))) ∧ Aside0 (w'.heap[gb305]? = some (.cells #[.int .i64 a1_0, (.slice A1_1 l1_1.length c1_1)] 25 (0, 0))) ∧ Aside0 (w'.heap[gb306]? = some (.cells #[.int .i64 0, (.slice none 0 0)] 25 (0, 0))) ∧ Aside0 (Below w.heap.size w w'))
       case atStart => exact ⟨(t309), (0), (by first | rfl | (simp; done) | (simp [*]; done)), H', ⟨Nat.le_refl _⟩, ⟨rx HO311⟩, ⟨bx BK304⟩, ⟨bx BK305⟩, ⟨bx BK306⟩, ⟨hb3 HB GE304 GE305 GE306⟩⟩
       case round =>
        clear H'
        try clear c1
        try clear c2
        try clear p2
        try clear c3
        try clear c4
        try clear p6
        try clear c8
        try clear c10
        try clear c11
        try clear c14
        try clear c17
        try clear c18
        try clear c20
        try clear c21
        try clear c22
        try clear c23
        try clear c26
        try clear c26b0
        try clear c27
        try clear c28
        try clear c30
        try clear c32
        try clear c33
        try clear c35
        try clear c37
        try clear c38
        try clear c39
        try clear c41
        try clear c42
        try clear c43
        try clear hcz12_0
        try clear hcz12_1
        try clear hcz15_0
        try clear hcz15_1
        try clear hcz19_0
        try clear hcz19_1
        try clear hcz24_0
        try clear hcz24_1
        try clear hcz29_0
        try clear hcz29_1
        try clear hcz31_0
        try clear hcz31_1
        try clear hcz34_0
        try clear hcz34_1
        try clear hcz36_0
        try clear hcz36_1
        try clear hcz40_0
        try clear hcz40_1
        try clear hcz44_0
        try clear hcz44_1
        try clear hfz12_0
        try clear hfz12_1
        try clear hfz15_0
        try clear hfz15_1
        try clear hfz19_0
        try clear hfz19_1
        try clear hfz24_0
        try clear hfz24_1
        try clear hfz29_0
        try clear hfz29_1
        try clear hfz31_0
        try clear hfz31_1
        try clear hfz34_0
        try clear hfz34_1
        try clear hfz36_0
        try clear hfz36_1
        try clear hfz40_0
        try clear hfz40_1
        try clear hfz44_0
        try clear hfz44_1
        try clear p2
        try clear p6
        obtain ⟨x6_3, x7_3, rfl, HA, HK3, HO_6, BK304, BK305, BK306, HB⟩ := hrel
        cases gk with
        | zero => exact absurd HA.out (by simp [tangramref14_Beside.l0])
        | succ k3 =>
         have H := HA.out; clear HA; simp only [tangramref14_Beside.l0] at H
         by_cases c46 : x7_3 < (l1_1.length : Int)
         ·rw [if_pos c46] at H; have c46b0 : decide (x7_3 < (l1_1.length : Int)) = true := decide_eq_true c46; clear c46
          by_cases c47 : 0 ≤ x7_3
          ·rw [if_pos c47] at H; have c47b0 : decide (0 ≤ x7_3) = true := decide_eq_true c47; clear c47
           by_cases c48 : x6_3.length < 8796093022208
           ·rw [if_pos c48] at H; have LMc48 := Aside0.mk c48; clear c48; obtain ⟨y314, hy314⟩ : ∃ y_ : List (S46), y_ = (x6_3 ++ [(⟨wrap64 (a0_0 + ((rd_T46 l1_1 x7_3).f0)), wrap64 (a0_0 + ((rd_T46 l1_1 x7_3).f1))⟩ : S46)]) := ⟨_, rfl⟩; replace H : (tangramref14_Beside.l0 k3 y314 (wrap64 (x7_3 + 1)) a0_0 l0_1 a1_0 l1_1) = some (r1, r2, r3) := by first | (rw [hy314]; with_reducible exact H) | (have H2_ := (Option.bind_some _ _).symm.trans H; rw [hy314]; with_reducible exact H2_) | (have H2_ := (Option.bind_some _ _).symm.trans H; with_reducible exact H2_) | with_reducible exact H | (rw [hy314]; exact H) | exact H
            have Ny314 := Aside0.mk hy314; clear hy314; have H' := Aside0.mk H; clear H; have hnb49 := NB305_304.out; have hnc49 := NB304_305.out; have hnb50 := NB305_306.out; have hnc50 := NB306_305.out; have hcz51_0 : wr.cell? ⟨gb305, 0, none⟩ = some (.int .i64 a1_0) := bc BK305 0; have hcz51_1 : wr.cell? ⟨gb305, 1, none⟩ = some (.slice A1_1 l1_1.length c1_1) := bc BK305 1; have hfz51_0 := blk_frozen BK305.out 0; have hfz51_1 := blk_frozen BK305.out 1
            try go_wp2
            replace HO_6 := rd HO_6; replace BK304 := bd BK304; replace BK305 := bd BK305; replace BK306 := bd BK306; replace HB := Aside0.mk (below_drew1 HB.out); have p312 : 0 ≤ (x7_3 : Int) := of_decide_eq_true (by first | (with_reducible assumption) | assumption); have q312 : x7_3 < (l1_1.length : Int) := of_decide_eq_true (by first | (with_reducible assumption) | assumption); obtain ⟨ad312, e312, hx312_0, hx312_1⟩ := at_T46 HR1_1.out x7_3 p312 q312; have hw312_1 := hx312_1; have hw312_0 := hx312_0
            cases e312
            replace hx312_0 := (HB.out.cell (World.block_lt_of_cell? w _ hx312_0)).trans hx312_0; replace hx312_1 := (HB.out.cell (World.block_lt_of_cell? w _ hx312_1)).trans hx312_1; replace p312 := eq_true p312; replace q312 := eq_true q312; have p313 : 0 ≤ (x7_3 : Int) := of_decide_eq_true (by first | (with_reducible assumption) | assumption); have q313 : x7_3 < (l1_1.length : Int) := of_decide_eq_true (by first | (with_reducible assumption) | assumption); obtain ⟨ad313, e313, hx313_0, hx313_1⟩ := at_T46 HR1_1.out x7_3 p313 q313; have hw313_1 := hx313_1; have hw313_0 := hx313_0; obtain rfl : ad312 = ad313 := (by injection e313); replace hx313_0 := (HB.out.cell (World.block_lt_of_cell? w _ hx313_0)).trans hx313_0; replace hx313_1 := (HB.out.cell (World.block_lt_of_cell? w _ hx313_1)).trans hx313_1; replace p313 := eq_true p313; replace q313 := eq_true q313; refine start_ (n := 23) (S := fun w' => w'.cell? ⟨gb304, 0, none⟩ = some (.int .i64 a0_0) ∧ w'.cell? ⟨gb304, 1, none⟩ = some (.slice A0_1 l0_1.length c0_1) ∧ w'.cell? ⟨gb305, 0, none⟩ = some (.int .i64 a1_0) ∧ w'.cell? ⟨gb305, 1, none⟩ = some (.slice (some ad312) l1_1.length c1_1) ∧ w'.cell? (ad312.add ((x7_3).toNat * 2)) = some (.int .i64 ((rd_T46 l1_1 x7_3).f0)) ∧ w'.cell? ⟨(ad312.add ((x7_3).toNat * 2)).block, (ad312.add ((x7_3).toNat * 2)).off + 1, none⟩ = some (.int .i64 ((rd_T46 l1_1 x7_3).f1)) ∧ w'.cell? (ad312.add ((x7_3).toNat * 2)) = some (.int .i64 ((rd_T46 l1_1 x7_3).f0)) ∧ w'.cell? ⟨(ad312.add ((x7_3).toNat * 2)).block, (ad312.add ((x7_3).toNat * 2)).off + 1, none⟩ = some (.int .i64 ((rd_T46 l1_1 x7_3).f1))) (ds := []) (pf 0 23) (by kernel_rfl) rfl rfl ⟨bc BK304 0, bc BK304 1, bc BK305 0, bc BK305 1, ((HB.out.cell (World.block_lt_of_cell? w _ hw312_0)).trans hw312_0), ((HB.out.cell (World.block_lt_of_cell? w _ hw312_1)).trans hw312_1), ((HB.out.cell (World.block_lt_of_cell? w _ hw313_0)).trans hw313_0), ((HB.out.cell (World.block_lt_of_cell? w _ hw313_1)).trans hw313_1)⟩ (fun hHeld => ?_); refine with_tabW tangramref14_Beside.tab9 tangramref14_Beside.bits9 (fun HT_ HW_ => ?_)
            generalize wr.drew = w52 at HO_6 BK304 BK305 BK306 HB hx312_0 hx312_1 hx313_0 hx313_1 hHeld ⊢; refine pu_ 0 (some 44) (pf 1 23) HT_ ?_; refine pu_ 1 (some 45) (pf 2 23) HT_ ?_; refine pu_ 3 (some 47) #[T_,T_,F_,T_,F_,F_,F_,F_,F_,F_,F_,F_,F_,F_,F_,F_,F_,F_,F_,F_,F_,F_,F_] HT_ ?_; refine pu_ 5 (some 49) #[T_,T_,F_,T_,F_,T_,F_,F_,F_,F_,F_,F_,F_,F_,F_,F_,F_,F_,F_,F_,F_,F_,F_] HT_ ?_; refine pu_ 10 (some 54) #[T_,T_,F_,T_,F_,T_,F_,F_,F_,F_,T_,F_,F_,F_,F_,F_,F_,F_,F_,F_,F_,F_,F_] HT_ ?_; refine pu_ 12 (some 56) #[T_,T_,F_,T_,F_,T_,F_,F_,F_,F_,T_,F_,T_,F_,F_,F_,F_,F_,F_,F_,F_,F_,F_] HT_ ?_; refine pu_ 14 (some 58) #[T_,T_,F_,T_,F_,T_,F_,F_,F_,F_,T_,F_,T_,F_,T_,F_,F_,F_,F_,F_,F_,F_,F_] HT_ ?_; refine tk8_ 2 (some 46) #[T_,T_,T_,T_,F_,T_,F_,F_,F_,F_,T_,F_,T_,F_,T_,F_,F_,F_,F_,F_,F_,F_,F_] HT_ HW_ hHeld ?_; refine tk8_ 4 (some 48) #[T_,T_,T_,T_,T_,T_,F_,F_,F_,F_,T_,F_,T_,F_,T_,F_,F_,F_,F_,F_,F_,F_,F_] HT_ HW_ hHeld ?_; refine pu_ 6 (some 50) #[T_,T_,T_,T_,T_,T_,T_,F_,F_,F_,T_,F_,T_,F_,T_,F_,F_,F_,F_,F_,F_,F_,F_] HT_ ?_; refine pu_ 7 (some 51) #[T_,T_,T_,T_,T_,T_,T_,T_,F_,F_,T_,F_,T_,F_,T_,F_,F_,F_,F_,F_,F_,F_,F_] HT_ ?_; refine tk8_ 8 (some 52) #[T_,T_,T_,T_,T_,T_,T_,T_,T_,F_,T_,F_,T_,F_,T_,F_,F_,F_,F_,F_,F_,F_,F_] HT_ HW_ hHeld ?_; refine pu_ 9 (some 53) #[T_,T_,T_,T_,T_,T_,T_,T_,T_,T_,T_,F_,T_,F_,T_,F_,F_,F_,F_,F_,F_,F_,F_] HT_ ?_; refine tk8_ 11 (some 55) #[T_,T_,T_,T_,T_,T_,T_,T_,T_,T_,T_,T_,T_,F_,T_,F_,F_,F_,F_,F_,F_,F_,F_] HT_ HW_ hHeld ?_
            refine tk8_ 13 (some 57) (pf 15 23) HT_ HW_ hHeld ?_; refine pu_ 15 (some 59) (pf 16 23) HT_ ?_; refine pu_ 16 (some 60) (pf 17 23) HT_ ?_; refine tk8_ 17 (some 61) (pf 18 23) HT_ HW_ hHeld ?_; refine pu_ 18 (some 62) (pf 19 23) HT_ ?_; refine pu_ 19 (some 63) (pf 20 23) HT_ ?_; refine on_ 20 (some 64) (pf 21 23) HT_ (fun K hK => ?_); refine value_ (w1 := ?_) (v := ?_) (by rfl) rfl ?_ ?_; rotate_left 2
            ·go_simp
             constructor
             ·rfl
             ·rfl
            refine hK.out _ _ ⟨(blk_cell (blk_alloc BK304.out _) 0).trans rfl, (blk_cell (blk_alloc BK304.out _) 1).trans rfl, (blk_cell (blk_alloc BK305.out _) 0).trans rfl, (blk_cell (blk_alloc BK305.out _) 1).trans rfl, (World.cell?_alloc_lt _ _ _ (World.block_lt_of_cell? _ _ (((HB.out.cell (World.block_lt_of_cell? w _ hw312_0)).trans hw312_0)))).trans (((HB.out.cell (World.block_lt_of_cell? w _ hw312_0)).trans hw312_0)), (World.cell?_alloc_lt _ _ _ (World.block_lt_of_cell? _ _ (((HB.out.cell (World.block_lt_of_cell? w _ hw312_1)).trans hw312_1)))).trans (((HB.out.cell (World.block_lt_of_cell? w _ hw312_1)).trans hw312_1)), (World.cell?_alloc_lt _ _ _ (World.block_lt_of_cell? _ _ (((HB.out.cell (World.block_lt_of_cell? w _ hw313_0)).trans hw313_0)))).trans (((HB.out.cell (World.block_lt_of_cell? w _ hw313_0)).trans hw313_0)), (World.cell?_alloc_lt _ _ _ (World.block_lt_of_cell? _ _ (((HB.out.cell (World.block_lt_of_cell? w _ hw313_1)).trans hw313_1)))).trans (((HB.out.cell (World.block_lt_of_cell? w _ hw313_1)).trans hw313_1))⟩ (fun hHeld => ?_); clear hK K; refine nm_ (some 64) ?_; refine on_ 21 (some 65) (pf 22 23) HT_ (fun K hK => ?_); refine Kd.R_append_step k46 (w0 := w) w.heap.size (by rfl) (.tmp 44) (.tmp 64) 23 46 (.agg #[(.int .i64 0), (.int .i64 0)]) 16 rfl Try.underlying23 info46 rfl (by decide) (by omega) u6 x6_3 (⟨wrap64 (a0_0 + ((rd_T46 l1_1 x7_3).f0)), wrap64 (a0_0 + ((rd_T46 l1_1 x7_3).f1))⟩ : S46) [.int .i64 (wrap64 (a0_0 + ((rd_T46 l1_1 x7_3).f0))), .int .i64 (wrap64 (a0_0 + ((rd_T46 l1_1 x7_3).f1)))] (fun _ => True) (fun _ => False) rfl rfl ?aP (fun _ hk => hk.elim) ?aF ?aO ?aB ?aS ?aL ?_
            (case aP => exact k46_mkM _ _ _ (⟨wrap64 (a0_0 + ((rd_T46 l1_1 x7_3).f0)), wrap64 (a0_0 + ((rd_T46 l1_1 x7_3).f1))⟩ : S46))
            (case aB => exact (hb3 HB GE304 GE305 GE306))
            (case aF => exact (fun _ _ => trivial))
            (case aO => exact (rx HO_6))
            (case aS => exact (below_size (hb3 HB GE304 GE305 GE306)))
            (case aL => have := LMc48.out; omega)
            intro v315 w53 ho hb hg hat; rw [← Ny314.out] at ho; have n0_ := Aside0.mk (blk_grown (bx BK304) hg (Kd.R_ne HO_6.out BK304.out (by decide))); have n1_ := Aside0.mk (blk_grown (bx BK305) hg (Kd.R_ne HO_6.out BK305.out (by decide))); have n2_ := Aside0.mk (blk_grown (bx BK306) hg (Kd.R_ne HO_6.out BK306.out (by decide))); have n3_ := Aside0.mk (hb); have n4_ := Aside0.mk (ho); clear BK304 BK305 BK306 HB HO_6; have BK304 := n0_; have BK305 := n1_; have BK306 := n2_; have HB := n3_; have HO316 := n4_; clear n0_ n1_ n2_ n3_ n4_ ho hb hg hat; refine hK.out _ _ ⟨bc BK304 0, bc BK304 1, bc BK305 0, bc BK305 1, ((HB.out.cell (World.block_lt_of_cell? w _ hw312_0)).trans hw312_0), ((HB.out.cell (World.block_lt_of_cell? w _ hw312_1)).trans hw312_1), ((HB.out.cell (World.block_lt_of_cell? w _ hw313_0)).trans hw313_0), ((HB.out.cell (World.block_lt_of_cell? w _ hw313_1)).trans hw313_1)⟩ (fun hHeld => ?_); clear hK K; refine nm_ (some 65) ?_; refine pu_ 22 (some 6) (pf 23 23) HT_ ?_; refine done_ (done_of HT_.out (by kernel_rfl)) ?_
            try go_wp2
            go_roundg k3
            case measure => have := HJ2.out; have := HJ24.out; have := HK3.out; omega
            case rel => exact ⟨(y314), (wrap64 (x7_3 + 1)), (by first | rfl | (simp; done) | (simp [*]; done)), H', ⟨by have := HJ2.out; have := HJ24.out; have := HK3.out; omega⟩, ⟨rx HO316⟩, ⟨bx BK304⟩, ⟨bx BK305⟩, ⟨bx BK306⟩, ⟨hb3 HB GE304 GE305 GE306⟩⟩
           ·rw [if_neg c48] at H; exact absurd H (by simp)
          ·rw [if_neg c47] at H; exact absurd H (by simp)
         ·rw [if_neg c46] at H; have c46b0 : decide (x7_3 < (l1_1.length : Int)) = false := decide_eq_false c46; clear c46; simp only [Option.some.injEq, Prod.mk.injEq] at H; obtain ⟨rfl, rfl, rfl⟩ := H; have hnb54 := NB305_304.out; have hnc54 := NB304_305.out; have hnb55 := NB305_306.out; have hnc55 := NB306_305.out; have hcz56_0 : wr.cell? ⟨gb305, 0, none⟩ = some (.int .i64 a1_0) := bc BK305 0; have hcz56_1 : wr.cell? ⟨gb305, 1, none⟩ = some (.slice A1_1 l1_1.length c1_1) := bc BK305 1; have hfz56_0 := blk_frozen BK305.out 0; have hfz56_1 := blk_frozen BK305.out 1; have hnb57 := NB304_306.out; have hnc57 := NB306_304.out; have hcz58_0 : wr.cell? ⟨gb304, 0, none⟩ = some (.int .i64 a0_0) := bc BK304 0; have hcz58_1 : wr.cell? ⟨gb304, 1, none⟩ = some (.slice A0_1 l0_1.length c0_1) := bc BK304 1; have hfz58_0 := blk_frozen BK304.out 0; have hfz58_1 := blk_frozen BK304.out 1; obtain ⟨Ao59, co59, eo59⟩ := Kd.R_slice HO_6.out; subst eo59; have hcz60_0 : wr.cell? ⟨gb306, 0, none⟩ = some (.int .i64 0) := bc BK306 0; have hcz60_1 : wr.cell? ⟨gb306, 1, none⟩ = some (.slice none 0 0) := bc BK306 1; have hfz60_0 := blk_frozen BK306.out 0; have hfz60_1 := blk_frozen BK306.out 1
          go_wp2
          refine bodyPost_ret (results_ct rfl _ _ gb306 25 #[.int .i64 (wrap64 (a0_0 + a1_0)), .slice Ao59 x6_3.length co59] (0, 0) _ rfl (bp BK306) Try.underlying25 rfl (by kernel_rfl)) rfl ?_; exact ⟨_, by first | rfl | (simp [errW_none, errW_some] <;> rfl) | (simp [*, errW_none, errW_some] <;> rfl), Kd.R_mono (rf HO_6 BK306) (fun _ hk => trivial), hb3 HB GE304 GE305 GE306⟩

end Go.Proofs.Ytdaeaejmikhmcaa.PEditC
