-- PRINTED by print.py (a twelfth state) out of the translation. Not trusted: Lean checks it.
import Derived.Test.YthejafdcdcchbaaDoorZPSimAx0
import Derived.Test.YthejafdcdcchbaaDoorZPSimAx15
import Derived.Test.YthejafdcdcchbaaDoorZPSimAx16
import Derived.Test.YthejafdcdcchbaaDoorZPSimAx27
import Derived.Test.YthejafdcdcchbaaDoorZPSimAx29
namespace Go.Proofs.YthejafdcdcchbaaDoor.PSimA
open Go.RowKit Go.Proofs.YthejafdcdcchbaaDoorW.PrintWords Go.Proofs.YthejafdcdcchbaaDoorW.PrintLast Go.Proofs.YthejafdcdcchbaaDoorW.PrintMore
open Go.Proofs.YthejafdcdcchbaaDoorX
attribute [local go_sem] max2_int min2_int max_two min_two max_three min_three max_four min_four   -- for this text's walks alone
set_option linter.unusedVariables false
set_option linter.unusedSimpArgs false

/-! ### tangramlaw03_SimpleSames: function 7 -/
def tangramlaw03_SimpleSames.f (k : Nat) (a0_0 : Int) (l0_1 : List (S42)) (a1_0 : Int) (l1_1 : List (S42)) : Option (Bool) := (tangramlaw03_wakes.f).bind fun t286 => (if t286 = true then ((tangramref03_Same.f k a0_0 l0_1 a1_0 l1_1).bind fun t287 => ((tangramref03_Copy.f k a0_0 l0_1).bind fun bt288 => ((tangramref03_Copy.f k a1_0 l1_1).bind fun bt292 => ((simple_Same.f k bt288.1 bt288.2 bt292.1 bt292.2).bind fun t296 => (if (t296 == t287) = true then ((tangramref03_Copy.f k a1_0 l1_1).bind fun bt297 => ((tangramref03_Copy.f k a0_0 l0_1).bind fun bt301 => ((simple_Same.f k bt297.1 bt297.2 bt301.1 bt301.2).bind fun t305 => (some (t305 == t287))))) else (some false)))))) else (some false))
theorem tangramlaw03_SimpleSames.mono : ∀ a0 a1 a2 a3 k, LeO (tangramlaw03_SimpleSames.f k a0 a1 a2 a3) (tangramlaw03_SimpleSames.f (k + 1) a0 a1 a2 a3) := by
 intro a0 a1 a2 a3 k
 unfold tangramlaw03_SimpleSames.f
 repeat' first
   | (with_reducible exact simple_Same.mono _ _ _ _ _)
   | (with_reducible exact tangramref03_Copy.mono _ _ _)
   | (with_reducible exact tangramref03_Same.mono _ _ _ _ _)
   | (with_reducible exact LeO.refl _)
   | (with_reducible exact LeO.none _)
   | (with_reducible refine LeO.ite ?_ ?_)
   | (with_reducible refine LeO.bind ?_ (fun _ => ?_))
   | exact simple_Same.mono _ _ _ _ _
   | exact tangramref03_Copy.mono _ _ _
   | exact tangramref03_Same.mono _ _ _ _ _
   | exact LeO.none _
   | refine LeO.ite ?_ ?_
   | refine LeO.bind ?_ (fun _ => ?_)
def tangramlaw03_SimpleSames.T4 : Bool × List (List Nat × List Nat) := (true, [([], []), ([0], [0]), ([], []), ([2, 1], [2]), ([1, 3, 3], [1, 3]), ([], []), ([4, 5], [4, 5]), ([6, 4], [6]), ([7], [7]), ([8, 7, 7], [7, 8]), ([7], [7]), ([10, 9, 7], [7, 10]), ([9, 11, 11, 7], [7, 9, 11]), ([7], [7]), ([12, 13, 7], [7, 12, 13]), ([7, 14], [7, 14]), ([15, 12, 0, 1, 2, 3, 4, 5, 6, 7, 8, 9, 10, 11, 12, 13, 14, 15], [15])])
def tangramlaw03_SimpleSames.B4 : List Nat := [0, 1, 0, 7, 15, 0, 63, 127, 255, 511, 255, 2047, 4095, 255, 16383, 32767, 65535]
theorem tangramlaw03_SimpleSames.tab4 : rtab .any (opsOf Tryd.f7 4) = tangramlaw03_SimpleSames.T4 := by kernel_rfl
theorem tangramlaw03_SimpleSames.bits4 : waitsOk tangramlaw03_SimpleSames.T4.2 tangramlaw03_SimpleSames.B4 = true := by kernel_rfl
set_option maxHeartbeats 8000000 in
set_option maxRecDepth 100000 in
theorem tangramlaw03_SimpleSames.calls (k : Nat) (a0_0 : Int) (A0_1 : Option Addr) (c0_1 : Nat) (l0_1 : List (S42)) (a1_0 : Int) (A1_1 : Option Addr) (c1_1 : Nat) (l1_1 : List (S42)) (r : Bool) (w : World) (hT : TabW w) (hr0_1 : Kd.C k42 w A0_1 l0_1.length l0_1) (hc0_1 : l0_1.length ≤ c0_1) (hr1_1 : Kd.C k42 w A1_1 l1_1.length l1_1) (hc1_1 : l1_1.length ≤ c1_1) (h : tangramlaw03_SimpleSames.f k a0_0 l0_1 a1_0 l1_1 = some r) :
  Calls Tryd.prog 7 #[.agg #[.int .i64 a0_0, .slice A0_1 l0_1.length c0_1], .agg #[.int .i64 a1_0, .slice A1_1 l1_1.length c1_1]] w fun e w' => e = .returned (.bool r) ∧ Below w.heap.size w w' := by
 have HT := Aside0.mk hT; clear hT; have hu26 := Tryd.underlying26; have HR0_1 := Aside0.mk hr0_1; have HC0_1 := Aside0.mk hc0_1; clear hr0_1 hc0_1; have HR1_1 := Aside0.mk hr1_1; have HC1_1 := Aside0.mk hc1_1; clear hr1_1 hc1_1; have HB := Aside0.mk (Below.refl w.heap.size w); have H : ((tangramlaw03_wakes.f).bind fun t286 => (if t286 = true then ((tangramref03_Same.f k a0_0 l0_1 a1_0 l1_1).bind fun t287 => ((tangramref03_Copy.f k a0_0 l0_1).bind fun bt288 => ((tangramref03_Copy.f k a1_0 l1_1).bind fun bt292 => ((simple_Same.f k bt288.1 bt288.2 bt292.1 bt292.2).bind fun t296 => (if (t296 == t287) = true then ((tangramref03_Copy.f k a1_0 l1_1).bind fun bt297 => ((tangramref03_Copy.f k a0_0 l0_1).bind fun bt301 => ((simple_Same.f k bt297.1 bt297.2 bt301.1 bt301.2).bind fun t305 => (some (t305 == t287))))) else (some false)))))) else (some false))) = some r := h; clear h; replace H := Option.bind_eq_some_iff.mp H; obtain ⟨t286, A30, H⟩ := H; (try dsimp only at H)
 have A3 := Aside0.mk A30; clear A30
 by_cases c4 : t286 = true
 ·subst c4; rw [if_pos rfl] at H; replace H := Option.bind_eq_some_iff.mp H; obtain ⟨t287, A50, H⟩ := H; (try dsimp only at H); have A5 := Aside0.mk A50; clear A50; replace H := Option.bind_eq_some_iff.mp H; obtain ⟨⟨t288, t289⟩, A60, H⟩ := H; (try dsimp only at H); have A6 := Aside0.mk A60; clear A60; replace H := Option.bind_eq_some_iff.mp H; obtain ⟨⟨t292, t293⟩, A70, H⟩ := H; (try dsimp only at H)
  have A7 := Aside0.mk A70; clear A70; replace H := Option.bind_eq_some_iff.mp H; obtain ⟨t296, A80, H⟩ := H; (try dsimp only at H); have A8 := Aside0.mk A80; clear A80
  by_cases c9 : (t296 == t287) = true
  ·rw [if_pos c9] at H; have c9b0 : (t296 == t287) = true := c9
   (try (have c9b1 : decide (t296 = t287) = true := by simpa using c9))
   (try (have c9b2 : (t296 == t287) = true := by simpa using c9))
   clear c9; replace H := Option.bind_eq_some_iff.mp H; obtain ⟨⟨t297, t298⟩, A100, H⟩ := H; (try dsimp only at H); have A10 := Aside0.mk A100; clear A100; replace H := Option.bind_eq_some_iff.mp H; obtain ⟨⟨t301, t302⟩, A110, H⟩ := H; (try dsimp only at H); have A11 := Aside0.mk A110; clear A110; replace H := Option.bind_eq_some_iff.mp H; obtain ⟨t305, A120, H⟩ := H; (try dsimp only at H); have A12 := Aside0.mk A120; clear A120; obtain rfl := Option.some.inj H
   go_enter Tryd.func7, Tryd.ntmps7
   try go_wp2_with (first | ((with_reducible refine gate_dst (N := 2) rfl ?_); refine be_ 2 #[.int .i64 a0_0, .slice A0_1 l0_1.length c0_1] 26 ?_; intro gb284 hg w13 hbox hb; have BK284 := Aside0.mk (hbox); have GW284 := wq (hb0 HB) hg; have GE284 := wq (hb0 HB) hg; replace HB := hs (hb0 HB) hb; clear hb hbox hg) | ((with_reducible refine gate_dst (N := 3) rfl ?_); refine be_ 3 #[.int .i64 a1_0, .slice A1_1 l1_1.length c1_1] 26 ?_; intro gb285 hg w14 hbox hb; have BK285 := Aside0.mk (hbox); have GW285 := wq (hb1 HB GE284) hg; have GE285 := wq (hb1 HB GE284) hg; replace HB := hs (hb1 HB GE284) hb; have NB284_285 := lx BK284 hg; have NB285_284 := gx BK284 hg; replace BK284 := kx BK284 hb; clear hb hbox hg) | ((with_reducible refine gate_callee (f := 11) rfl ?_); refine gl_ (some 6) Tryd.func11 #[] ?_; (with_reducible refine (tangramlaw03_wakes.calls  true _ ?sideT A3.out).mono ?_); (case sideT => exact tb HT (hb0 HB)); rintro e w15 ⟨rfl, hb⟩; refine ⟨_, rfl, ?_⟩; replace BK284 := kx BK284 hb; replace BK285 := kx BK285 hb; replace HB := hs (hb2 HB GE284 GE285) hb; (try clear hb); (try clear hb2); (try clear hk); (try clear hi); have hnb16 := NB284_285.out; have hnc16 := NB285_284.out; have hcz17_0 : w15.cell? ⟨gb284, 0, none⟩ = some (.int .i64 a0_0) := bc BK284 0; have hcz17_1 : w15.cell? ⟨gb284, 1, none⟩ = some (.slice A0_1 l0_1.length c0_1) := bc BK284 1; have hfz17_0 := blk_frozen BK284.out 0; have hfz17_1 := blk_frozen BK284.out 1; have hcz18_0 : w15.cell? ⟨gb285, 0, none⟩ = some (.int .i64 a1_0) := bc BK285 0; have hcz18_1 : w15.cell? ⟨gb285, 1, none⟩ = some (.slice A1_1 l1_1.length c1_1) := bc BK285 1; have hfz18_0 := blk_frozen BK285.out 0; have hfz18_1 := blk_frozen BK285.out 1) | ((with_reducible refine gate_callee (f := 30) rfl ?_); refine gl_ (some 10) Tryd.func30 #[.agg #[.int .i64 a0_0, .slice A0_1 l0_1.length c0_1], .agg #[.int .i64 a1_0, .slice A1_1 l1_1.length c1_1]] ?_; (with_reducible refine (tangramref03_Same.calls k a0_0 _ _ l0_1 a1_0 _ _ l1_1 t287 _ ?side1 ?side2 ?side3 ?side4 A5.out).mono ?_); (case side1 => repeat (first | exact (Kd.C_below HR0_1.out HB.out) | (with_reducible refine Kd.C_alloc ?_ _) | (with_reducible refine Kd.C_drewN ?_ _) | (with_reducible refine Kd.C_drew ?_))); (case side2 => exact HC0_1.out); (case side3 => repeat (first | exact (Kd.C_below HR1_1.out HB.out) | (with_reducible refine Kd.C_alloc ?_ _) | (with_reducible refine Kd.C_drewN ?_ _) | (with_reducible refine Kd.C_drew ?_))); (case side4 => exact HC1_1.out); rintro e w19 ⟨rfl, hb⟩; refine ⟨_, rfl, ?_⟩; replace BK284 := kx BK284 hb; replace BK285 := kx BK285 hb; replace HB := hs (hb2 HB GE284 GE285) hb; (try clear hb); (try clear hb2); (try clear hk); (try clear hi)))
   replace BK284 := bd BK284; replace BK285 := bd BK285; replace HB := Aside0.mk (below_drew1 HB.out); refine start_ (n := 17) (S := fun w' => w'.cell? ⟨gb284, 0, none⟩ = some (.int .i64 a0_0) ∧ w'.cell? ⟨gb284, 1, none⟩ = some (.slice A0_1 l0_1.length c0_1) ∧ w'.cell? ⟨gb285, 0, none⟩ = some (.int .i64 a1_0) ∧ w'.cell? ⟨gb285, 1, none⟩ = some (.slice A1_1 l1_1.length c1_1)) (ds := []) (pf 0 17) (by kernel_rfl) rfl rfl ⟨bc BK284 0, bc BK284 1, bc BK285 0, bc BK285 1⟩ (fun hHeld => ?_); refine with_tabW tangramlaw03_SimpleSames.tab4 tangramlaw03_SimpleSames.bits4 (fun HT_ HW_ => ?_); generalize w19.drew = w20 at BK284 BK285 HB hHeld ⊢; refine pu_ 5 (some 16) #[F_,F_,F_,F_,F_,T_,F_,F_,F_,F_,F_,F_,F_,F_,F_,F_,F_] HT_ ?_; refine tk4_ 0 (some 11) #[T_,F_,F_,F_,F_,T_,F_,F_,F_,F_,F_,F_,F_,F_,F_,F_,F_] HT_ HW_ hHeld ?_; refine tk4_ 2 (some 13) #[T_,F_,T_,F_,F_,T_,F_,F_,F_,F_,F_,F_,F_,F_,F_,F_,F_] HT_ HW_ hHeld ?_; refine on_ 1 (some 12) #[T_,T_,T_,F_,F_,T_,F_,F_,F_,F_,F_,F_,F_,F_,F_,F_,F_] HT_ (fun K hK => ?_); refine gs_ Tryd.func18 #[.agg #[.int .i64 a0_0, .slice A0_1 l0_1.length c0_1]] ?_
   with_reducible refine (tangramref03_Copy.calls k a0_0 _ _ l0_1 t288 t289 _ ?side1 ?side2 A6.out).mono ?_
   (case side1 => repeat (first | exact (Kd.C_below HR0_1.out HB.out) | (with_reducible refine Kd.C_alloc ?_ _) | (with_reducible refine Kd.C_drewN ?_ _) | (with_reducible refine Kd.C_drew ?_)))
   (case side2 => exact HC0_1.out)
   rintro e w21 ⟨v290, rfl, ho0, hb⟩; refine ⟨_, rfl, ?_⟩; have HO291 := Aside0.mk (Kd.R_lower ho0 (below_size (hb2 HB GE284 GE285))); replace BK284 := kx BK284 hb; replace BK285 := kx BK285 hb; replace HB := hs (hb2 HB GE284 GE285) hb
   (try clear hb)
   (try clear hb2)
   (try clear hk)
   (try clear hi)
   (try clear ho0)
   refine hK.out _ _ ⟨bc BK284 0, bc BK284 1, bc BK285 0, bc BK285 1⟩ (fun hHeld => ?_); clear hK K; refine nm_ (some 12) ?_; refine on_ 3 (some 14) #[T_,T_,T_,T_,F_,T_,F_,F_,F_,F_,F_,F_,F_,F_,F_,F_,F_] HT_ (fun K hK => ?_); refine gs_ Tryd.func18 #[.agg #[.int .i64 a1_0, .slice A1_1 l1_1.length c1_1]] ?_
   with_reducible refine (tangramref03_Copy.calls k a1_0 _ _ l1_1 t292 t293 _ ?side1 ?side2 A7.out).mono ?_
   (case side1 => repeat (first | exact (Kd.C_below HR1_1.out HB.out) | (with_reducible refine Kd.C_alloc ?_ _) | (with_reducible refine Kd.C_drewN ?_ _) | (with_reducible refine Kd.C_drew ?_)))
   (case side2 => exact HC1_1.out)
   rintro e w22 ⟨v294, rfl, ho0, hb⟩; refine ⟨_, rfl, ?_⟩; have HO295 := Aside0.mk (Kd.R_lower (Kd.R_new' ho0 (Kd.R_lt (rx HO291))) (below_size (hb2 HB GE284 GE285))); replace HO291 := el (rx HO291) ho0 hb; replace BK284 := kx BK284 hb; replace BK285 := kx BK285 hb; replace HB := hs (hb2 HB GE284 GE285) hb
   (try clear hb)
   (try clear hb2)
   (try clear hk)
   (try clear hi)
   (try clear ho0)
   obtain ⟨Ao23, co23, eo23⟩ := Kd.R_slice HO291.out
   (first | subst eo23 | obtain ⟨rfl, rfl⟩ := sx eo23)
   obtain ⟨Ao24, co24, eo24⟩ := Kd.R_slice HO295.out
   (first | subst eo24 | obtain ⟨rfl, rfl⟩ := sx eo24)
   refine hK.out _ _ ⟨bc BK284 0, bc BK284 1, bc BK285 0, bc BK285 1⟩ (fun hHeld => ?_); clear hK K; refine nm_ (some 14) ?_; refine on_ 4 (some 15) (pf 6 17) HT_ (fun K hK => ?_); refine gs_ Tryd.func31 #[.agg #[.int .i64 t288, .slice Ao23 t289.length co23], .agg #[.int .i64 t292, .slice Ao24 t293.length co24]] ?_
   with_reducible refine (simple_Same.calls k t288 _ _ t289 t292 _ _ t293 t296 _ ?side1 ?side2 ?side3 ?side4 A8.out).mono ?_
   (case side1 => exact cr HO291)
   (case side2 => exact (Kd.R_reads' HO291.out).2.1)
   (case side3 => exact cr HO295)
   (case side4 => exact (Kd.R_reads' HO295.out).2.1)
   rintro e w25 ⟨rfl, hb⟩; refine ⟨_, rfl, ?_⟩; replace HO291 := ry HO291 hb; replace HO295 := ry HO295 hb; replace BK284 := kx BK284 hb; replace BK285 := kx BK285 hb; replace HB := hs (hb2 HB GE284 GE285) hb
   (try clear hb)
   (try clear hb2)
   (try clear hk)
   (try clear hi)
   refine hK.out _ _ ⟨bc BK284 0, bc BK284 1, bc BK285 0, bc BK285 1⟩ (fun hHeld => ?_); clear hK K; refine nm_ (some 15) ?_; refine pu_ 6 (some 17) (pf 7 17) HT_ ?_; refine pu_ 7 (some 18) (pf 8 17) HT_ ?_; refine pu_ 13 (some 24) #[T_,T_,T_,T_,T_,T_,T_,T_,F_,F_,F_,F_,F_,T_,F_,F_,F_] HT_ ?_; refine tk4_ 8 (some 19) #[T_,T_,T_,T_,T_,T_,T_,T_,T_,F_,F_,F_,F_,T_,F_,F_,F_] HT_ HW_ hHeld ?_; refine tk4_ 10 (some 21) #[T_,T_,T_,T_,T_,T_,T_,T_,T_,F_,T_,F_,F_,T_,F_,F_,F_] HT_ HW_ hHeld ?_; refine on_ 9 (some 20) #[T_,T_,T_,T_,T_,T_,T_,T_,T_,T_,T_,F_,F_,T_,F_,F_,F_] HT_ (fun K hK => ?_); refine gs_ Tryd.func18 #[.agg #[.int .i64 a1_0, .slice A1_1 l1_1.length c1_1]] ?_
   with_reducible refine (tangramref03_Copy.calls k a1_0 _ _ l1_1 t297 t298 _ ?side1 ?side2 A10.out).mono ?_
   (case side1 => repeat (first | exact (Kd.C_below HR1_1.out HB.out) | (with_reducible refine Kd.C_alloc ?_ _) | (with_reducible refine Kd.C_drewN ?_ _) | (with_reducible refine Kd.C_drew ?_)))
   (case side2 => exact HC1_1.out)
   rintro e w26 ⟨v299, rfl, ho0, hb⟩; refine ⟨_, rfl, ?_⟩; have HO300 := Aside0.mk (Kd.R_lower (Kd.R_new' (Kd.R_new' ho0 (Kd.R_lt (rx HO291))) (Kd.R_lt (rx HO295))) (below_size (hb2 HB GE284 GE285))); replace HO291 := el (rx HO291) ho0 hb; replace HO295 := el (rx HO295) ho0 hb; replace BK284 := kx BK284 hb; replace BK285 := kx BK285 hb; replace HB := hs (hb2 HB GE284 GE285) hb
   (try clear hb)
   (try clear hb2)
   (try clear hk)
   (try clear hi)
   (try clear ho0)
   refine hK.out _ _ ⟨bc BK284 0, bc BK284 1, bc BK285 0, bc BK285 1⟩ (fun hHeld => ?_); clear hK K; refine nm_ (some 20) ?_; refine on_ 11 (some 22) #[T_,T_,T_,T_,T_,T_,T_,T_,T_,T_,T_,T_,F_,T_,F_,F_,F_] HT_ (fun K hK => ?_); refine gs_ Tryd.func18 #[.agg #[.int .i64 a0_0, .slice A0_1 l0_1.length c0_1]] ?_
   with_reducible refine (tangramref03_Copy.calls k a0_0 _ _ l0_1 t301 t302 _ ?side1 ?side2 A11.out).mono ?_
   (case side1 => repeat (first | exact (Kd.C_below HR0_1.out HB.out) | (with_reducible refine Kd.C_alloc ?_ _) | (with_reducible refine Kd.C_drewN ?_ _) | (with_reducible refine Kd.C_drew ?_)))
   (case side2 => exact HC0_1.out)
   rintro e w27 ⟨v303, rfl, ho0, hb⟩; refine ⟨_, rfl, ?_⟩; have HO304 := Aside0.mk (Kd.R_lower (Kd.R_new' (Kd.R_new' (Kd.R_new' ho0 (Kd.R_lt (rx HO291))) (Kd.R_lt (rx HO295))) (Kd.R_lt (rx HO300))) (below_size (hb2 HB GE284 GE285))); replace HO291 := el (rx HO291) ho0 hb; replace HO295 := el (rx HO295) ho0 hb; replace HO300 := el (rx HO300) ho0 hb; replace BK284 := kx BK284 hb; replace BK285 := kx BK285 hb; replace HB := hs (hb2 HB GE284 GE285) hb
   (try clear hb)
   (try clear hb2)
   (try clear hk)
   (try clear hi)
   (try clear ho0)
   obtain ⟨Ao28, co28, eo28⟩ := Kd.R_slice HO300.out
   (first | subst eo28 | obtain ⟨rfl, rfl⟩ := sx eo28)
   obtain ⟨Ao29, co29, eo29⟩ := Kd.R_slice HO304.out
   (first | subst eo29 | obtain ⟨rfl, rfl⟩ := sx eo29)
   refine hK.out _ _ ⟨bc BK284 0, bc BK284 1, bc BK285 0, bc BK285 1⟩ (fun hHeld => ?_); clear hK K; refine nm_ (some 22) ?_; refine on_ 12 (some 23) (pf 14 17) HT_ (fun K hK => ?_); refine gs_ Tryd.func31 #[.agg #[.int .i64 t297, .slice Ao28 t298.length co28], .agg #[.int .i64 t301, .slice Ao29 t302.length co29]] ?_
   with_reducible refine (simple_Same.calls k t297 _ _ t298 t301 _ _ t302 t305 _ ?side1 ?side2 ?side3 ?side4 A12.out).mono ?_
   (case side1 => exact cr HO300)
   (case side2 => exact (Kd.R_reads' HO300.out).2.1)
   (case side3 => exact cr HO304)
   (case side4 => exact (Kd.R_reads' HO304.out).2.1)
   rintro e w30 ⟨rfl, hb⟩; refine ⟨_, rfl, ?_⟩; replace HO291 := ry HO291 hb; replace HO295 := ry HO295 hb; replace HO300 := ry HO300 hb; replace HO304 := ry HO304 hb; replace BK284 := kx BK284 hb; replace BK285 := kx BK285 hb; replace HB := hs (hb2 HB GE284 GE285) hb
   (try clear hb)
   (try clear hb2)
   (try clear hk)
   (try clear hi)
   refine hK.out _ _ ⟨bc BK284 0, bc BK284 1, bc BK285 0, bc BK285 1⟩ (fun hHeld => ?_); clear hK K; refine nm_ (some 23) ?_; refine pu_ 14 (some 25) (pf 15 17) HT_ ?_; refine pu_ 15 (some 26) (pf 16 17) HT_ ?_; refine pu_ 16 (some 4) (pf 17 17) HT_ ?_; refine done_ (done_of HT_.out (by kernel_rfl)) ?_
   try go_wp2
   go_ret
   exact ⟨by first | rfl | (simp [errW_none, errW_some] <;> rfl) | (simp [*, errW_none, errW_some] <;> rfl), hb2 HB GE284 GE285⟩
  ·rw [if_neg c9] at H; have c9b0 : (t296 == t287) = false := by simpa using c9
   (try (have c9b1 : decide (t296 = t287) = false := by simpa using c9))
   (try (have c9b2 : (t296 == t287) = false := by simpa using c9))
   (try (have c9b3 : ¬ (t296 = t287) := by simpa using c9))
   clear c9; obtain rfl := Option.some.inj H
   go_enter Tryd.func7, Tryd.ntmps7
   try go_wp2_with (first | ((with_reducible refine gate_dst (N := 2) rfl ?_); refine be_ 2 #[.int .i64 a0_0, .slice A0_1 l0_1.length c0_1] 26 ?_; intro gb284 hg w31 hbox hb; have BK284 := Aside0.mk (hbox); have GW284 := wq (hb0 HB) hg; have GE284 := wq (hb0 HB) hg; replace HB := hs (hb0 HB) hb; clear hb hbox hg) | ((with_reducible refine gate_dst (N := 3) rfl ?_); refine be_ 3 #[.int .i64 a1_0, .slice A1_1 l1_1.length c1_1] 26 ?_; intro gb285 hg w32 hbox hb; have BK285 := Aside0.mk (hbox); have GW285 := wq (hb1 HB GE284) hg; have GE285 := wq (hb1 HB GE284) hg; replace HB := hs (hb1 HB GE284) hb; have NB284_285 := lx BK284 hg; have NB285_284 := gx BK284 hg; replace BK284 := kx BK284 hb; clear hb hbox hg) | ((with_reducible refine gate_callee (f := 11) rfl ?_); refine gl_ (some 6) Tryd.func11 #[] ?_; (with_reducible refine (tangramlaw03_wakes.calls  true _ ?sideT A3.out).mono ?_); (case sideT => exact tb HT (hb0 HB)); rintro e w33 ⟨rfl, hb⟩; refine ⟨_, rfl, ?_⟩; replace BK284 := kx BK284 hb; replace BK285 := kx BK285 hb; replace HB := hs (hb2 HB GE284 GE285) hb; (try clear hb); (try clear hb2); (try clear hk); (try clear hi); have hnb34 := NB284_285.out; have hnc34 := NB285_284.out; have hcz35_0 : w33.cell? ⟨gb284, 0, none⟩ = some (.int .i64 a0_0) := bc BK284 0; have hcz35_1 : w33.cell? ⟨gb284, 1, none⟩ = some (.slice A0_1 l0_1.length c0_1) := bc BK284 1; have hfz35_0 := blk_frozen BK284.out 0; have hfz35_1 := blk_frozen BK284.out 1; have hcz36_0 : w33.cell? ⟨gb285, 0, none⟩ = some (.int .i64 a1_0) := bc BK285 0; have hcz36_1 : w33.cell? ⟨gb285, 1, none⟩ = some (.slice A1_1 l1_1.length c1_1) := bc BK285 1; have hfz36_0 := blk_frozen BK285.out 0; have hfz36_1 := blk_frozen BK285.out 1) | ((with_reducible refine gate_callee (f := 30) rfl ?_); refine gl_ (some 10) Tryd.func30 #[.agg #[.int .i64 a0_0, .slice A0_1 l0_1.length c0_1], .agg #[.int .i64 a1_0, .slice A1_1 l1_1.length c1_1]] ?_; (with_reducible refine (tangramref03_Same.calls k a0_0 _ _ l0_1 a1_0 _ _ l1_1 t287 _ ?side1 ?side2 ?side3 ?side4 A5.out).mono ?_); (case side1 => repeat (first | exact (Kd.C_below HR0_1.out HB.out) | (with_reducible refine Kd.C_alloc ?_ _) | (with_reducible refine Kd.C_drewN ?_ _) | (with_reducible refine Kd.C_drew ?_))); (case side2 => exact HC0_1.out); (case side3 => repeat (first | exact (Kd.C_below HR1_1.out HB.out) | (with_reducible refine Kd.C_alloc ?_ _) | (with_reducible refine Kd.C_drewN ?_ _) | (with_reducible refine Kd.C_drew ?_))); (case side4 => exact HC1_1.out); rintro e w37 ⟨rfl, hb⟩; refine ⟨_, rfl, ?_⟩; replace BK284 := kx BK284 hb; replace BK285 := kx BK285 hb; replace HB := hs (hb2 HB GE284 GE285) hb; (try clear hb); (try clear hb2); (try clear hk); (try clear hi)))
   replace BK284 := bd BK284; replace BK285 := bd BK285; replace HB := Aside0.mk (below_drew1 HB.out); refine start_ (n := 17) (S := fun w' => w'.cell? ⟨gb284, 0, none⟩ = some (.int .i64 a0_0) ∧ w'.cell? ⟨gb284, 1, none⟩ = some (.slice A0_1 l0_1.length c0_1) ∧ w'.cell? ⟨gb285, 0, none⟩ = some (.int .i64 a1_0) ∧ w'.cell? ⟨gb285, 1, none⟩ = some (.slice A1_1 l1_1.length c1_1)) (ds := []) (pf 0 17) (by kernel_rfl) rfl rfl ⟨bc BK284 0, bc BK284 1, bc BK285 0, bc BK285 1⟩ (fun hHeld => ?_); refine with_tabW tangramlaw03_SimpleSames.tab4 tangramlaw03_SimpleSames.bits4 (fun HT_ HW_ => ?_); generalize w37.drew = w38 at BK284 BK285 HB hHeld ⊢; refine pu_ 5 (some 16) #[F_,F_,F_,F_,F_,T_,F_,F_,F_,F_,F_,F_,F_,F_,F_,F_,F_] HT_ ?_; refine tk4_ 0 (some 11) #[T_,F_,F_,F_,F_,T_,F_,F_,F_,F_,F_,F_,F_,F_,F_,F_,F_] HT_ HW_ hHeld ?_; refine tk4_ 2 (some 13) #[T_,F_,T_,F_,F_,T_,F_,F_,F_,F_,F_,F_,F_,F_,F_,F_,F_] HT_ HW_ hHeld ?_; refine on_ 1 (some 12) #[T_,T_,T_,F_,F_,T_,F_,F_,F_,F_,F_,F_,F_,F_,F_,F_,F_] HT_ (fun K hK => ?_); refine gs_ Tryd.func18 #[.agg #[.int .i64 a0_0, .slice A0_1 l0_1.length c0_1]] ?_
   with_reducible refine (tangramref03_Copy.calls k a0_0 _ _ l0_1 t288 t289 _ ?side1 ?side2 A6.out).mono ?_
   (case side1 => repeat (first | exact (Kd.C_below HR0_1.out HB.out) | (with_reducible refine Kd.C_alloc ?_ _) | (with_reducible refine Kd.C_drewN ?_ _) | (with_reducible refine Kd.C_drew ?_)))
   (case side2 => exact HC0_1.out)
   rintro e w39 ⟨v290, rfl, ho0, hb⟩; refine ⟨_, rfl, ?_⟩; have HO291 := Aside0.mk (Kd.R_lower ho0 (below_size (hb2 HB GE284 GE285))); replace BK284 := kx BK284 hb; replace BK285 := kx BK285 hb; replace HB := hs (hb2 HB GE284 GE285) hb
   (try clear hb)
   (try clear hb2)
   (try clear hk)
   (try clear hi)
   (try clear ho0)
   refine hK.out _ _ ⟨bc BK284 0, bc BK284 1, bc BK285 0, bc BK285 1⟩ (fun hHeld => ?_); clear hK K; refine nm_ (some 12) ?_; refine on_ 3 (some 14) #[T_,T_,T_,T_,F_,T_,F_,F_,F_,F_,F_,F_,F_,F_,F_,F_,F_] HT_ (fun K hK => ?_); refine gs_ Tryd.func18 #[.agg #[.int .i64 a1_0, .slice A1_1 l1_1.length c1_1]] ?_
   with_reducible refine (tangramref03_Copy.calls k a1_0 _ _ l1_1 t292 t293 _ ?side1 ?side2 A7.out).mono ?_
   (case side1 => repeat (first | exact (Kd.C_below HR1_1.out HB.out) | (with_reducible refine Kd.C_alloc ?_ _) | (with_reducible refine Kd.C_drewN ?_ _) | (with_reducible refine Kd.C_drew ?_)))
   (case side2 => exact HC1_1.out)
   rintro e w40 ⟨v294, rfl, ho0, hb⟩; refine ⟨_, rfl, ?_⟩; have HO295 := Aside0.mk (Kd.R_lower (Kd.R_new' ho0 (Kd.R_lt (rx HO291))) (below_size (hb2 HB GE284 GE285))); replace HO291 := el (rx HO291) ho0 hb; replace BK284 := kx BK284 hb; replace BK285 := kx BK285 hb; replace HB := hs (hb2 HB GE284 GE285) hb
   (try clear hb)
   (try clear hb2)
   (try clear hk)
   (try clear hi)
   (try clear ho0)
   obtain ⟨Ao41, co41, eo41⟩ := Kd.R_slice HO291.out
   (first | subst eo41 | obtain ⟨rfl, rfl⟩ := sx eo41)
   obtain ⟨Ao42, co42, eo42⟩ := Kd.R_slice HO295.out
   (first | subst eo42 | obtain ⟨rfl, rfl⟩ := sx eo42)
   refine hK.out _ _ ⟨bc BK284 0, bc BK284 1, bc BK285 0, bc BK285 1⟩ (fun hHeld => ?_); clear hK K; refine nm_ (some 14) ?_; refine on_ 4 (some 15) (pf 6 17) HT_ (fun K hK => ?_); refine gs_ Tryd.func31 #[.agg #[.int .i64 t288, .slice Ao41 t289.length co41], .agg #[.int .i64 t292, .slice Ao42 t293.length co42]] ?_
   with_reducible refine (simple_Same.calls k t288 _ _ t289 t292 _ _ t293 t296 _ ?side1 ?side2 ?side3 ?side4 A8.out).mono ?_
   (case side1 => exact cr HO291)
   (case side2 => exact (Kd.R_reads' HO291.out).2.1)
   (case side3 => exact cr HO295)
   (case side4 => exact (Kd.R_reads' HO295.out).2.1)
   rintro e w43 ⟨rfl, hb⟩; refine ⟨_, rfl, ?_⟩; replace HO291 := ry HO291 hb; replace HO295 := ry HO295 hb; replace BK284 := kx BK284 hb; replace BK285 := kx BK285 hb; replace HB := hs (hb2 HB GE284 GE285) hb
   (try clear hb)
   (try clear hb2)
   (try clear hk)
   (try clear hi)
   refine hK.out _ _ ⟨bc BK284 0, bc BK284 1, bc BK285 0, bc BK285 1⟩ (fun hHeld => ?_); clear hK K; refine nm_ (some 15) ?_; refine pu_ 6 (some 17) (pf 7 17) HT_ ?_; refine pu_ 7 (some 18) (pf 8 17) HT_ ?_; refine pn_ 8 (some 19) (pf 9 17) HT_ ?_; refine pn_ 9 (some 20) (pf 10 17) HT_ ?_; refine pn_ 10 (some 21) (pf 11 17) HT_ ?_; refine pn_ 11 (some 22) (pf 12 17) HT_ ?_; refine pn_ 12 (some 23) (pf 13 17) HT_ ?_; refine pn_ 13 (some 24) (pf 14 17) HT_ ?_; refine pn_ 14 (some 25) (pf 15 17) HT_ ?_; refine pu_ 15 (some 26) (pf 16 17) HT_ ?_; refine pu_ 16 (some 4) (pf 17 17) HT_ ?_; refine done_ (done_of HT_.out (by kernel_rfl)) ?_
   try go_wp2
   go_ret
   exact ⟨by first | rfl | (simp [errW_none, errW_some] <;> rfl) | (simp [*, errW_none, errW_some] <;> rfl), hb2 HB GE284 GE285⟩
 ·replace c4 := Bool.eq_false_iff.mpr c4; subst c4; rw [if_neg (show ¬ (false = true) by decide)] at H; obtain rfl := Option.some.inj H
  go_enter Tryd.func7, Tryd.ntmps7
  go_wp2_with (first | ((with_reducible refine gate_dst (N := 2) rfl ?_); refine be_ 2 #[.int .i64 a0_0, .slice A0_1 l0_1.length c0_1] 26 ?_; intro gb284 hg w44 hbox hb; have BK284 := Aside0.mk (hbox); have GW284 := wq (hb0 HB) hg; have GE284 := wq (hb0 HB) hg; replace HB := hs (hb0 HB) hb; clear hb hbox hg) | ((with_reducible refine gate_dst (N := 3) rfl ?_); refine be_ 3 #[.int .i64 a1_0, .slice A1_1 l1_1.length c1_1] 26 ?_; intro gb285 hg w45 hbox hb; have BK285 := Aside0.mk (hbox); have GW285 := wq (hb1 HB GE284) hg; have GE285 := wq (hb1 HB GE284) hg; replace HB := hs (hb1 HB GE284) hb; have NB284_285 := lx BK284 hg; have NB285_284 := gx BK284 hg; replace BK284 := kx BK284 hb; clear hb hbox hg) | ((with_reducible refine gate_callee (f := 11) rfl ?_); refine gl_ (some 6) Tryd.func11 #[] ?_; (with_reducible refine (tangramlaw03_wakes.calls  false _ ?sideT A3.out).mono ?_); (case sideT => exact tb HT (hb0 HB)); rintro e w46 ⟨rfl, hb⟩; refine ⟨_, rfl, ?_⟩; replace BK284 := kx BK284 hb; replace BK285 := kx BK285 hb; replace HB := hs (hb2 HB GE284 GE285) hb; (try clear hb); (try clear hb2); (try clear hk); (try clear hi)))
  go_ret
  exact ⟨by first | rfl | (simp [errW_none, errW_some] <;> rfl) | (simp [*, errW_none, errW_some] <;> rfl), hb2 HB GE284 GE285⟩

end Go.Proofs.YthejafdcdcchbaaDoor.PSimA
