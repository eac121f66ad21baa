-- PRINTED by print.py (a twelfth state) out of the translation. Not trusted: Lean checks it.
import Derived.Test.YthfoliejhdpbaaaZPCroAx0
import Derived.Test.YthfoliejhdpbaaaZPCroAx3
import Derived.Test.YthfoliejhdpbaaaZPCroAx9
import Derived.Test.YthfoliejhdpbaaaZPCroAx30
import Derived.Test.YthfoliejhdpbaaaZPCroAx31
namespace Go.Proofs.Ythfoliejhdpbaaa.PCroA
open Go.RowKit Go.Proofs.YthfoliejhdpbaaaW.PrintWords Go.Proofs.YthfoliejhdpbaaaW.PrintLast Go.Proofs.YthfoliejhdpbaaaW.PrintMore
open Go.Proofs.YthfoliejhdpbaaaX
attribute [local go_sem] max2_int min2_int max_two min_two max_three min_three max_four min_four   -- for this text's walks alone
set_option linter.unusedVariables false
set_option linter.unusedSimpArgs false

/-! ### tangramlaw26_CrossTurns: function 4 -/
mutual
def tangramlaw26_CrossTurns.j0 : Nat → Int → Bool → Int → Int → Int → Int → Int → Int → Int → Int → Option (Bool)
 | 0, _, _, _, _, _, _, _, _, _, _ => none
 | k + 1, x9, x48, x422000, x422001, x423000, x423001, x424000, x424001, x425000, x425001 => if x48 = true then (some false) else ((cross_On.f k x422000 x422001 x423000 x423001 x424000 x424001).bind fun t430 => ((cross_On.f k x423000 x423001 x422000 x422001 x424000 x424001).bind fun t431 => (if (t430 != t431) = true then (tangramlaw26_CrossTurns.j1 k true x422000 x422001 x423000 x423001 x424000 x424001 x425000 x425001) else ((cross_On.f k x422000 x422001 x423000 x423001 x424000 x424001).bind fun t432 => (if t432 = true then (tangramlaw26_CrossTurns.j1 k (x9 != 0) x422000 x422001 x423000 x423001 x424000 x424001 x425000 x425001) else (tangramlaw26_CrossTurns.j1 k false x422000 x422001 x423000 x423001 x424000 x424001 x425000 x425001))))))
def tangramlaw26_CrossTurns.j1 : Nat → Bool → Int → Int → Int → Int → Int → Int → Int → Int → Option (Bool)
 | 0, _, _, _, _, _, _, _, _, _ => none
 | k + 1, x67, x422000, x422001, x423000, x423001, x424000, x424001, x425000, x425001 => if x67 = true then (some false) else ((cross_Meet.f k x422000 x422001 x423000 x423001 x424000 x424001 x425000 x425001).bind fun t433 => ((cross_Meet.f k x423000 x423001 x422000 x422001 x424000 x424001 x425000 x425001).bind fun t434 => (if (t433 != t434) = true then (tangramlaw26_CrossTurns.j2 k t433 true x422000 x422001 x423000 x423001 x424000 x424001 x425000 x425001) else ((cross_Meet.f k x422000 x422001 x423000 x423001 x425000 x425001 x424000 x424001).bind fun t435 => (if (t433 != t435) = true then (tangramlaw26_CrossTurns.j2 k t433 true x422000 x422001 x423000 x423001 x424000 x424001 x425000 x425001) else ((cross_Meet.f k x424000 x424001 x425000 x425001 x422000 x422001 x423000 x423001).bind fun t436 => (tangramlaw26_CrossTurns.j2 k t433 (t433 != t436) x422000 x422001 x423000 x423001 x424000 x424001 x425000 x425001)))))))
def tangramlaw26_CrossTurns.j2 : Nat → Bool → Bool → Int → Int → Int → Int → Int → Int → Int → Int → Option (Bool)
 | 0, _, _, _, _, _, _, _, _, _, _ => none
 | k + 1, x10, x97, x422000, x422001, x423000, x423001, x424000, x424001, x425000, x425001 => if x97 = true then (some false) else ((cross_On.f k x422000 x422001 x423000 x423001 x424000 x424001).bind fun t437 => (if t437 = true then (tangramlaw26_CrossTurns.j3 k x10 true x422000 x422001 x423000 x423001 x424000 x424001 x425000 x425001) else ((cross_On.f k x422000 x422001 x423000 x423001 x425000 x425001).bind fun t438 => (if t438 = true then (tangramlaw26_CrossTurns.j3 k x10 true x422000 x422001 x423000 x423001 x424000 x424001 x425000 x425001) else ((cross_On.f k x424000 x424001 x425000 x425001 x422000 x422001).bind fun t439 => (if t439 = true then (tangramlaw26_CrossTurns.j3 k x10 true x422000 x422001 x423000 x423001 x424000 x424001 x425000 x425001) else ((cross_On.f k x424000 x424001 x425000 x425001 x423000 x423001).bind fun t440 => (tangramlaw26_CrossTurns.j3 k x10 t440 x422000 x422001 x423000 x423001 x424000 x424001 x425000 x425001))))))))
def tangramlaw26_CrossTurns.j3 : Nat → Bool → Bool → Int → Int → Int → Int → Int → Int → Int → Int → Option (Bool)
 | 0, _, _, _, _, _, _, _, _, _, _ => none
 | k + 1, x10, x11, x422000, x422001, x423000, x423001, x424000, x424001, x425000, x425001 => if x11 = true then (if x10 = true then (some true) else ((tangramref26_Beyond.f x422000 x422001).bind fun t441 => (if t441 = true then (some true) else ((tangramref26_Beyond.f x423000 x423001).bind fun t442 => (if t442 = true then (some true) else ((tangramref26_Beyond.f x424000 x424001).bind fun t443 => (if t443 = true then (some true) else ((tangramref26_Beyond.f x425000 x425001).bind fun t444 => (if t444 = true then (some true) else (some false)))))))))) else (some true)
end
def tangramlaw26_CrossTurns.f (k : Nat) (a0_0 : Int) (a0_1 : Int) (a1_0 : Int) (a1_1 : Int) (a2_0 : Int) (a2_1 : Int) (a3_0 : Int) (a3_1 : Int) : Option (Bool) := (tangramlaw26_awake.f k).bind fun t425 => (if t425 = true then ((cross_Turn.f k a0_0 a0_1 a1_0 a1_1 a2_0 a2_1).bind fun t426 => ((cross_Turn.f k a1_0 a1_1 a2_0 a2_1 a0_0 a0_1).bind fun t427 => (if t426 = t427 then ((cross_Turn.f k a2_0 a2_1 a0_0 a0_1 a1_0 a1_1).bind fun t428 => (if t426 = t428 then ((cross_Turn.f k a1_0 a1_1 a0_0 a0_1 a2_0 a2_1).bind fun t429 => (if t426 = (wrap64 (-t429)) then (if t426 < (-1) then (tangramlaw26_CrossTurns.j0 k t426 true a0_0 a0_1 a1_0 a1_1 a2_0 a2_1 a3_0 a3_1) else (tangramlaw26_CrossTurns.j0 k t426 (decide (t426 > 1)) a0_0 a0_1 a1_0 a1_1 a2_0 a2_1 a3_0 a3_1)) else (tangramlaw26_CrossTurns.j0 k t426 true a0_0 a0_1 a1_0 a1_1 a2_0 a2_1 a3_0 a3_1))) else (tangramlaw26_CrossTurns.j0 k t426 true a0_0 a0_1 a1_0 a1_1 a2_0 a2_1 a3_0 a3_1))) else (tangramlaw26_CrossTurns.j0 k t426 true a0_0 a0_1 a1_0 a1_1 a2_0 a2_1 a3_0 a3_1)))) else (some false))
theorem tangramlaw26_CrossTurns.mono_l : ∀ k, (∀ y0 y1 y2 y3 y4 y5 y6 y7 y8 y9, LeO (tangramlaw26_CrossTurns.j0 k y0 y1 y2 y3 y4 y5 y6 y7 y8 y9) (tangramlaw26_CrossTurns.j0 (k + 1) y0 y1 y2 y3 y4 y5 y6 y7 y8 y9)) ∧ (∀ y0 y1 y2 y3 y4 y5 y6 y7 y8, LeO (tangramlaw26_CrossTurns.j1 k y0 y1 y2 y3 y4 y5 y6 y7 y8) (tangramlaw26_CrossTurns.j1 (k + 1) y0 y1 y2 y3 y4 y5 y6 y7 y8)) ∧ (∀ y0 y1 y2 y3 y4 y5 y6 y7 y8 y9, LeO (tangramlaw26_CrossTurns.j2 k y0 y1 y2 y3 y4 y5 y6 y7 y8 y9) (tangramlaw26_CrossTurns.j2 (k + 1) y0 y1 y2 y3 y4 y5 y6 y7 y8 y9)) ∧ (∀ y0 y1 y2 y3 y4 y5 y6 y7 y8 y9, LeO (tangramlaw26_CrossTurns.j3 k y0 y1 y2 y3 y4 y5 y6 y7 y8 y9) (tangramlaw26_CrossTurns.j3 (k + 1) y0 y1 y2 y3 y4 y5 y6 y7 y8 y9))
 | 0 => ⟨fun _ _ _ _ _ _ _ _ _ _ r h => by simp [tangramlaw26_CrossTurns.j0] at h, fun _ _ _ _ _ _ _ _ _ r h => by simp [tangramlaw26_CrossTurns.j1] at h, fun _ _ _ _ _ _ _ _ _ _ r h => by simp [tangramlaw26_CrossTurns.j2] at h, fun _ _ _ _ _ _ _ _ _ _ r h => by simp [tangramlaw26_CrossTurns.j3] at h⟩
 | k + 1 => by
  obtain ⟨ih0, ih1, ih2, ih3⟩ := tangramlaw26_CrossTurns.mono_l k; refine ⟨?_, ?_, ?_, ?_⟩
  ·intro y0 y1 y2 y3 y4 y5 y6 y7 y8 y9
   unfold tangramlaw26_CrossTurns.j0
   repeat' first
   | (with_reducible exact ih0 _ _ _ _ _ _ _ _ _ _)
   | (with_reducible exact ih1 _ _ _ _ _ _ _ _ _)
   | (with_reducible exact ih2 _ _ _ _ _ _ _ _ _ _)
   | (with_reducible exact ih3 _ _ _ _ _ _ _ _ _ _)
   | (with_reducible exact cross_Meet.mono _ _ _ _ _ _ _ _ _)
   | (with_reducible exact cross_On.mono _ _ _ _ _ _ _)
   | (with_reducible exact cross_Turn.mono _ _ _ _ _ _ _)
   | (with_reducible exact tangramlaw26_awake.mono _)
   | (with_reducible exact LeO.refl _)
   | (with_reducible exact LeO.none _)
   | (with_reducible refine LeO.ite ?_ ?_)
   | (with_reducible refine LeO.bind ?_ (fun _ => ?_))
   | exact ih0 _ _ _ _ _ _ _ _ _ _
   | exact ih1 _ _ _ _ _ _ _ _ _
   | exact ih2 _ _ _ _ _ _ _ _ _ _
   | exact ih3 _ _ _ _ _ _ _ _ _ _
   | exact cross_Meet.mono _ _ _ _ _ _ _ _ _
   | exact cross_On.mono _ _ _ _ _ _ _
   | exact cross_Turn.mono _ _ _ _ _ _ _
   | exact tangramlaw26_awake.mono _
   | exact LeO.none _
   | refine LeO.ite ?_ ?_
   | refine LeO.bind ?_ (fun _ => ?_)
  ·intro y0 y1 y2 y3 y4 y5 y6 y7 y8
   unfold tangramlaw26_CrossTurns.j1
   repeat' first
   | (with_reducible exact ih0 _ _ _ _ _ _ _ _ _ _)
   | (with_reducible exact ih1 _ _ _ _ _ _ _ _ _)
   | (with_reducible exact ih2 _ _ _ _ _ _ _ _ _ _)
   | (with_reducible exact ih3 _ _ _ _ _ _ _ _ _ _)
   | (with_reducible exact cross_Meet.mono _ _ _ _ _ _ _ _ _)
   | (with_reducible exact cross_On.mono _ _ _ _ _ _ _)
   | (with_reducible exact cross_Turn.mono _ _ _ _ _ _ _)
   | (with_reducible exact tangramlaw26_awake.mono _)
   | (with_reducible exact LeO.refl _)
   | (with_reducible exact LeO.none _)
   | (with_reducible refine LeO.ite ?_ ?_)
   | (with_reducible refine LeO.bind ?_ (fun _ => ?_))
   | exact ih0 _ _ _ _ _ _ _ _ _ _
   | exact ih1 _ _ _ _ _ _ _ _ _
   | exact ih2 _ _ _ _ _ _ _ _ _ _
   | exact ih3 _ _ _ _ _ _ _ _ _ _
   | exact cross_Meet.mono _ _ _ _ _ _ _ _ _
   | exact cross_On.mono _ _ _ _ _ _ _
   | exact cross_Turn.mono _ _ _ _ _ _ _
   | exact tangramlaw26_awake.mono _
   | exact LeO.none _
   | refine LeO.ite ?_ ?_
   | refine LeO.bind ?_ (fun _ => ?_)
  ·intro y0 y1 y2 y3 y4 y5 y6 y7 y8 y9
   unfold tangramlaw26_CrossTurns.j2
   repeat' first
   | (with_reducible exact ih0 _ _ _ _ _ _ _ _ _ _)
   | (with_reducible exact ih1 _ _ _ _ _ _ _ _ _)
   | (with_reducible exact ih2 _ _ _ _ _ _ _ _ _ _)
   | (with_reducible exact ih3 _ _ _ _ _ _ _ _ _ _)
   | (with_reducible exact cross_Meet.mono _ _ _ _ _ _ _ _ _)
   | (with_reducible exact cross_On.mono _ _ _ _ _ _ _)
   | (with_reducible exact cross_Turn.mono _ _ _ _ _ _ _)
   | (with_reducible exact tangramlaw26_awake.mono _)
   | (with_reducible exact LeO.refl _)
   | (with_reducible exact LeO.none _)
   | (with_reducible refine LeO.ite ?_ ?_)
   | (with_reducible refine LeO.bind ?_ (fun _ => ?_))
   | exact ih0 _ _ _ _ _ _ _ _ _ _
   | exact ih1 _ _ _ _ _ _ _ _ _
   | exact ih2 _ _ _ _ _ _ _ _ _ _
   | exact ih3 _ _ _ _ _ _ _ _ _ _
   | exact cross_Meet.mono _ _ _ _ _ _ _ _ _
   | exact cross_On.mono _ _ _ _ _ _ _
   | exact cross_Turn.mono _ _ _ _ _ _ _
   | exact tangramlaw26_awake.mono _
   | exact LeO.none _
   | refine LeO.ite ?_ ?_
   | refine LeO.bind ?_ (fun _ => ?_)
  ·intro y0 y1 y2 y3 y4 y5 y6 y7 y8 y9
   unfold tangramlaw26_CrossTurns.j3
   repeat' first
   | (with_reducible exact ih0 _ _ _ _ _ _ _ _ _ _)
   | (with_reducible exact ih1 _ _ _ _ _ _ _ _ _)
   | (with_reducible exact ih2 _ _ _ _ _ _ _ _ _ _)
   | (with_reducible exact ih3 _ _ _ _ _ _ _ _ _ _)
   | (with_reducible exact cross_Meet.mono _ _ _ _ _ _ _ _ _)
   | (with_reducible exact cross_On.mono _ _ _ _ _ _ _)
   | (with_reducible exact cross_Turn.mono _ _ _ _ _ _ _)
   | (with_reducible exact tangramlaw26_awake.mono _)
   | (with_reducible exact LeO.refl _)
   | (with_reducible exact LeO.none _)
   | (with_reducible refine LeO.ite ?_ ?_)
   | (with_reducible refine LeO.bind ?_ (fun _ => ?_))
   | exact ih0 _ _ _ _ _ _ _ _ _ _
   | exact ih1 _ _ _ _ _ _ _ _ _
   | exact ih2 _ _ _ _ _ _ _ _ _ _
   | exact ih3 _ _ _ _ _ _ _ _ _ _
   | exact cross_Meet.mono _ _ _ _ _ _ _ _ _
   | exact cross_On.mono _ _ _ _ _ _ _
   | exact cross_Turn.mono _ _ _ _ _ _ _
   | exact tangramlaw26_awake.mono _
   | exact LeO.none _
   | refine LeO.ite ?_ ?_
   | refine LeO.bind ?_ (fun _ => ?_)
theorem tangramlaw26_CrossTurns.mono : ∀ a0 a1 a2 a3 a4 a5 a6 a7 k, LeO (tangramlaw26_CrossTurns.f k a0 a1 a2 a3 a4 a5 a6 a7) (tangramlaw26_CrossTurns.f (k + 1) a0 a1 a2 a3 a4 a5 a6 a7) := by
 intro a0 a1 a2 a3 a4 a5 a6 a7 k; obtain ⟨ih0, ih1, ih2, ih3⟩ := tangramlaw26_CrossTurns.mono_l k
 unfold tangramlaw26_CrossTurns.f
 repeat' first
   | (with_reducible exact ih0 _ _ _ _ _ _ _ _ _ _)
   | (with_reducible exact ih1 _ _ _ _ _ _ _ _ _)
   | (with_reducible exact ih2 _ _ _ _ _ _ _ _ _ _)
   | (with_reducible exact ih3 _ _ _ _ _ _ _ _ _ _)
   | (with_reducible exact cross_Meet.mono _ _ _ _ _ _ _ _ _)
   | (with_reducible exact cross_On.mono _ _ _ _ _ _ _)
   | (with_reducible exact cross_Turn.mono _ _ _ _ _ _ _)
   | (with_reducible exact tangramlaw26_awake.mono _)
   | (with_reducible exact LeO.refl _)
   | (with_reducible exact LeO.none _)
   | (with_reducible refine LeO.ite ?_ ?_)
   | (with_reducible refine LeO.bind ?_ (fun _ => ?_))
   | exact ih0 _ _ _ _ _ _ _ _ _ _
   | exact ih1 _ _ _ _ _ _ _ _ _
   | exact ih2 _ _ _ _ _ _ _ _ _ _
   | exact ih3 _ _ _ _ _ _ _ _ _ _
   | exact cross_Meet.mono _ _ _ _ _ _ _ _ _
   | exact cross_On.mono _ _ _ _ _ _ _
   | exact cross_Turn.mono _ _ _ _ _ _ _
   | exact tangramlaw26_awake.mono _
   | exact LeO.none _
   | refine LeO.ite ?_ ?_
   | refine LeO.bind ?_ (fun _ => ?_)
def tangramlaw26_CrossTurns.T6 : Bool × List (List Nat × List Nat) := (true, [([], []), ([], []), ([], []), ([0, 1, 2], [0, 1, 2]), ([], []), ([], []), ([], []), ([4, 5, 6, 3], [4, 5, 6]), ([3, 7], [3, 7]), ([8, 7], [8]), ([9], [9]), ([9], [9]), ([9], [9]), ([10, 11, 12, 9, 9], [9, 10, 11, 12]), ([13, 13, 9], [9, 13]), ([14], [14]), ([15, 14], [14, 15]), ([14, 16, 9], [9, 14, 16]), ([9, 17], [9, 17])])
def tangramlaw26_CrossTurns.B6 : List Nat := [0, 0, 0, 7, 0, 0, 0, 127, 255, 511, 1023, 1023, 1023, 8191, 16383, 32767, 65535, 131071, 262143]
theorem tangramlaw26_CrossTurns.tab6 : rtab .any (opsOf Try.f4 6) = tangramlaw26_CrossTurns.T6 := by kernel_rfl
theorem tangramlaw26_CrossTurns.bits6 : waitsOk tangramlaw26_CrossTurns.T6.2 tangramlaw26_CrossTurns.B6 = true := by kernel_rfl
set_option maxHeartbeats 8000000 in
set_option maxRecDepth 100000 in
theorem tangramlaw26_CrossTurns.calls (k : Nat) (a0_0 : Int) (a0_1 : Int) (a1_0 : Int) (a1_1 : Int) (a2_0 : Int) (a2_1 : Int) (a3_0 : Int) (a3_1 : Int) (r : Bool) (w : World) (h : tangramlaw26_CrossTurns.f k a0_0 a0_1 a1_0 a1_1 a2_0 a2_1 a3_0 a3_1 = some r) :
  Calls Try.prog 4 #[.agg #[.int .i64 a0_0, .int .i64 a0_1], .agg #[.int .i64 a1_0, .int .i64 a1_1], .agg #[.int .i64 a2_0, .int .i64 a2_1], .agg #[.int .i64 a3_0, .int .i64 a3_1]] w fun e w' => e = .returned (.bool r) ∧ Below w.heap.size w w' := by
 have hu23 := Try.underlying23; have HB := Aside0.mk (Below.refl w.heap.size w); have H : ((tangramlaw26_awake.f k).bind fun t425 => (if t425 = true then ((cross_Turn.f k a0_0 a0_1 a1_0 a1_1 a2_0 a2_1).bind fun t426 => ((cross_Turn.f k a1_0 a1_1 a2_0 a2_1 a0_0 a0_1).bind fun t427 => (if t426 = t427 then ((cross_Turn.f k a2_0 a2_1 a0_0 a0_1 a1_0 a1_1).bind fun t428 => (if t426 = t428 then ((cross_Turn.f k a1_0 a1_1 a0_0 a0_1 a2_0 a2_1).bind fun t429 => (if t426 = (wrap64 (-t429)) then (if t426 < (-1) then (tangramlaw26_CrossTurns.j0 k t426 true a0_0 a0_1 a1_0 a1_1 a2_0 a2_1 a3_0 a3_1) else (tangramlaw26_CrossTurns.j0 k t426 (decide (t426 > 1)) a0_0 a0_1 a1_0 a1_1 a2_0 a2_1 a3_0 a3_1)) else (tangramlaw26_CrossTurns.j0 k t426 true a0_0 a0_1 a1_0 a1_1 a2_0 a2_1 a3_0 a3_1))) else (tangramlaw26_CrossTurns.j0 k t426 true a0_0 a0_1 a1_0 a1_1 a2_0 a2_1 a3_0 a3_1))) else (tangramlaw26_CrossTurns.j0 k t426 true a0_0 a0_1 a1_0 a1_1 a2_0 a2_1 a3_0 a3_1)))) else (some false))) = some r := h; clear h; replace H := Option.bind_eq_some_iff.mp H; obtain ⟨t425, A50, H⟩ := H; (try dsimp only at H)
 have A5 := Aside0.mk A50; clear A50
 by_cases c6 : t425 = true
 ·subst c6; rw [if_pos rfl] at H; replace H := Option.bind_eq_some_iff.mp H; obtain ⟨t426, A70, H⟩ := H; (try dsimp only at H); have A7 := Aside0.mk A70; clear A70; have HC8 := Aside0.mk H; clear H
  go_enter Try.func4, Try.ntmps4
  go_upto_region 4 with (first | ((with_reducible refine gate_dst (N := 4) rfl ?_); refine be_ 4 #[.int .i64 a0_0, .int .i64 a0_1] 23 ?_; intro gb421 hg w9 hbox hb; have BK421 := Aside0.mk (hbox); have GW421 := wq (hb0 HB) hg; have GE421 := wq (hb0 HB) hg; replace HB := hs (hb0 HB) hb; clear hb hbox hg) | ((with_reducible refine gate_dst (N := 5) rfl ?_); refine be_ 5 #[.int .i64 a1_0, .int .i64 a1_1] 23 ?_; intro gb422 hg w10 hbox hb; have BK422 := Aside0.mk (hbox); have GW422 := wq (hb1 HB GE421) hg; have GE422 := wq (hb1 HB GE421) hg; replace HB := hs (hb1 HB GE421) hb; have NB421_422 := lx BK421 hg; have NB422_421 := gx BK421 hg; replace BK421 := kx BK421 hb; clear hb hbox hg) | ((with_reducible refine gate_dst (N := 6) rfl ?_); refine be_ 6 #[.int .i64 a2_0, .int .i64 a2_1] 23 ?_; intro gb423 hg w11 hbox hb; have BK423 := Aside0.mk (hbox); have GW423 := wq (hb2 HB GE421 GE422) hg; have GE423 := wq (hb2 HB GE421 GE422) hg; replace HB := hs (hb2 HB GE421 GE422) hb; have NB421_423 := lx BK421 hg; have NB423_421 := gx BK421 hg; replace BK421 := kx BK421 hb; have NB422_423 := lx BK422 hg; have NB423_422 := gx BK422 hg; replace BK422 := kx BK422 hb; clear hb hbox hg) | ((with_reducible refine gate_dst (N := 7) rfl ?_); refine be_ 7 #[.int .i64 a3_0, .int .i64 a3_1] 23 ?_; intro gb424 hg w12 hbox hb; have BK424 := Aside0.mk (hbox); have GW424 := wq (hb3 HB GE421 GE422 GE423) hg; have GE424 := wq (hb3 HB GE421 GE422 GE423) hg; replace HB := hs (hb3 HB GE421 GE422 GE423) hb; have NB421_424 := lx BK421 hg; have NB424_421 := gx BK421 hg; replace BK421 := kx BK421 hb; have NB422_424 := lx BK422 hg; have NB424_422 := gx BK422 hg; replace BK422 := kx BK422 hb; have NB423_424 := lx BK423 hg; have NB424_423 := gx BK423 hg; replace BK423 := kx BK423 hb; clear hb hbox hg) | ((with_reducible refine gate_callee (f := 11) rfl ?_); refine gl_ (some 12) Try.func11 #[] ?_; (with_reducible refine (tangramlaw26_awake.calls k  true _ A5.out).mono ?_); rintro e w13 ⟨rfl, hb⟩; refine ⟨_, rfl, ?_⟩; replace BK421 := kx BK421 hb; replace BK422 := kx BK422 hb; replace BK423 := kx BK423 hb; replace BK424 := kx BK424 hb; replace HB := hs (hb4 HB GE421 GE422 GE423 GE424) hb; (try clear hb); (try clear hb2); (try clear hk); (try clear hi); have hnb14 := NB421_422.out; have hnc14 := NB422_421.out; have hnb15 := NB421_423.out; have hnc15 := NB423_421.out; have hnb16 := NB421_424.out; have hnc16 := NB424_421.out; have hcz17_0 : w13.cell? ⟨gb421, 0, none⟩ = some (.int .i64 a0_0) := bc BK421 0; have hcz17_1 : w13.cell? ⟨gb421, 1, none⟩ = some (.int .i64 a0_1) := bc BK421 1; have hfz17_0 := blk_frozen BK421.out 0; have hfz17_1 := blk_frozen BK421.out 1; have hnb18 := NB422_423.out; have hnc18 := NB423_422.out; have hnb19 := NB422_424.out; have hnc19 := NB424_422.out; have hcz20_0 : w13.cell? ⟨gb422, 0, none⟩ = some (.int .i64 a1_0) := bc BK422 0; have hcz20_1 : w13.cell? ⟨gb422, 1, none⟩ = some (.int .i64 a1_1) := bc BK422 1; have hfz20_0 := blk_frozen BK422.out 0; have hfz20_1 := blk_frozen BK422.out 1; have hnb21 := NB423_424.out; have hnc21 := NB424_423.out; have hcz22_0 : w13.cell? ⟨gb423, 0, none⟩ = some (.int .i64 a2_0) := bc BK423 0; have hcz22_1 : w13.cell? ⟨gb423, 1, none⟩ = some (.int .i64 a2_1) := bc BK423 1; have hfz22_0 := blk_frozen BK423.out 0; have hfz22_1 := blk_frozen BK423.out 1) | ((with_reducible refine gate_callee (f := 12) rfl ?_); refine gl_ (some 17) Try.func12 #[.agg #[.int .i64 a0_0, .int .i64 a0_1], .agg #[.int .i64 a1_0, .int .i64 a1_1], .agg #[.int .i64 a2_0, .int .i64 a2_1]] ?_; (with_reducible refine (cross_Turn.calls k a0_0 a0_1 a1_0 a1_1 a2_0 a2_1 t426 _ A7.out).mono ?_); rintro e w23 ⟨rfl, hb⟩; refine ⟨_, rfl, ?_⟩; replace BK421 := kx BK421 hb; replace BK422 := kx BK422 hb; replace BK423 := kx BK423 hb; replace BK424 := kx BK424 hb; replace HB := hs (hb4 HB GE421 GE422 GE423 GE424) hb; (try clear hb); (try clear hb2); (try clear hk); (try clear hi)))
  (try simp only [Act.put, List.setIfInBounds_toArray, List.set_cons_zero, List.set_cons_succ])
  go_cut [48] (fun v48 wc => ∃ (kq : Nat) (x48_7 : Bool), v48 = .bool x48_7 ∧ Aside0 (tangramlaw26_CrossTurns.j0 kq t426 x48_7 a0_0 a0_1 a1_0 a1_1 a2_0 a2_1 a3_0 a3_1 = some r) ∧ Aside0 (kq ≤ k) ∧ Aside0 (wc.heap[gb421]? = some (.cells #[.int .i64 a0_0, .int .i64 a0_1] 23 (0, 0))) ∧ Aside0 (wc.heap[gb422]? = some (.cells #[.int .i64 a1_0, .int .i64 a1_1] 23 (0, 0))) ∧ Aside0 (wc.heap[gb423]? = some (.cells #[.int .i64 a2_0, .int .i64 a2_1] 23 (0, 0))) ∧ Aside0 (wc.heap[gb424]? = some (.cells #[.int .i64 a3_0, .int .i64 a3_1] 23 (0, 0))) ∧ Aside0 (Below w.heap.size w wc))
  case first => as_aux_lemma =>
   have H := HC8.out; clear HC8; replace H := Option.bind_eq_some_iff.mp H; obtain ⟨t427, A240, H⟩ := H; (try dsimp only at H); have A24 := Aside0.mk A240; clear A240
   by_cases c25 : t426 = t427
   ·rw [if_pos c25] at H; have c25b0 : (t426 == t427) = true := beq_iff_eq.mpr c25; have c25b1 : (t426 != t427) = false := bne_eq_false_iff_eq.mpr c25; clear c25
    (first | rw [c25b0] | (simp only [i64_w, i32_w]; rw [c25b0]) | skip)
    replace H := Option.bind_eq_some_iff.mp H; obtain ⟨t428, A260, H⟩ := H; (try dsimp only at H); have A26 := Aside0.mk A260; clear A260
    by_cases c27 : t426 = t428
    ·rw [if_pos c27] at H; have c27b0 : (t426 == t428) = true := beq_iff_eq.mpr c27; have c27b1 : (t426 != t428) = false := bne_eq_false_iff_eq.mpr c27; clear c27; replace H := Option.bind_eq_some_iff.mp H; obtain ⟨t429, A280, H⟩ := H; (try dsimp only at H); have A28 := Aside0.mk A280; clear A280
     by_cases c29 : t426 = (wrap64 (-t429))
     ·rw [if_pos c29] at H; have c29b0 : (t426 == (wrap64 (-t429))) = true := beq_iff_eq.mpr c29; have c29b1 : (t426 != (wrap64 (-t429))) = false := bne_eq_false_iff_eq.mpr c29; clear c29
      by_cases c30 : t426 < (-1)
      ·rw [if_pos c30] at H; have c30b0 : decide (t426 < (-1)) = true := decide_eq_true c30; clear c30; have H' := Aside0.mk H; clear H; have hnb31 := NB422_421.out; have hnc31 := NB421_422.out; have hnb32 := NB422_423.out; have hnc32 := NB423_422.out; have hnb33 := NB422_424.out; have hnc33 := NB424_422.out; have hcz34_0 : w23.cell? ⟨gb422, 0, none⟩ = some (.int .i64 a1_0) := bc BK422 0; have hcz34_1 : w23.cell? ⟨gb422, 1, none⟩ = some (.int .i64 a1_1) := bc BK422 1; have hfz34_0 := blk_frozen BK422.out 0; have hfz34_1 := blk_frozen BK422.out 1; have hnb35 := NB423_421.out; have hnc35 := NB421_423.out; have hnb36 := NB423_424.out; have hnc36 := NB424_423.out; have hcz37_0 : w23.cell? ⟨gb423, 0, none⟩ = some (.int .i64 a2_0) := bc BK423 0; have hcz37_1 : w23.cell? ⟨gb423, 1, none⟩ = some (.int .i64 a2_1) := bc BK423 1; have hfz37_0 := blk_frozen BK423.out 0; have hfz37_1 := blk_frozen BK423.out 1; have hnb38 := NB421_424.out; have hnc38 := NB424_421.out; have hcz39_0 : w23.cell? ⟨gb421, 0, none⟩ = some (.int .i64 a0_0) := bc BK421 0; have hcz39_1 : w23.cell? ⟨gb421, 1, none⟩ = some (.int .i64 a0_1) := bc BK421 1; have hfz39_0 := blk_frozen BK421.out 0; have hfz39_1 := blk_frozen BK421.out 1
       go_wp2_with (first | ((with_reducible refine gate_callee (f := 12) rfl ?_); refine gl_ (some 22) Try.func12 #[.agg #[.int .i64 a1_0, .int .i64 a1_1], .agg #[.int .i64 a2_0, .int .i64 a2_1], .agg #[.int .i64 a0_0, .int .i64 a0_1]] ?_; (with_reducible refine (cross_Turn.calls k a1_0 a1_1 a2_0 a2_1 a0_0 a0_1 t427 _ A24.out).mono ?_); rintro e w40 ⟨rfl, hb⟩; refine ⟨_, rfl, ?_⟩; replace BK421 := kx BK421 hb; replace BK422 := kx BK422 hb; replace BK423 := kx BK423 hb; replace BK424 := kx BK424 hb; replace HB := hs (hb4 HB GE421 GE422 GE423 GE424) hb; (try clear hb); (try clear hb2); (try clear hk); (try clear hi); have hcz41_0 : w40.cell? ⟨gb423, 0, none⟩ = some (.int .i64 a2_0) := bc BK423 0; have hcz41_1 : w40.cell? ⟨gb423, 1, none⟩ = some (.int .i64 a2_1) := bc BK423 1; have hfz41_0 := blk_frozen BK423.out 0; have hfz41_1 := blk_frozen BK423.out 1; have hcz42_0 : w40.cell? ⟨gb421, 0, none⟩ = some (.int .i64 a0_0) := bc BK421 0; have hcz42_1 : w40.cell? ⟨gb421, 1, none⟩ = some (.int .i64 a0_1) := bc BK421 1; have hfz42_0 := blk_frozen BK421.out 0; have hfz42_1 := blk_frozen BK421.out 1; have hcz43_0 : w40.cell? ⟨gb422, 0, none⟩ = some (.int .i64 a1_0) := bc BK422 0; have hcz43_1 : w40.cell? ⟨gb422, 1, none⟩ = some (.int .i64 a1_1) := bc BK422 1; have hfz43_0 := blk_frozen BK422.out 0; have hfz43_1 := blk_frozen BK422.out 1) | (go_at_call 12; (with_reducible refine (cross_Turn.calls k a2_0 a2_1 a0_0 a0_1 a1_0 a1_1 t428 _ A26.out).mono ?_); rintro e w44 ⟨rfl, hb⟩; replace BK421 := kx BK421 hb; replace BK422 := kx BK422 hb; replace BK423 := kx BK423 hb; replace BK424 := kx BK424 hb; replace HB := hs (hb4 HB GE421 GE422 GE423 GE424) hb; (try clear hb); (try clear hb2); (try clear hk); (try clear hi); have hcz45_0 : w44.cell? ⟨gb422, 0, none⟩ = some (.int .i64 a1_0) := bc BK422 0; have hcz45_1 : w44.cell? ⟨gb422, 1, none⟩ = some (.int .i64 a1_1) := bc BK422 1; have hfz45_0 := blk_frozen BK422.out 0; have hfz45_1 := blk_frozen BK422.out 1; have hcz46_0 : w44.cell? ⟨gb421, 0, none⟩ = some (.int .i64 a0_0) := bc BK421 0; have hcz46_1 : w44.cell? ⟨gb421, 1, none⟩ = some (.int .i64 a0_1) := bc BK421 1; have hfz46_0 := blk_frozen BK421.out 0; have hfz46_1 := blk_frozen BK421.out 1; have hcz47_0 : w44.cell? ⟨gb423, 0, none⟩ = some (.int .i64 a2_0) := bc BK423 0; have hcz47_1 : w44.cell? ⟨gb423, 1, none⟩ = some (.int .i64 a2_1) := bc BK423 1; have hfz47_0 := blk_frozen BK423.out 0; have hfz47_1 := blk_frozen BK423.out 1) | (go_at_call 12; (with_reducible refine (cross_Turn.calls k a1_0 a1_1 a0_0 a0_1 a2_0 a2_1 t429 _ A28.out).mono ?_); rintro e w48 ⟨rfl, hb⟩; replace BK421 := kx BK421 hb; replace BK422 := kx BK422 hb; replace BK423 := kx BK423 hb; replace BK424 := kx BK424 hb; replace HB := hs (hb4 HB GE421 GE422 GE423 GE424) hb; (try clear hb); (try clear hb2); (try clear hk); (try clear hi)))
       go_meet
       case rel => exact ⟨_, (true), (by first | rfl | (simp; done) | (simp [*]; done)), H', ⟨by first | omega | exact Nat.le_refl _⟩, ⟨bx BK421⟩, ⟨bx BK422⟩, ⟨bx BK423⟩, ⟨bx BK424⟩, ⟨hb4 HB GE421 GE422 GE423 GE424⟩⟩
      ·rw [if_neg c30] at H; have c30b0 : decide (t426 < (-1)) = false := decide_eq_false c30; clear c30; have H' := Aside0.mk H; clear H; have hnb49 := NB422_421.out; have hnc49 := NB421_422.out; have hnb50 := NB422_423.out; have hnc50 := NB423_422.out; have hnb51 := NB422_424.out; have hnc51 := NB424_422.out; have hcz52_0 : w23.cell? ⟨gb422, 0, none⟩ = some (.int .i64 a1_0) := bc BK422 0; have hcz52_1 : w23.cell? ⟨gb422, 1, none⟩ = some (.int .i64 a1_1) := bc BK422 1; have hfz52_0 := blk_frozen BK422.out 0; have hfz52_1 := blk_frozen BK422.out 1; have hnb53 := NB423_421.out; have hnc53 := NB421_423.out; have hnb54 := NB423_424.out; have hnc54 := NB424_423.out; have hcz55_0 : w23.cell? ⟨gb423, 0, none⟩ = some (.int .i64 a2_0) := bc BK423 0; have hcz55_1 : w23.cell? ⟨gb423, 1, none⟩ = some (.int .i64 a2_1) := bc BK423 1; have hfz55_0 := blk_frozen BK423.out 0; have hfz55_1 := blk_frozen BK423.out 1; have hnb56 := NB421_424.out; have hnc56 := NB424_421.out; have hcz57_0 : w23.cell? ⟨gb421, 0, none⟩ = some (.int .i64 a0_0) := bc BK421 0; have hcz57_1 : w23.cell? ⟨gb421, 1, none⟩ = some (.int .i64 a0_1) := bc BK421 1; have hfz57_0 := blk_frozen BK421.out 0; have hfz57_1 := blk_frozen BK421.out 1
       go_wp2_with (first | ((with_reducible refine gate_callee (f := 12) rfl ?_); refine gl_ (some 22) Try.func12 #[.agg #[.int .i64 a1_0, .int .i64 a1_1], .agg #[.int .i64 a2_0, .int .i64 a2_1], .agg #[.int .i64 a0_0, .int .i64 a0_1]] ?_; (with_reducible refine (cross_Turn.calls k a1_0 a1_1 a2_0 a2_1 a0_0 a0_1 t427 _ A24.out).mono ?_); rintro e w58 ⟨rfl, hb⟩; refine ⟨_, rfl, ?_⟩; replace BK421 := kx BK421 hb; replace BK422 := kx BK422 hb; replace BK423 := kx BK423 hb; replace BK424 := kx BK424 hb; replace HB := hs (hb4 HB GE421 GE422 GE423 GE424) hb; (try clear hb); (try clear hb2); (try clear hk); (try clear hi); have hcz59_0 : w58.cell? ⟨gb423, 0, none⟩ = some (.int .i64 a2_0) := bc BK423 0; have hcz59_1 : w58.cell? ⟨gb423, 1, none⟩ = some (.int .i64 a2_1) := bc BK423 1; have hfz59_0 := blk_frozen BK423.out 0; have hfz59_1 := blk_frozen BK423.out 1; have hcz60_0 : w58.cell? ⟨gb421, 0, none⟩ = some (.int .i64 a0_0) := bc BK421 0; have hcz60_1 : w58.cell? ⟨gb421, 1, none⟩ = some (.int .i64 a0_1) := bc BK421 1; have hfz60_0 := blk_frozen BK421.out 0; have hfz60_1 := blk_frozen BK421.out 1; have hcz61_0 : w58.cell? ⟨gb422, 0, none⟩ = some (.int .i64 a1_0) := bc BK422 0; have hcz61_1 : w58.cell? ⟨gb422, 1, none⟩ = some (.int .i64 a1_1) := bc BK422 1; have hfz61_0 := blk_frozen BK422.out 0; have hfz61_1 := blk_frozen BK422.out 1) | (go_at_call 12; (with_reducible refine (cross_Turn.calls k a2_0 a2_1 a0_0 a0_1 a1_0 a1_1 t428 _ A26.out).mono ?_); rintro e w62 ⟨rfl, hb⟩; replace BK421 := kx BK421 hb; replace BK422 := kx BK422 hb; replace BK423 := kx BK423 hb; replace BK424 := kx BK424 hb; replace HB := hs (hb4 HB GE421 GE422 GE423 GE424) hb; (try clear hb); (try clear hb2); (try clear hk); (try clear hi); have hcz63_0 : w62.cell? ⟨gb422, 0, none⟩ = some (.int .i64 a1_0) := bc BK422 0; have hcz63_1 : w62.cell? ⟨gb422, 1, none⟩ = some (.int .i64 a1_1) := bc BK422 1; have hfz63_0 := blk_frozen BK422.out 0; have hfz63_1 := blk_frozen BK422.out 1; have hcz64_0 : w62.cell? ⟨gb421, 0, none⟩ = some (.int .i64 a0_0) := bc BK421 0; have hcz64_1 : w62.cell? ⟨gb421, 1, none⟩ = some (.int .i64 a0_1) := bc BK421 1; have hfz64_0 := blk_frozen BK421.out 0; have hfz64_1 := blk_frozen BK421.out 1; have hcz65_0 : w62.cell? ⟨gb423, 0, none⟩ = some (.int .i64 a2_0) := bc BK423 0; have hcz65_1 : w62.cell? ⟨gb423, 1, none⟩ = some (.int .i64 a2_1) := bc BK423 1; have hfz65_0 := blk_frozen BK423.out 0; have hfz65_1 := blk_frozen BK423.out 1) | (go_at_call 12; (with_reducible refine (cross_Turn.calls k a1_0 a1_1 a0_0 a0_1 a2_0 a2_1 t429 _ A28.out).mono ?_); rintro e w66 ⟨rfl, hb⟩; replace BK421 := kx BK421 hb; replace BK422 := kx BK422 hb; replace BK423 := kx BK423 hb; replace BK424 := kx BK424 hb; replace HB := hs (hb4 HB GE421 GE422 GE423 GE424) hb; (try clear hb); (try clear hb2); (try clear hk); (try clear hi)))
       go_meet
       case rel => exact ⟨_, (decide (t426 > 1)), (by first | rfl | (simp; done) | (simp [*]; done)), H', ⟨by first | omega | exact Nat.le_refl _⟩, ⟨bx BK421⟩, ⟨bx BK422⟩, ⟨bx BK423⟩, ⟨bx BK424⟩, ⟨hb4 HB GE421 GE422 GE423 GE424⟩⟩
     ·rw [if_neg c29] at H; have c29b0 : (t426 == (wrap64 (-t429))) = false := beq_eq_false_iff_ne.mpr c29; have c29b1 : (t426 != (wrap64 (-t429))) = true := bne_iff_ne.mpr c29; have H' := Aside0.mk H; clear H; have hnb67 := NB422_421.out; have hnc67 := NB421_422.out; have hnb68 := NB422_423.out; have hnc68 := NB423_422.out; have hnb69 := NB422_424.out; have hnc69 := NB424_422.out; have hcz70_0 : w23.cell? ⟨gb422, 0, none⟩ = some (.int .i64 a1_0) := bc BK422 0; have hcz70_1 : w23.cell? ⟨gb422, 1, none⟩ = some (.int .i64 a1_1) := bc BK422 1; have hfz70_0 := blk_frozen BK422.out 0; have hfz70_1 := blk_frozen BK422.out 1; have hnb71 := NB423_421.out; have hnc71 := NB421_423.out; have hnb72 := NB423_424.out; have hnc72 := NB424_423.out; have hcz73_0 : w23.cell? ⟨gb423, 0, none⟩ = some (.int .i64 a2_0) := bc BK423 0; have hcz73_1 : w23.cell? ⟨gb423, 1, none⟩ = some (.int .i64 a2_1) := bc BK423 1; have hfz73_0 := blk_frozen BK423.out 0; have hfz73_1 := blk_frozen BK423.out 1; have hnb74 := NB421_424.out; have hnc74 := NB424_421.out; have hcz75_0 : w23.cell? ⟨gb421, 0, none⟩ = some (.int .i64 a0_0) := bc BK421 0; have hcz75_1 : w23.cell? ⟨gb421, 1, none⟩ = some (.int .i64 a0_1) := bc BK421 1; have hfz75_0 := blk_frozen BK421.out 0; have hfz75_1 := blk_frozen BK421.out 1
      go_wp2_with (first | ((with_reducible refine gate_callee (f := 12) rfl ?_); refine gl_ (some 22) Try.func12 #[.agg #[.int .i64 a1_0, .int .i64 a1_1], .agg #[.int .i64 a2_0, .int .i64 a2_1], .agg #[.int .i64 a0_0, .int .i64 a0_1]] ?_; (with_reducible refine (cross_Turn.calls k a1_0 a1_1 a2_0 a2_1 a0_0 a0_1 t427 _ A24.out).mono ?_); rintro e w76 ⟨rfl, hb⟩; refine ⟨_, rfl, ?_⟩; replace BK421 := kx BK421 hb; replace BK422 := kx BK422 hb; replace BK423 := kx BK423 hb; replace BK424 := kx BK424 hb; replace HB := hs (hb4 HB GE421 GE422 GE423 GE424) hb; (try clear hb); (try clear hb2); (try clear hk); (try clear hi); have hcz77_0 : w76.cell? ⟨gb423, 0, none⟩ = some (.int .i64 a2_0) := bc BK423 0; have hcz77_1 : w76.cell? ⟨gb423, 1, none⟩ = some (.int .i64 a2_1) := bc BK423 1; have hfz77_0 := blk_frozen BK423.out 0; have hfz77_1 := blk_frozen BK423.out 1; have hcz78_0 : w76.cell? ⟨gb421, 0, none⟩ = some (.int .i64 a0_0) := bc BK421 0; have hcz78_1 : w76.cell? ⟨gb421, 1, none⟩ = some (.int .i64 a0_1) := bc BK421 1; have hfz78_0 := blk_frozen BK421.out 0; have hfz78_1 := blk_frozen BK421.out 1; have hcz79_0 : w76.cell? ⟨gb422, 0, none⟩ = some (.int .i64 a1_0) := bc BK422 0; have hcz79_1 : w76.cell? ⟨gb422, 1, none⟩ = some (.int .i64 a1_1) := bc BK422 1; have hfz79_0 := blk_frozen BK422.out 0; have hfz79_1 := blk_frozen BK422.out 1) | (go_at_call 12; (with_reducible refine (cross_Turn.calls k a2_0 a2_1 a0_0 a0_1 a1_0 a1_1 t428 _ A26.out).mono ?_); rintro e w80 ⟨rfl, hb⟩; replace BK421 := kx BK421 hb; replace BK422 := kx BK422 hb; replace BK423 := kx BK423 hb; replace BK424 := kx BK424 hb; replace HB := hs (hb4 HB GE421 GE422 GE423 GE424) hb; (try clear hb); (try clear hb2); (try clear hk); (try clear hi); have hcz81_0 : w80.cell? ⟨gb422, 0, none⟩ = some (.int .i64 a1_0) := bc BK422 0; have hcz81_1 : w80.cell? ⟨gb422, 1, none⟩ = some (.int .i64 a1_1) := bc BK422 1; have hfz81_0 := blk_frozen BK422.out 0; have hfz81_1 := blk_frozen BK422.out 1; have hcz82_0 : w80.cell? ⟨gb421, 0, none⟩ = some (.int .i64 a0_0) := bc BK421 0; have hcz82_1 : w80.cell? ⟨gb421, 1, none⟩ = some (.int .i64 a0_1) := bc BK421 1; have hfz82_0 := blk_frozen BK421.out 0; have hfz82_1 := blk_frozen BK421.out 1; have hcz83_0 : w80.cell? ⟨gb423, 0, none⟩ = some (.int .i64 a2_0) := bc BK423 0; have hcz83_1 : w80.cell? ⟨gb423, 1, none⟩ = some (.int .i64 a2_1) := bc BK423 1; have hfz83_0 := blk_frozen BK423.out 0; have hfz83_1 := blk_frozen BK423.out 1) | (go_at_call 12; (with_reducible refine (cross_Turn.calls k a1_0 a1_1 a0_0 a0_1 a2_0 a2_1 t429 _ A28.out).mono ?_); rintro e w84 ⟨rfl, hb⟩; replace BK421 := kx BK421 hb; replace BK422 := kx BK422 hb; replace BK423 := kx BK423 hb; replace BK424 := kx BK424 hb; replace HB := hs (hb4 HB GE421 GE422 GE423 GE424) hb; (try clear hb); (try clear hb2); (try clear hk); (try clear hi)))
      go_meet
      case rel => exact ⟨_, (true), (by first | rfl | (simp; done) | (simp [*]; done)), H', ⟨by first | omega | exact Nat.le_refl _⟩, ⟨bx BK421⟩, ⟨bx BK422⟩, ⟨bx BK423⟩, ⟨bx BK424⟩, ⟨hb4 HB GE421 GE422 GE423 GE424⟩⟩
    ·rw [if_neg c27] at H; have c27b0 : (t426 == t428) = false := beq_eq_false_iff_ne.mpr c27; have c27b1 : (t426 != t428) = true := bne_iff_ne.mpr c27; have H' := Aside0.mk H; clear H; have hnb85 := NB422_421.out; have hnc85 := NB421_422.out; have hnb86 := NB422_423.out; have hnc86 := NB423_422.out; have hnb87 := NB422_424.out; have hnc87 := NB424_422.out; have hcz88_0 : w23.cell? ⟨gb422, 0, none⟩ = some (.int .i64 a1_0) := bc BK422 0; have hcz88_1 : w23.cell? ⟨gb422, 1, none⟩ = some (.int .i64 a1_1) := bc BK422 1; have hfz88_0 := blk_frozen BK422.out 0; have hfz88_1 := blk_frozen BK422.out 1; have hnb89 := NB423_421.out; have hnc89 := NB421_423.out; have hnb90 := NB423_424.out; have hnc90 := NB424_423.out; have hcz91_0 : w23.cell? ⟨gb423, 0, none⟩ = some (.int .i64 a2_0) := bc BK423 0; have hcz91_1 : w23.cell? ⟨gb423, 1, none⟩ = some (.int .i64 a2_1) := bc BK423 1; have hfz91_0 := blk_frozen BK423.out 0; have hfz91_1 := blk_frozen BK423.out 1; have hnb92 := NB421_424.out; have hnc92 := NB424_421.out; have hcz93_0 : w23.cell? ⟨gb421, 0, none⟩ = some (.int .i64 a0_0) := bc BK421 0; have hcz93_1 : w23.cell? ⟨gb421, 1, none⟩ = some (.int .i64 a0_1) := bc BK421 1; have hfz93_0 := blk_frozen BK421.out 0; have hfz93_1 := blk_frozen BK421.out 1
     go_wp2_with (first | ((with_reducible refine gate_callee (f := 12) rfl ?_); refine gl_ (some 22) Try.func12 #[.agg #[.int .i64 a1_0, .int .i64 a1_1], .agg #[.int .i64 a2_0, .int .i64 a2_1], .agg #[.int .i64 a0_0, .int .i64 a0_1]] ?_; (with_reducible refine (cross_Turn.calls k a1_0 a1_1 a2_0 a2_1 a0_0 a0_1 t427 _ A24.out).mono ?_); rintro e w94 ⟨rfl, hb⟩; refine ⟨_, rfl, ?_⟩; replace BK421 := kx BK421 hb; replace BK422 := kx BK422 hb; replace BK423 := kx BK423 hb; replace BK424 := kx BK424 hb; replace HB := hs (hb4 HB GE421 GE422 GE423 GE424) hb; (try clear hb); (try clear hb2); (try clear hk); (try clear hi); have hcz95_0 : w94.cell? ⟨gb423, 0, none⟩ = some (.int .i64 a2_0) := bc BK423 0; have hcz95_1 : w94.cell? ⟨gb423, 1, none⟩ = some (.int .i64 a2_1) := bc BK423 1; have hfz95_0 := blk_frozen BK423.out 0; have hfz95_1 := blk_frozen BK423.out 1; have hcz96_0 : w94.cell? ⟨gb421, 0, none⟩ = some (.int .i64 a0_0) := bc BK421 0; have hcz96_1 : w94.cell? ⟨gb421, 1, none⟩ = some (.int .i64 a0_1) := bc BK421 1; have hfz96_0 := blk_frozen BK421.out 0; have hfz96_1 := blk_frozen BK421.out 1; have hcz97_0 : w94.cell? ⟨gb422, 0, none⟩ = some (.int .i64 a1_0) := bc BK422 0; have hcz97_1 : w94.cell? ⟨gb422, 1, none⟩ = some (.int .i64 a1_1) := bc BK422 1; have hfz97_0 := blk_frozen BK422.out 0; have hfz97_1 := blk_frozen BK422.out 1) | (go_at_call 12; (with_reducible refine (cross_Turn.calls k a2_0 a2_1 a0_0 a0_1 a1_0 a1_1 t428 _ A26.out).mono ?_); rintro e w98 ⟨rfl, hb⟩; replace BK421 := kx BK421 hb; replace BK422 := kx BK422 hb; replace BK423 := kx BK423 hb; replace BK424 := kx BK424 hb; replace HB := hs (hb4 HB GE421 GE422 GE423 GE424) hb; (try clear hb); (try clear hb2); (try clear hk); (try clear hi)))
     go_meet
     case rel => exact ⟨_, (true), (by first | rfl | (simp; done) | (simp [*]; done)), H', ⟨by first | omega | exact Nat.le_refl _⟩, ⟨bx BK421⟩, ⟨bx BK422⟩, ⟨bx BK423⟩, ⟨bx BK424⟩, ⟨hb4 HB GE421 GE422 GE423 GE424⟩⟩
   ·rw [if_neg c25] at H; have c25b0 : (t426 == t427) = false := beq_eq_false_iff_ne.mpr c25; have c25b1 : (t426 != t427) = true := bne_iff_ne.mpr c25
    (first | rw [c25b0] | (simp only [i64_w, i32_w]; rw [c25b0]) | skip)
    have H' := Aside0.mk H; clear H; have hnb99 := NB422_421.out; have hnc99 := NB421_422.out; have hnb100 := NB422_423.out; have hnc100 := NB423_422.out; have hnb101 := NB422_424.out; have hnc101 := NB424_422.out; have hcz102_0 : w23.cell? ⟨gb422, 0, none⟩ = some (.int .i64 a1_0) := bc BK422 0; have hcz102_1 : w23.cell? ⟨gb422, 1, none⟩ = some (.int .i64 a1_1) := bc BK422 1; have hfz102_0 := blk_frozen BK422.out 0; have hfz102_1 := blk_frozen BK422.out 1; have hnb103 := NB423_421.out; have hnc103 := NB421_423.out; have hnb104 := NB423_424.out; have hnc104 := NB424_423.out; have hcz105_0 : w23.cell? ⟨gb423, 0, none⟩ = some (.int .i64 a2_0) := bc BK423 0; have hcz105_1 : w23.cell? ⟨gb423, 1, none⟩ = some (.int .i64 a2_1) := bc BK423 1; have hfz105_0 := blk_frozen BK423.out 0; have hfz105_1 := blk_frozen BK423.out 1; have hnb106 := NB421_424.out; have hnc106 := NB424_421.out; have hcz107_0 : w23.cell? ⟨gb421, 0, none⟩ = some (.int .i64 a0_0) := bc BK421 0; have hcz107_1 : w23.cell? ⟨gb421, 1, none⟩ = some (.int .i64 a0_1) := bc BK421 1; have hfz107_0 := blk_frozen BK421.out 0; have hfz107_1 := blk_frozen BK421.out 1
    go_wp2_with (first | ((with_reducible refine gate_callee (f := 12) rfl ?_); refine gl_ (some 22) Try.func12 #[.agg #[.int .i64 a1_0, .int .i64 a1_1], .agg #[.int .i64 a2_0, .int .i64 a2_1], .agg #[.int .i64 a0_0, .int .i64 a0_1]] ?_; (with_reducible refine (cross_Turn.calls k a1_0 a1_1 a2_0 a2_1 a0_0 a0_1 t427 _ A24.out).mono ?_); rintro e w108 ⟨rfl, hb⟩; refine ⟨_, rfl, ?_⟩; replace BK421 := kx BK421 hb; replace BK422 := kx BK422 hb; replace BK423 := kx BK423 hb; replace BK424 := kx BK424 hb; replace HB := hs (hb4 HB GE421 GE422 GE423 GE424) hb; (try clear hb); (try clear hb2); (try clear hk); (try clear hi)))
    go_meet
    case rel => exact ⟨_, (true), (by first | rfl | (simp; done) | (simp [*]; done)), H', ⟨by first | omega | exact Nat.le_refl _⟩, ⟨bx BK421⟩, ⟨bx BK422⟩, ⟨bx BK423⟩, ⟨bx BK424⟩, ⟨hb4 HB GE421 GE422 GE423 GE424⟩⟩
  case rest => as_aux_lemma =>
   clear HC8
   try clear c1
   try clear c2
   try clear p2
   try clear c3
   try clear c4
   try clear c5
   try clear c6
   try clear p6
   try clear c7
   try clear c8
   try clear c9
   try clear c10
   try clear c11
   try clear c12
   try clear c14
   try clear c15
   try clear c16
   try clear c18
   try clear c19
   try clear c21
   try clear c25
   try clear c25b0
   try clear c25b1
   try clear c27
   try clear c27b0
   try clear c27b1
   try clear c29
   try clear c29b0
   try clear c29b1
   try clear c30
   try clear c30b0
   try clear c31
   try clear c32
   try clear c33
   try clear c35
   try clear c36
   try clear c38
   try clear c49
   try clear c50
   try clear c51
   try clear c53
   try clear c54
   try clear c56
   try clear p64
   try clear c67
   try clear c68
   try clear c69
   try clear c71
   try clear c72
   try clear c74
   try clear c85
   try clear c86
   try clear c87
   try clear c89
   try clear c90
   try clear c92
   try clear c99
   try clear c100
   try clear c101
   try clear c103
   try clear c104
   try clear c106
   try clear hcz102_0
   try clear hcz102_1
   try clear hcz105_0
   try clear hcz105_1
   try clear hcz107_0
   try clear hcz107_1
   try clear hcz17_0
   try clear hcz17_1
   try clear hcz20_0
   try clear hcz20_1
   try clear hcz22_0
   try clear hcz22_1
   try clear hcz34_0
   try clear hcz34_1
   try clear hcz37_0
   try clear hcz37_1
   try clear hcz39_0
   try clear hcz39_1
   try clear hcz41_0
   try clear hcz41_1
   try clear hcz42_0
   try clear hcz42_1
   try clear hcz43_0
   try clear hcz43_1
   try clear hcz45_0
   try clear hcz45_1
   try clear hcz46_0
   try clear hcz46_1
   try clear hcz47_0
   try clear hcz47_1
   try clear hcz52_0
   try clear hcz52_1
   try clear hcz55_0
   try clear hcz55_1
   try clear hcz57_0
   try clear hcz57_1
   try clear hcz59_0
   try clear hcz59_1
   try clear hcz60_0
   try clear hcz60_1
   try clear hcz61_0
   try clear hcz61_1
   try clear hcz63_0
   try clear hcz63_1
   try clear hcz64_0
   try clear hcz64_1
   try clear hcz65_0
   try clear hcz65_1
   try clear hcz70_0
   try clear hcz70_1
   try clear hcz73_0
   try clear hcz73_1
   try clear hcz75_0
   try clear hcz75_1
   try clear hcz77_0
   try clear hcz77_1
   try clear hcz78_0
   try clear hcz78_1
   try clear hcz79_0
   try clear hcz79_1
   try clear hcz81_0
   try clear hcz81_1
   try clear hcz82_0
   try clear hcz82_1
   try clear hcz83_0
   try clear hcz83_1
   try clear hcz88_0
   try clear hcz88_1
   try clear hcz91_0
   try clear hcz91_1
   try clear hcz93_0
   try clear hcz93_1
   try clear hcz95_0
   try clear hcz95_1
   try clear hcz96_0
   try clear hcz96_1
   try clear hcz97_0
   try clear hcz97_1
   try clear hfz102_0
   try clear hfz102_1
   try clear hfz105_0
   try clear hfz105_1
   try clear hfz107_0
   try clear hfz107_1
   try clear hfz17_0
   try clear hfz17_1
   try clear hfz20_0
   try clear hfz20_1
   try clear hfz22_0
   try clear hfz22_1
   try clear hfz34_0
   try clear hfz34_1
   try clear hfz37_0
   try clear hfz37_1
   try clear hfz39_0
   try clear hfz39_1
   try clear hfz41_0
   try clear hfz41_1
   try clear hfz42_0
   try clear hfz42_1
   try clear hfz43_0
   try clear hfz43_1
   try clear hfz45_0
   try clear hfz45_1
   try clear hfz46_0
   try clear hfz46_1
   try clear hfz47_0
   try clear hfz47_1
   try clear hfz52_0
   try clear hfz52_1
   try clear hfz55_0
   try clear hfz55_1
   try clear hfz57_0
   try clear hfz57_1
   try clear hfz59_0
   try clear hfz59_1
   try clear hfz60_0
   try clear hfz60_1
   try clear hfz61_0
   try clear hfz61_1
   try clear hfz63_0
   try clear hfz63_1
   try clear hfz64_0
   try clear hfz64_1
   try clear hfz65_0
   try clear hfz65_1
   try clear hfz70_0
   try clear hfz70_1
   try clear hfz73_0
   try clear hfz73_1
   try clear hfz75_0
   try clear hfz75_1
   try clear hfz77_0
   try clear hfz77_1
   try clear hfz78_0
   try clear hfz78_1
   try clear hfz79_0
   try clear hfz79_1
   try clear hfz81_0
   try clear hfz81_1
   try clear hfz82_0
   try clear hfz82_1
   try clear hfz83_0
   try clear hfz83_1
   try clear hfz88_0
   try clear hfz88_1
   try clear hfz91_0
   try clear hfz91_1
   try clear hfz93_0
   try clear hfz93_1
   try clear hfz95_0
   try clear hfz95_1
   try clear hfz96_0
   try clear hfz96_1
   try clear hfz97_0
   try clear hfz97_1
   obtain ⟨kq, x48_7, rfl, HA, HJ7, BK421, BK422, BK423, BK424, HB⟩ := hcut
   cases kq with
   | zero => exact absurd HA.out (by simp [tangramlaw26_CrossTurns.j0])
   | succ kj7 =>
    have H := HA.out; clear HA; simp only [tangramlaw26_CrossTurns.j0] at H
    by_cases c109 : x48_7 = true
    ·subst c109; rw [if_pos rfl] at H; obtain rfl := Option.some.inj H
     go_wp2
     go_ret
     exact ⟨by first | rfl | (simp [errW_none, errW_some] <;> rfl) | (simp [*, errW_none, errW_some] <;> rfl), hb4 HB GE421 GE422 GE423 GE424⟩
    ·replace c109 := Bool.eq_false_iff.mpr c109; subst c109; rw [if_neg (show ¬ (false = true) by decide)] at H; have HC110 := Aside0.mk H; clear H
     go_upto_region 6 with (fail)
     go_cut [67] (fun v67 wc => ∃ (kq : Nat) (x67_109 : Bool), v67 = .bool x67_109 ∧ Aside0 (tangramlaw26_CrossTurns.j1 kq x67_109 a0_0 a0_1 a1_0 a1_1 a2_0 a2_1 a3_0 a3_1 = some r) ∧ Aside0 (kq ≤ kj7) ∧ Aside0 (wc.heap[gb421]? = some (.cells #[.int .i64 a0_0, .int .i64 a0_1] 23 (0, 0))) ∧ Aside0 (wc.heap[gb422]? = some (.cells #[.int .i64 a1_0, .int .i64 a1_1] 23 (0, 0))) ∧ Aside0 (wc.heap[gb423]? = some (.cells #[.int .i64 a2_0, .int .i64 a2_1] 23 (0, 0))) ∧ Aside0 (wc.heap[gb424]? = some (.cells #[.int .i64 a3_0, .int .i64 a3_1] 23 (0, 0))) ∧ Aside0 (Below w.heap.size w wc))
     case first => as_aux_lemma =>
      have H := HC110.out; clear HC110; replace H := Option.bind_eq_some_iff.mp H; obtain ⟨t430, A1110, H⟩ := H; (try dsimp only at H); have A111 := Aside0.mk A1110; clear A1110; replace H := Option.bind_eq_some_iff.mp H; obtain ⟨t431, A1120, H⟩ := H; (try dsimp only at H); have A112 := Aside0.mk A1120; clear A1120
      by_cases c113 : (t430 != t431) = true
      ·rw [if_pos c113] at H; have c113b0 : (t430 != t431) = true := c113
       (try (have c113b1 : decide (t430 = t431) = false := by simpa using c113))
       (try (have c113b2 : (t430 == t431) = false := by simpa using c113))
       (try (have c113b3 : ¬ (t430 = t431) := by simpa using c113))
       clear c113
       (first | rw [c113b0] | (simp only [i64_w, i32_w]; rw [c113b0]) | skip)
       have H' := Aside0.mk H; clear H
       try go_wp2
       replace BK421 := bd BK421; replace BK422 := bd BK422; replace BK423 := bd BK423; replace BK424 := bd BK424; replace HB := Aside0.mk (below_drew1 HB.out); refine start_ (n := 19) (S := fun w' => w'.cell? ⟨gb421, 0, none⟩ = some (.int .i64 a0_0) ∧ w'.cell? ⟨gb421, 1, none⟩ = some (.int .i64 a0_1) ∧ w'.cell? ⟨gb422, 0, none⟩ = some (.int .i64 a1_0) ∧ w'.cell? ⟨gb422, 1, none⟩ = some (.int .i64 a1_1) ∧ w'.cell? ⟨gb423, 0, none⟩ = some (.int .i64 a2_0) ∧ w'.cell? ⟨gb423, 1, none⟩ = some (.int .i64 a2_1)) (ds := []) (pf 0 19) (by kernel_rfl) rfl rfl ⟨bc BK421 0, bc BK421 1, bc BK422 0, bc BK422 1, bc BK423 0, bc BK423 1⟩ (fun hHeld => ?_); refine with_tabW tangramlaw26_CrossTurns.tab6 tangramlaw26_CrossTurns.bits6 (fun HT_ HW_ => ?_); generalize wc.drew = w114 at BK421 BK422 BK423 BK424 HB hHeld ⊢; refine tk6_ 0 (some 49) (pf 1 19) HT_ HW_ hHeld ?_; refine tk6_ 1 (some 50) (pf 2 19) HT_ HW_ hHeld ?_; refine tk6_ 2 (some 51) (pf 3 19) HT_ HW_ hHeld ?_; refine tk6_ 4 (some 53) #[T_,T_,T_,F_,T_,F_,F_,F_,F_,F_,F_,F_,F_,F_,F_,F_,F_,F_,F_] HT_ HW_ hHeld ?_; refine tk6_ 5 (some 54) #[T_,T_,T_,F_,T_,T_,F_,F_,F_,F_,F_,F_,F_,F_,F_,F_,F_,F_,F_] HT_ HW_ hHeld ?_; refine tk6_ 6 (some 55) #[T_,T_,T_,F_,T_,T_,T_,F_,F_,F_,F_,F_,F_,F_,F_,F_,F_,F_,F_] HT_ HW_ hHeld ?_; refine on_ 3 (some 52) (pf 7 19) HT_ (fun K hK => ?_)
       refine gs_ Try.func14 #[.agg #[.int .i64 a0_0, .int .i64 a0_1], .agg #[.int .i64 a1_0, .int .i64 a1_1], .agg #[.int .i64 a2_0, .int .i64 a2_1]] ?_
       with_reducible refine (cross_On.calls kj7 a0_0 a0_1 a1_0 a1_1 a2_0 a2_1 t430 _ A111.out).mono ?_
       rintro e w115 ⟨rfl, hb⟩; refine ⟨_, rfl, ?_⟩; replace BK421 := kx BK421 hb; replace BK422 := kx BK422 hb; replace BK423 := kx BK423 hb; replace BK424 := kx BK424 hb; replace HB := hs (hb4 HB GE421 GE422 GE423 GE424) hb
       (try clear hb)
       (try clear hb2)
       (try clear hk)
       (try clear hi)
       refine hK.out _ _ ⟨bc BK421 0, bc BK421 1, bc BK422 0, bc BK422 1, bc BK423 0, bc BK423 1⟩ (fun hHeld => ?_); clear hK K; refine nm_ (some 52) ?_; refine on_ 7 (some 56) (pf 8 19) HT_ (fun K hK => ?_); refine gs_ Try.func14 #[.agg #[.int .i64 a1_0, .int .i64 a1_1], .agg #[.int .i64 a0_0, .int .i64 a0_1], .agg #[.int .i64 a2_0, .int .i64 a2_1]] ?_
       with_reducible refine (cross_On.calls kj7 a1_0 a1_1 a0_0 a0_1 a2_0 a2_1 t431 _ A112.out).mono ?_
       rintro e w116 ⟨rfl, hb⟩; refine ⟨_, rfl, ?_⟩; replace BK421 := kx BK421 hb; replace BK422 := kx BK422 hb; replace BK423 := kx BK423 hb; replace BK424 := kx BK424 hb; replace HB := hs (hb4 HB GE421 GE422 GE423 GE424) hb
       (try clear hb)
       (try clear hb2)
       (try clear hk)
       (try clear hi)
       refine hK.out _ _ ⟨bc BK421 0, bc BK421 1, bc BK422 0, bc BK422 1, bc BK423 0, bc BK423 1⟩ (fun hHeld => ?_); clear hK K; refine nm_ (some 56) ?_; refine pu_ 8 (some 57) (pf 9 19) HT_ ?_; refine pu_ 9 (some 58) (pf 10 19) HT_ ?_; refine pn_ 10 (some 59) (pf 11 19) HT_ ?_; refine pn_ 11 (some 60) (pf 12 19) HT_ ?_; refine pn_ 12 (some 61) (pf 13 19) HT_ ?_; refine pn_ 13 (some 62) (pf 14 19) HT_ ?_; refine pn_ 14 (some 63) (pf 15 19) HT_ ?_; refine pn_ 15 (some 64) (pf 16 19) HT_ ?_; refine pn_ 16 (some 65) (pf 17 19) HT_ ?_; refine pn_ 17 (some 66) (pf 18 19) HT_ ?_; refine pu_ 18 (some 67) (pf 19 19) HT_ ?_; refine done_ (done_of HT_.out (by kernel_rfl)) ?_
       try go_wp2
       go_meet
       case rel => exact ⟨_, (true), (by first | rfl | (simp; done) | (simp [*]; done)), H', ⟨by have := HJ7.out; first | omega | exact Nat.le_refl _⟩, ⟨bx BK421⟩, ⟨bx BK422⟩, ⟨bx BK423⟩, ⟨bx BK424⟩, ⟨hb4 HB GE421 GE422 GE423 GE424⟩⟩
      ·rw [if_neg c113] at H; have c113b0 : (t430 != t431) = false := by simpa using c113
       (try (have c113b1 : decide (t430 = t431) = true := by simpa using c113))
       (try (have c113b2 : (t430 == t431) = true := by simpa using c113))
       clear c113
       (first | rw [c113b0] | (simp only [i64_w, i32_w]; rw [c113b0]) | skip)
       replace H := Option.bind_eq_some_iff.mp H; obtain ⟨t432, A1170, H⟩ := H; (try dsimp only at H); have A117 := Aside0.mk A1170; clear A1170
       by_cases c118 : t432 = true
       ·subst c118; rw [if_pos rfl] at H; have H' := Aside0.mk H; clear H
        try go_wp2
        replace BK421 := bd BK421; replace BK422 := bd BK422; replace BK423 := bd BK423; replace BK424 := bd BK424; replace HB := Aside0.mk (below_drew1 HB.out); refine start_ (n := 19) (S := fun w' => w'.cell? ⟨gb421, 0, none⟩ = some (.int .i64 a0_0) ∧ w'.cell? ⟨gb421, 1, none⟩ = some (.int .i64 a0_1) ∧ w'.cell? ⟨gb422, 0, none⟩ = some (.int .i64 a1_0) ∧ w'.cell? ⟨gb422, 1, none⟩ = some (.int .i64 a1_1) ∧ w'.cell? ⟨gb423, 0, none⟩ = some (.int .i64 a2_0) ∧ w'.cell? ⟨gb423, 1, none⟩ = some (.int .i64 a2_1)) (ds := []) (pf 0 19) (by kernel_rfl) rfl rfl ⟨bc BK421 0, bc BK421 1, bc BK422 0, bc BK422 1, bc BK423 0, bc BK423 1⟩ (fun hHeld => ?_); refine with_tabW tangramlaw26_CrossTurns.tab6 tangramlaw26_CrossTurns.bits6 (fun HT_ HW_ => ?_); generalize wc.drew = w119 at BK421 BK422 BK423 BK424 HB hHeld ⊢; refine tk6_ 0 (some 49) (pf 1 19) HT_ HW_ hHeld ?_; refine tk6_ 1 (some 50) (pf 2 19) HT_ HW_ hHeld ?_; refine tk6_ 2 (some 51) (pf 3 19) HT_ HW_ hHeld ?_; refine tk6_ 4 (some 53) #[T_,T_,T_,F_,T_,F_,F_,F_,F_,F_,F_,F_,F_,F_,F_,F_,F_,F_,F_] HT_ HW_ hHeld ?_; refine tk6_ 5 (some 54) #[T_,T_,T_,F_,T_,T_,F_,F_,F_,F_,F_,F_,F_,F_,F_,F_,F_,F_,F_] HT_ HW_ hHeld ?_; refine tk6_ 6 (some 55) #[T_,T_,T_,F_,T_,T_,T_,F_,F_,F_,F_,F_,F_,F_,F_,F_,F_,F_,F_] HT_ HW_ hHeld ?_; refine on_ 3 (some 52) (pf 7 19) HT_ (fun K hK => ?_)
        refine gs_ Try.func14 #[.agg #[.int .i64 a0_0, .int .i64 a0_1], .agg #[.int .i64 a1_0, .int .i64 a1_1], .agg #[.int .i64 a2_0, .int .i64 a2_1]] ?_
        with_reducible refine (cross_On.calls kj7 a0_0 a0_1 a1_0 a1_1 a2_0 a2_1 t430 _ A111.out).mono ?_
        rintro e w120 ⟨rfl, hb⟩; refine ⟨_, rfl, ?_⟩; replace BK421 := kx BK421 hb; replace BK422 := kx BK422 hb; replace BK423 := kx BK423 hb; replace BK424 := kx BK424 hb; replace HB := hs (hb4 HB GE421 GE422 GE423 GE424) hb
        (try clear hb)
        (try clear hb2)
        (try clear hk)
        (try clear hi)
        refine hK.out _ _ ⟨bc BK421 0, bc BK421 1, bc BK422 0, bc BK422 1, bc BK423 0, bc BK423 1⟩ (fun hHeld => ?_); clear hK K; refine nm_ (some 52) ?_; refine on_ 7 (some 56) (pf 8 19) HT_ (fun K hK => ?_); refine gs_ Try.func14 #[.agg #[.int .i64 a1_0, .int .i64 a1_1], .agg #[.int .i64 a0_0, .int .i64 a0_1], .agg #[.int .i64 a2_0, .int .i64 a2_1]] ?_
        with_reducible refine (cross_On.calls kj7 a1_0 a1_1 a0_0 a0_1 a2_0 a2_1 t431 _ A112.out).mono ?_
        rintro e w121 ⟨rfl, hb⟩; refine ⟨_, rfl, ?_⟩; replace BK421 := kx BK421 hb; replace BK422 := kx BK422 hb; replace BK423 := kx BK423 hb; replace BK424 := kx BK424 hb; replace HB := hs (hb4 HB GE421 GE422 GE423 GE424) hb
        (try clear hb)
        (try clear hb2)
        (try clear hk)
        (try clear hi)
        refine hK.out _ _ ⟨bc BK421 0, bc BK421 1, bc BK422 0, bc BK422 1, bc BK423 0, bc BK423 1⟩ (fun hHeld => ?_); clear hK K; refine nm_ (some 56) ?_; refine pu_ 8 (some 57) (pf 9 19) HT_ ?_; refine pu_ 9 (some 58) (pf 10 19) HT_ ?_; refine tk6_ 10 (some 59) (pf 11 19) HT_ HW_ hHeld ?_; refine tk6_ 11 (some 60) (pf 12 19) HT_ HW_ hHeld ?_; refine tk6_ 12 (some 61) (pf 13 19) HT_ HW_ hHeld ?_; refine on_ 13 (some 62) (pf 14 19) HT_ (fun K hK => ?_); refine gs_ Try.func14 #[.agg #[.int .i64 a0_0, .int .i64 a0_1], .agg #[.int .i64 a1_0, .int .i64 a1_1], .agg #[.int .i64 a2_0, .int .i64 a2_1]] ?_
        with_reducible refine (cross_On.calls kj7 a0_0 a0_1 a1_0 a1_1 a2_0 a2_1 true _ A117.out).mono ?_
        rintro e w122 ⟨rfl, hb⟩; refine ⟨_, rfl, ?_⟩; replace BK421 := kx BK421 hb; replace BK422 := kx BK422 hb; replace BK423 := kx BK423 hb; replace BK424 := kx BK424 hb; replace HB := hs (hb4 HB GE421 GE422 GE423 GE424) hb
        (try clear hb)
        (try clear hb2)
        (try clear hk)
        (try clear hi)
        refine hK.out _ _ ⟨bc BK421 0, bc BK421 1, bc BK422 0, bc BK422 1, bc BK423 0, bc BK423 1⟩ (fun hHeld => ?_); clear hK K; refine nm_ (some 62) ?_; refine pu_ 14 (some 63) (pf 15 19) HT_ ?_; refine pu_ 15 (some 64) (pf 16 19) HT_ ?_; refine pu_ 16 (some 65) (pf 17 19) HT_ ?_; refine pu_ 17 (some 66) (pf 18 19) HT_ ?_; refine pu_ 18 (some 67) (pf 19 19) HT_ ?_; refine done_ (done_of HT_.out (by kernel_rfl)) ?_
        try go_wp2
        go_meet
        case rel => exact ⟨_, ((t426 != 0)), (by first | rfl | (simp; done) | (simp [*]; done)), H', ⟨by have := HJ7.out; first | omega | exact Nat.le_refl _⟩, ⟨bx BK421⟩, ⟨bx BK422⟩, ⟨bx BK423⟩, ⟨bx BK424⟩, ⟨hb4 HB GE421 GE422 GE423 GE424⟩⟩
       ·replace c118 := Bool.eq_false_iff.mpr c118; subst c118; rw [if_neg (show ¬ (false = true) by decide)] at H; have H' := Aside0.mk H; clear H
        try go_wp2
        replace BK421 := bd BK421; replace BK422 := bd BK422; replace BK423 := bd BK423; replace BK424 := bd BK424; replace HB := Aside0.mk (below_drew1 HB.out); refine start_ (n := 19) (S := fun w' => w'.cell? ⟨gb421, 0, none⟩ = some (.int .i64 a0_0) ∧ w'.cell? ⟨gb421, 1, none⟩ = some (.int .i64 a0_1) ∧ w'.cell? ⟨gb422, 0, none⟩ = some (.int .i64 a1_0) ∧ w'.cell? ⟨gb422, 1, none⟩ = some (.int .i64 a1_1) ∧ w'.cell? ⟨gb423, 0, none⟩ = some (.int .i64 a2_0) ∧ w'.cell? ⟨gb423, 1, none⟩ = some (.int .i64 a2_1)) (ds := []) (pf 0 19) (by kernel_rfl) rfl rfl ⟨bc BK421 0, bc BK421 1, bc BK422 0, bc BK422 1, bc BK423 0, bc BK423 1⟩ (fun hHeld => ?_); refine with_tabW tangramlaw26_CrossTurns.tab6 tangramlaw26_CrossTurns.bits6 (fun HT_ HW_ => ?_); generalize wc.drew = w123 at BK421 BK422 BK423 BK424 HB hHeld ⊢; refine tk6_ 0 (some 49) (pf 1 19) HT_ HW_ hHeld ?_; refine tk6_ 1 (some 50) (pf 2 19) HT_ HW_ hHeld ?_; refine tk6_ 2 (some 51) (pf 3 19) HT_ HW_ hHeld ?_; refine tk6_ 4 (some 53) #[T_,T_,T_,F_,T_,F_,F_,F_,F_,F_,F_,F_,F_,F_,F_,F_,F_,F_,F_] HT_ HW_ hHeld ?_; refine tk6_ 5 (some 54) #[T_,T_,T_,F_,T_,T_,F_,F_,F_,F_,F_,F_,F_,F_,F_,F_,F_,F_,F_] HT_ HW_ hHeld ?_; refine tk6_ 6 (some 55) #[T_,T_,T_,F_,T_,T_,T_,F_,F_,F_,F_,F_,F_,F_,F_,F_,F_,F_,F_] HT_ HW_ hHeld ?_; refine on_ 3 (some 52) (pf 7 19) HT_ (fun K hK => ?_)
        refine gs_ Try.func14 #[.agg #[.int .i64 a0_0, .int .i64 a0_1], .agg #[.int .i64 a1_0, .int .i64 a1_1], .agg #[.int .i64 a2_0, .int .i64 a2_1]] ?_
        with_reducible refine (cross_On.calls kj7 a0_0 a0_1 a1_0 a1_1 a2_0 a2_1 t430 _ A111.out).mono ?_
        rintro e w124 ⟨rfl, hb⟩; refine ⟨_, rfl, ?_⟩; replace BK421 := kx BK421 hb; replace BK422 := kx BK422 hb; replace BK423 := kx BK423 hb; replace BK424 := kx BK424 hb; replace HB := hs (hb4 HB GE421 GE422 GE423 GE424) hb
        (try clear hb)
        (try clear hb2)
        (try clear hk)
        (try clear hi)
        refine hK.out _ _ ⟨bc BK421 0, bc BK421 1, bc BK422 0, bc BK422 1, bc BK423 0, bc BK423 1⟩ (fun hHeld => ?_); clear hK K; refine nm_ (some 52) ?_; refine on_ 7 (some 56) (pf 8 19) HT_ (fun K hK => ?_); refine gs_ Try.func14 #[.agg #[.int .i64 a1_0, .int .i64 a1_1], .agg #[.int .i64 a0_0, .int .i64 a0_1], .agg #[.int .i64 a2_0, .int .i64 a2_1]] ?_
        with_reducible refine (cross_On.calls kj7 a1_0 a1_1 a0_0 a0_1 a2_0 a2_1 t431 _ A112.out).mono ?_
        rintro e w125 ⟨rfl, hb⟩; refine ⟨_, rfl, ?_⟩; replace BK421 := kx BK421 hb; replace BK422 := kx BK422 hb; replace BK423 := kx BK423 hb; replace BK424 := kx BK424 hb; replace HB := hs (hb4 HB GE421 GE422 GE423 GE424) hb
        (try clear hb)
        (try clear hb2)
        (try clear hk)
        (try clear hi)
        refine hK.out _ _ ⟨bc BK421 0, bc BK421 1, bc BK422 0, bc BK422 1, bc BK423 0, bc BK423 1⟩ (fun hHeld => ?_); clear hK K; refine nm_ (some 56) ?_; refine pu_ 8 (some 57) (pf 9 19) HT_ ?_; refine pu_ 9 (some 58) (pf 10 19) HT_ ?_; refine tk6_ 10 (some 59) (pf 11 19) HT_ HW_ hHeld ?_; refine tk6_ 11 (some 60) (pf 12 19) HT_ HW_ hHeld ?_; refine tk6_ 12 (some 61) (pf 13 19) HT_ HW_ hHeld ?_; refine on_ 13 (some 62) (pf 14 19) HT_ (fun K hK => ?_); refine gs_ Try.func14 #[.agg #[.int .i64 a0_0, .int .i64 a0_1], .agg #[.int .i64 a1_0, .int .i64 a1_1], .agg #[.int .i64 a2_0, .int .i64 a2_1]] ?_
        with_reducible refine (cross_On.calls kj7 a0_0 a0_1 a1_0 a1_1 a2_0 a2_1 false _ A117.out).mono ?_
        rintro e w126 ⟨rfl, hb⟩; refine ⟨_, rfl, ?_⟩; replace BK421 := kx BK421 hb; replace BK422 := kx BK422 hb; replace BK423 := kx BK423 hb; replace BK424 := kx BK424 hb; replace HB := hs (hb4 HB GE421 GE422 GE423 GE424) hb
        (try clear hb)
        (try clear hb2)
        (try clear hk)
        (try clear hi)
        refine hK.out _ _ ⟨bc BK421 0, bc BK421 1, bc BK422 0, bc BK422 1, bc BK423 0, bc BK423 1⟩ (fun hHeld => ?_); clear hK K; refine nm_ (some 62) ?_; refine pu_ 14 (some 63) (pf 15 19) HT_ ?_; refine pn_ 15 (some 64) (pf 16 19) HT_ ?_; refine pn_ 16 (some 65) (pf 17 19) HT_ ?_; refine pu_ 17 (some 66) (pf 18 19) HT_ ?_; refine pu_ 18 (some 67) (pf 19 19) HT_ ?_; refine done_ (done_of HT_.out (by kernel_rfl)) ?_
        try go_wp2
        go_meet
        case rel => exact ⟨_, (false), (by first | rfl | (simp; done) | (simp [*]; done)), H', ⟨by have := HJ7.out; first | omega | exact Nat.le_refl _⟩, ⟨bx BK421⟩, ⟨bx BK422⟩, ⟨bx BK423⟩, ⟨bx BK424⟩, ⟨hb4 HB GE421 GE422 GE423 GE424⟩⟩
     case rest => as_aux_lemma =>
      clear HC110
      try clear c1
      try clear p2
      try clear c11
      try clear c14
      try clear c113
      try clear c113b0
      try clear c113b1
      try clear c113b2
      try clear c118
      obtain ⟨kq, x67_109, rfl, HA, HJ109, BK421, BK422, BK423, BK424, HB⟩ := hcut
      cases kq with
      | zero => exact absurd HA.out (by simp [tangramlaw26_CrossTurns.j1])
      | succ kj109 =>
       have H := HA.out; clear HA; simp only [tangramlaw26_CrossTurns.j1] at H
       by_cases c127 : x67_109 = true
       ·subst c127; rw [if_pos rfl] at H; obtain rfl := Option.some.inj H
        go_wp2
        go_ret
        exact ⟨by first | rfl | (simp [errW_none, errW_some] <;> rfl) | (simp [*, errW_none, errW_some] <;> rfl), hb4 HB GE421 GE422 GE423 GE424⟩
       ·replace c127 := Bool.eq_false_iff.mpr c127; subst c127; rw [if_neg (show ¬ (false = true) by decide)] at H; replace H := Option.bind_eq_some_iff.mp H; obtain ⟨t433, A1280, H⟩ := H; (try dsimp only at H); have A128 := Aside0.mk A1280; clear A1280; have HC129 := Aside0.mk H; clear H; have hnb130 := NB421_422.out; have hnc130 := NB422_421.out; have hnb131 := NB421_423.out; have hnc131 := NB423_421.out; have hnb132 := NB421_424.out; have hnc132 := NB424_421.out; have hcz133_0 : wc.cell? ⟨gb421, 0, none⟩ = some (.int .i64 a0_0) := bc BK421 0; have hcz133_1 : wc.cell? ⟨gb421, 1, none⟩ = some (.int .i64 a0_1) := bc BK421 1; have hfz133_0 := blk_frozen BK421.out 0; have hfz133_1 := blk_frozen BK421.out 1; have hnb134 := NB422_423.out; have hnc134 := NB423_422.out; have hnb135 := NB422_424.out; have hnc135 := NB424_422.out; have hcz136_0 : wc.cell? ⟨gb422, 0, none⟩ = some (.int .i64 a1_0) := bc BK422 0; have hcz136_1 : wc.cell? ⟨gb422, 1, none⟩ = some (.int .i64 a1_1) := bc BK422 1
        have hfz136_0 := blk_frozen BK422.out 0; have hfz136_1 := blk_frozen BK422.out 1; have hnb137 := NB423_424.out; have hnc137 := NB424_423.out; have hcz138_0 : wc.cell? ⟨gb423, 0, none⟩ = some (.int .i64 a2_0) := bc BK423 0; have hcz138_1 : wc.cell? ⟨gb423, 1, none⟩ = some (.int .i64 a2_1) := bc BK423 1; have hfz138_0 := blk_frozen BK423.out 0; have hfz138_1 := blk_frozen BK423.out 1; have hcz139_0 : wc.cell? ⟨gb424, 0, none⟩ = some (.int .i64 a3_0) := bc BK424 0; have hcz139_1 : wc.cell? ⟨gb424, 1, none⟩ = some (.int .i64 a3_1) := bc BK424 1; have hfz139_0 := blk_frozen BK424.out 0; have hfz139_1 := blk_frozen BK424.out 1
        go_upto_region 9 with (first | ((with_reducible refine gate_callee (f := 16) rfl ?_); refine gl_ (some 72) Try.func16 #[.agg #[.int .i64 a0_0, .int .i64 a0_1], .agg #[.int .i64 a1_0, .int .i64 a1_1], .agg #[.int .i64 a2_0, .int .i64 a2_1], .agg #[.int .i64 a3_0, .int .i64 a3_1]] ?_; (with_reducible refine (cross_Meet.calls kj109 a0_0 a0_1 a1_0 a1_1 a2_0 a2_1 a3_0 a3_1 t433 _ A128.out).mono ?_); rintro e w140 ⟨rfl, hb⟩; refine ⟨_, rfl, ?_⟩; replace BK421 := kx BK421 hb; replace BK422 := kx BK422 hb; replace BK423 := kx BK423 hb; replace BK424 := kx BK424 hb; replace HB := hs (hb4 HB GE421 GE422 GE423 GE424) hb; (try clear hb); (try clear hb2); (try clear hk); (try clear hi)))
        (try simp only [Act.put, List.setIfInBounds_toArray, List.set_cons_zero, List.set_cons_succ])
        go_cut [97] (fun v97 wc => ∃ (kq : Nat) (x97_128 : Bool), v97 = .bool x97_128 ∧ Aside0 (tangramlaw26_CrossTurns.j2 kq t433 x97_128 a0_0 a0_1 a1_0 a1_1 a2_0 a2_1 a3_0 a3_1 = some r) ∧ Aside0 (kq ≤ kj109) ∧ Aside0 (wc.heap[gb421]? = some (.cells #[.int .i64 a0_0, .int .i64 a0_1] 23 (0, 0))) ∧ Aside0 (wc.heap[gb422]? = some (.cells #[.int .i64 a1_0, .int .i64 a1_1] 23 (0, 0))) ∧ Aside0 (wc.heap[gb423]? = some (.cells #[.int .i64 a2_0, .int .i64 a2_1] 23 (0, 0))) ∧ Aside0 (wc.heap[gb424]? = some (.cells #[.int .i64 a3_0, .int .i64 a3_1] 23 (0, 0))) ∧ Aside0 (Below w.heap.size w wc))
        case first => as_aux_lemma =>
         have H := HC129.out; clear HC129; replace H := Option.bind_eq_some_iff.mp H; obtain ⟨t434, A1410, H⟩ := H; (try dsimp only at H); have A141 := Aside0.mk A1410; clear A1410
         by_cases c142 : (t433 != t434) = true
         ·rw [if_pos c142] at H; have c142b0 : (t433 != t434) = true := c142
          (try (have c142b1 : decide (t433 = t434) = false := by simpa using c142))
          (try (have c142b2 : (t433 == t434) = false := by simpa using c142))
          (try (have c142b3 : ¬ (t433 = t434) := by simpa using c142))
          clear c142
          (first | rw [c142b0] | (simp only [i64_w, i32_w]; rw [c142b0]) | skip)
          have H' := Aside0.mk H; clear H; have hnb143 := NB422_421.out; have hnc143 := NB421_422.out; have hnb144 := NB422_423.out; have hnc144 := NB423_422.out; have hnb145 := NB422_424.out; have hnc145 := NB424_422.out; have hcz146_0 : w140.cell? ⟨gb422, 0, none⟩ = some (.int .i64 a1_0) := bc BK422 0; have hcz146_1 : w140.cell? ⟨gb422, 1, none⟩ = some (.int .i64 a1_1) := bc BK422 1; have hfz146_0 := blk_frozen BK422.out 0; have hfz146_1 := blk_frozen BK422.out 1; have hnb147 := NB421_423.out; have hnc147 := NB423_421.out; have hnb148 := NB421_424.out; have hnc148 := NB424_421.out; have hcz149_0 : w140.cell? ⟨gb421, 0, none⟩ = some (.int .i64 a0_0) := bc BK421 0; have hcz149_1 : w140.cell? ⟨gb421, 1, none⟩ = some (.int .i64 a0_1) := bc BK421 1; have hfz149_0 := blk_frozen BK421.out 0; have hfz149_1 := blk_frozen BK421.out 1; have hnb150 := NB423_424.out; have hnc150 := NB424_423.out; have hcz151_0 : w140.cell? ⟨gb423, 0, none⟩ = some (.int .i64 a2_0) := bc BK423 0; have hcz151_1 : w140.cell? ⟨gb423, 1, none⟩ = some (.int .i64 a2_1) := bc BK423 1; have hfz151_0 := blk_frozen BK423.out 0; have hfz151_1 := blk_frozen BK423.out 1; have hcz152_0 : w140.cell? ⟨gb424, 0, none⟩ = some (.int .i64 a3_0) := bc BK424 0; have hcz152_1 : w140.cell? ⟨gb424, 1, none⟩ = some (.int .i64 a3_1) := bc BK424 1; have hfz152_0 := blk_frozen BK424.out 0; have hfz152_1 := blk_frozen BK424.out 1
          go_wp2_with (first | ((with_reducible refine gate_callee (f := 16) rfl ?_); refine gl_ (some 78) Try.func16 #[.agg #[.int .i64 a1_0, .int .i64 a1_1], .agg #[.int .i64 a0_0, .int .i64 a0_1], .agg #[.int .i64 a2_0, .int .i64 a2_1], .agg #[.int .i64 a3_0, .int .i64 a3_1]] ?_; (with_reducible refine (cross_Meet.calls kj109 a1_0 a1_1 a0_0 a0_1 a2_0 a2_1 a3_0 a3_1 t434 _ A141.out).mono ?_); rintro e w153 ⟨rfl, hb⟩; refine ⟨_, rfl, ?_⟩; replace BK421 := kx BK421 hb; replace BK422 := kx BK422 hb; replace BK423 := kx BK423 hb; replace BK424 := kx BK424 hb; replace HB := hs (hb4 HB GE421 GE422 GE423 GE424) hb; (try clear hb); (try clear hb2); (try clear hk); (try clear hi)))
          go_meet
          case rel => exact ⟨_, (true), (by first | rfl | (simp; done) | (simp [*]; done)), H', ⟨by have := HJ7.out; have := HJ109.out; first | omega | exact Nat.le_refl _⟩, ⟨bx BK421⟩, ⟨bx BK422⟩, ⟨bx BK423⟩, ⟨bx BK424⟩, ⟨hb4 HB GE421 GE422 GE423 GE424⟩⟩
         ·rw [if_neg c142] at H; have c142b0 : (t433 != t434) = false := by simpa using c142
          (try (have c142b1 : decide (t433 = t434) = true := by simpa using c142))
          (try (have c142b2 : (t433 == t434) = true := by simpa using c142))
          clear c142
          (first | rw [c142b0] | (simp only [i64_w, i32_w]; rw [c142b0]) | skip)
          replace H := Option.bind_eq_some_iff.mp H; obtain ⟨t435, A1540, H⟩ := H; (try dsimp only at H); have A154 := Aside0.mk A1540; clear A1540
          by_cases c155 : (t433 != t435) = true
          ·rw [if_pos c155] at H; have c155b0 : (t433 != t435) = true := c155
           (try (have c155b1 : decide (t433 = t435) = false := by simpa using c155))
           (try (have c155b2 : (t433 == t435) = false := by simpa using c155))
           (try (have c155b3 : ¬ (t433 = t435) := by simpa using c155))
           clear c155; have H' := Aside0.mk H; clear H; have hnb156 := NB422_421.out; have hnc156 := NB421_422.out; have hnb157 := NB422_423.out; have hnc157 := NB423_422.out; have hnb158 := NB422_424.out; have hnc158 := NB424_422.out; have hcz159_0 : w140.cell? ⟨gb422, 0, none⟩ = some (.int .i64 a1_0) := bc BK422 0; have hcz159_1 : w140.cell? ⟨gb422, 1, none⟩ = some (.int .i64 a1_1) := bc BK422 1; have hfz159_0 := blk_frozen BK422.out 0; have hfz159_1 := blk_frozen BK422.out 1; have hnb160 := NB421_423.out; have hnc160 := NB423_421.out; have hnb161 := NB421_424.out; have hnc161 := NB424_421.out; have hcz162_0 : w140.cell? ⟨gb421, 0, none⟩ = some (.int .i64 a0_0) := bc BK421 0; have hcz162_1 : w140.cell? ⟨gb421, 1, none⟩ = some (.int .i64 a0_1) := bc BK421 1; have hfz162_0 := blk_frozen BK421.out 0; have hfz162_1 := blk_frozen BK421.out 1; have hnb163 := NB423_424.out; have hnc163 := NB424_423.out; have hcz164_0 : w140.cell? ⟨gb423, 0, none⟩ = some (.int .i64 a2_0) := bc BK423 0; have hcz164_1 : w140.cell? ⟨gb423, 1, none⟩ = some (.int .i64 a2_1) := bc BK423 1; have hfz164_0 := blk_frozen BK423.out 0; have hfz164_1 := blk_frozen BK423.out 1; have hcz165_0 : w140.cell? ⟨gb424, 0, none⟩ = some (.int .i64 a3_0) := bc BK424 0; have hcz165_1 : w140.cell? ⟨gb424, 1, none⟩ = some (.int .i64 a3_1) := bc BK424 1; have hfz165_0 := blk_frozen BK424.out 0; have hfz165_1 := blk_frozen BK424.out 1
           go_wp2_with (first | ((with_reducible refine gate_callee (f := 16) rfl ?_); refine gl_ (some 78) Try.func16 #[.agg #[.int .i64 a1_0, .int .i64 a1_1], .agg #[.int .i64 a0_0, .int .i64 a0_1], .agg #[.int .i64 a2_0, .int .i64 a2_1], .agg #[.int .i64 a3_0, .int .i64 a3_1]] ?_; (with_reducible refine (cross_Meet.calls kj109 a1_0 a1_1 a0_0 a0_1 a2_0 a2_1 a3_0 a3_1 t434 _ A141.out).mono ?_); rintro e w166 ⟨rfl, hb⟩; refine ⟨_, rfl, ?_⟩; replace BK421 := kx BK421 hb; replace BK422 := kx BK422 hb; replace BK423 := kx BK423 hb; replace BK424 := kx BK424 hb; replace HB := hs (hb4 HB GE421 GE422 GE423 GE424) hb; (try clear hb); (try clear hb2); (try clear hk); (try clear hi); have hcz167_0 : w166.cell? ⟨gb421, 0, none⟩ = some (.int .i64 a0_0) := bc BK421 0; have hcz167_1 : w166.cell? ⟨gb421, 1, none⟩ = some (.int .i64 a0_1) := bc BK421 1; have hfz167_0 := blk_frozen BK421.out 0; have hfz167_1 := blk_frozen BK421.out 1; have hcz168_0 : w166.cell? ⟨gb422, 0, none⟩ = some (.int .i64 a1_0) := bc BK422 0; have hcz168_1 : w166.cell? ⟨gb422, 1, none⟩ = some (.int .i64 a1_1) := bc BK422 1; have hfz168_0 := blk_frozen BK422.out 0; have hfz168_1 := blk_frozen BK422.out 1; have hcz169_0 : w166.cell? ⟨gb424, 0, none⟩ = some (.int .i64 a3_0) := bc BK424 0; have hcz169_1 : w166.cell? ⟨gb424, 1, none⟩ = some (.int .i64 a3_1) := bc BK424 1; have hfz169_0 := blk_frozen BK424.out 0; have hfz169_1 := blk_frozen BK424.out 1; have hcz170_0 : w166.cell? ⟨gb423, 0, none⟩ = some (.int .i64 a2_0) := bc BK423 0; have hcz170_1 : w166.cell? ⟨gb423, 1, none⟩ = some (.int .i64 a2_1) := bc BK423 1; have hfz170_0 := blk_frozen BK423.out 0; have hfz170_1 := blk_frozen BK423.out 1) | (go_at_call 16; (with_reducible refine (cross_Meet.calls kj109 a0_0 a0_1 a1_0 a1_1 a3_0 a3_1 a2_0 a2_1 t435 _ A154.out).mono ?_); rintro e w171 ⟨rfl, hb⟩; replace BK421 := kx BK421 hb; replace BK422 := kx BK422 hb; replace BK423 := kx BK423 hb; replace BK424 := kx BK424 hb; replace HB := hs (hb4 HB GE421 GE422 GE423 GE424) hb; (try clear hb); (try clear hb2); (try clear hk); (try clear hi)))
           go_meet
           case rel => exact ⟨_, (true), (by first | rfl | (simp; done) | (simp [*]; done)), H', ⟨by have := HJ7.out; have := HJ109.out; first | omega | exact Nat.le_refl _⟩, ⟨bx BK421⟩, ⟨bx BK422⟩, ⟨bx BK423⟩, ⟨bx BK424⟩, ⟨hb4 HB GE421 GE422 GE423 GE424⟩⟩
          ·rw [if_neg c155] at H; have c155b0 : (t433 != t435) = false := by simpa using c155
           (try (have c155b1 : decide (t433 = t435) = true := by simpa using c155))
           (try (have c155b2 : (t433 == t435) = true := by simpa using c155))
           clear c155; replace H := Option.bind_eq_some_iff.mp H; obtain ⟨t436, A1720, H⟩ := H; (try dsimp only at H); have A172 := Aside0.mk A1720; clear A1720; have H' := Aside0.mk H; clear H; have hnb173 := NB422_421.out; have hnc173 := NB421_422.out; have hnb174 := NB422_423.out; have hnc174 := NB423_422.out; have hnb175 := NB422_424.out; have hnc175 := NB424_422.out; have hcz176_0 : w140.cell? ⟨gb422, 0, none⟩ = some (.int .i64 a1_0) := bc BK422 0; have hcz176_1 : w140.cell? ⟨gb422, 1, none⟩ = some (.int .i64 a1_1) := bc BK422 1; have hfz176_0 := blk_frozen BK422.out 0; have hfz176_1 := blk_frozen BK422.out 1; have hnb177 := NB421_423.out; have hnc177 := NB423_421.out; have hnb178 := NB421_424.out; have hnc178 := NB424_421.out; have hcz179_0 : w140.cell? ⟨gb421, 0, none⟩ = some (.int .i64 a0_0) := bc BK421 0; have hcz179_1 : w140.cell? ⟨gb421, 1, none⟩ = some (.int .i64 a0_1) := bc BK421 1; have hfz179_0 := blk_frozen BK421.out 0; have hfz179_1 := blk_frozen BK421.out 1; have hnb180 := NB423_424.out; have hnc180 := NB424_423.out; have hcz181_0 : w140.cell? ⟨gb423, 0, none⟩ = some (.int .i64 a2_0) := bc BK423 0; have hcz181_1 : w140.cell? ⟨gb423, 1, none⟩ = some (.int .i64 a2_1) := bc BK423 1; have hfz181_0 := blk_frozen BK423.out 0; have hfz181_1 := blk_frozen BK423.out 1; have hcz182_0 : w140.cell? ⟨gb424, 0, none⟩ = some (.int .i64 a3_0) := bc BK424 0; have hcz182_1 : w140.cell? ⟨gb424, 1, none⟩ = some (.int .i64 a3_1) := bc BK424 1
           have hfz182_0 := blk_frozen BK424.out 0; have hfz182_1 := blk_frozen BK424.out 1
           go_wp2_with (first | ((with_reducible refine gate_callee (f := 16) rfl ?_); refine gl_ (some 78) Try.func16 #[.agg #[.int .i64 a1_0, .int .i64 a1_1], .agg #[.int .i64 a0_0, .int .i64 a0_1], .agg #[.int .i64 a2_0, .int .i64 a2_1], .agg #[.int .i64 a3_0, .int .i64 a3_1]] ?_; (with_reducible refine (cross_Meet.calls kj109 a1_0 a1_1 a0_0 a0_1 a2_0 a2_1 a3_0 a3_1 t434 _ A141.out).mono ?_); rintro e w183 ⟨rfl, hb⟩; refine ⟨_, rfl, ?_⟩; replace BK421 := kx BK421 hb; replace BK422 := kx BK422 hb; replace BK423 := kx BK423 hb; replace BK424 := kx BK424 hb; replace HB := hs (hb4 HB GE421 GE422 GE423 GE424) hb; (try clear hb); (try clear hb2); (try clear hk); (try clear hi); have hcz184_0 : w183.cell? ⟨gb421, 0, none⟩ = some (.int .i64 a0_0) := bc BK421 0; have hcz184_1 : w183.cell? ⟨gb421, 1, none⟩ = some (.int .i64 a0_1) := bc BK421 1; have hfz184_0 := blk_frozen BK421.out 0; have hfz184_1 := blk_frozen BK421.out 1; have hcz185_0 : w183.cell? ⟨gb422, 0, none⟩ = some (.int .i64 a1_0) := bc BK422 0; have hcz185_1 : w183.cell? ⟨gb422, 1, none⟩ = some (.int .i64 a1_1) := bc BK422 1; have hfz185_0 := blk_frozen BK422.out 0; have hfz185_1 := blk_frozen BK422.out 1; have hcz186_0 : w183.cell? ⟨gb424, 0, none⟩ = some (.int .i64 a3_0) := bc BK424 0; have hcz186_1 : w183.cell? ⟨gb424, 1, none⟩ = some (.int .i64 a3_1) := bc BK424 1; have hfz186_0 := blk_frozen BK424.out 0; have hfz186_1 := blk_frozen BK424.out 1; have hcz187_0 : w183.cell? ⟨gb423, 0, none⟩ = some (.int .i64 a2_0) := bc BK423 0; have hcz187_1 : w183.cell? ⟨gb423, 1, none⟩ = some (.int .i64 a2_1) := bc BK423 1; have hfz187_0 := blk_frozen BK423.out 0; have hfz187_1 := blk_frozen BK423.out 1) | (go_at_call 16; (with_reducible refine (cross_Meet.calls kj109 a0_0 a0_1 a1_0 a1_1 a3_0 a3_1 a2_0 a2_1 t435 _ A154.out).mono ?_); rintro e w188 ⟨rfl, hb⟩; replace BK421 := kx BK421 hb; replace BK422 := kx BK422 hb; replace BK423 := kx BK423 hb; replace BK424 := kx BK424 hb; replace HB := hs (hb4 HB GE421 GE422 GE423 GE424) hb; (try clear hb); (try clear hb2); (try clear hk); (try clear hi); have hcz189_0 : w188.cell? ⟨gb423, 0, none⟩ = some (.int .i64 a2_0) := bc BK423 0; have hcz189_1 : w188.cell? ⟨gb423, 1, none⟩ = some (.int .i64 a2_1) := bc BK423 1; have hfz189_0 := blk_frozen BK423.out 0; have hfz189_1 := blk_frozen BK423.out 1; have hcz190_0 : w188.cell? ⟨gb424, 0, none⟩ = some (.int .i64 a3_0) := bc BK424 0; have hcz190_1 : w188.cell? ⟨gb424, 1, none⟩ = some (.int .i64 a3_1) := bc BK424 1; have hfz190_0 := blk_frozen BK424.out 0; have hfz190_1 := blk_frozen BK424.out 1; have hcz191_0 : w188.cell? ⟨gb421, 0, none⟩ = some (.int .i64 a0_0) := bc BK421 0; have hcz191_1 : w188.cell? ⟨gb421, 1, none⟩ = some (.int .i64 a0_1) := bc BK421 1; have hfz191_0 := blk_frozen BK421.out 0; have hfz191_1 := blk_frozen BK421.out 1; have hcz192_0 : w188.cell? ⟨gb422, 0, none⟩ = some (.int .i64 a1_0) := bc BK422 0; have hcz192_1 : w188.cell? ⟨gb422, 1, none⟩ = some (.int .i64 a1_1) := bc BK422 1; have hfz192_0 := blk_frozen BK422.out 0; have hfz192_1 := blk_frozen BK422.out 1) | (go_at_call 16; (with_reducible refine (cross_Meet.calls kj109 a2_0 a2_1 a3_0 a3_1 a0_0 a0_1 a1_0 a1_1 t436 _ A172.out).mono ?_); rintro e w193 ⟨rfl, hb⟩; replace BK421 := kx BK421 hb; replace BK422 := kx BK422 hb; replace BK423 := kx BK423 hb; replace BK424 := kx BK424 hb; replace HB := hs (hb4 HB GE421 GE422 GE423 GE424) hb; (try clear hb); (try clear hb2); (try clear hk); (try clear hi)))
           go_meet
           case rel => exact ⟨_, ((t433 != t436)), (by first | rfl | (simp; done) | (simp [*]; done)), H', ⟨by have := HJ7.out; have := HJ109.out; first | omega | exact Nat.le_refl _⟩, ⟨bx BK421⟩, ⟨bx BK422⟩, ⟨bx BK423⟩, ⟨bx BK424⟩, ⟨hb4 HB GE421 GE422 GE423 GE424⟩⟩
        case rest => as_aux_lemma =>
         clear HC129
         try clear c1
         try clear p2
         try clear c11
         try clear c12
         try clear c13
         try clear c14
         try clear c15
         try clear c16
         try clear c17
         try clear c18
         try clear c113
         try clear c113b0
         try clear c113b1
         try clear c113b2
         try clear c118
         try clear c127
         try clear c130
         try clear c131
         try clear c132
         try clear c134
         try clear c135
         try clear c137
         try clear c142
         try clear c142b0
         try clear c142b1
         try clear c142b2
         try clear c143
         try clear c144
         try clear c145
         try clear c147
         try clear c148
         try clear c150
         try clear c155
         try clear c155b0
         try clear c155b1
         try clear c155b2
         try clear c156
         try clear c157
         try clear c158
         try clear c160
         try clear c161
         try clear c163
         try clear c173
         try clear c174
         try clear c175
         try clear c177
         try clear c178
         try clear c180
         try clear hcz133_0
         try clear hcz133_1
         try clear hcz136_0
         try clear hcz136_1
         try clear hcz138_0
         try clear hcz138_1
         try clear hcz139_0
         try clear hcz139_1
         try clear hcz146_0
         try clear hcz146_1
         try clear hcz149_0
         try clear hcz149_1
         try clear hcz151_0
         try clear hcz151_1
         try clear hcz152_0
         try clear hcz152_1
         try clear hcz159_0
         try clear hcz159_1
         try clear hcz162_0
         try clear hcz162_1
         try clear hcz164_0
         try clear hcz164_1
         try clear hcz165_0
         try clear hcz165_1
         try clear hcz167_0
         try clear hcz167_1
         try clear hcz168_0
         try clear hcz168_1
         try clear hcz169_0
         try clear hcz169_1
         try clear hcz170_0
         try clear hcz170_1
         try clear hcz176_0
         try clear hcz176_1
         try clear hcz179_0
         try clear hcz179_1
         try clear hcz181_0
         try clear hcz181_1
         try clear hcz182_0
         try clear hcz182_1
         try clear hcz184_0
         try clear hcz184_1
         try clear hcz185_0
         try clear hcz185_1
         try clear hcz186_0
         try clear hcz186_1
         try clear hcz187_0
         try clear hcz187_1
         try clear hcz189_0
         try clear hcz189_1
         try clear hcz190_0
         try clear hcz190_1
         try clear hcz191_0
         try clear hcz191_1
         try clear hcz192_0
         try clear hcz192_1
         try clear hfz133_0
         try clear hfz133_1
         try clear hfz136_0
         try clear hfz136_1
         try clear hfz138_0
         try clear hfz138_1
         try clear hfz139_0
         try clear hfz139_1
         try clear hfz146_0
         try clear hfz146_1
         try clear hfz149_0
         try clear hfz149_1
         try clear hfz151_0
         try clear hfz151_1
         try clear hfz152_0
         try clear hfz152_1
         try clear hfz159_0
         try clear hfz159_1
         try clear hfz162_0
         try clear hfz162_1
         try clear hfz164_0
         try clear hfz164_1
         try clear hfz165_0
         try clear hfz165_1
         try clear hfz167_0
         try clear hfz167_1
         try clear hfz168_0
         try clear hfz168_1
         try clear hfz169_0
         try clear hfz169_1
         try clear hfz170_0
         try clear hfz170_1
         try clear hfz176_0
         try clear hfz176_1
         try clear hfz179_0
         try clear hfz179_1
         try clear hfz181_0
         try clear hfz181_1
         try clear hfz182_0
         try clear hfz182_1
         try clear hfz184_0
         try clear hfz184_1
         try clear hfz185_0
         try clear hfz185_1
         try clear hfz186_0
         try clear hfz186_1
         try clear hfz187_0
         try clear hfz187_1
         try clear hfz189_0
         try clear hfz189_1
         try clear hfz190_0
         try clear hfz190_1
         try clear hfz191_0
         try clear hfz191_1
         try clear hfz192_0
         try clear hfz192_1
         try clear p2
         obtain ⟨kq, x97_128, rfl, HA, HJ128, BK421, BK422, BK423, BK424, HB⟩ := hcut
         cases kq with
         | zero => exact absurd HA.out (by simp [tangramlaw26_CrossTurns.j2])
         | succ kj128 =>
          have H := HA.out; clear HA; simp only [tangramlaw26_CrossTurns.j2] at H
          by_cases c194 : x97_128 = true
          ·subst c194; rw [if_pos rfl] at H; obtain rfl := Option.some.inj H
           go_wp2
           go_ret
           exact ⟨by first | rfl | (simp [errW_none, errW_some] <;> rfl) | (simp [*, errW_none, errW_some] <;> rfl), hb4 HB GE421 GE422 GE423 GE424⟩
          ·replace c194 := Bool.eq_false_iff.mpr c194; subst c194; rw [if_neg (show ¬ (false = true) by decide)] at H; have HC195 := Aside0.mk H; clear H
           go_upto_region 11 with (fail)
           go_cut [11] (fun v11 wc => ∃ (kq : Nat) (x11_194 : Bool), v11 = .bool x11_194 ∧ Aside0 (tangramlaw26_CrossTurns.j3 kq t433 x11_194 a0_0 a0_1 a1_0 a1_1 a2_0 a2_1 a3_0 a3_1 = some r) ∧ Aside0 (kq ≤ kj128) ∧ Aside0 (wc.heap[gb421]? = some (.cells #[.int .i64 a0_0, .int .i64 a0_1] 23 (0, 0))) ∧ Aside0 (wc.heap[gb422]? = some (.cells #[.int .i64 a1_0, .int .i64 a1_1] 23 (0, 0))) ∧ Aside0 (wc.heap[gb423]? = some (.cells #[.int .i64 a2_0, .int .i64 a2_1] 23 (0, 0))) ∧ Aside0 (wc.heap[gb424]? = some (.cells #[.int .i64 a3_0, .int .i64 a3_1] 23 (0, 0))) ∧ Aside0 (Below w.heap.size w wc))
           case first => as_aux_lemma =>
            have H := HC195.out; clear HC195; replace H := Option.bind_eq_some_iff.mp H; obtain ⟨t437, A1960, H⟩ := H; (try dsimp only at H); have A196 := Aside0.mk A1960; clear A1960
            by_cases c197 : t437 = true
            ·subst c197; rw [if_pos rfl] at H; have H' := Aside0.mk H; clear H; have hnb198 := NB421_422.out; have hnc198 := NB422_421.out; have hnb199 := NB421_423.out; have hnc199 := NB423_421.out; have hnb200 := NB421_424.out; have hnc200 := NB424_421.out; have hcz201_0 : wc.cell? ⟨gb421, 0, none⟩ = some (.int .i64 a0_0) := bc BK421 0; have hcz201_1 : wc.cell? ⟨gb421, 1, none⟩ = some (.int .i64 a0_1) := bc BK421 1; have hfz201_0 := blk_frozen BK421.out 0; have hfz201_1 := blk_frozen BK421.out 1; have hnb202 := NB422_423.out; have hnc202 := NB423_422.out; have hnb203 := NB422_424.out; have hnc203 := NB424_422.out; have hcz204_0 : wc.cell? ⟨gb422, 0, none⟩ = some (.int .i64 a1_0) := bc BK422 0; have hcz204_1 : wc.cell? ⟨gb422, 1, none⟩ = some (.int .i64 a1_1) := bc BK422 1; have hfz204_0 := blk_frozen BK422.out 0; have hfz204_1 := blk_frozen BK422.out 1; have hnb205 := NB423_424.out; have hnc205 := NB424_423.out; have hcz206_0 : wc.cell? ⟨gb423, 0, none⟩ = some (.int .i64 a2_0) := bc BK423 0; have hcz206_1 : wc.cell? ⟨gb423, 1, none⟩ = some (.int .i64 a2_1) := bc BK423 1; have hfz206_0 := blk_frozen BK423.out 0; have hfz206_1 := blk_frozen BK423.out 1
             go_wp2_with (first | ((with_reducible refine gate_callee (f := 14) rfl ?_); refine gl_ (some 101) Try.func14 #[.agg #[.int .i64 a0_0, .int .i64 a0_1], .agg #[.int .i64 a1_0, .int .i64 a1_1], .agg #[.int .i64 a2_0, .int .i64 a2_1]] ?_; (with_reducible refine (cross_On.calls kj128 a0_0 a0_1 a1_0 a1_1 a2_0 a2_1 true _ A196.out).mono ?_); rintro e w207 ⟨rfl, hb⟩; refine ⟨_, rfl, ?_⟩; replace BK421 := kx BK421 hb; replace BK422 := kx BK422 hb; replace BK423 := kx BK423 hb; replace BK424 := kx BK424 hb; replace HB := hs (hb4 HB GE421 GE422 GE423 GE424) hb; (try clear hb); (try clear hb2); (try clear hk); (try clear hi)))
             go_meet
             case rel => exact ⟨_, (true), (by first | rfl | (simp; done) | (simp [*]; done)), H', ⟨by have := HJ7.out; have := HJ109.out; have := HJ128.out; first | omega | exact Nat.le_refl _⟩, ⟨bx BK421⟩, ⟨bx BK422⟩, ⟨bx BK423⟩, ⟨bx BK424⟩, ⟨hb4 HB GE421 GE422 GE423 GE424⟩⟩
            ·replace c197 := Bool.eq_false_iff.mpr c197; subst c197; rw [if_neg (show ¬ (false = true) by decide)] at H; replace H := Option.bind_eq_some_iff.mp H; obtain ⟨t438, A2080, H⟩ := H; (try dsimp only at H); have A208 := Aside0.mk A2080; clear A2080
             by_cases c209 : t438 = true
             ·subst c209; rw [if_pos rfl] at H; have H' := Aside0.mk H; clear H; have hnb210 := NB421_422.out; have hnc210 := NB422_421.out; have hnb211 := NB421_423.out; have hnc211 := NB423_421.out; have hnb212 := NB421_424.out; have hnc212 := NB424_421.out; have hcz213_0 : wc.cell? ⟨gb421, 0, none⟩ = some (.int .i64 a0_0) := bc BK421 0; have hcz213_1 : wc.cell? ⟨gb421, 1, none⟩ = some (.int .i64 a0_1) := bc BK421 1; have hfz213_0 := blk_frozen BK421.out 0; have hfz213_1 := blk_frozen BK421.out 1; have hnb214 := NB422_423.out; have hnc214 := NB423_422.out; have hnb215 := NB422_424.out; have hnc215 := NB424_422.out; have hcz216_0 : wc.cell? ⟨gb422, 0, none⟩ = some (.int .i64 a1_0) := bc BK422 0; have hcz216_1 : wc.cell? ⟨gb422, 1, none⟩ = some (.int .i64 a1_1) := bc BK422 1; have hfz216_0 := blk_frozen BK422.out 0; have hfz216_1 := blk_frozen BK422.out 1; have hnb217 := NB423_424.out; have hnc217 := NB424_423.out; have hcz218_0 : wc.cell? ⟨gb423, 0, none⟩ = some (.int .i64 a2_0) := bc BK423 0; have hcz218_1 : wc.cell? ⟨gb423, 1, none⟩ = some (.int .i64 a2_1) := bc BK423 1; have hfz218_0 := blk_frozen BK423.out 0; have hfz218_1 := blk_frozen BK423.out 1
              go_wp2_with (first | ((with_reducible refine gate_callee (f := 14) rfl ?_); refine gl_ (some 101) Try.func14 #[.agg #[.int .i64 a0_0, .int .i64 a0_1], .agg #[.int .i64 a1_0, .int .i64 a1_1], .agg #[.int .i64 a2_0, .int .i64 a2_1]] ?_; (with_reducible refine (cross_On.calls kj128 a0_0 a0_1 a1_0 a1_1 a2_0 a2_1 false _ A196.out).mono ?_); rintro e w219 ⟨rfl, hb⟩; refine ⟨_, rfl, ?_⟩; replace BK421 := kx BK421 hb; replace BK422 := kx BK422 hb; replace BK423 := kx BK423 hb; replace BK424 := kx BK424 hb; replace HB := hs (hb4 HB GE421 GE422 GE423 GE424) hb; (try clear hb); (try clear hb2); (try clear hk); (try clear hi); have hcz220_0 : w219.cell? ⟨gb421, 0, none⟩ = some (.int .i64 a0_0) := bc BK421 0; have hcz220_1 : w219.cell? ⟨gb421, 1, none⟩ = some (.int .i64 a0_1) := bc BK421 1; have hfz220_0 := blk_frozen BK421.out 0; have hfz220_1 := blk_frozen BK421.out 1; have hcz221_0 : w219.cell? ⟨gb422, 0, none⟩ = some (.int .i64 a1_0) := bc BK422 0; have hcz221_1 : w219.cell? ⟨gb422, 1, none⟩ = some (.int .i64 a1_1) := bc BK422 1; have hfz221_0 := blk_frozen BK422.out 0; have hfz221_1 := blk_frozen BK422.out 1; have hcz222_0 : w219.cell? ⟨gb424, 0, none⟩ = some (.int .i64 a3_0) := bc BK424 0; have hcz222_1 : w219.cell? ⟨gb424, 1, none⟩ = some (.int .i64 a3_1) := bc BK424 1; have hfz222_0 := blk_frozen BK424.out 0; have hfz222_1 := blk_frozen BK424.out 1) | (go_at_call 14; (with_reducible refine (cross_On.calls kj128 a0_0 a0_1 a1_0 a1_1 a3_0 a3_1 true _ A208.out).mono ?_); rintro e w223 ⟨rfl, hb⟩; replace BK421 := kx BK421 hb; replace BK422 := kx BK422 hb; replace BK423 := kx BK423 hb; replace BK424 := kx BK424 hb; replace HB := hs (hb4 HB GE421 GE422 GE423 GE424) hb; (try clear hb); (try clear hb2); (try clear hk); (try clear hi)))
              go_meet
              case rel => exact ⟨_, (true), (by first | rfl | (simp; done) | (simp [*]; done)), H', ⟨by have := HJ7.out; have := HJ109.out; have := HJ128.out; first | omega | exact Nat.le_refl _⟩, ⟨bx BK421⟩, ⟨bx BK422⟩, ⟨bx BK423⟩, ⟨bx BK424⟩, ⟨hb4 HB GE421 GE422 GE423 GE424⟩⟩
             ·replace c209 := Bool.eq_false_iff.mpr c209; subst c209; rw [if_neg (show ¬ (false = true) by decide)] at H; replace H := Option.bind_eq_some_iff.mp H; obtain ⟨t439, A2240, H⟩ := H; (try dsimp only at H); have A224 := Aside0.mk A2240; clear A2240
              by_cases c225 : t439 = true
              ·subst c225; rw [if_pos rfl] at H; have H' := Aside0.mk H; clear H; have hnb226 := NB421_422.out; have hnc226 := NB422_421.out; have hnb227 := NB421_423.out; have hnc227 := NB423_421.out; have hnb228 := NB421_424.out; have hnc228 := NB424_421.out; have hcz229_0 : wc.cell? ⟨gb421, 0, none⟩ = some (.int .i64 a0_0) := bc BK421 0; have hcz229_1 : wc.cell? ⟨gb421, 1, none⟩ = some (.int .i64 a0_1) := bc BK421 1; have hfz229_0 := blk_frozen BK421.out 0; have hfz229_1 := blk_frozen BK421.out 1; have hnb230 := NB422_423.out; have hnc230 := NB423_422.out; have hnb231 := NB422_424.out; have hnc231 := NB424_422.out; have hcz232_0 : wc.cell? ⟨gb422, 0, none⟩ = some (.int .i64 a1_0) := bc BK422 0; have hcz232_1 : wc.cell? ⟨gb422, 1, none⟩ = some (.int .i64 a1_1) := bc BK422 1; have hfz232_0 := blk_frozen BK422.out 0; have hfz232_1 := blk_frozen BK422.out 1; have hnb233 := NB423_424.out; have hnc233 := NB424_423.out; have hcz234_0 : wc.cell? ⟨gb423, 0, none⟩ = some (.int .i64 a2_0) := bc BK423 0; have hcz234_1 : wc.cell? ⟨gb423, 1, none⟩ = some (.int .i64 a2_1) := bc BK423 1; have hfz234_0 := blk_frozen BK423.out 0; have hfz234_1 := blk_frozen BK423.out 1
               go_wp2_with (first | ((with_reducible refine gate_callee (f := 14) rfl ?_); refine gl_ (some 101) Try.func14 #[.agg #[.int .i64 a0_0, .int .i64 a0_1], .agg #[.int .i64 a1_0, .int .i64 a1_1], .agg #[.int .i64 a2_0, .int .i64 a2_1]] ?_; (with_reducible refine (cross_On.calls kj128 a0_0 a0_1 a1_0 a1_1 a2_0 a2_1 false _ A196.out).mono ?_); rintro e w235 ⟨rfl, hb⟩; refine ⟨_, rfl, ?_⟩; replace BK421 := kx BK421 hb; replace BK422 := kx BK422 hb; replace BK423 := kx BK423 hb; replace BK424 := kx BK424 hb; replace HB := hs (hb4 HB GE421 GE422 GE423 GE424) hb; (try clear hb); (try clear hb2); (try clear hk); (try clear hi); have hcz236_0 : w235.cell? ⟨gb421, 0, none⟩ = some (.int .i64 a0_0) := bc BK421 0; have hcz236_1 : w235.cell? ⟨gb421, 1, none⟩ = some (.int .i64 a0_1) := bc BK421 1; have hfz236_0 := blk_frozen BK421.out 0; have hfz236_1 := blk_frozen BK421.out 1; have hcz237_0 : w235.cell? ⟨gb422, 0, none⟩ = some (.int .i64 a1_0) := bc BK422 0; have hcz237_1 : w235.cell? ⟨gb422, 1, none⟩ = some (.int .i64 a1_1) := bc BK422 1; have hfz237_0 := blk_frozen BK422.out 0; have hfz237_1 := blk_frozen BK422.out 1; have hcz238_0 : w235.cell? ⟨gb424, 0, none⟩ = some (.int .i64 a3_0) := bc BK424 0; have hcz238_1 : w235.cell? ⟨gb424, 1, none⟩ = some (.int .i64 a3_1) := bc BK424 1; have hfz238_0 := blk_frozen BK424.out 0; have hfz238_1 := blk_frozen BK424.out 1) | (go_at_call 14; (with_reducible refine (cross_On.calls kj128 a0_0 a0_1 a1_0 a1_1 a3_0 a3_1 false _ A208.out).mono ?_); rintro e w239 ⟨rfl, hb⟩; replace BK421 := kx BK421 hb; replace BK422 := kx BK422 hb; replace BK423 := kx BK423 hb; replace BK424 := kx BK424 hb; replace HB := hs (hb4 HB GE421 GE422 GE423 GE424) hb; (try clear hb); (try clear hb2); (try clear hk); (try clear hi); have hcz240_0 : w239.cell? ⟨gb423, 0, none⟩ = some (.int .i64 a2_0) := bc BK423 0; have hcz240_1 : w239.cell? ⟨gb423, 1, none⟩ = some (.int .i64 a2_1) := bc BK423 1; have hfz240_0 := blk_frozen BK423.out 0; have hfz240_1 := blk_frozen BK423.out 1; have hcz241_0 : w239.cell? ⟨gb424, 0, none⟩ = some (.int .i64 a3_0) := bc BK424 0; have hcz241_1 : w239.cell? ⟨gb424, 1, none⟩ = some (.int .i64 a3_1) := bc BK424 1; have hfz241_0 := blk_frozen BK424.out 0; have hfz241_1 := blk_frozen BK424.out 1; have hcz242_0 : w239.cell? ⟨gb421, 0, none⟩ = some (.int .i64 a0_0) := bc BK421 0; have hcz242_1 : w239.cell? ⟨gb421, 1, none⟩ = some (.int .i64 a0_1) := bc BK421 1; have hfz242_0 := blk_frozen BK421.out 0; have hfz242_1 := blk_frozen BK421.out 1) | (go_at_call 14; (with_reducible refine (cross_On.calls kj128 a2_0 a2_1 a3_0 a3_1 a0_0 a0_1 true _ A224.out).mono ?_); rintro e w243 ⟨rfl, hb⟩; replace BK421 := kx BK421 hb; replace BK422 := kx BK422 hb; replace BK423 := kx BK423 hb; replace BK424 := kx BK424 hb; replace HB := hs (hb4 HB GE421 GE422 GE423 GE424) hb; (try clear hb); (try clear hb2); (try clear hk); (try clear hi)))
               go_meet
               case rel => exact ⟨_, (true), (by first | rfl | (simp; done) | (simp [*]; done)), H', ⟨by have := HJ7.out; have := HJ109.out; have := HJ128.out; first | omega | exact Nat.le_refl _⟩, ⟨bx BK421⟩, ⟨bx BK422⟩, ⟨bx BK423⟩, ⟨bx BK424⟩, ⟨hb4 HB GE421 GE422 GE423 GE424⟩⟩
              ·replace c225 := Bool.eq_false_iff.mpr c225; subst c225; rw [if_neg (show ¬ (false = true) by decide)] at H; replace H := Option.bind_eq_some_iff.mp H; obtain ⟨t440, A2440, H⟩ := H; (try dsimp only at H); have A244 := Aside0.mk A2440; clear A2440; have H' := Aside0.mk H; clear H; have hnb245 := NB421_422.out; have hnc245 := NB422_421.out; have hnb246 := NB421_423.out; have hnc246 := NB423_421.out; have hnb247 := NB421_424.out; have hnc247 := NB424_421.out; have hcz248_0 : wc.cell? ⟨gb421, 0, none⟩ = some (.int .i64 a0_0) := bc BK421 0; have hcz248_1 : wc.cell? ⟨gb421, 1, none⟩ = some (.int .i64 a0_1) := bc BK421 1; have hfz248_0 := blk_frozen BK421.out 0; have hfz248_1 := blk_frozen BK421.out 1; have hnb249 := NB422_423.out; have hnc249 := NB423_422.out; have hnb250 := NB422_424.out; have hnc250 := NB424_422.out; have hcz251_0 : wc.cell? ⟨gb422, 0, none⟩ = some (.int .i64 a1_0) := bc BK422 0; have hcz251_1 : wc.cell? ⟨gb422, 1, none⟩ = some (.int .i64 a1_1) := bc BK422 1; have hfz251_0 := blk_frozen BK422.out 0; have hfz251_1 := blk_frozen BK422.out 1; have hnb252 := NB423_424.out; have hnc252 := NB424_423.out; have hcz253_0 : wc.cell? ⟨gb423, 0, none⟩ = some (.int .i64 a2_0) := bc BK423 0; have hcz253_1 : wc.cell? ⟨gb423, 1, none⟩ = some (.int .i64 a2_1) := bc BK423 1; have hfz253_0 := blk_frozen BK423.out 0; have hfz253_1 := blk_frozen BK423.out 1
               go_wp2_with (first | ((with_reducible refine gate_callee (f := 14) rfl ?_); refine gl_ (some 101) Try.func14 #[.agg #[.int .i64 a0_0, .int .i64 a0_1], .agg #[.int .i64 a1_0, .int .i64 a1_1], .agg #[.int .i64 a2_0, .int .i64 a2_1]] ?_; (with_reducible refine (cross_On.calls kj128 a0_0 a0_1 a1_0 a1_1 a2_0 a2_1 false _ A196.out).mono ?_); rintro e w254 ⟨rfl, hb⟩; refine ⟨_, rfl, ?_⟩; replace BK421 := kx BK421 hb; replace BK422 := kx BK422 hb; replace BK423 := kx BK423 hb; replace BK424 := kx BK424 hb; replace HB := hs (hb4 HB GE421 GE422 GE423 GE424) hb; (try clear hb); (try clear hb2); (try clear hk); (try clear hi); have hcz255_0 : w254.cell? ⟨gb421, 0, none⟩ = some (.int .i64 a0_0) := bc BK421 0; have hcz255_1 : w254.cell? ⟨gb421, 1, none⟩ = some (.int .i64 a0_1) := bc BK421 1; have hfz255_0 := blk_frozen BK421.out 0; have hfz255_1 := blk_frozen BK421.out 1; have hcz256_0 : w254.cell? ⟨gb422, 0, none⟩ = some (.int .i64 a1_0) := bc BK422 0; have hcz256_1 : w254.cell? ⟨gb422, 1, none⟩ = some (.int .i64 a1_1) := bc BK422 1; have hfz256_0 := blk_frozen BK422.out 0; have hfz256_1 := blk_frozen BK422.out 1; have hcz257_0 : w254.cell? ⟨gb424, 0, none⟩ = some (.int .i64 a3_0) := bc BK424 0; have hcz257_1 : w254.cell? ⟨gb424, 1, none⟩ = some (.int .i64 a3_1) := bc BK424 1; have hfz257_0 := blk_frozen BK424.out 0; have hfz257_1 := blk_frozen BK424.out 1) | (go_at_call 14; (with_reducible refine (cross_On.calls kj128 a0_0 a0_1 a1_0 a1_1 a3_0 a3_1 false _ A208.out).mono ?_); rintro e w258 ⟨rfl, hb⟩; replace BK421 := kx BK421 hb; replace BK422 := kx BK422 hb; replace BK423 := kx BK423 hb; replace BK424 := kx BK424 hb; replace HB := hs (hb4 HB GE421 GE422 GE423 GE424) hb; (try clear hb); (try clear hb2); (try clear hk); (try clear hi); have hcz259_0 : w258.cell? ⟨gb423, 0, none⟩ = some (.int .i64 a2_0) := bc BK423 0; have hcz259_1 : w258.cell? ⟨gb423, 1, none⟩ = some (.int .i64 a2_1) := bc BK423 1; have hfz259_0 := blk_frozen BK423.out 0; have hfz259_1 := blk_frozen BK423.out 1; have hcz260_0 : w258.cell? ⟨gb424, 0, none⟩ = some (.int .i64 a3_0) := bc BK424 0; have hcz260_1 : w258.cell? ⟨gb424, 1, none⟩ = some (.int .i64 a3_1) := bc BK424 1; have hfz260_0 := blk_frozen BK424.out 0; have hfz260_1 := blk_frozen BK424.out 1; have hcz261_0 : w258.cell? ⟨gb421, 0, none⟩ = some (.int .i64 a0_0) := bc BK421 0; have hcz261_1 : w258.cell? ⟨gb421, 1, none⟩ = some (.int .i64 a0_1) := bc BK421 1; have hfz261_0 := blk_frozen BK421.out 0; have hfz261_1 := blk_frozen BK421.out 1) | (go_at_call 14; (with_reducible refine (cross_On.calls kj128 a2_0 a2_1 a3_0 a3_1 a0_0 a0_1 false _ A224.out).mono ?_); rintro e w262 ⟨rfl, hb⟩; replace BK421 := kx BK421 hb; replace BK422 := kx BK422 hb; replace BK423 := kx BK423 hb; replace BK424 := kx BK424 hb; replace HB := hs (hb4 HB GE421 GE422 GE423 GE424) hb; (try clear hb); (try clear hb2); (try clear hk); (try clear hi); have hcz263_0 : w262.cell? ⟨gb423, 0, none⟩ = some (.int .i64 a2_0) := bc BK423 0; have hcz263_1 : w262.cell? ⟨gb423, 1, none⟩ = some (.int .i64 a2_1) := bc BK423 1; have hfz263_0 := blk_frozen BK423.out 0; have hfz263_1 := blk_frozen BK423.out 1; have hcz264_0 : w262.cell? ⟨gb424, 0, none⟩ = some (.int .i64 a3_0) := bc BK424 0; have hcz264_1 : w262.cell? ⟨gb424, 1, none⟩ = some (.int .i64 a3_1) := bc BK424 1; have hfz264_0 := blk_frozen BK424.out 0; have hfz264_1 := blk_frozen BK424.out 1; have hcz265_0 : w262.cell? ⟨gb422, 0, none⟩ = some (.int .i64 a1_0) := bc BK422 0; have hcz265_1 : w262.cell? ⟨gb422, 1, none⟩ = some (.int .i64 a1_1) := bc BK422 1; have hfz265_0 := blk_frozen BK422.out 0; have hfz265_1 := blk_frozen BK422.out 1) | (go_at_call 14; (with_reducible refine (cross_On.calls kj128 a2_0 a2_1 a3_0 a3_1 a1_0 a1_1 t440 _ A244.out).mono ?_); rintro e w266 ⟨rfl, hb⟩; replace BK421 := kx BK421 hb; replace BK422 := kx BK422 hb; replace BK423 := kx BK423 hb; replace BK424 := kx BK424 hb; replace HB := hs (hb4 HB GE421 GE422 GE423 GE424) hb; (try clear hb); (try clear hb2); (try clear hk); (try clear hi)))
               go_meet
               case rel => exact ⟨_, (t440), (by first | rfl | (simp; done) | (simp [*]; done)), H', ⟨by have := HJ7.out; have := HJ109.out; have := HJ128.out; first | omega | exact Nat.le_refl _⟩, ⟨bx BK421⟩, ⟨bx BK422⟩, ⟨bx BK423⟩, ⟨bx BK424⟩, ⟨hb4 HB GE421 GE422 GE423 GE424⟩⟩
           case rest => as_aux_lemma =>
            clear HC195
            try clear c1
            try clear c2
            try clear p2
            try clear c11
            try clear c12
            try clear c13
            try clear c14
            try clear c15
            try clear c16
            try clear c17
            try clear c18
            try clear c19
            try clear c20
            try clear c21
            try clear c22
            try clear c23
            try clear c24
            try clear c25
            try clear c113
            try clear c113b0
            try clear c113b1
            try clear c113b2
            try clear c118
            try clear c127
            try clear c130
            try clear c131
            try clear c132
            try clear c134
            try clear c135
            try clear c137
            try clear c142
            try clear c142b0
            try clear c142b1
            try clear c142b2
            try clear c143
            try clear c144
            try clear c145
            try clear c147
            try clear c148
            try clear c150
            try clear c155
            try clear c155b0
            try clear c155b1
            try clear c155b2
            try clear c156
            try clear c157
            try clear c158
            try clear c160
            try clear c161
            try clear c163
            try clear c173
            try clear c174
            try clear c175
            try clear c177
            try clear c178
            try clear c180
            try clear c194
            try clear c197
            try clear c198
            try clear c199
            try clear c200
            try clear c202
            try clear c203
            try clear c205
            try clear c209
            try clear c210
            try clear c211
            try clear c212
            try clear c214
            try clear c215
            try clear c217
            try clear c225
            try clear c226
            try clear c227
            try clear c228
            try clear c230
            try clear c231
            try clear c233
            try clear c245
            try clear c246
            try clear c247
            try clear c249
            try clear c250
            try clear c252
            try clear hcz133_0
            try clear hcz133_1
            try clear hcz136_0
            try clear hcz136_1
            try clear hcz138_0
            try clear hcz138_1
            try clear hcz139_0
            try clear hcz139_1
            try clear hcz146_0
            try clear hcz146_1
            try clear hcz149_0
            try clear hcz149_1
            try clear hcz151_0
            try clear hcz151_1
            try clear hcz152_0
            try clear hcz152_1
            try clear hcz159_0
            try clear hcz159_1
            try clear hcz162_0
            try clear hcz162_1
            try clear hcz164_0
            try clear hcz164_1
            try clear hcz165_0
            try clear hcz165_1
            try clear hcz167_0
            try clear hcz167_1
            try clear hcz168_0
            try clear hcz168_1
            try clear hcz169_0
            try clear hcz169_1
            try clear hcz170_0
            try clear hcz170_1
            try clear hcz176_0
            try clear hcz176_1
            try clear hcz179_0
            try clear hcz179_1
            try clear hcz181_0
            try clear hcz181_1
            try clear hcz182_0
            try clear hcz182_1
            try clear hcz184_0
            try clear hcz184_1
            try clear hcz185_0
            try clear hcz185_1
            try clear hcz186_0
            try clear hcz186_1
            try clear hcz187_0
            try clear hcz187_1
            try clear hcz189_0
            try clear hcz189_1
            try clear hcz190_0
            try clear hcz190_1
            try clear hcz191_0
            try clear hcz191_1
            try clear hcz192_0
            try clear hcz192_1
            try clear hcz201_0
            try clear hcz201_1
            try clear hcz204_0
            try clear hcz204_1
            try clear hcz206_0
            try clear hcz206_1
            try clear hcz213_0
            try clear hcz213_1
            try clear hcz216_0
            try clear hcz216_1
            try clear hcz218_0
            try clear hcz218_1
            try clear hcz220_0
            try clear hcz220_1
            try clear hcz221_0
            try clear hcz221_1
            try clear hcz222_0
            try clear hcz222_1
            try clear hcz229_0
            try clear hcz229_1
            try clear hcz232_0
            try clear hcz232_1
            try clear hcz234_0
            try clear hcz234_1
            try clear hcz236_0
            try clear hcz236_1
            try clear hcz237_0
            try clear hcz237_1
            try clear hcz238_0
            try clear hcz238_1
            try clear hcz240_0
            try clear hcz240_1
            try clear hcz241_0
            try clear hcz241_1
            try clear hcz242_0
            try clear hcz242_1
            try clear hcz248_0
            try clear hcz248_1
            try clear hcz251_0
            try clear hcz251_1
            try clear hcz253_0
            try clear hcz253_1
            try clear hcz255_0
            try clear hcz255_1
            try clear hcz256_0
            try clear hcz256_1
            try clear hcz257_0
            try clear hcz257_1
            try clear hcz259_0
            try clear hcz259_1
            try clear hcz260_0
            try clear hcz260_1
            try clear hcz261_0
            try clear hcz261_1
            try clear hcz263_0
            try clear hcz263_1
            try clear hcz264_0
            try clear hcz264_1
            try clear hcz265_0
            try clear hcz265_1
            try clear hfz133_0
            try clear hfz133_1
            try clear hfz136_0
            try clear hfz136_1
            try clear hfz138_0
            try clear hfz138_1
            try clear hfz139_0
            try clear hfz139_1
            try clear hfz146_0
            try clear hfz146_1
            try clear hfz149_0
            try clear hfz149_1
            try clear hfz151_0
            try clear hfz151_1
            try clear hfz152_0
            try clear hfz152_1
            try clear hfz159_0
            try clear hfz159_1
            try clear hfz162_0
            try clear hfz162_1
            try clear hfz164_0
            try clear hfz164_1
            try clear hfz165_0
            try clear hfz165_1
            try clear hfz167_0
            try clear hfz167_1
            try clear hfz168_0
            try clear hfz168_1
            try clear hfz169_0
            try clear hfz169_1
            try clear hfz170_0
            try clear hfz170_1
            try clear hfz176_0
            try clear hfz176_1
            try clear hfz179_0
            try clear hfz179_1
            try clear hfz181_0
            try clear hfz181_1
            try clear hfz182_0
            try clear hfz182_1
            try clear hfz184_0
            try clear hfz184_1
            try clear hfz185_0
            try clear hfz185_1
            try clear hfz186_0
            try clear hfz186_1
            try clear hfz187_0
            try clear hfz187_1
            try clear hfz189_0
            try clear hfz189_1
            try clear hfz190_0
            try clear hfz190_1
            try clear hfz191_0
            try clear hfz191_1
            try clear hfz192_0
            try clear hfz192_1
            try clear hfz201_0
            try clear hfz201_1
            try clear hfz204_0
            try clear hfz204_1
            try clear hfz206_0
            try clear hfz206_1
            try clear hfz213_0
            try clear hfz213_1
            try clear hfz216_0
            try clear hfz216_1
            try clear hfz218_0
            try clear hfz218_1
            try clear hfz220_0
            try clear hfz220_1
            try clear hfz221_0
            try clear hfz221_1
            try clear hfz222_0
            try clear hfz222_1
            try clear hfz229_0
            try clear hfz229_1
            try clear hfz232_0
            try clear hfz232_1
            try clear hfz234_0
            try clear hfz234_1
            try clear hfz236_0
            try clear hfz236_1
            try clear hfz237_0
            try clear hfz237_1
            try clear hfz238_0
            try clear hfz238_1
            try clear hfz240_0
            try clear hfz240_1
            try clear hfz241_0
            try clear hfz241_1
            try clear hfz242_0
            try clear hfz242_1
            try clear hfz248_0
            try clear hfz248_1
            try clear hfz251_0
            try clear hfz251_1
            try clear hfz253_0
            try clear hfz253_1
            try clear hfz255_0
            try clear hfz255_1
            try clear hfz256_0
            try clear hfz256_1
            try clear hfz257_0
            try clear hfz257_1
            try clear hfz259_0
            try clear hfz259_1
            try clear hfz260_0
            try clear hfz260_1
            try clear hfz261_0
            try clear hfz261_1
            try clear hfz263_0
            try clear hfz263_1
            try clear hfz264_0
            try clear hfz264_1
            try clear hfz265_0
            try clear hfz265_1
            try clear p2
            obtain ⟨kq, x11_194, rfl, HA, HJ194, BK421, BK422, BK423, BK424, HB⟩ := hcut
            cases kq with
            | zero => exact absurd HA.out (by simp [tangramlaw26_CrossTurns.j3])
            | succ kj194 =>
             have H := HA.out; clear HA; simp only [tangramlaw26_CrossTurns.j3] at H
             by_cases c267 : x11_194 = true
             ·subst c267; rw [if_pos rfl] at H
              by_cases c268 : t433 = true
              ·subst c268; rw [if_pos rfl] at H; obtain rfl := Option.some.inj H
               go_wp2
               go_ret
               exact ⟨by first | rfl | (simp [errW_none, errW_some] <;> rfl) | (simp [*, errW_none, errW_some] <;> rfl), hb4 HB GE421 GE422 GE423 GE424⟩
              ·replace c268 := Bool.eq_false_iff.mpr c268; subst c268; rw [if_neg (show ¬ (false = true) by decide)] at H; replace H := Option.bind_eq_some_iff.mp H; obtain ⟨t441, A2690, H⟩ := H; (try dsimp only at H); have A269 := Aside0.mk A2690; clear A2690
               by_cases c270 : t441 = true
               ·subst c270; rw [if_pos rfl] at H; obtain rfl := Option.some.inj H; have hnb271 := NB421_422.out; have hnc271 := NB422_421.out; have hnb272 := NB421_423.out; have hnc272 := NB423_421.out; have hnb273 := NB421_424.out; have hnc273 := NB424_421.out; have hcz274_0 : wc.cell? ⟨gb421, 0, none⟩ = some (.int .i64 a0_0) := bc BK421 0; have hcz274_1 : wc.cell? ⟨gb421, 1, none⟩ = some (.int .i64 a0_1) := bc BK421 1; have hfz274_0 := blk_frozen BK421.out 0; have hfz274_1 := blk_frozen BK421.out 1
                go_wp2_with (first | (go_at_call 18; (with_reducible refine (tangramref26_Beyond.calls a0_0 a0_1 true _ A269.out).mono ?_); rintro e w275 ⟨rfl, hb⟩; replace BK421 := kx BK421 hb; replace BK422 := kx BK422 hb; replace BK423 := kx BK423 hb; replace BK424 := kx BK424 hb; replace HB := hs (hb4 HB GE421 GE422 GE423 GE424) hb; (try clear hb); (try clear hb2); (try clear hk); (try clear hi)))
                go_ret
                exact ⟨by first | rfl | (simp [errW_none, errW_some] <;> rfl) | (simp [*, errW_none, errW_some] <;> rfl), hb4 HB GE421 GE422 GE423 GE424⟩
               ·replace c270 := Bool.eq_false_iff.mpr c270; subst c270; rw [if_neg (show ¬ (false = true) by decide)] at H; replace H := Option.bind_eq_some_iff.mp H; obtain ⟨t442, A2760, H⟩ := H; (try dsimp only at H); have A276 := Aside0.mk A2760; clear A2760
                by_cases c277 : t442 = true
                ·subst c277; rw [if_pos rfl] at H; obtain rfl := Option.some.inj H; have hnb278 := NB421_422.out; have hnc278 := NB422_421.out; have hnb279 := NB421_423.out; have hnc279 := NB423_421.out; have hnb280 := NB421_424.out; have hnc280 := NB424_421.out; have hcz281_0 : wc.cell? ⟨gb421, 0, none⟩ = some (.int .i64 a0_0) := bc BK421 0; have hcz281_1 : wc.cell? ⟨gb421, 1, none⟩ = some (.int .i64 a0_1) := bc BK421 1; have hfz281_0 := blk_frozen BK421.out 0; have hfz281_1 := blk_frozen BK421.out 1
                 go_wp2_with (first | (go_at_call 18; (with_reducible refine (tangramref26_Beyond.calls a0_0 a0_1 false _ A269.out).mono ?_); rintro e w282 ⟨rfl, hb⟩; replace BK421 := kx BK421 hb; replace BK422 := kx BK422 hb; replace BK423 := kx BK423 hb; replace BK424 := kx BK424 hb; replace HB := hs (hb4 HB GE421 GE422 GE423 GE424) hb; (try clear hb); (try clear hb2); (try clear hk); (try clear hi); have hnb283 := NB422_423.out; have hnc283 := NB423_422.out; have hnb284 := NB422_424.out; have hnc284 := NB424_422.out; have hcz285_0 : w282.cell? ⟨gb422, 0, none⟩ = some (.int .i64 a1_0) := bc BK422 0; have hcz285_1 : w282.cell? ⟨gb422, 1, none⟩ = some (.int .i64 a1_1) := bc BK422 1; have hfz285_0 := blk_frozen BK422.out 0; have hfz285_1 := blk_frozen BK422.out 1) | (go_at_call 18; (with_reducible refine (tangramref26_Beyond.calls a1_0 a1_1 true _ A276.out).mono ?_); rintro e w286 ⟨rfl, hb⟩; replace BK421 := kx BK421 hb; replace BK422 := kx BK422 hb; replace BK423 := kx BK423 hb; replace BK424 := kx BK424 hb; replace HB := hs (hb4 HB GE421 GE422 GE423 GE424) hb; (try clear hb); (try clear hb2); (try clear hk); (try clear hi)))
                 go_ret
                 exact ⟨by first | rfl | (simp [errW_none, errW_some] <;> rfl) | (simp [*, errW_none, errW_some] <;> rfl), hb4 HB GE421 GE422 GE423 GE424⟩
                ·replace c277 := Bool.eq_false_iff.mpr c277; subst c277; rw [if_neg (show ¬ (false = true) by decide)] at H; replace H := Option.bind_eq_some_iff.mp H; obtain ⟨t443, A2870, H⟩ := H; (try dsimp only at H); have A287 := Aside0.mk A2870; clear A2870
                 by_cases c288 : t443 = true
                 ·subst c288; rw [if_pos rfl] at H; obtain rfl := Option.some.inj H; have hnb289 := NB421_422.out; have hnc289 := NB422_421.out; have hnb290 := NB421_423.out; have hnc290 := NB423_421.out; have hnb291 := NB421_424.out; have hnc291 := NB424_421.out; have hcz292_0 : wc.cell? ⟨gb421, 0, none⟩ = some (.int .i64 a0_0) := bc BK421 0; have hcz292_1 : wc.cell? ⟨gb421, 1, none⟩ = some (.int .i64 a0_1) := bc BK421 1; have hfz292_0 := blk_frozen BK421.out 0; have hfz292_1 := blk_frozen BK421.out 1
                  go_wp2_with (first | (go_at_call 18; (with_reducible refine (tangramref26_Beyond.calls a0_0 a0_1 false _ A269.out).mono ?_); rintro e w293 ⟨rfl, hb⟩; replace BK421 := kx BK421 hb; replace BK422 := kx BK422 hb; replace BK423 := kx BK423 hb; replace BK424 := kx BK424 hb; replace HB := hs (hb4 HB GE421 GE422 GE423 GE424) hb; (try clear hb); (try clear hb2); (try clear hk); (try clear hi); have hnb294 := NB422_423.out; have hnc294 := NB423_422.out; have hnb295 := NB422_424.out; have hnc295 := NB424_422.out; have hcz296_0 : w293.cell? ⟨gb422, 0, none⟩ = some (.int .i64 a1_0) := bc BK422 0; have hcz296_1 : w293.cell? ⟨gb422, 1, none⟩ = some (.int .i64 a1_1) := bc BK422 1; have hfz296_0 := blk_frozen BK422.out 0; have hfz296_1 := blk_frozen BK422.out 1) | (go_at_call 18; (with_reducible refine (tangramref26_Beyond.calls a1_0 a1_1 false _ A276.out).mono ?_); rintro e w297 ⟨rfl, hb⟩; replace BK421 := kx BK421 hb; replace BK422 := kx BK422 hb; replace BK423 := kx BK423 hb; replace BK424 := kx BK424 hb; replace HB := hs (hb4 HB GE421 GE422 GE423 GE424) hb; (try clear hb); (try clear hb2); (try clear hk); (try clear hi); have hnb298 := NB423_424.out; have hnc298 := NB424_423.out; have hcz299_0 : w297.cell? ⟨gb423, 0, none⟩ = some (.int .i64 a2_0) := bc BK423 0; have hcz299_1 : w297.cell? ⟨gb423, 1, none⟩ = some (.int .i64 a2_1) := bc BK423 1; have hfz299_0 := blk_frozen BK423.out 0; have hfz299_1 := blk_frozen BK423.out 1) | (go_at_call 18; (with_reducible refine (tangramref26_Beyond.calls a2_0 a2_1 true _ A287.out).mono ?_); rintro e w300 ⟨rfl, hb⟩; replace BK421 := kx BK421 hb; replace BK422 := kx BK422 hb; replace BK423 := kx BK423 hb; replace BK424 := kx BK424 hb; replace HB := hs (hb4 HB GE421 GE422 GE423 GE424) hb; (try clear hb); (try clear hb2); (try clear hk); (try clear hi)))
                  go_ret
                  exact ⟨by first | rfl | (simp [errW_none, errW_some] <;> rfl) | (simp [*, errW_none, errW_some] <;> rfl), hb4 HB GE421 GE422 GE423 GE424⟩
                 ·replace c288 := Bool.eq_false_iff.mpr c288; subst c288; rw [if_neg (show ¬ (false = true) by decide)] at H; replace H := Option.bind_eq_some_iff.mp H; obtain ⟨t444, A3010, H⟩ := H; (try dsimp only at H); have A301 := Aside0.mk A3010; clear A3010
                  by_cases c302 : t444 = true
                  ·subst c302; rw [if_pos rfl] at H; obtain rfl := Option.some.inj H; have hnb303 := NB421_422.out; have hnc303 := NB422_421.out; have hnb304 := NB421_423.out; have hnc304 := NB423_421.out; have hnb305 := NB421_424.out; have hnc305 := NB424_421.out; have hcz306_0 : wc.cell? ⟨gb421, 0, none⟩ = some (.int .i64 a0_0) := bc BK421 0; have hcz306_1 : wc.cell? ⟨gb421, 1, none⟩ = some (.int .i64 a0_1) := bc BK421 1; have hfz306_0 := blk_frozen BK421.out 0; have hfz306_1 := blk_frozen BK421.out 1
                   go_wp2_with (first | (go_at_call 18; (with_reducible refine (tangramref26_Beyond.calls a0_0 a0_1 false _ A269.out).mono ?_); rintro e w307 ⟨rfl, hb⟩; replace BK421 := kx BK421 hb; replace BK422 := kx BK422 hb; replace BK423 := kx BK423 hb; replace BK424 := kx BK424 hb; replace HB := hs (hb4 HB GE421 GE422 GE423 GE424) hb; (try clear hb); (try clear hb2); (try clear hk); (try clear hi); have hnb308 := NB422_423.out; have hnc308 := NB423_422.out; have hnb309 := NB422_424.out; have hnc309 := NB424_422.out; have hcz310_0 : w307.cell? ⟨gb422, 0, none⟩ = some (.int .i64 a1_0) := bc BK422 0; have hcz310_1 : w307.cell? ⟨gb422, 1, none⟩ = some (.int .i64 a1_1) := bc BK422 1; have hfz310_0 := blk_frozen BK422.out 0; have hfz310_1 := blk_frozen BK422.out 1) | (go_at_call 18; (with_reducible refine (tangramref26_Beyond.calls a1_0 a1_1 false _ A276.out).mono ?_); rintro e w311 ⟨rfl, hb⟩; replace BK421 := kx BK421 hb; replace BK422 := kx BK422 hb; replace BK423 := kx BK423 hb; replace BK424 := kx BK424 hb; replace HB := hs (hb4 HB GE421 GE422 GE423 GE424) hb; (try clear hb); (try clear hb2); (try clear hk); (try clear hi); have hnb312 := NB423_424.out; have hnc312 := NB424_423.out; have hcz313_0 : w311.cell? ⟨gb423, 0, none⟩ = some (.int .i64 a2_0) := bc BK423 0; have hcz313_1 : w311.cell? ⟨gb423, 1, none⟩ = some (.int .i64 a2_1) := bc BK423 1; have hfz313_0 := blk_frozen BK423.out 0; have hfz313_1 := blk_frozen BK423.out 1) | (go_at_call 18; (with_reducible refine (tangramref26_Beyond.calls a2_0 a2_1 false _ A287.out).mono ?_); rintro e w314 ⟨rfl, hb⟩; replace BK421 := kx BK421 hb; replace BK422 := kx BK422 hb; replace BK423 := kx BK423 hb; replace BK424 := kx BK424 hb; replace HB := hs (hb4 HB GE421 GE422 GE423 GE424) hb; (try clear hb); (try clear hb2); (try clear hk); (try clear hi); have hcz315_0 : w314.cell? ⟨gb424, 0, none⟩ = some (.int .i64 a3_0) := bc BK424 0; have hcz315_1 : w314.cell? ⟨gb424, 1, none⟩ = some (.int .i64 a3_1) := bc BK424 1; have hfz315_0 := blk_frozen BK424.out 0; have hfz315_1 := blk_frozen BK424.out 1) | (go_at_call 18; (with_reducible refine (tangramref26_Beyond.calls a3_0 a3_1 true _ A301.out).mono ?_); rintro e w316 ⟨rfl, hb⟩; replace BK421 := kx BK421 hb; replace BK422 := kx BK422 hb; replace BK423 := kx BK423 hb; replace BK424 := kx BK424 hb; replace HB := hs (hb4 HB GE421 GE422 GE423 GE424) hb; (try clear hb); (try clear hb2); (try clear hk); (try clear hi)))
                   go_ret
                   exact ⟨by first | rfl | (simp [errW_none, errW_some] <;> rfl) | (simp [*, errW_none, errW_some] <;> rfl), hb4 HB GE421 GE422 GE423 GE424⟩
                  ·replace c302 := Bool.eq_false_iff.mpr c302; subst c302; rw [if_neg (show ¬ (false = true) by decide)] at H; obtain rfl := Option.some.inj H; have hnb317 := NB421_422.out; have hnc317 := NB422_421.out; have hnb318 := NB421_423.out; have hnc318 := NB423_421.out; have hnb319 := NB421_424.out; have hnc319 := NB424_421.out; have hcz320_0 : wc.cell? ⟨gb421, 0, none⟩ = some (.int .i64 a0_0) := bc BK421 0; have hcz320_1 : wc.cell? ⟨gb421, 1, none⟩ = some (.int .i64 a0_1) := bc BK421 1; have hfz320_0 := blk_frozen BK421.out 0; have hfz320_1 := blk_frozen BK421.out 1
                   go_wp2_with (first | (go_at_call 18; (with_reducible refine (tangramref26_Beyond.calls a0_0 a0_1 false _ A269.out).mono ?_); rintro e w321 ⟨rfl, hb⟩; replace BK421 := kx BK421 hb; replace BK422 := kx BK422 hb; replace BK423 := kx BK423 hb; replace BK424 := kx BK424 hb; replace HB := hs (hb4 HB GE421 GE422 GE423 GE424) hb; (try clear hb); (try clear hb2); (try clear hk); (try clear hi); have hnb322 := NB422_423.out; have hnc322 := NB423_422.out; have hnb323 := NB422_424.out; have hnc323 := NB424_422.out; have hcz324_0 : w321.cell? ⟨gb422, 0, none⟩ = some (.int .i64 a1_0) := bc BK422 0; have hcz324_1 : w321.cell? ⟨gb422, 1, none⟩ = some (.int .i64 a1_1) := bc BK422 1; have hfz324_0 := blk_frozen BK422.out 0; have hfz324_1 := blk_frozen BK422.out 1) | (go_at_call 18; (with_reducible refine (tangramref26_Beyond.calls a1_0 a1_1 false _ A276.out).mono ?_); rintro e w325 ⟨rfl, hb⟩; replace BK421 := kx BK421 hb; replace BK422 := kx BK422 hb; replace BK423 := kx BK423 hb; replace BK424 := kx BK424 hb; replace HB := hs (hb4 HB GE421 GE422 GE423 GE424) hb; (try clear hb); (try clear hb2); (try clear hk); (try clear hi); have hnb326 := NB423_424.out; have hnc326 := NB424_423.out; have hcz327_0 : w325.cell? ⟨gb423, 0, none⟩ = some (.int .i64 a2_0) := bc BK423 0; have hcz327_1 : w325.cell? ⟨gb423, 1, none⟩ = some (.int .i64 a2_1) := bc BK423 1; have hfz327_0 := blk_frozen BK423.out 0; have hfz327_1 := blk_frozen BK423.out 1) | (go_at_call 18; (with_reducible refine (tangramref26_Beyond.calls a2_0 a2_1 false _ A287.out).mono ?_); rintro e w328 ⟨rfl, hb⟩; replace BK421 := kx BK421 hb; replace BK422 := kx BK422 hb; replace BK423 := kx BK423 hb; replace BK424 := kx BK424 hb; replace HB := hs (hb4 HB GE421 GE422 GE423 GE424) hb; (try clear hb); (try clear hb2); (try clear hk); (try clear hi); have hcz329_0 : w328.cell? ⟨gb424, 0, none⟩ = some (.int .i64 a3_0) := bc BK424 0; have hcz329_1 : w328.cell? ⟨gb424, 1, none⟩ = some (.int .i64 a3_1) := bc BK424 1; have hfz329_0 := blk_frozen BK424.out 0; have hfz329_1 := blk_frozen BK424.out 1) | (go_at_call 18; (with_reducible refine (tangramref26_Beyond.calls a3_0 a3_1 false _ A301.out).mono ?_); rintro e w330 ⟨rfl, hb⟩; replace BK421 := kx BK421 hb; replace BK422 := kx BK422 hb; replace BK423 := kx BK423 hb; replace BK424 := kx BK424 hb; replace HB := hs (hb4 HB GE421 GE422 GE423 GE424) hb; (try clear hb); (try clear hb2); (try clear hk); (try clear hi)))
                   go_ret
                   exact ⟨by first | rfl | (simp [errW_none, errW_some] <;> rfl) | (simp [*, errW_none, errW_some] <;> rfl), hb4 HB GE421 GE422 GE423 GE424⟩
             ·replace c267 := Bool.eq_false_iff.mpr c267; subst c267; rw [if_neg (show ¬ (false = true) by decide)] at H; obtain rfl := Option.some.inj H
              go_wp2
              go_ret
              exact ⟨by first | rfl | (simp [errW_none, errW_some] <;> rfl) | (simp [*, errW_none, errW_some] <;> rfl), hb4 HB GE421 GE422 GE423 GE424⟩
 ·replace c6 := Bool.eq_false_iff.mpr c6; subst c6; rw [if_neg (show ¬ (false = true) by decide)] at H; obtain rfl := Option.some.inj H
  go_enter Try.func4, Try.ntmps4
  go_wp2_with (first | ((with_reducible refine gate_dst (N := 4) rfl ?_); refine be_ 4 #[.int .i64 a0_0, .int .i64 a0_1] 23 ?_; intro gb421 hg w331 hbox hb; have BK421 := Aside0.mk (hbox); have GW421 := wq (hb0 HB) hg; have GE421 := wq (hb0 HB) hg; replace HB := hs (hb0 HB) hb; clear hb hbox hg) | ((with_reducible refine gate_dst (N := 5) rfl ?_); refine be_ 5 #[.int .i64 a1_0, .int .i64 a1_1] 23 ?_; intro gb422 hg w332 hbox hb; have BK422 := Aside0.mk (hbox); have GW422 := wq (hb1 HB GE421) hg; have GE422 := wq (hb1 HB GE421) hg; replace HB := hs (hb1 HB GE421) hb; have NB421_422 := lx BK421 hg; have NB422_421 := gx BK421 hg; replace BK421 := kx BK421 hb; clear hb hbox hg) | ((with_reducible refine gate_dst (N := 6) rfl ?_); refine be_ 6 #[.int .i64 a2_0, .int .i64 a2_1] 23 ?_; intro gb423 hg w333 hbox hb; have BK423 := Aside0.mk (hbox); have GW423 := wq (hb2 HB GE421 GE422) hg; have GE423 := wq (hb2 HB GE421 GE422) hg; replace HB := hs (hb2 HB GE421 GE422) hb; have NB421_423 := lx BK421 hg; have NB423_421 := gx BK421 hg; replace BK421 := kx BK421 hb; have NB422_423 := lx BK422 hg; have NB423_422 := gx BK422 hg; replace BK422 := kx BK422 hb; clear hb hbox hg) | ((with_reducible refine gate_dst (N := 7) rfl ?_); refine be_ 7 #[.int .i64 a3_0, .int .i64 a3_1] 23 ?_; intro gb424 hg w334 hbox hb; have BK424 := Aside0.mk (hbox); have GW424 := wq (hb3 HB GE421 GE422 GE423) hg; have GE424 := wq (hb3 HB GE421 GE422 GE423) hg; replace HB := hs (hb3 HB GE421 GE422 GE423) hb; have NB421_424 := lx BK421 hg; have NB424_421 := gx BK421 hg; replace BK421 := kx BK421 hb; have NB422_424 := lx BK422 hg; have NB424_422 := gx BK422 hg; replace BK422 := kx BK422 hb; have NB423_424 := lx BK423 hg; have NB424_423 := gx BK423 hg; replace BK423 := kx BK423 hb; clear hb hbox hg) | ((with_reducible refine gate_callee (f := 11) rfl ?_); refine gl_ (some 12) Try.func11 #[] ?_; (with_reducible refine (tangramlaw26_awake.calls k  false _ A5.out).mono ?_); rintro e w335 ⟨rfl, hb⟩; refine ⟨_, rfl, ?_⟩; replace BK421 := kx BK421 hb; replace BK422 := kx BK422 hb; replace BK423 := kx BK423 hb; replace BK424 := kx BK424 hb; replace HB := hs (hb4 HB GE421 GE422 GE423 GE424) hb; (try clear hb); (try clear hb2); (try clear hk); (try clear hi)))
  go_ret
  exact ⟨by first | rfl | (simp [errW_none, errW_some] <;> rfl) | (simp [*, errW_none, errW_some] <;> rfl), hb4 HB GE421 GE422 GE423 GE424⟩

end Go.Proofs.Ythfoliejhdpbaaa.PCroA
