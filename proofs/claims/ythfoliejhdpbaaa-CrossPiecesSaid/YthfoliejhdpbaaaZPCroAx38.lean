-- PRINTED by print.py (a twelfth state) out of the translation. Not trusted: Lean checks it.
import Derived.Test.YthfoliejhdpbaaaZPCroAx0
import Derived.Test.YthfoliejhdpbaaaZPCroAx3
import Derived.Test.YthfoliejhdpbaaaZPCroAx9
import Derived.Test.YthfoliejhdpbaaaZPCroAx30
import Derived.Test.YthfoliejhdpbaaaZPCroAx31
import Derived.Test.YthfoliejhdpbaaaZPCroAx37
namespace Go.Proofs.Ythfoliejhdpbaaa.PCroA
open Go.RowKit Go.Proofs.YthfoliejhdpbaaaW.PrintWords Go.Proofs.YthfoliejhdpbaaaW.PrintLast Go.Proofs.YthfoliejhdpbaaaW.PrintMore
open Go.Proofs.YthfoliejhdpbaaaX
attribute [local go_sem] max2_int min2_int max_two min_two max_three min_three max_four min_four   -- for this text's walks alone
set_option linter.unusedVariables false
set_option linter.unusedSimpArgs false

/-! ### tangramlaw26_CrossPieces: function 3 -/
mutual
def tangramlaw26_CrossPieces.j0 : Nat → Bool → Int → Int → Int → Int → Int → Int → Int → Int → Option (Bool)
 | 0, _, _, _, _, _, _, _, _, _ => none
 | k + 1, x30, x401000, x401001, x402000, x402001, x403000, x403001, x404000, x404001 => if x30 = true then (some false) else ((cross_On.f k x401000 x401001 x402000 x402001 x403000 x403001).bind fun t409 => ((tangramref26_On.f k x401000 x401001 x402000 x402001 x403000 x403001).bind fun t410 => (if (t409 != t410) = true then (tangramlaw26_CrossPieces.j1 k true x401000 x401001 x402000 x402001 x403000 x403001 x404000 x404001) else ((cross_On.f k x403000 x403001 x401000 x401001 x404000 x404001).bind fun t411 => ((tangramref26_On.f k x403000 x403001 x401000 x401001 x404000 x404001).bind fun t412 => (if (t411 != t412) = true then (tangramlaw26_CrossPieces.j1 k true x401000 x401001 x402000 x402001 x403000 x403001 x404000 x404001) else ((cross_On.f k x401000 x401001 x401000 x401001 x402000 x402001).bind fun t413 => ((tangramref26_On.f k x401000 x401001 x401000 x401001 x402000 x402001).bind fun t414 => (tangramlaw26_CrossPieces.j1 k (t413 != t414) x401000 x401001 x402000 x402001 x403000 x403001 x404000 x404001)))))))))
def tangramlaw26_CrossPieces.j1 : Nat → Bool → Int → Int → Int → Int → Int → Int → Int → Int → Option (Bool)
 | 0, _, _, _, _, _, _, _, _, _ => none
 | k + 1, x61, x401000, x401001, x402000, x402001, x403000, x403001, x404000, x404001 => if x61 = true then (some false) else ((cross_Meet.f k x401000 x401001 x402000 x402001 x403000 x403001 x404000 x404001).bind fun t415 => ((tangramref26_Meet.f k x401000 x401001 x402000 x402001 x403000 x403001 x404000 x404001).bind fun t416 => (if (t415 == t416) = true then ((cross_Meet.f k x401000 x401001 x402000 x402001 x401000 x401001 x403000 x403001).bind fun t417 => ((tangramref26_Meet.f k x401000 x401001 x402000 x402001 x401000 x401001 x403000 x403001).bind fun t418 => (if (t417 == t418) = true then ((cross_Meet.f k x401000 x401001 x401000 x401001 x403000 x403001 x404000 x404001).bind fun t419 => ((tangramref26_Meet.f k x401000 x401001 x401000 x401001 x403000 x403001 x404000 x404001).bind fun t420 => (some (t419 == t420)))) else (some false)))) else (some false))))
end
def tangramlaw26_CrossPieces.f (k : Nat) (a0_0 : Int) (a0_1 : Int) (a1_0 : Int) (a1_1 : Int) (a2_0 : Int) (a2_1 : Int) (a3_0 : Int) (a3_1 : Int) : Option (Bool) := (tangramlaw26_awake.f k).bind fun t404 => (if t404 = true then ((cross_Turn.f k a0_0 a0_1 a1_0 a1_1 a2_0 a2_1).bind fun t405 => ((tangramref26_Turn.f k a0_0 a0_1 a1_0 a1_1 a2_0 a2_1).bind fun t406 => (if t405 = t406 then ((cross_Turn.f k a1_0 a1_1 a3_0 a3_1 a0_0 a0_1).bind fun t407 => ((tangramref26_Turn.f k a1_0 a1_1 a3_0 a3_1 a0_0 a0_1).bind fun t408 => (tangramlaw26_CrossPieces.j0 k (t407 != t408) a0_0 a0_1 a1_0 a1_1 a2_0 a2_1 a3_0 a3_1))) else (tangramlaw26_CrossPieces.j0 k true a0_0 a0_1 a1_0 a1_1 a2_0 a2_1 a3_0 a3_1)))) else (some false))
theorem tangramlaw26_CrossPieces.mono_l : ∀ k, (∀ y0 y1 y2 y3 y4 y5 y6 y7 y8, LeO (tangramlaw26_CrossPieces.j0 k y0 y1 y2 y3 y4 y5 y6 y7 y8) (tangramlaw26_CrossPieces.j0 (k + 1) y0 y1 y2 y3 y4 y5 y6 y7 y8)) ∧ (∀ y0 y1 y2 y3 y4 y5 y6 y7 y8, LeO (tangramlaw26_CrossPieces.j1 k y0 y1 y2 y3 y4 y5 y6 y7 y8) (tangramlaw26_CrossPieces.j1 (k + 1) y0 y1 y2 y3 y4 y5 y6 y7 y8))
 | 0 => ⟨fun _ _ _ _ _ _ _ _ _ r h => by simp [tangramlaw26_CrossPieces.j0] at h, fun _ _ _ _ _ _ _ _ _ r h => by simp [tangramlaw26_CrossPieces.j1] at h⟩
 | k + 1 => by
  obtain ⟨ih0, ih1⟩ := tangramlaw26_CrossPieces.mono_l k; refine ⟨?_, ?_⟩
  ·intro y0 y1 y2 y3 y4 y5 y6 y7 y8
   unfold tangramlaw26_CrossPieces.j0
   repeat' first
   | (with_reducible exact ih0 _ _ _ _ _ _ _ _ _)
   | (with_reducible exact ih1 _ _ _ _ _ _ _ _ _)
   | (with_reducible exact cross_Meet.mono _ _ _ _ _ _ _ _ _)
   | (with_reducible exact cross_On.mono _ _ _ _ _ _ _)
   | (with_reducible exact cross_Turn.mono _ _ _ _ _ _ _)
   | (with_reducible exact tangramlaw26_awake.mono _)
   | (with_reducible exact tangramref26_Meet.mono _ _ _ _ _ _ _ _ _)
   | (with_reducible exact tangramref26_On.mono _ _ _ _ _ _ _)
   | (with_reducible exact tangramref26_Turn.mono _ _ _ _ _ _ _)
   | (with_reducible exact LeO.refl _)
   | (with_reducible exact LeO.none _)
   | (with_reducible refine LeO.ite ?_ ?_)
   | (with_reducible refine LeO.bind ?_ (fun _ => ?_))
   | exact ih0 _ _ _ _ _ _ _ _ _
   | exact ih1 _ _ _ _ _ _ _ _ _
   | exact cross_Meet.mono _ _ _ _ _ _ _ _ _
   | exact cross_On.mono _ _ _ _ _ _ _
   | exact cross_Turn.mono _ _ _ _ _ _ _
   | exact tangramlaw26_awake.mono _
   | exact tangramref26_Meet.mono _ _ _ _ _ _ _ _ _
   | exact tangramref26_On.mono _ _ _ _ _ _ _
   | exact tangramref26_Turn.mono _ _ _ _ _ _ _
   | exact LeO.none _
   | refine LeO.ite ?_ ?_
   | refine LeO.bind ?_ (fun _ => ?_)
  ·intro y0 y1 y2 y3 y4 y5 y6 y7 y8
   unfold tangramlaw26_CrossPieces.j1
   repeat' first
   | (with_reducible exact ih0 _ _ _ _ _ _ _ _ _)
   | (with_reducible exact ih1 _ _ _ _ _ _ _ _ _)
   | (with_reducible exact cross_Meet.mono _ _ _ _ _ _ _ _ _)
   | (with_reducible exact cross_On.mono _ _ _ _ _ _ _)
   | (with_reducible exact cross_Turn.mono _ _ _ _ _ _ _)
   | (with_reducible exact tangramlaw26_awake.mono _)
   | (with_reducible exact tangramref26_Meet.mono _ _ _ _ _ _ _ _ _)
   | (with_reducible exact tangramref26_On.mono _ _ _ _ _ _ _)
   | (with_reducible exact tangramref26_Turn.mono _ _ _ _ _ _ _)
   | (with_reducible exact LeO.refl _)
   | (with_reducible exact LeO.none _)
   | (with_reducible refine LeO.ite ?_ ?_)
   | (with_reducible refine LeO.bind ?_ (fun _ => ?_))
   | exact ih0 _ _ _ _ _ _ _ _ _
   | exact ih1 _ _ _ _ _ _ _ _ _
   | exact cross_Meet.mono _ _ _ _ _ _ _ _ _
   | exact cross_On.mono _ _ _ _ _ _ _
   | exact cross_Turn.mono _ _ _ _ _ _ _
   | exact tangramlaw26_awake.mono _
   | exact tangramref26_Meet.mono _ _ _ _ _ _ _ _ _
   | exact tangramref26_On.mono _ _ _ _ _ _ _
   | exact tangramref26_Turn.mono _ _ _ _ _ _ _
   | exact LeO.none _
   | refine LeO.ite ?_ ?_
   | refine LeO.bind ?_ (fun _ => ?_)
theorem tangramlaw26_CrossPieces.mono : ∀ a0 a1 a2 a3 a4 a5 a6 a7 k, LeO (tangramlaw26_CrossPieces.f k a0 a1 a2 a3 a4 a5 a6 a7) (tangramlaw26_CrossPieces.f (k + 1) a0 a1 a2 a3 a4 a5 a6 a7) := by
 intro a0 a1 a2 a3 a4 a5 a6 a7 k; obtain ⟨ih0, ih1⟩ := tangramlaw26_CrossPieces.mono_l k
 unfold tangramlaw26_CrossPieces.f
 repeat' first
   | (with_reducible exact ih0 _ _ _ _ _ _ _ _ _)
   | (with_reducible exact ih1 _ _ _ _ _ _ _ _ _)
   | (with_reducible exact cross_Meet.mono _ _ _ _ _ _ _ _ _)
   | (with_reducible exact cross_On.mono _ _ _ _ _ _ _)
   | (with_reducible exact cross_Turn.mono _ _ _ _ _ _ _)
   | (with_reducible exact tangramlaw26_awake.mono _)
   | (with_reducible exact tangramref26_Meet.mono _ _ _ _ _ _ _ _ _)
   | (with_reducible exact tangramref26_On.mono _ _ _ _ _ _ _)
   | (with_reducible exact tangramref26_Turn.mono _ _ _ _ _ _ _)
   | (with_reducible exact LeO.refl _)
   | (with_reducible exact LeO.none _)
   | (with_reducible refine LeO.ite ?_ ?_)
   | (with_reducible refine LeO.bind ?_ (fun _ => ?_))
   | exact ih0 _ _ _ _ _ _ _ _ _
   | exact ih1 _ _ _ _ _ _ _ _ _
   | exact cross_Meet.mono _ _ _ _ _ _ _ _ _
   | exact cross_On.mono _ _ _ _ _ _ _
   | exact cross_Turn.mono _ _ _ _ _ _ _
   | exact tangramlaw26_awake.mono _
   | exact tangramref26_Meet.mono _ _ _ _ _ _ _ _ _
   | exact tangramref26_On.mono _ _ _ _ _ _ _
   | exact tangramref26_Turn.mono _ _ _ _ _ _ _
   | exact LeO.none _
   | refine LeO.ite ?_ ?_
   | refine LeO.bind ?_ (fun _ => ?_)
def tangramlaw26_CrossPieces.T3 : Bool × List (List Nat × List Nat) := (true, [([], []), ([], []), ([], []), ([0, 1, 2], [0, 1, 2]), ([], []), ([], []), ([], []), ([4, 5, 6, 3], [4, 5, 6]), ([3, 7], [3, 7]), ([8, 7], [8]), ([9], [9]), ([9], [9]), ([9], [9]), ([10, 11, 12, 9, 9], [9, 10, 11, 12]), ([9], [9]), ([9], [9]), ([9], [9]), ([14, 15, 16, 13, 9], [9, 14, 15, 16]), ([13, 17, 9], [9, 13, 17]), ([9, 18], [9, 18])])
def tangramlaw26_CrossPieces.B3 : List Nat := [0, 0, 0, 7, 0, 0, 0, 127, 255, 511, 1023, 1023, 1023, 8191, 1023, 1023, 1023, 131071, 262143, 524287]
theorem tangramlaw26_CrossPieces.tab3 : rtab .any (opsOf Try.f3 3) = tangramlaw26_CrossPieces.T3 := by kernel_rfl
theorem tangramlaw26_CrossPieces.bits3 : waitsOk tangramlaw26_CrossPieces.T3.2 tangramlaw26_CrossPieces.B3 = true := by kernel_rfl
def tangramlaw26_CrossPieces.T5 : Bool × List (List Nat × List Nat) := (true, [([], []), ([], []), ([], []), ([0, 1, 2], [0, 1, 2]), ([], []), ([], []), ([], []), ([4, 5, 6, 3], [4, 5, 6]), ([3, 7], [3, 7]), ([8, 7], [8]), ([9], [9]), ([9], [9]), ([9], [9]), ([10, 11, 12, 9, 9], [9, 10, 11, 12]), ([9], [9]), ([9], [9]), ([9], [9]), ([14, 15, 16, 13, 9], [9, 14, 15, 16]), ([13, 17, 9], [9, 13, 17]), ([9, 18], [9, 18]), ([19, 17], [19]), ([20], [20]), ([20], [20]), ([20], [20]), ([21, 22, 23, 20, 20], [20, 21, 22, 23]), ([20], [20]), ([20], [20]), ([20], [20]), ([25, 26, 27, 24, 20], [20, 25, 26, 27]), ([24, 28, 20], [20, 24, 28]), ([20, 29], [20, 29])])
def tangramlaw26_CrossPieces.B5 : List Nat := [0, 0, 0, 7, 0, 0, 0, 127, 255, 511, 1023, 1023, 1023, 8191, 1023, 1023, 1023, 131071, 262143, 524287, 1048575, 2097151, 2097151, 2097151, 16777215, 2097151, 2097151, 2097151, 268435455, 536870911, 1073741823]
theorem tangramlaw26_CrossPieces.tab5 : rtab .any (opsOf Try.f3 5) = tangramlaw26_CrossPieces.T5 := by kernel_rfl
theorem tangramlaw26_CrossPieces.bits5 : waitsOk tangramlaw26_CrossPieces.T5.2 tangramlaw26_CrossPieces.B5 = true := by kernel_rfl
def tangramlaw26_CrossPieces.T7 : Bool × List (List Nat × List Nat) := (true, [([], []), ([], []), ([], []), ([], []), ([0, 1, 2, 3], [0, 1, 2, 3]), ([], []), ([], []), ([], []), ([], []), ([5, 6, 7, 8, 4], [5, 6, 7, 8]), ([4, 9], [4, 9]), ([10, 9], [10]), ([11], [11]), ([11], [11]), ([11], [11]), ([11], [11]), ([12, 13, 14, 15, 11, 11], [11, 12, 13, 14, 15]), ([11], [11]), ([11], [11]), ([11], [11]), ([11], [11]), ([17, 18, 19, 20, 16, 11], [11, 17, 18, 19, 20]), ([16, 21, 11], [11, 16, 21]), ([11, 22], [11, 22]), ([23, 21], [23]), ([24], [24]), ([24], [24]), ([24], [24]), ([24], [24]), ([25, 26, 27, 28, 24, 24], [24, 25, 26, 27, 28]), ([24], [24]), ([24], [24]), ([24], [24]), ([24], [24]), ([30, 31, 32, 33, 29, 24], [24, 30, 31, 32, 33]), ([29, 34, 24], [24, 29, 34]), ([24, 35], [24, 35]), ([36, 34, 0, 1, 2, 3, 4, 5, 6, 7, 8, 9, 10, 11, 12, 13, 14, 15, 16, 17, 18, 19, 20, 21, 22, 23, 24, 25, 26, 27, 28, 29, 30, 31, 32, 33, 34, 35, 36], [36])])
def tangramlaw26_CrossPieces.B7 : List Nat := [0, 0, 0, 0, 15, 0, 0, 0, 0, 511, 1023, 2047, 4095, 4095, 4095, 4095, 65535, 4095, 4095, 4095, 4095, 2097151, 4194303, 8388607, 16777215, 33554431, 33554431, 33554431, 33554431, 536870911, 33554431, 33554431, 33554431, 33554431, 17179869183, 34359738367, 68719476735, 137438953471]
theorem tangramlaw26_CrossPieces.tab7 : rtab .any (opsOf Try.f3 7) = tangramlaw26_CrossPieces.T7 := by kernel_rfl
theorem tangramlaw26_CrossPieces.bits7 : waitsOk tangramlaw26_CrossPieces.T7.2 tangramlaw26_CrossPieces.B7 = true := by kernel_rfl
set_option maxHeartbeats 8000000 in
set_option maxRecDepth 100000 in
theorem tangramlaw26_CrossPieces.calls (k : Nat) (a0_0 : Int) (a0_1 : Int) (a1_0 : Int) (a1_1 : Int) (a2_0 : Int) (a2_1 : Int) (a3_0 : Int) (a3_1 : Int) (r : Bool) (w : World) (h : tangramlaw26_CrossPieces.f k a0_0 a0_1 a1_0 a1_1 a2_0 a2_1 a3_0 a3_1 = some r) :
  Calls Try.prog 3 #[.agg #[.int .i64 a0_0, .int .i64 a0_1], .agg #[.int .i64 a1_0, .int .i64 a1_1], .agg #[.int .i64 a2_0, .int .i64 a2_1], .agg #[.int .i64 a3_0, .int .i64 a3_1]] w fun e w' => e = .returned (.bool r) ∧ Below w.heap.size w w' := by
 have hu23 := Try.underlying23; have HB := Aside0.mk (Below.refl w.heap.size w); have H : ((tangramlaw26_awake.f k).bind fun t404 => (if t404 = true then ((cross_Turn.f k a0_0 a0_1 a1_0 a1_1 a2_0 a2_1).bind fun t405 => ((tangramref26_Turn.f k a0_0 a0_1 a1_0 a1_1 a2_0 a2_1).bind fun t406 => (if t405 = t406 then ((cross_Turn.f k a1_0 a1_1 a3_0 a3_1 a0_0 a0_1).bind fun t407 => ((tangramref26_Turn.f k a1_0 a1_1 a3_0 a3_1 a0_0 a0_1).bind fun t408 => (tangramlaw26_CrossPieces.j0 k (t407 != t408) a0_0 a0_1 a1_0 a1_1 a2_0 a2_1 a3_0 a3_1))) else (tangramlaw26_CrossPieces.j0 k true a0_0 a0_1 a1_0 a1_1 a2_0 a2_1 a3_0 a3_1)))) else (some false))) = some r := h; clear h; replace H := Option.bind_eq_some_iff.mp H; obtain ⟨t404, A50, H⟩ := H; (try dsimp only at H); have A5 := Aside0.mk A50; clear A50
 by_cases c6 : t404 = true
 ·subst c6; rw [if_pos rfl] at H; have HC7 := Aside0.mk H; clear H
  go_enter Try.func3, Try.ntmps3
  go_upto_region 3 with (first | ((with_reducible refine gate_dst (N := 4) rfl ?_); refine be_ 4 #[.int .i64 a0_0, .int .i64 a0_1] 23 ?_; intro gb400 hg w8 hbox hb; have BK400 := Aside0.mk (hbox); have GW400 := wq (hb0 HB) hg; have GE400 := wq (hb0 HB) hg; replace HB := hs (hb0 HB) hb; clear hb hbox hg) | ((with_reducible refine gate_dst (N := 5) rfl ?_); refine be_ 5 #[.int .i64 a1_0, .int .i64 a1_1] 23 ?_; intro gb401 hg w9 hbox hb; have BK401 := Aside0.mk (hbox); have GW401 := wq (hb1 HB GE400) hg; have GE401 := wq (hb1 HB GE400) hg; replace HB := hs (hb1 HB GE400) hb; have NB400_401 := lx BK400 hg; have NB401_400 := gx BK400 hg; replace BK400 := kx BK400 hb; clear hb hbox hg) | ((with_reducible refine gate_dst (N := 6) rfl ?_); refine be_ 6 #[.int .i64 a2_0, .int .i64 a2_1] 23 ?_; intro gb402 hg w10 hbox hb; have BK402 := Aside0.mk (hbox); have GW402 := wq (hb2 HB GE400 GE401) hg; have GE402 := wq (hb2 HB GE400 GE401) hg; replace HB := hs (hb2 HB GE400 GE401) hb; have NB400_402 := lx BK400 hg; have NB402_400 := gx BK400 hg; replace BK400 := kx BK400 hb; have NB401_402 := lx BK401 hg; have NB402_401 := gx BK401 hg; replace BK401 := kx BK401 hb; clear hb hbox hg) | ((with_reducible refine gate_dst (N := 7) rfl ?_); refine be_ 7 #[.int .i64 a3_0, .int .i64 a3_1] 23 ?_; intro gb403 hg w11 hbox hb; have BK403 := Aside0.mk (hbox); have GW403 := wq (hb3 HB GE400 GE401 GE402) hg; have GE403 := wq (hb3 HB GE400 GE401 GE402) hg; replace HB := hs (hb3 HB GE400 GE401 GE402) hb; have NB400_403 := lx BK400 hg; have NB403_400 := gx BK400 hg; replace BK400 := kx BK400 hb; have NB401_403 := lx BK401 hg; have NB403_401 := gx BK401 hg; replace BK401 := kx BK401 hb; have NB402_403 := lx BK402 hg; have NB403_402 := gx BK402 hg; replace BK402 := kx BK402 hb; clear hb hbox hg) | ((with_reducible refine gate_callee (f := 11) rfl ?_); refine gl_ (some 9) Try.func11 #[] ?_; (with_reducible refine (tangramlaw26_awake.calls k  true _ A5.out).mono ?_); rintro e w12 ⟨rfl, hb⟩; refine ⟨_, rfl, ?_⟩; replace BK400 := kx BK400 hb; replace BK401 := kx BK401 hb; replace BK402 := kx BK402 hb; replace BK403 := kx BK403 hb; replace HB := hs (hb4 HB GE400 GE401 GE402 GE403) hb; (try clear hb); (try clear hb2); (try clear hk); (try clear hi)))
  (try simp only [Act.put, List.setIfInBounds_toArray, List.set_cons_zero, List.set_cons_succ])
  go_cut [30] (fun v30 wc => ∃ (kq : Nat) (x30_6 : Bool), v30 = .bool x30_6 ∧ Aside0 (tangramlaw26_CrossPieces.j0 kq x30_6 a0_0 a0_1 a1_0 a1_1 a2_0 a2_1 a3_0 a3_1 = some r) ∧ Aside0 (kq ≤ k) ∧ Aside0 (wc.heap[gb400]? = some (.cells #[.int .i64 a0_0, .int .i64 a0_1] 23 (0, 0))) ∧ Aside0 (wc.heap[gb401]? = some (.cells #[.int .i64 a1_0, .int .i64 a1_1] 23 (0, 0))) ∧ Aside0 (wc.heap[gb402]? = some (.cells #[.int .i64 a2_0, .int .i64 a2_1] 23 (0, 0))) ∧ Aside0 (wc.heap[gb403]? = some (.cells #[.int .i64 a3_0, .int .i64 a3_1] 23 (0, 0))) ∧ Aside0 (Below w.heap.size w wc))
  case first => as_aux_lemma =>
   have H := HC7.out; clear HC7; replace H := Option.bind_eq_some_iff.mp H; obtain ⟨t405, A130, H⟩ := H; (try dsimp only at H); have A13 := Aside0.mk A130; clear A130; replace H := Option.bind_eq_some_iff.mp H; obtain ⟨t406, A140, H⟩ := H; (try dsimp only at H); have A14 := Aside0.mk A140; clear A140
   by_cases c15 : t405 = t406
   ·rw [if_pos c15] at H; have c15b0 : (t405 == t406) = true := beq_iff_eq.mpr c15; have c15b1 : (t405 != t406) = false := bne_eq_false_iff_eq.mpr c15; clear c15
    (first | rw [c15b0] | (simp only [i64_w, i32_w]; rw [c15b0]) | skip)
    replace H := Option.bind_eq_some_iff.mp H; obtain ⟨t407, A160, H⟩ := H; (try dsimp only at H); have A16 := Aside0.mk A160; clear A160; replace H := Option.bind_eq_some_iff.mp H; obtain ⟨t408, A170, H⟩ := H; (try dsimp only at H); have A17 := Aside0.mk A170; clear A170; have H' := Aside0.mk H; clear H
    try go_wp2
    replace BK400 := bd BK400; replace BK401 := bd BK401; replace BK402 := bd BK402; replace BK403 := bd BK403; replace HB := Aside0.mk (below_drew1 HB.out); refine start_ (n := 20) (S := fun w' => w'.cell? ⟨gb400, 0, none⟩ = some (.int .i64 a0_0) ∧ w'.cell? ⟨gb400, 1, none⟩ = some (.int .i64 a0_1) ∧ w'.cell? ⟨gb401, 0, none⟩ = some (.int .i64 a1_0) ∧ w'.cell? ⟨gb401, 1, none⟩ = some (.int .i64 a1_1) ∧ w'.cell? ⟨gb402, 0, none⟩ = some (.int .i64 a2_0) ∧ w'.cell? ⟨gb402, 1, none⟩ = some (.int .i64 a2_1) ∧ w'.cell? ⟨gb403, 0, none⟩ = some (.int .i64 a3_0) ∧ w'.cell? ⟨gb403, 1, none⟩ = some (.int .i64 a3_1)) (ds := []) (pf 0 20) (by kernel_rfl) rfl rfl ⟨bc BK400 0, bc BK400 1, bc BK401 0, bc BK401 1, bc BK402 0, bc BK402 1, bc BK403 0, bc BK403 1⟩ (fun hHeld => ?_); refine with_tabW tangramlaw26_CrossPieces.tab3 tangramlaw26_CrossPieces.bits3 (fun HT_ HW_ => ?_); generalize w12.drew = w18 at BK400 BK401 BK402 BK403 HB hHeld ⊢; refine tk8_ 0 (some 11) (pf 1 20) HT_ HW_ hHeld ?_; refine tk8_ 1 (some 12) (pf 2 20) HT_ HW_ hHeld ?_; refine tk8_ 2 (some 13) (pf 3 20) HT_ HW_ hHeld ?_; refine tk8_ 4 (some 15) #[T_,T_,T_,F_,T_,F_,F_,F_,F_,F_,F_,F_,F_,F_,F_,F_,F_,F_,F_,F_] HT_ HW_ hHeld ?_; refine tk8_ 5 (some 16) #[T_,T_,T_,F_,T_,T_,F_,F_,F_,F_,F_,F_,F_,F_,F_,F_,F_,F_,F_,F_] HT_ HW_ hHeld ?_
    refine tk8_ 6 (some 17) #[T_,T_,T_,F_,T_,T_,T_,F_,F_,F_,F_,F_,F_,F_,F_,F_,F_,F_,F_,F_] HT_ HW_ hHeld ?_; refine on_ 3 (some 14) (pf 7 20) HT_ (fun K hK => ?_); refine gs_ Try.func12 #[.agg #[.int .i64 a0_0, .int .i64 a0_1], .agg #[.int .i64 a1_0, .int .i64 a1_1], .agg #[.int .i64 a2_0, .int .i64 a2_1]] ?_
    with_reducible refine (cross_Turn.calls k a0_0 a0_1 a1_0 a1_1 a2_0 a2_1 t405 _ A13.out).mono ?_
    rintro e w19 ⟨rfl, hb⟩; refine ⟨_, rfl, ?_⟩; replace BK400 := kx BK400 hb; replace BK401 := kx BK401 hb; replace BK402 := kx BK402 hb; replace BK403 := kx BK403 hb; replace HB := hs (hb4 HB GE400 GE401 GE402 GE403) hb
    (try clear hb)
    (try clear hb2)
    (try clear hk)
    (try clear hi)
    refine hK.out _ _ ⟨bc BK400 0, bc BK400 1, bc BK401 0, bc BK401 1, bc BK402 0, bc BK402 1, bc BK403 0, bc BK403 1⟩ (fun hHeld => ?_); clear hK K; refine nm_ (some 14) ?_; refine on_ 7 (some 18) (pf 8 20) HT_ (fun K hK => ?_); refine gs_ Try.func13 #[.agg #[.int .i64 a0_0, .int .i64 a0_1], .agg #[.int .i64 a1_0, .int .i64 a1_1], .agg #[.int .i64 a2_0, .int .i64 a2_1]] ?_
    with_reducible refine (tangramref26_Turn.calls k a0_0 a0_1 a1_0 a1_1 a2_0 a2_1 t406 _ A14.out).mono ?_
    rintro e w20 ⟨rfl, hb⟩; refine ⟨_, rfl, ?_⟩; replace BK400 := kx BK400 hb; replace BK401 := kx BK401 hb; replace BK402 := kx BK402 hb; replace BK403 := kx BK403 hb; replace HB := hs (hb4 HB GE400 GE401 GE402 GE403) hb
    (try clear hb)
    (try clear hb2)
    (try clear hk)
    (try clear hi)
    refine hK.out _ _ ⟨bc BK400 0, bc BK400 1, bc BK401 0, bc BK401 1, bc BK402 0, bc BK402 1, bc BK403 0, bc BK403 1⟩ (fun hHeld => ?_); clear hK K; refine nm_ (some 18) ?_; refine pu_ 8 (some 19) (pf 9 20) HT_ ?_; refine pu_ 9 (some 20) (pf 10 20) HT_ ?_; refine tk8_ 10 (some 21) (pf 11 20) HT_ HW_ hHeld ?_; refine tk8_ 11 (some 22) (pf 12 20) HT_ HW_ hHeld ?_; refine tk8_ 12 (some 23) (pf 13 20) HT_ HW_ hHeld ?_; refine tk8_ 14 (some 25) #[T_,T_,T_,T_,T_,T_,T_,T_,T_,T_,T_,T_,T_,F_,T_,F_,F_,F_,F_,F_] HT_ HW_ hHeld ?_; refine tk8_ 15 (some 26) #[T_,T_,T_,T_,T_,T_,T_,T_,T_,T_,T_,T_,T_,F_,T_,T_,F_,F_,F_,F_] HT_ HW_ hHeld ?_; refine tk8_ 16 (some 27) #[T_,T_,T_,T_,T_,T_,T_,T_,T_,T_,T_,T_,T_,F_,T_,T_,T_,F_,F_,F_] HT_ HW_ hHeld ?_; refine on_ 13 (some 24) (pf 17 20) HT_ (fun K hK => ?_); refine gs_ Try.func12 #[.agg #[.int .i64 a1_0, .int .i64 a1_1], .agg #[.int .i64 a3_0, .int .i64 a3_1], .agg #[.int .i64 a0_0, .int .i64 a0_1]] ?_
    with_reducible refine (cross_Turn.calls k a1_0 a1_1 a3_0 a3_1 a0_0 a0_1 t407 _ A16.out).mono ?_
    rintro e w21 ⟨rfl, hb⟩; refine ⟨_, rfl, ?_⟩; replace BK400 := kx BK400 hb; replace BK401 := kx BK401 hb; replace BK402 := kx BK402 hb; replace BK403 := kx BK403 hb; replace HB := hs (hb4 HB GE400 GE401 GE402 GE403) hb
    (try clear hb)
    (try clear hb2)
    (try clear hk)
    (try clear hi)
    refine hK.out _ _ ⟨bc BK400 0, bc BK400 1, bc BK401 0, bc BK401 1, bc BK402 0, bc BK402 1, bc BK403 0, bc BK403 1⟩ (fun hHeld => ?_); clear hK K; refine nm_ (some 24) ?_; refine on_ 17 (some 28) (pf 18 20) HT_ (fun K hK => ?_); refine gs_ Try.func13 #[.agg #[.int .i64 a1_0, .int .i64 a1_1], .agg #[.int .i64 a3_0, .int .i64 a3_1], .agg #[.int .i64 a0_0, .int .i64 a0_1]] ?_
    with_reducible refine (tangramref26_Turn.calls k a1_0 a1_1 a3_0 a3_1 a0_0 a0_1 t408 _ A17.out).mono ?_
    rintro e w22 ⟨rfl, hb⟩; refine ⟨_, rfl, ?_⟩; replace BK400 := kx BK400 hb; replace BK401 := kx BK401 hb; replace BK402 := kx BK402 hb; replace BK403 := kx BK403 hb; replace HB := hs (hb4 HB GE400 GE401 GE402 GE403) hb
    (try clear hb)
    (try clear hb2)
    (try clear hk)
    (try clear hi)
    refine hK.out _ _ ⟨bc BK400 0, bc BK400 1, bc BK401 0, bc BK401 1, bc BK402 0, bc BK402 1, bc BK403 0, bc BK403 1⟩ (fun hHeld => ?_); clear hK K; refine nm_ (some 28) ?_; refine pu_ 18 (some 29) (pf 19 20) HT_ ?_; refine pu_ 19 (some 30) (pf 20 20) HT_ ?_; refine done_ (done_of HT_.out (by kernel_rfl)) ?_
    try go_wp2
    go_meet
    case rel => exact ⟨_, ((t407 != t408)), (by first | rfl | (simp; done) | (simp [*]; done)), H', ⟨by first | omega | exact Nat.le_refl _⟩, ⟨bx BK400⟩, ⟨bx BK401⟩, ⟨bx BK402⟩, ⟨bx BK403⟩, ⟨hb4 HB GE400 GE401 GE402 GE403⟩⟩
   ·rw [if_neg c15] at H; have c15b0 : (t405 == t406) = false := beq_eq_false_iff_ne.mpr c15; have c15b1 : (t405 != t406) = true := bne_iff_ne.mpr c15
    (first | rw [c15b0] | (simp only [i64_w, i32_w]; rw [c15b0]) | skip)
    have H' := Aside0.mk H; clear H
    try go_wp2
    replace BK400 := bd BK400; replace BK401 := bd BK401; replace BK402 := bd BK402; replace BK403 := bd BK403; replace HB := Aside0.mk (below_drew1 HB.out); refine start_ (n := 20) (S := fun w' => w'.cell? ⟨gb400, 0, none⟩ = some (.int .i64 a0_0) ∧ w'.cell? ⟨gb400, 1, none⟩ = some (.int .i64 a0_1) ∧ w'.cell? ⟨gb401, 0, none⟩ = some (.int .i64 a1_0) ∧ w'.cell? ⟨gb401, 1, none⟩ = some (.int .i64 a1_1) ∧ w'.cell? ⟨gb402, 0, none⟩ = some (.int .i64 a2_0) ∧ w'.cell? ⟨gb402, 1, none⟩ = some (.int .i64 a2_1)) (ds := []) (pf 0 20) (by kernel_rfl) rfl rfl ⟨bc BK400 0, bc BK400 1, bc BK401 0, bc BK401 1, bc BK402 0, bc BK402 1⟩ (fun hHeld => ?_); refine with_tabW tangramlaw26_CrossPieces.tab3 tangramlaw26_CrossPieces.bits3 (fun HT_ HW_ => ?_); generalize w12.drew = w23 at BK400 BK401 BK402 BK403 HB hHeld ⊢; refine tk6_ 0 (some 11) (pf 1 20) HT_ HW_ hHeld ?_; refine tk6_ 1 (some 12) (pf 2 20) HT_ HW_ hHeld ?_; refine tk6_ 2 (some 13) (pf 3 20) HT_ HW_ hHeld ?_; refine tk6_ 4 (some 15) #[T_,T_,T_,F_,T_,F_,F_,F_,F_,F_,F_,F_,F_,F_,F_,F_,F_,F_,F_,F_] HT_ HW_ hHeld ?_; refine tk6_ 5 (some 16) #[T_,T_,T_,F_,T_,T_,F_,F_,F_,F_,F_,F_,F_,F_,F_,F_,F_,F_,F_,F_] HT_ HW_ hHeld ?_; refine tk6_ 6 (some 17) #[T_,T_,T_,F_,T_,T_,T_,F_,F_,F_,F_,F_,F_,F_,F_,F_,F_,F_,F_,F_] HT_ HW_ hHeld ?_; refine on_ 3 (some 14) (pf 7 20) HT_ (fun K hK => ?_)
    refine gs_ Try.func12 #[.agg #[.int .i64 a0_0, .int .i64 a0_1], .agg #[.int .i64 a1_0, .int .i64 a1_1], .agg #[.int .i64 a2_0, .int .i64 a2_1]] ?_
    with_reducible refine (cross_Turn.calls k a0_0 a0_1 a1_0 a1_1 a2_0 a2_1 t405 _ A13.out).mono ?_
    rintro e w24 ⟨rfl, hb⟩; refine ⟨_, rfl, ?_⟩; replace BK400 := kx BK400 hb; replace BK401 := kx BK401 hb; replace BK402 := kx BK402 hb; replace BK403 := kx BK403 hb; replace HB := hs (hb4 HB GE400 GE401 GE402 GE403) hb
    (try clear hb)
    (try clear hb2)
    (try clear hk)
    (try clear hi)
    refine hK.out _ _ ⟨bc BK400 0, bc BK400 1, bc BK401 0, bc BK401 1, bc BK402 0, bc BK402 1⟩ (fun hHeld => ?_); clear hK K; refine nm_ (some 14) ?_; refine on_ 7 (some 18) (pf 8 20) HT_ (fun K hK => ?_); refine gs_ Try.func13 #[.agg #[.int .i64 a0_0, .int .i64 a0_1], .agg #[.int .i64 a1_0, .int .i64 a1_1], .agg #[.int .i64 a2_0, .int .i64 a2_1]] ?_
    with_reducible refine (tangramref26_Turn.calls k a0_0 a0_1 a1_0 a1_1 a2_0 a2_1 t406 _ A14.out).mono ?_
    rintro e w25 ⟨rfl, hb⟩; refine ⟨_, rfl, ?_⟩; replace BK400 := kx BK400 hb; replace BK401 := kx BK401 hb; replace BK402 := kx BK402 hb; replace BK403 := kx BK403 hb; replace HB := hs (hb4 HB GE400 GE401 GE402 GE403) hb
    (try clear hb)
    (try clear hb2)
    (try clear hk)
    (try clear hi)
    refine hK.out _ _ ⟨bc BK400 0, bc BK400 1, bc BK401 0, bc BK401 1, bc BK402 0, bc BK402 1⟩ (fun hHeld => ?_); clear hK K; refine nm_ (some 18) ?_; refine pu_ 8 (some 19) (pf 9 20) HT_ ?_; refine pu_ 9 (some 20) (pf 10 20) HT_ ?_; refine pn_ 10 (some 21) (pf 11 20) HT_ ?_; refine pn_ 11 (some 22) (pf 12 20) HT_ ?_; refine pn_ 12 (some 23) (pf 13 20) HT_ ?_; refine pn_ 13 (some 24) (pf 14 20) HT_ ?_; refine pn_ 14 (some 25) (pf 15 20) HT_ ?_; refine pn_ 15 (some 26) (pf 16 20) HT_ ?_; refine pn_ 16 (some 27) (pf 17 20) HT_ ?_; refine pn_ 17 (some 28) (pf 18 20) HT_ ?_; refine pn_ 18 (some 29) (pf 19 20) HT_ ?_; refine pu_ 19 (some 30) (pf 20 20) HT_ ?_; refine done_ (done_of HT_.out (by kernel_rfl)) ?_
    try go_wp2
    go_meet
    case rel => exact ⟨_, (true), (by first | rfl | (simp; done) | (simp [*]; done)), H', ⟨by first | omega | exact Nat.le_refl _⟩, ⟨bx BK400⟩, ⟨bx BK401⟩, ⟨bx BK402⟩, ⟨bx BK403⟩, ⟨hb4 HB GE400 GE401 GE402 GE403⟩⟩
  case rest => as_aux_lemma =>
   clear HC7
   try clear c1
   try clear p2
   try clear c3
   try clear c6
   try clear c11
   try clear c12
   try clear c13
   try clear c15
   try clear c15b0
   try clear c15b1
   obtain ⟨kq, x30_6, rfl, HA, HJ6, BK400, BK401, BK402, BK403, HB⟩ := hcut
   cases kq with
   | zero => exact absurd HA.out (by simp [tangramlaw26_CrossPieces.j0])
   | succ kj6 =>
    have H := HA.out; clear HA; simp only [tangramlaw26_CrossPieces.j0] at H
    by_cases c26 : x30_6 = true
    ·subst c26; rw [if_pos rfl] at H; obtain rfl := Option.some.inj H
     go_wp2
     go_ret
     exact ⟨by first | rfl | (simp [errW_none, errW_some] <;> rfl) | (simp [*, errW_none, errW_some] <;> rfl), hb4 HB GE400 GE401 GE402 GE403⟩
    ·replace c26 := Bool.eq_false_iff.mpr c26; subst c26; rw [if_neg (show ¬ (false = true) by decide)] at H; have HC27 := Aside0.mk H; clear H
     go_upto_region 5 with (fail)
     go_cut [61] (fun v61 wc => ∃ (kq : Nat) (x61_26 : Bool), v61 = .bool x61_26 ∧ Aside0 (tangramlaw26_CrossPieces.j1 kq x61_26 a0_0 a0_1 a1_0 a1_1 a2_0 a2_1 a3_0 a3_1 = some r) ∧ Aside0 (kq ≤ kj6) ∧ Aside0 (wc.heap[gb400]? = some (.cells #[.int .i64 a0_0, .int .i64 a0_1] 23 (0, 0))) ∧ Aside0 (wc.heap[gb401]? = some (.cells #[.int .i64 a1_0, .int .i64 a1_1] 23 (0, 0))) ∧ Aside0 (wc.heap[gb402]? = some (.cells #[.int .i64 a2_0, .int .i64 a2_1] 23 (0, 0))) ∧ Aside0 (wc.heap[gb403]? = some (.cells #[.int .i64 a3_0, .int .i64 a3_1] 23 (0, 0))) ∧ Aside0 (Below w.heap.size w wc))
     case first => as_aux_lemma =>
      have H := HC27.out; clear HC27; replace H := Option.bind_eq_some_iff.mp H; obtain ⟨t409, A280, H⟩ := H; (try dsimp only at H); have A28 := Aside0.mk A280; clear A280; replace H := Option.bind_eq_some_iff.mp H; obtain ⟨t410, A290, H⟩ := H; (try dsimp only at H)
      have A29 := Aside0.mk A290; clear A290
      by_cases c30 : (t409 != t410) = true
      ·rw [if_pos c30] at H; have c30b0 : (t409 != t410) = true := c30
       (try (have c30b1 : decide (t409 = t410) = false := by simpa using c30))
       (try (have c30b2 : (t409 == t410) = false := by simpa using c30))
       (try (have c30b3 : ¬ (t409 = t410) := by simpa using c30))
       clear c30
       (first | rw [c30b0] | (simp only [i64_w, i32_w]; rw [c30b0]) | skip)
       have H' := Aside0.mk H; clear H
       try go_wp2
       replace BK400 := bd BK400; replace BK401 := bd BK401; replace BK402 := bd BK402; replace BK403 := bd BK403; replace HB := Aside0.mk (below_drew1 HB.out); refine start_ (n := 31) (S := fun w' => w'.cell? ⟨gb400, 0, none⟩ = some (.int .i64 a0_0) ∧ w'.cell? ⟨gb400, 1, none⟩ = some (.int .i64 a0_1) ∧ w'.cell? ⟨gb401, 0, none⟩ = some (.int .i64 a1_0) ∧ w'.cell? ⟨gb401, 1, none⟩ = some (.int .i64 a1_1) ∧ w'.cell? ⟨gb402, 0, none⟩ = some (.int .i64 a2_0) ∧ w'.cell? ⟨gb402, 1, none⟩ = some (.int .i64 a2_1)) (ds := []) (pf 0 31) (by kernel_rfl) rfl rfl ⟨bc BK400 0, bc BK400 1, bc BK401 0, bc BK401 1, bc BK402 0, bc BK402 1⟩ (fun hHeld => ?_); refine with_tabW tangramlaw26_CrossPieces.tab5 tangramlaw26_CrossPieces.bits5 (fun HT_ HW_ => ?_); generalize wc.drew = w31 at BK400 BK401 BK402 BK403 HB hHeld ⊢; refine tk6_ 0 (some 31) (pf 1 31) HT_ HW_ hHeld ?_; refine tk6_ 1 (some 32) (pf 2 31) HT_ HW_ hHeld ?_; refine tk6_ 2 (some 33) (pf 3 31) HT_ HW_ hHeld ?_; refine tk6_ 4 (some 35) #[T_,T_,T_,F_,T_,F_,F_,F_,F_,F_,F_,F_,F_,F_,F_,F_,F_,F_,F_,F_,F_,F_,F_,F_,F_,F_,F_,F_,F_,F_,F_] HT_ HW_ hHeld ?_; refine tk6_ 5 (some 36) #[T_,T_,T_,F_,T_,T_,F_,F_,F_,F_,F_,F_,F_,F_,F_,F_,F_,F_,F_,F_,F_,F_,F_,F_,F_,F_,F_,F_,F_,F_,F_] HT_ HW_ hHeld ?_
       refine tk6_ 6 (some 37) #[T_,T_,T_,F_,T_,T_,T_,F_,F_,F_,F_,F_,F_,F_,F_,F_,F_,F_,F_,F_,F_,F_,F_,F_,F_,F_,F_,F_,F_,F_,F_] HT_ HW_ hHeld ?_; refine on_ 3 (some 34) (pf 7 31) HT_ (fun K hK => ?_); refine gs_ Try.func14 #[.agg #[.int .i64 a0_0, .int .i64 a0_1], .agg #[.int .i64 a1_0, .int .i64 a1_1], .agg #[.int .i64 a2_0, .int .i64 a2_1]] ?_
       with_reducible refine (cross_On.calls kj6 a0_0 a0_1 a1_0 a1_1 a2_0 a2_1 t409 _ A28.out).mono ?_
       rintro e w32 ⟨rfl, hb⟩; refine ⟨_, rfl, ?_⟩; replace BK400 := kx BK400 hb; replace BK401 := kx BK401 hb; replace BK402 := kx BK402 hb; replace BK403 := kx BK403 hb; replace HB := hs (hb4 HB GE400 GE401 GE402 GE403) hb
       (try clear hb)
       (try clear hb2)
       (try clear hk)
       (try clear hi)
       refine hK.out _ _ ⟨bc BK400 0, bc BK400 1, bc BK401 0, bc BK401 1, bc BK402 0, bc BK402 1⟩ (fun hHeld => ?_); clear hK K; refine nm_ (some 34) ?_; refine on_ 7 (some 38) (pf 8 31) HT_ (fun K hK => ?_); refine gs_ Try.func15 #[.agg #[.int .i64 a0_0, .int .i64 a0_1], .agg #[.int .i64 a1_0, .int .i64 a1_1], .agg #[.int .i64 a2_0, .int .i64 a2_1]] ?_
       with_reducible refine (tangramref26_On.calls kj6 a0_0 a0_1 a1_0 a1_1 a2_0 a2_1 t410 _ A29.out).mono ?_
       rintro e w33 ⟨rfl, hb⟩; refine ⟨_, rfl, ?_⟩; replace BK400 := kx BK400 hb; replace BK401 := kx BK401 hb; replace BK402 := kx BK402 hb; replace BK403 := kx BK403 hb; replace HB := hs (hb4 HB GE400 GE401 GE402 GE403) hb
       (try clear hb)
       (try clear hb2)
       (try clear hk)
       (try clear hi)
       refine hK.out _ _ ⟨bc BK400 0, bc BK400 1, bc BK401 0, bc BK401 1, bc BK402 0, bc BK402 1⟩ (fun hHeld => ?_); clear hK K; refine nm_ (some 38) ?_; refine pu_ 8 (some 39) (pf 9 31) HT_ ?_; refine pu_ 9 (some 40) (pf 10 31) HT_ ?_; refine pn_ 10 (some 41) (pf 11 31) HT_ ?_; refine pn_ 11 (some 42) (pf 12 31) HT_ ?_; refine pn_ 12 (some 43) (pf 13 31) HT_ ?_; refine pn_ 13 (some 44) (pf 14 31) HT_ ?_; refine pn_ 14 (some 45) (pf 15 31) HT_ ?_; refine pn_ 15 (some 46) (pf 16 31) HT_ ?_; refine pn_ 16 (some 47) (pf 17 31) HT_ ?_; refine pn_ 17 (some 48) (pf 18 31) HT_ ?_; refine pn_ 18 (some 49) (pf 19 31) HT_ ?_
       refine pu_ 19 (some 50) (pf 20 31) HT_ ?_; refine pu_ 20 (some 51) (pf 21 31) HT_ ?_; refine pn_ 21 (some 52) (pf 22 31) HT_ ?_; refine pn_ 22 (some 53) (pf 23 31) HT_ ?_; refine pn_ 23 (some 54) (pf 24 31) HT_ ?_; refine pn_ 24 (some 55) (pf 25 31) HT_ ?_; refine pn_ 25 (some 56) (pf 26 31) HT_ ?_; refine pn_ 26 (some 57) (pf 27 31) HT_ ?_; refine pn_ 27 (some 58) (pf 28 31) HT_ ?_; refine pn_ 28 (some 59) (pf 29 31) HT_ ?_; refine pn_ 29 (some 60) (pf 30 31) HT_ ?_; refine pu_ 30 (some 61) (pf 31 31) HT_ ?_
       refine done_ (done_of HT_.out (by kernel_rfl)) ?_
       try go_wp2
       go_meet
       case rel => exact ⟨_, (true), (by first | rfl | (simp; done) | (simp [*]; done)), H', ⟨by have := HJ6.out; first | omega | exact Nat.le_refl _⟩, ⟨bx BK400⟩, ⟨bx BK401⟩, ⟨bx BK402⟩, ⟨bx BK403⟩, ⟨hb4 HB GE400 GE401 GE402 GE403⟩⟩
      ·rw [if_neg c30] at H; have c30b0 : (t409 != t410) = false := by simpa using c30
       (try (have c30b1 : decide (t409 = t410) = true := by simpa using c30))
       (try (have c30b2 : (t409 == t410) = true := by simpa using c30))
       clear c30
       (first | rw [c30b0] | (simp only [i64_w, i32_w]; rw [c30b0]) | skip)
       replace H := Option.bind_eq_some_iff.mp H; obtain ⟨t411, A340, H⟩ := H; (try dsimp only at H); have A34 := Aside0.mk A340; clear A340; replace H := Option.bind_eq_some_iff.mp H; obtain ⟨t412, A350, H⟩ := H; (try dsimp only at H); have A35 := Aside0.mk A350; clear A350
       by_cases c36 : (t411 != t412) = true
       ·rw [if_pos c36] at H; have c36b0 : (t411 != t412) = true := c36
        (try (have c36b1 : decide (t411 = t412) = false := by simpa using c36))
        (try (have c36b2 : (t411 == t412) = false := by simpa using c36))
        (try (have c36b3 : ¬ (t411 = t412) := by simpa using c36))
        clear c36; have H' := Aside0.mk H; clear H
        try go_wp2
        replace BK400 := bd BK400; replace BK401 := bd BK401; replace BK402 := bd BK402; replace BK403 := bd BK403; replace HB := Aside0.mk (below_drew1 HB.out); refine start_ (n := 31) (S := fun w' => w'.cell? ⟨gb400, 0, none⟩ = some (.int .i64 a0_0) ∧ w'.cell? ⟨gb400, 1, none⟩ = some (.int .i64 a0_1) ∧ w'.cell? ⟨gb401, 0, none⟩ = some (.int .i64 a1_0) ∧ w'.cell? ⟨gb401, 1, none⟩ = some (.int .i64 a1_1) ∧ w'.cell? ⟨gb402, 0, none⟩ = some (.int .i64 a2_0) ∧ w'.cell? ⟨gb402, 1, none⟩ = some (.int .i64 a2_1) ∧ w'.cell? ⟨gb403, 0, none⟩ = some (.int .i64 a3_0) ∧ w'.cell? ⟨gb403, 1, none⟩ = some (.int .i64 a3_1)) (ds := []) (pf 0 31) (by kernel_rfl) rfl rfl ⟨bc BK400 0, bc BK400 1, bc BK401 0, bc BK401 1, bc BK402 0, bc BK402 1, bc BK403 0, bc BK403 1⟩ (fun hHeld => ?_); refine with_tabW tangramlaw26_CrossPieces.tab5 tangramlaw26_CrossPieces.bits5 (fun HT_ HW_ => ?_); generalize wc.drew = w37 at BK400 BK401 BK402 BK403 HB hHeld ⊢; refine tk8_ 0 (some 31) (pf 1 31) HT_ HW_ hHeld ?_; refine tk8_ 1 (some 32) (pf 2 31) HT_ HW_ hHeld ?_; refine tk8_ 2 (some 33) (pf 3 31) HT_ HW_ hHeld ?_; refine tk8_ 4 (some 35) #[T_,T_,T_,F_,T_,F_,F_,F_,F_,F_,F_,F_,F_,F_,F_,F_,F_,F_,F_,F_,F_,F_,F_,F_,F_,F_,F_,F_,F_,F_,F_] HT_ HW_ hHeld ?_
        refine tk8_ 5 (some 36) #[T_,T_,T_,F_,T_,T_,F_,F_,F_,F_,F_,F_,F_,F_,F_,F_,F_,F_,F_,F_,F_,F_,F_,F_,F_,F_,F_,F_,F_,F_,F_] HT_ HW_ hHeld ?_; refine tk8_ 6 (some 37) #[T_,T_,T_,F_,T_,T_,T_,F_,F_,F_,F_,F_,F_,F_,F_,F_,F_,F_,F_,F_,F_,F_,F_,F_,F_,F_,F_,F_,F_,F_,F_] HT_ HW_ hHeld ?_; refine on_ 3 (some 34) (pf 7 31) HT_ (fun K hK => ?_); refine gs_ Try.func14 #[.agg #[.int .i64 a0_0, .int .i64 a0_1], .agg #[.int .i64 a1_0, .int .i64 a1_1], .agg #[.int .i64 a2_0, .int .i64 a2_1]] ?_
        with_reducible refine (cross_On.calls kj6 a0_0 a0_1 a1_0 a1_1 a2_0 a2_1 t409 _ A28.out).mono ?_
        rintro e w38 ⟨rfl, hb⟩; refine ⟨_, rfl, ?_⟩; replace BK400 := kx BK400 hb; replace BK401 := kx BK401 hb; replace BK402 := kx BK402 hb; replace BK403 := kx BK403 hb; replace HB := hs (hb4 HB GE400 GE401 GE402 GE403) hb
        (try clear hb)
        (try clear hb2)
        (try clear hk)
        (try clear hi)
        refine hK.out _ _ ⟨bc BK400 0, bc BK400 1, bc BK401 0, bc BK401 1, bc BK402 0, bc BK402 1, bc BK403 0, bc BK403 1⟩ (fun hHeld => ?_); clear hK K; refine nm_ (some 34) ?_; refine on_ 7 (some 38) (pf 8 31) HT_ (fun K hK => ?_); refine gs_ Try.func15 #[.agg #[.int .i64 a0_0, .int .i64 a0_1], .agg #[.int .i64 a1_0, .int .i64 a1_1], .agg #[.int .i64 a2_0, .int .i64 a2_1]] ?_
        with_reducible refine (tangramref26_On.calls kj6 a0_0 a0_1 a1_0 a1_1 a2_0 a2_1 t410 _ A29.out).mono ?_
        rintro e w39 ⟨rfl, hb⟩; refine ⟨_, rfl, ?_⟩; replace BK400 := kx BK400 hb; replace BK401 := kx BK401 hb; replace BK402 := kx BK402 hb; replace BK403 := kx BK403 hb; replace HB := hs (hb4 HB GE400 GE401 GE402 GE403) hb
        (try clear hb)
        (try clear hb2)
        (try clear hk)
        (try clear hi)
        refine hK.out _ _ ⟨bc BK400 0, bc BK400 1, bc BK401 0, bc BK401 1, bc BK402 0, bc BK402 1, bc BK403 0, bc BK403 1⟩ (fun hHeld => ?_); clear hK K; refine nm_ (some 38) ?_; refine pu_ 8 (some 39) (pf 9 31) HT_ ?_; refine pu_ 9 (some 40) (pf 10 31) HT_ ?_; refine tk8_ 10 (some 41) (pf 11 31) HT_ HW_ hHeld ?_; refine tk8_ 11 (some 42) (pf 12 31) HT_ HW_ hHeld ?_; refine tk8_ 12 (some 43) (pf 13 31) HT_ HW_ hHeld ?_; refine tk8_ 14 (some 45) #[T_,T_,T_,T_,T_,T_,T_,T_,T_,T_,T_,T_,T_,F_,T_,F_,F_,F_,F_,F_,F_,F_,F_,F_,F_,F_,F_,F_,F_,F_,F_] HT_ HW_ hHeld ?_; refine tk8_ 15 (some 46) #[T_,T_,T_,T_,T_,T_,T_,T_,T_,T_,T_,T_,T_,F_,T_,T_,F_,F_,F_,F_,F_,F_,F_,F_,F_,F_,F_,F_,F_,F_,F_] HT_ HW_ hHeld ?_; refine tk8_ 16 (some 47) #[T_,T_,T_,T_,T_,T_,T_,T_,T_,T_,T_,T_,T_,F_,T_,T_,T_,F_,F_,F_,F_,F_,F_,F_,F_,F_,F_,F_,F_,F_,F_] HT_ HW_ hHeld ?_; refine on_ 13 (some 44) (pf 17 31) HT_ (fun K hK => ?_); refine gs_ Try.func14 #[.agg #[.int .i64 a2_0, .int .i64 a2_1], .agg #[.int .i64 a0_0, .int .i64 a0_1], .agg #[.int .i64 a3_0, .int .i64 a3_1]] ?_
        with_reducible refine (cross_On.calls kj6 a2_0 a2_1 a0_0 a0_1 a3_0 a3_1 t411 _ A34.out).mono ?_
        rintro e w40 ⟨rfl, hb⟩; refine ⟨_, rfl, ?_⟩; replace BK400 := kx BK400 hb; replace BK401 := kx BK401 hb; replace BK402 := kx BK402 hb; replace BK403 := kx BK403 hb; replace HB := hs (hb4 HB GE400 GE401 GE402 GE403) hb
        (try clear hb)
        (try clear hb2)
        (try clear hk)
        (try clear hi)
        refine hK.out _ _ ⟨bc BK400 0, bc BK400 1, bc BK401 0, bc BK401 1, bc BK402 0, bc BK402 1, bc BK403 0, bc BK403 1⟩ (fun hHeld => ?_); clear hK K; refine nm_ (some 44) ?_; refine on_ 17 (some 48) (pf 18 31) HT_ (fun K hK => ?_); refine gs_ Try.func15 #[.agg #[.int .i64 a2_0, .int .i64 a2_1], .agg #[.int .i64 a0_0, .int .i64 a0_1], .agg #[.int .i64 a3_0, .int .i64 a3_1]] ?_
        with_reducible refine (tangramref26_On.calls kj6 a2_0 a2_1 a0_0 a0_1 a3_0 a3_1 t412 _ A35.out).mono ?_
        rintro e w41 ⟨rfl, hb⟩; refine ⟨_, rfl, ?_⟩; replace BK400 := kx BK400 hb; replace BK401 := kx BK401 hb; replace BK402 := kx BK402 hb; replace BK403 := kx BK403 hb; replace HB := hs (hb4 HB GE400 GE401 GE402 GE403) hb
        (try clear hb)
        (try clear hb2)
        (try clear hk)
        (try clear hi)
        refine hK.out _ _ ⟨bc BK400 0, bc BK400 1, bc BK401 0, bc BK401 1, bc BK402 0, bc BK402 1, bc BK403 0, bc BK403 1⟩ (fun hHeld => ?_); clear hK K; refine nm_ (some 48) ?_; refine pu_ 18 (some 49) (pf 19 31) HT_ ?_; refine pu_ 19 (some 50) (pf 20 31) HT_ ?_; refine pu_ 20 (some 51) (pf 21 31) HT_ ?_; refine pn_ 21 (some 52) (pf 22 31) HT_ ?_; refine pn_ 22 (some 53) (pf 23 31) HT_ ?_; refine pn_ 23 (some 54) (pf 24 31) HT_ ?_; refine pn_ 24 (some 55) (pf 25 31) HT_ ?_; refine pn_ 25 (some 56) (pf 26 31) HT_ ?_; refine pn_ 26 (some 57) (pf 27 31) HT_ ?_; refine pn_ 27 (some 58) (pf 28 31) HT_ ?_; refine pn_ 28 (some 59) (pf 29 31) HT_ ?_
        refine pn_ 29 (some 60) (pf 30 31) HT_ ?_; refine pu_ 30 (some 61) (pf 31 31) HT_ ?_; refine done_ (done_of HT_.out (by kernel_rfl)) ?_
        try go_wp2
        go_meet
        case rel => exact ⟨_, (true), (by first | rfl | (simp; done) | (simp [*]; done)), H', ⟨by have := HJ6.out; first | omega | exact Nat.le_refl _⟩, ⟨bx BK400⟩, ⟨bx BK401⟩, ⟨bx BK402⟩, ⟨bx BK403⟩, ⟨hb4 HB GE400 GE401 GE402 GE403⟩⟩
       ·rw [if_neg c36] at H; have c36b0 : (t411 != t412) = false := by simpa using c36
        (try (have c36b1 : decide (t411 = t412) = true := by simpa using c36))
        (try (have c36b2 : (t411 == t412) = true := by simpa using c36))
        clear c36; replace H := Option.bind_eq_some_iff.mp H; obtain ⟨t413, A420, H⟩ := H; (try dsimp only at H); have A42 := Aside0.mk A420; clear A420; replace H := Option.bind_eq_some_iff.mp H; obtain ⟨t414, A430, H⟩ := H; (try dsimp only at H); have A43 := Aside0.mk A430; clear A430; have H' := Aside0.mk H; clear H
        try go_wp2
        replace BK400 := bd BK400; replace BK401 := bd BK401; replace BK402 := bd BK402; replace BK403 := bd BK403; replace HB := Aside0.mk (below_drew1 HB.out); refine start_ (n := 31) (S := fun w' => w'.cell? ⟨gb400, 0, none⟩ = some (.int .i64 a0_0) ∧ w'.cell? ⟨gb400, 1, none⟩ = some (.int .i64 a0_1) ∧ w'.cell? ⟨gb401, 0, none⟩ = some (.int .i64 a1_0) ∧ w'.cell? ⟨gb401, 1, none⟩ = some (.int .i64 a1_1) ∧ w'.cell? ⟨gb402, 0, none⟩ = some (.int .i64 a2_0) ∧ w'.cell? ⟨gb402, 1, none⟩ = some (.int .i64 a2_1) ∧ w'.cell? ⟨gb403, 0, none⟩ = some (.int .i64 a3_0) ∧ w'.cell? ⟨gb403, 1, none⟩ = some (.int .i64 a3_1)) (ds := []) (pf 0 31) (by kernel_rfl) rfl rfl ⟨bc BK400 0, bc BK400 1, bc BK401 0, bc BK401 1, bc BK402 0, bc BK402 1, bc BK403 0, bc BK403 1⟩ (fun hHeld => ?_); refine with_tabW tangramlaw26_CrossPieces.tab5 tangramlaw26_CrossPieces.bits5 (fun HT_ HW_ => ?_); generalize wc.drew = w44 at BK400 BK401 BK402 BK403 HB hHeld ⊢; refine tk8_ 0 (some 31) (pf 1 31) HT_ HW_ hHeld ?_; refine tk8_ 1 (some 32) (pf 2 31) HT_ HW_ hHeld ?_; refine tk8_ 2 (some 33) (pf 3 31) HT_ HW_ hHeld ?_; refine tk8_ 4 (some 35) #[T_,T_,T_,F_,T_,F_,F_,F_,F_,F_,F_,F_,F_,F_,F_,F_,F_,F_,F_,F_,F_,F_,F_,F_,F_,F_,F_,F_,F_,F_,F_] HT_ HW_ hHeld ?_
        refine tk8_ 5 (some 36) #[T_,T_,T_,F_,T_,T_,F_,F_,F_,F_,F_,F_,F_,F_,F_,F_,F_,F_,F_,F_,F_,F_,F_,F_,F_,F_,F_,F_,F_,F_,F_] HT_ HW_ hHeld ?_; refine tk8_ 6 (some 37) #[T_,T_,T_,F_,T_,T_,T_,F_,F_,F_,F_,F_,F_,F_,F_,F_,F_,F_,F_,F_,F_,F_,F_,F_,F_,F_,F_,F_,F_,F_,F_] HT_ HW_ hHeld ?_; refine on_ 3 (some 34) (pf 7 31) HT_ (fun K hK => ?_); refine gs_ Try.func14 #[.agg #[.int .i64 a0_0, .int .i64 a0_1], .agg #[.int .i64 a1_0, .int .i64 a1_1], .agg #[.int .i64 a2_0, .int .i64 a2_1]] ?_
        with_reducible refine (cross_On.calls kj6 a0_0 a0_1 a1_0 a1_1 a2_0 a2_1 t409 _ A28.out).mono ?_
        rintro e w45 ⟨rfl, hb⟩; refine ⟨_, rfl, ?_⟩; replace BK400 := kx BK400 hb; replace BK401 := kx BK401 hb; replace BK402 := kx BK402 hb; replace BK403 := kx BK403 hb; replace HB := hs (hb4 HB GE400 GE401 GE402 GE403) hb
        (try clear hb)
        (try clear hb2)
        (try clear hk)
        (try clear hi)
        refine hK.out _ _ ⟨bc BK400 0, bc BK400 1, bc BK401 0, bc BK401 1, bc BK402 0, bc BK402 1, bc BK403 0, bc BK403 1⟩ (fun hHeld => ?_); clear hK K; refine nm_ (some 34) ?_; refine on_ 7 (some 38) (pf 8 31) HT_ (fun K hK => ?_); refine gs_ Try.func15 #[.agg #[.int .i64 a0_0, .int .i64 a0_1], .agg #[.int .i64 a1_0, .int .i64 a1_1], .agg #[.int .i64 a2_0, .int .i64 a2_1]] ?_
        with_reducible refine (tangramref26_On.calls kj6 a0_0 a0_1 a1_0 a1_1 a2_0 a2_1 t410 _ A29.out).mono ?_
        rintro e w46 ⟨rfl, hb⟩; refine ⟨_, rfl, ?_⟩; replace BK400 := kx BK400 hb; replace BK401 := kx BK401 hb; replace BK402 := kx BK402 hb; replace BK403 := kx BK403 hb; replace HB := hs (hb4 HB GE400 GE401 GE402 GE403) hb
        (try clear hb)
        (try clear hb2)
        (try clear hk)
        (try clear hi)
        refine hK.out _ _ ⟨bc BK400 0, bc BK400 1, bc BK401 0, bc BK401 1, bc BK402 0, bc BK402 1, bc BK403 0, bc BK403 1⟩ (fun hHeld => ?_); clear hK K; refine nm_ (some 38) ?_; refine pu_ 8 (some 39) (pf 9 31) HT_ ?_; refine pu_ 9 (some 40) (pf 10 31) HT_ ?_; refine tk8_ 10 (some 41) (pf 11 31) HT_ HW_ hHeld ?_; refine tk8_ 11 (some 42) (pf 12 31) HT_ HW_ hHeld ?_; refine tk8_ 12 (some 43) (pf 13 31) HT_ HW_ hHeld ?_; refine tk8_ 14 (some 45) #[T_,T_,T_,T_,T_,T_,T_,T_,T_,T_,T_,T_,T_,F_,T_,F_,F_,F_,F_,F_,F_,F_,F_,F_,F_,F_,F_,F_,F_,F_,F_] HT_ HW_ hHeld ?_; refine tk8_ 15 (some 46) #[T_,T_,T_,T_,T_,T_,T_,T_,T_,T_,T_,T_,T_,F_,T_,T_,F_,F_,F_,F_,F_,F_,F_,F_,F_,F_,F_,F_,F_,F_,F_] HT_ HW_ hHeld ?_; refine tk8_ 16 (some 47) #[T_,T_,T_,T_,T_,T_,T_,T_,T_,T_,T_,T_,T_,F_,T_,T_,T_,F_,F_,F_,F_,F_,F_,F_,F_,F_,F_,F_,F_,F_,F_] HT_ HW_ hHeld ?_; refine on_ 13 (some 44) (pf 17 31) HT_ (fun K hK => ?_); refine gs_ Try.func14 #[.agg #[.int .i64 a2_0, .int .i64 a2_1], .agg #[.int .i64 a0_0, .int .i64 a0_1], .agg #[.int .i64 a3_0, .int .i64 a3_1]] ?_
        with_reducible refine (cross_On.calls kj6 a2_0 a2_1 a0_0 a0_1 a3_0 a3_1 t411 _ A34.out).mono ?_
        rintro e w47 ⟨rfl, hb⟩; refine ⟨_, rfl, ?_⟩; replace BK400 := kx BK400 hb; replace BK401 := kx BK401 hb; replace BK402 := kx BK402 hb; replace BK403 := kx BK403 hb; replace HB := hs (hb4 HB GE400 GE401 GE402 GE403) hb
        (try clear hb)
        (try clear hb2)
        (try clear hk)
        (try clear hi)
        refine hK.out _ _ ⟨bc BK400 0, bc BK400 1, bc BK401 0, bc BK401 1, bc BK402 0, bc BK402 1, bc BK403 0, bc BK403 1⟩ (fun hHeld => ?_); clear hK K; refine nm_ (some 44) ?_; refine on_ 17 (some 48) (pf 18 31) HT_ (fun K hK => ?_); refine gs_ Try.func15 #[.agg #[.int .i64 a2_0, .int .i64 a2_1], .agg #[.int .i64 a0_0, .int .i64 a0_1], .agg #[.int .i64 a3_0, .int .i64 a3_1]] ?_
        with_reducible refine (tangramref26_On.calls kj6 a2_0 a2_1 a0_0 a0_1 a3_0 a3_1 t412 _ A35.out).mono ?_
        rintro e w48 ⟨rfl, hb⟩; refine ⟨_, rfl, ?_⟩; replace BK400 := kx BK400 hb; replace BK401 := kx BK401 hb; replace BK402 := kx BK402 hb; replace BK403 := kx BK403 hb; replace HB := hs (hb4 HB GE400 GE401 GE402 GE403) hb
        (try clear hb)
        (try clear hb2)
        (try clear hk)
        (try clear hi)
        refine hK.out _ _ ⟨bc BK400 0, bc BK400 1, bc BK401 0, bc BK401 1, bc BK402 0, bc BK402 1, bc BK403 0, bc BK403 1⟩ (fun hHeld => ?_); clear hK K; refine nm_ (some 48) ?_; refine pu_ 18 (some 49) (pf 19 31) HT_ ?_; refine pu_ 19 (some 50) (pf 20 31) HT_ ?_; refine pu_ 20 (some 51) (pf 21 31) HT_ ?_; refine tk8_ 21 (some 52) (pf 22 31) HT_ HW_ hHeld ?_; refine tk8_ 22 (some 53) (pf 23 31) HT_ HW_ hHeld ?_; refine tk8_ 23 (some 54) (pf 24 31) HT_ HW_ hHeld ?_; refine tk8_ 25 (some 56) #[T_,T_,T_,T_,T_,T_,T_,T_,T_,T_,T_,T_,T_,T_,T_,T_,T_,T_,T_,T_,T_,T_,T_,T_,F_,T_,F_,F_,F_,F_,F_] HT_ HW_ hHeld ?_; refine tk8_ 26 (some 57) #[T_,T_,T_,T_,T_,T_,T_,T_,T_,T_,T_,T_,T_,T_,T_,T_,T_,T_,T_,T_,T_,T_,T_,T_,F_,T_,T_,F_,F_,F_,F_] HT_ HW_ hHeld ?_; refine tk8_ 27 (some 58) #[T_,T_,T_,T_,T_,T_,T_,T_,T_,T_,T_,T_,T_,T_,T_,T_,T_,T_,T_,T_,T_,T_,T_,T_,F_,T_,T_,T_,F_,F_,F_] HT_ HW_ hHeld ?_; refine on_ 24 (some 55) (pf 28 31) HT_ (fun K hK => ?_)
        refine gs_ Try.func14 #[.agg #[.int .i64 a0_0, .int .i64 a0_1], .agg #[.int .i64 a0_0, .int .i64 a0_1], .agg #[.int .i64 a1_0, .int .i64 a1_1]] ?_
        with_reducible refine (cross_On.calls kj6 a0_0 a0_1 a0_0 a0_1 a1_0 a1_1 t413 _ A42.out).mono ?_
        rintro e w49 ⟨rfl, hb⟩; refine ⟨_, rfl, ?_⟩; replace BK400 := kx BK400 hb; replace BK401 := kx BK401 hb; replace BK402 := kx BK402 hb; replace BK403 := kx BK403 hb; replace HB := hs (hb4 HB GE400 GE401 GE402 GE403) hb
        (try clear hb)
        (try clear hb2)
        (try clear hk)
        (try clear hi)
        refine hK.out _ _ ⟨bc BK400 0, bc BK400 1, bc BK401 0, bc BK401 1, bc BK402 0, bc BK402 1, bc BK403 0, bc BK403 1⟩ (fun hHeld => ?_); clear hK K; refine nm_ (some 55) ?_; refine on_ 28 (some 59) (pf 29 31) HT_ (fun K hK => ?_); refine gs_ Try.func15 #[.agg #[.int .i64 a0_0, .int .i64 a0_1], .agg #[.int .i64 a0_0, .int .i64 a0_1], .agg #[.int .i64 a1_0, .int .i64 a1_1]] ?_
        with_reducible refine (tangramref26_On.calls kj6 a0_0 a0_1 a0_0 a0_1 a1_0 a1_1 t414 _ A43.out).mono ?_
        rintro e w50 ⟨rfl, hb⟩; refine ⟨_, rfl, ?_⟩; replace BK400 := kx BK400 hb; replace BK401 := kx BK401 hb; replace BK402 := kx BK402 hb; replace BK403 := kx BK403 hb; replace HB := hs (hb4 HB GE400 GE401 GE402 GE403) hb
        (try clear hb)
        (try clear hb2)
        (try clear hk)
        (try clear hi)
        refine hK.out _ _ ⟨bc BK400 0, bc BK400 1, bc BK401 0, bc BK401 1, bc BK402 0, bc BK402 1, bc BK403 0, bc BK403 1⟩ (fun hHeld => ?_); clear hK K; refine nm_ (some 59) ?_; refine pu_ 29 (some 60) (pf 30 31) HT_ ?_; refine pu_ 30 (some 61) (pf 31 31) HT_ ?_; refine done_ (done_of HT_.out (by kernel_rfl)) ?_
        try go_wp2
        go_meet
        case rel => exact ⟨_, ((t413 != t414)), (by first | rfl | (simp; done) | (simp [*]; done)), H', ⟨by have := HJ6.out; first | omega | exact Nat.le_refl _⟩, ⟨bx BK400⟩, ⟨bx BK401⟩, ⟨bx BK402⟩, ⟨bx BK403⟩, ⟨hb4 HB GE400 GE401 GE402 GE403⟩⟩
     case rest => as_aux_lemma =>
      clear HC27
      try clear c1
      try clear p2
      try clear c3
      try clear c14
      try clear c15
      try clear c36
      try clear c36b0
      try clear c36b1
      try clear c36b2
      obtain ⟨kq, x61_26, rfl, HA, HJ26, BK400, BK401, BK402, BK403, HB⟩ := hcut
      cases kq with
      | zero => exact absurd HA.out (by simp [tangramlaw26_CrossPieces.j1])
      | succ kj26 =>
       have H := HA.out; clear HA; simp only [tangramlaw26_CrossPieces.j1] at H
       by_cases c51 : x61_26 = true
       ·subst c51; rw [if_pos rfl] at H; obtain rfl := Option.some.inj H
        go_wp2
        go_ret
        exact ⟨by first | rfl | (simp [errW_none, errW_some] <;> rfl) | (simp [*, errW_none, errW_some] <;> rfl), hb4 HB GE400 GE401 GE402 GE403⟩
       ·replace c51 := Bool.eq_false_iff.mpr c51; subst c51; rw [if_neg (show ¬ (false = true) by decide)] at H; replace H := Option.bind_eq_some_iff.mp H; obtain ⟨t415, A520, H⟩ := H; (try dsimp only at H); have A52 := Aside0.mk A520; clear A520; replace H := Option.bind_eq_some_iff.mp H; obtain ⟨t416, A530, H⟩ := H; (try dsimp only at H); have A53 := Aside0.mk A530; clear A530
        by_cases c54 : (t415 == t416) = true
        ·rw [if_pos c54] at H; have c54b0 : (t415 == t416) = true := c54
         (try (have c54b1 : decide (t415 = t416) = true := by simpa using c54))
         (try (have c54b2 : (t415 == t416) = true := by simpa using c54))
         clear c54; replace H := Option.bind_eq_some_iff.mp H; obtain ⟨t417, A550, H⟩ := H; (try dsimp only at H); have A55 := Aside0.mk A550; clear A550; replace H := Option.bind_eq_some_iff.mp H; obtain ⟨t418, A560, H⟩ := H; (try dsimp only at H); have A56 := Aside0.mk A560; clear A560
         by_cases c57 : (t417 == t418) = true
         ·rw [if_pos c57] at H; have c57b0 : (t417 == t418) = true := c57
          (try (have c57b1 : decide (t417 = t418) = true := by simpa using c57))
          (try (have c57b2 : (t417 == t418) = true := by simpa using c57))
          clear c57; replace H := Option.bind_eq_some_iff.mp H; obtain ⟨t419, A580, H⟩ := H; (try dsimp only at H); have A58 := Aside0.mk A580; clear A580; replace H := Option.bind_eq_some_iff.mp H; obtain ⟨t420, A590, H⟩ := H; (try dsimp only at H); have A59 := Aside0.mk A590; clear A590; obtain rfl := Option.some.inj H
          try go_wp2
          replace BK400 := bd BK400; replace BK401 := bd BK401; replace BK402 := bd BK402; replace BK403 := bd BK403; replace HB := Aside0.mk (below_drew1 HB.out); refine start_ (n := 38) (S := fun w' => w'.cell? ⟨gb400, 0, none⟩ = some (.int .i64 a0_0) ∧ w'.cell? ⟨gb400, 1, none⟩ = some (.int .i64 a0_1) ∧ w'.cell? ⟨gb401, 0, none⟩ = some (.int .i64 a1_0) ∧ w'.cell? ⟨gb401, 1, none⟩ = some (.int .i64 a1_1) ∧ w'.cell? ⟨gb402, 0, none⟩ = some (.int .i64 a2_0) ∧ w'.cell? ⟨gb402, 1, none⟩ = some (.int .i64 a2_1) ∧ w'.cell? ⟨gb403, 0, none⟩ = some (.int .i64 a3_0) ∧ w'.cell? ⟨gb403, 1, none⟩ = some (.int .i64 a3_1)) (ds := []) (pf 0 38) (by kernel_rfl) rfl rfl ⟨bc BK400 0, bc BK400 1, bc BK401 0, bc BK401 1, bc BK402 0, bc BK402 1, bc BK403 0, bc BK403 1⟩ (fun hHeld => ?_); refine with_tabW tangramlaw26_CrossPieces.tab7 tangramlaw26_CrossPieces.bits7 (fun HT_ HW_ => ?_); generalize wc.drew = w60 at BK400 BK401 BK402 BK403 HB hHeld ⊢; refine tk8_ 0 (some 62) (pf 1 38) HT_ HW_ hHeld ?_; refine tk8_ 1 (some 63) (pf 2 38) HT_ HW_ hHeld ?_; refine tk8_ 2 (some 64) (pf 3 38) HT_ HW_ hHeld ?_
          refine tk8_ 3 (some 65) (pf 4 38) HT_ HW_ hHeld ?_; refine tk8_ 5 (some 67) #[T_,T_,T_,T_,F_,T_,F_,F_,F_,F_,F_,F_,F_,F_,F_,F_,F_,F_,F_,F_,F_,F_,F_,F_,F_,F_,F_,F_,F_,F_,F_,F_,F_,F_,F_,F_,F_,F_] HT_ HW_ hHeld ?_; refine tk8_ 6 (some 68) #[T_,T_,T_,T_,F_,T_,T_,F_,F_,F_,F_,F_,F_,F_,F_,F_,F_,F_,F_,F_,F_,F_,F_,F_,F_,F_,F_,F_,F_,F_,F_,F_,F_,F_,F_,F_,F_,F_] HT_ HW_ hHeld ?_; refine tk8_ 7 (some 69) #[T_,T_,T_,T_,F_,T_,T_,T_,F_,F_,F_,F_,F_,F_,F_,F_,F_,F_,F_,F_,F_,F_,F_,F_,F_,F_,F_,F_,F_,F_,F_,F_,F_,F_,F_,F_,F_,F_] HT_ HW_ hHeld ?_; refine tk8_ 8 (some 70) #[T_,T_,T_,T_,F_,T_,T_,T_,T_,F_,F_,F_,F_,F_,F_,F_,F_,F_,F_,F_,F_,F_,F_,F_,F_,F_,F_,F_,F_,F_,F_,F_,F_,F_,F_,F_,F_,F_] HT_ HW_ hHeld ?_; refine on_ 4 (some 66) (pf 9 38) HT_ (fun K hK => ?_); refine gs_ Try.func16 #[.agg #[.int .i64 a0_0, .int .i64 a0_1], .agg #[.int .i64 a1_0, .int .i64 a1_1], .agg #[.int .i64 a2_0, .int .i64 a2_1], .agg #[.int .i64 a3_0, .int .i64 a3_1]] ?_
          with_reducible refine (cross_Meet.calls kj26 a0_0 a0_1 a1_0 a1_1 a2_0 a2_1 a3_0 a3_1 t415 _ A52.out).mono ?_
          rintro e w61 ⟨rfl, hb⟩; refine ⟨_, rfl, ?_⟩; replace BK400 := kx BK400 hb; replace BK401 := kx BK401 hb; replace BK402 := kx BK402 hb; replace BK403 := kx BK403 hb; replace HB := hs (hb4 HB GE400 GE401 GE402 GE403) hb
          (try clear hb)
          (try clear hb2)
          (try clear hk)
          (try clear hi)
          refine hK.out _ _ ⟨bc BK400 0, bc BK400 1, bc BK401 0, bc BK401 1, bc BK402 0, bc BK402 1, bc BK403 0, bc BK403 1⟩ (fun hHeld => ?_); clear hK K; refine nm_ (some 66) ?_; refine on_ 9 (some 71) (pf 10 38) HT_ (fun K hK => ?_); refine gs_ Try.func17 #[.agg #[.int .i64 a0_0, .int .i64 a0_1], .agg #[.int .i64 a1_0, .int .i64 a1_1], .agg #[.int .i64 a2_0, .int .i64 a2_1], .agg #[.int .i64 a3_0, .int .i64 a3_1]] ?_
          with_reducible refine (tangramref26_Meet.calls kj26 a0_0 a0_1 a1_0 a1_1 a2_0 a2_1 a3_0 a3_1 t416 _ A53.out).mono ?_
          rintro e w62 ⟨rfl, hb⟩; refine ⟨_, rfl, ?_⟩; replace BK400 := kx BK400 hb; replace BK401 := kx BK401 hb; replace BK402 := kx BK402 hb; replace BK403 := kx BK403 hb; replace HB := hs (hb4 HB GE400 GE401 GE402 GE403) hb
          (try clear hb)
          (try clear hb2)
          (try clear hk)
          (try clear hi)
          refine hK.out _ _ ⟨bc BK400 0, bc BK400 1, bc BK401 0, bc BK401 1, bc BK402 0, bc BK402 1, bc BK403 0, bc BK403 1⟩ (fun hHeld => ?_); clear hK K; refine nm_ (some 71) ?_; refine pu_ 10 (some 72) (pf 11 38) HT_ ?_; refine pu_ 11 (some 73) (pf 12 38) HT_ ?_; refine tk8_ 12 (some 74) (pf 13 38) HT_ HW_ hHeld ?_; refine tk8_ 13 (some 75) (pf 14 38) HT_ HW_ hHeld ?_; refine tk8_ 14 (some 76) (pf 15 38) HT_ HW_ hHeld ?_; refine tk8_ 15 (some 77) (pf 16 38) HT_ HW_ hHeld ?_; refine tk8_ 17 (some 79) #[T_,T_,T_,T_,T_,T_,T_,T_,T_,T_,T_,T_,T_,T_,T_,T_,F_,T_,F_,F_,F_,F_,F_,F_,F_,F_,F_,F_,F_,F_,F_,F_,F_,F_,F_,F_,F_,F_] HT_ HW_ hHeld ?_; refine tk8_ 18 (some 80) #[T_,T_,T_,T_,T_,T_,T_,T_,T_,T_,T_,T_,T_,T_,T_,T_,F_,T_,T_,F_,F_,F_,F_,F_,F_,F_,F_,F_,F_,F_,F_,F_,F_,F_,F_,F_,F_,F_] HT_ HW_ hHeld ?_; refine tk8_ 19 (some 81) #[T_,T_,T_,T_,T_,T_,T_,T_,T_,T_,T_,T_,T_,T_,T_,T_,F_,T_,T_,T_,F_,F_,F_,F_,F_,F_,F_,F_,F_,F_,F_,F_,F_,F_,F_,F_,F_,F_] HT_ HW_ hHeld ?_
          refine tk8_ 20 (some 82) #[T_,T_,T_,T_,T_,T_,T_,T_,T_,T_,T_,T_,T_,T_,T_,T_,F_,T_,T_,T_,T_,F_,F_,F_,F_,F_,F_,F_,F_,F_,F_,F_,F_,F_,F_,F_,F_,F_] HT_ HW_ hHeld ?_; refine on_ 16 (some 78) (pf 21 38) HT_ (fun K hK => ?_); refine gs_ Try.func16 #[.agg #[.int .i64 a0_0, .int .i64 a0_1], .agg #[.int .i64 a1_0, .int .i64 a1_1], .agg #[.int .i64 a0_0, .int .i64 a0_1], .agg #[.int .i64 a2_0, .int .i64 a2_1]] ?_
          with_reducible refine (cross_Meet.calls kj26 a0_0 a0_1 a1_0 a1_1 a0_0 a0_1 a2_0 a2_1 t417 _ A55.out).mono ?_
          rintro e w63 ⟨rfl, hb⟩; refine ⟨_, rfl, ?_⟩; replace BK400 := kx BK400 hb; replace BK401 := kx BK401 hb; replace BK402 := kx BK402 hb; replace BK403 := kx BK403 hb; replace HB := hs (hb4 HB GE400 GE401 GE402 GE403) hb
          (try clear hb)
          (try clear hb2)
          (try clear hk)
          (try clear hi)
          refine hK.out _ _ ⟨bc BK400 0, bc BK400 1, bc BK401 0, bc BK401 1, bc BK402 0, bc BK402 1, bc BK403 0, bc BK403 1⟩ (fun hHeld => ?_); clear hK K; refine nm_ (some 78) ?_; refine on_ 21 (some 83) (pf 22 38) HT_ (fun K hK => ?_); refine gs_ Try.func17 #[.agg #[.int .i64 a0_0, .int .i64 a0_1], .agg #[.int .i64 a1_0, .int .i64 a1_1], .agg #[.int .i64 a0_0, .int .i64 a0_1], .agg #[.int .i64 a2_0, .int .i64 a2_1]] ?_
          with_reducible refine (tangramref26_Meet.calls kj26 a0_0 a0_1 a1_0 a1_1 a0_0 a0_1 a2_0 a2_1 t418 _ A56.out).mono ?_
          rintro e w64 ⟨rfl, hb⟩; refine ⟨_, rfl, ?_⟩; replace BK400 := kx BK400 hb; replace BK401 := kx BK401 hb; replace BK402 := kx BK402 hb; replace BK403 := kx BK403 hb; replace HB := hs (hb4 HB GE400 GE401 GE402 GE403) hb
          (try clear hb)
          (try clear hb2)
          (try clear hk)
          (try clear hi)
          refine hK.out _ _ ⟨bc BK400 0, bc BK400 1, bc BK401 0, bc BK401 1, bc BK402 0, bc BK402 1, bc BK403 0, bc BK403 1⟩ (fun hHeld => ?_); clear hK K; refine nm_ (some 83) ?_; refine pu_ 22 (some 84) (pf 23 38) HT_ ?_; refine pu_ 23 (some 85) (pf 24 38) HT_ ?_; refine pu_ 24 (some 86) (pf 25 38) HT_ ?_; refine tk8_ 25 (some 87) (pf 26 38) HT_ HW_ hHeld ?_; refine tk8_ 26 (some 88) (pf 27 38) HT_ HW_ hHeld ?_; refine tk8_ 27 (some 89) (pf 28 38) HT_ HW_ hHeld ?_; refine tk8_ 28 (some 90) (pf 29 38) HT_ HW_ hHeld ?_; refine tk8_ 30 (some 92) #[T_,T_,T_,T_,T_,T_,T_,T_,T_,T_,T_,T_,T_,T_,T_,T_,T_,T_,T_,T_,T_,T_,T_,T_,T_,T_,T_,T_,T_,F_,T_,F_,F_,F_,F_,F_,F_,F_] HT_ HW_ hHeld ?_; refine tk8_ 31 (some 93) #[T_,T_,T_,T_,T_,T_,T_,T_,T_,T_,T_,T_,T_,T_,T_,T_,T_,T_,T_,T_,T_,T_,T_,T_,T_,T_,T_,T_,T_,F_,T_,T_,F_,F_,F_,F_,F_,F_] HT_ HW_ hHeld ?_
          refine tk8_ 32 (some 94) #[T_,T_,T_,T_,T_,T_,T_,T_,T_,T_,T_,T_,T_,T_,T_,T_,T_,T_,T_,T_,T_,T_,T_,T_,T_,T_,T_,T_,T_,F_,T_,T_,T_,F_,F_,F_,F_,F_] HT_ HW_ hHeld ?_; refine tk8_ 33 (some 95) #[T_,T_,T_,T_,T_,T_,T_,T_,T_,T_,T_,T_,T_,T_,T_,T_,T_,T_,T_,T_,T_,T_,T_,T_,T_,T_,T_,T_,T_,F_,T_,T_,T_,T_,F_,F_,F_,F_] HT_ HW_ hHeld ?_; refine on_ 29 (some 91) (pf 34 38) HT_ (fun K hK => ?_); refine gs_ Try.func16 #[.agg #[.int .i64 a0_0, .int .i64 a0_1], .agg #[.int .i64 a0_0, .int .i64 a0_1], .agg #[.int .i64 a2_0, .int .i64 a2_1], .agg #[.int .i64 a3_0, .int .i64 a3_1]] ?_
          with_reducible refine (cross_Meet.calls kj26 a0_0 a0_1 a0_0 a0_1 a2_0 a2_1 a3_0 a3_1 t419 _ A58.out).mono ?_
          rintro e w65 ⟨rfl, hb⟩; refine ⟨_, rfl, ?_⟩; replace BK400 := kx BK400 hb; replace BK401 := kx BK401 hb; replace BK402 := kx BK402 hb; replace BK403 := kx BK403 hb; replace HB := hs (hb4 HB GE400 GE401 GE402 GE403) hb
          (try clear hb)
          (try clear hb2)
          (try clear hk)
          (try clear hi)
          refine hK.out _ _ ⟨bc BK400 0, bc BK400 1, bc BK401 0, bc BK401 1, bc BK402 0, bc BK402 1, bc BK403 0, bc BK403 1⟩ (fun hHeld => ?_); clear hK K; refine nm_ (some 91) ?_; refine on_ 34 (some 96) (pf 35 38) HT_ (fun K hK => ?_); refine gs_ Try.func17 #[.agg #[.int .i64 a0_0, .int .i64 a0_1], .agg #[.int .i64 a0_0, .int .i64 a0_1], .agg #[.int .i64 a2_0, .int .i64 a2_1], .agg #[.int .i64 a3_0, .int .i64 a3_1]] ?_
          with_reducible refine (tangramref26_Meet.calls kj26 a0_0 a0_1 a0_0 a0_1 a2_0 a2_1 a3_0 a3_1 t420 _ A59.out).mono ?_
          rintro e w66 ⟨rfl, hb⟩; refine ⟨_, rfl, ?_⟩; replace BK400 := kx BK400 hb; replace BK401 := kx BK401 hb; replace BK402 := kx BK402 hb; replace BK403 := kx BK403 hb; replace HB := hs (hb4 HB GE400 GE401 GE402 GE403) hb
          (try clear hb)
          (try clear hb2)
          (try clear hk)
          (try clear hi)
          refine hK.out _ _ ⟨bc BK400 0, bc BK400 1, bc BK401 0, bc BK401 1, bc BK402 0, bc BK402 1, bc BK403 0, bc BK403 1⟩ (fun hHeld => ?_); clear hK K; refine nm_ (some 96) ?_; refine pu_ 35 (some 97) (pf 36 38) HT_ ?_; refine pu_ 36 (some 98) (pf 37 38) HT_ ?_; refine pu_ 37 (some 8) (pf 38 38) HT_ ?_; refine done_ (done_of HT_.out (by kernel_rfl)) ?_
          try go_wp2
          go_ret
          exact ⟨by first | rfl | (simp [errW_none, errW_some] <;> rfl) | (simp [*, errW_none, errW_some] <;> rfl), hb4 HB GE400 GE401 GE402 GE403⟩
         ·rw [if_neg c57] at H; have c57b0 : (t417 == t418) = false := by simpa using c57
          (try (have c57b1 : decide (t417 = t418) = false := by simpa using c57))
          (try (have c57b2 : (t417 == t418) = false := by simpa using c57))
          (try (have c57b3 : ¬ (t417 = t418) := by simpa using c57))
          clear c57; obtain rfl := Option.some.inj H
          try go_wp2
          replace BK400 := bd BK400; replace BK401 := bd BK401; replace BK402 := bd BK402; replace BK403 := bd BK403; replace HB := Aside0.mk (below_drew1 HB.out); refine start_ (n := 38) (S := fun w' => w'.cell? ⟨gb400, 0, none⟩ = some (.int .i64 a0_0) ∧ w'.cell? ⟨gb400, 1, none⟩ = some (.int .i64 a0_1) ∧ w'.cell? ⟨gb401, 0, none⟩ = some (.int .i64 a1_0) ∧ w'.cell? ⟨gb401, 1, none⟩ = some (.int .i64 a1_1) ∧ w'.cell? ⟨gb402, 0, none⟩ = some (.int .i64 a2_0) ∧ w'.cell? ⟨gb402, 1, none⟩ = some (.int .i64 a2_1) ∧ w'.cell? ⟨gb403, 0, none⟩ = some (.int .i64 a3_0) ∧ w'.cell? ⟨gb403, 1, none⟩ = some (.int .i64 a3_1)) (ds := []) (pf 0 38) (by kernel_rfl) rfl rfl ⟨bc BK400 0, bc BK400 1, bc BK401 0, bc BK401 1, bc BK402 0, bc BK402 1, bc BK403 0, bc BK403 1⟩ (fun hHeld => ?_); refine with_tabW tangramlaw26_CrossPieces.tab7 tangramlaw26_CrossPieces.bits7 (fun HT_ HW_ => ?_); generalize wc.drew = w67 at BK400 BK401 BK402 BK403 HB hHeld ⊢; refine tk8_ 0 (some 62) (pf 1 38) HT_ HW_ hHeld ?_; refine tk8_ 1 (some 63) (pf 2 38) HT_ HW_ hHeld ?_; refine tk8_ 2 (some 64) (pf 3 38) HT_ HW_ hHeld ?_
          refine tk8_ 3 (some 65) (pf 4 38) HT_ HW_ hHeld ?_; refine tk8_ 5 (some 67) #[T_,T_,T_,T_,F_,T_,F_,F_,F_,F_,F_,F_,F_,F_,F_,F_,F_,F_,F_,F_,F_,F_,F_,F_,F_,F_,F_,F_,F_,F_,F_,F_,F_,F_,F_,F_,F_,F_] HT_ HW_ hHeld ?_; refine tk8_ 6 (some 68) #[T_,T_,T_,T_,F_,T_,T_,F_,F_,F_,F_,F_,F_,F_,F_,F_,F_,F_,F_,F_,F_,F_,F_,F_,F_,F_,F_,F_,F_,F_,F_,F_,F_,F_,F_,F_,F_,F_] HT_ HW_ hHeld ?_; refine tk8_ 7 (some 69) #[T_,T_,T_,T_,F_,T_,T_,T_,F_,F_,F_,F_,F_,F_,F_,F_,F_,F_,F_,F_,F_,F_,F_,F_,F_,F_,F_,F_,F_,F_,F_,F_,F_,F_,F_,F_,F_,F_] HT_ HW_ hHeld ?_; refine tk8_ 8 (some 70) #[T_,T_,T_,T_,F_,T_,T_,T_,T_,F_,F_,F_,F_,F_,F_,F_,F_,F_,F_,F_,F_,F_,F_,F_,F_,F_,F_,F_,F_,F_,F_,F_,F_,F_,F_,F_,F_,F_] HT_ HW_ hHeld ?_; refine on_ 4 (some 66) (pf 9 38) HT_ (fun K hK => ?_); refine gs_ Try.func16 #[.agg #[.int .i64 a0_0, .int .i64 a0_1], .agg #[.int .i64 a1_0, .int .i64 a1_1], .agg #[.int .i64 a2_0, .int .i64 a2_1], .agg #[.int .i64 a3_0, .int .i64 a3_1]] ?_
          with_reducible refine (cross_Meet.calls kj26 a0_0 a0_1 a1_0 a1_1 a2_0 a2_1 a3_0 a3_1 t415 _ A52.out).mono ?_
          rintro e w68 ⟨rfl, hb⟩; refine ⟨_, rfl, ?_⟩; replace BK400 := kx BK400 hb; replace BK401 := kx BK401 hb; replace BK402 := kx BK402 hb; replace BK403 := kx BK403 hb; replace HB := hs (hb4 HB GE400 GE401 GE402 GE403) hb
          (try clear hb)
          (try clear hb2)
          (try clear hk)
          (try clear hi)
          refine hK.out _ _ ⟨bc BK400 0, bc BK400 1, bc BK401 0, bc BK401 1, bc BK402 0, bc BK402 1, bc BK403 0, bc BK403 1⟩ (fun hHeld => ?_); clear hK K; refine nm_ (some 66) ?_; refine on_ 9 (some 71) (pf 10 38) HT_ (fun K hK => ?_); refine gs_ Try.func17 #[.agg #[.int .i64 a0_0, .int .i64 a0_1], .agg #[.int .i64 a1_0, .int .i64 a1_1], .agg #[.int .i64 a2_0, .int .i64 a2_1], .agg #[.int .i64 a3_0, .int .i64 a3_1]] ?_
          with_reducible refine (tangramref26_Meet.calls kj26 a0_0 a0_1 a1_0 a1_1 a2_0 a2_1 a3_0 a3_1 t416 _ A53.out).mono ?_
          rintro e w69 ⟨rfl, hb⟩; refine ⟨_, rfl, ?_⟩; replace BK400 := kx BK400 hb; replace BK401 := kx BK401 hb; replace BK402 := kx BK402 hb; replace BK403 := kx BK403 hb; replace HB := hs (hb4 HB GE400 GE401 GE402 GE403) hb
          (try clear hb)
          (try clear hb2)
          (try clear hk)
          (try clear hi)
          refine hK.out _ _ ⟨bc BK400 0, bc BK400 1, bc BK401 0, bc BK401 1, bc BK402 0, bc BK402 1, bc BK403 0, bc BK403 1⟩ (fun hHeld => ?_); clear hK K; refine nm_ (some 71) ?_; refine pu_ 10 (some 72) (pf 11 38) HT_ ?_; refine pu_ 11 (some 73) (pf 12 38) HT_ ?_; refine tk8_ 12 (some 74) (pf 13 38) HT_ HW_ hHeld ?_; refine tk8_ 13 (some 75) (pf 14 38) HT_ HW_ hHeld ?_; refine tk8_ 14 (some 76) (pf 15 38) HT_ HW_ hHeld ?_; refine tk8_ 15 (some 77) (pf 16 38) HT_ HW_ hHeld ?_; refine tk8_ 17 (some 79) #[T_,T_,T_,T_,T_,T_,T_,T_,T_,T_,T_,T_,T_,T_,T_,T_,F_,T_,F_,F_,F_,F_,F_,F_,F_,F_,F_,F_,F_,F_,F_,F_,F_,F_,F_,F_,F_,F_] HT_ HW_ hHeld ?_; refine tk8_ 18 (some 80) #[T_,T_,T_,T_,T_,T_,T_,T_,T_,T_,T_,T_,T_,T_,T_,T_,F_,T_,T_,F_,F_,F_,F_,F_,F_,F_,F_,F_,F_,F_,F_,F_,F_,F_,F_,F_,F_,F_] HT_ HW_ hHeld ?_; refine tk8_ 19 (some 81) #[T_,T_,T_,T_,T_,T_,T_,T_,T_,T_,T_,T_,T_,T_,T_,T_,F_,T_,T_,T_,F_,F_,F_,F_,F_,F_,F_,F_,F_,F_,F_,F_,F_,F_,F_,F_,F_,F_] HT_ HW_ hHeld ?_
          refine tk8_ 20 (some 82) #[T_,T_,T_,T_,T_,T_,T_,T_,T_,T_,T_,T_,T_,T_,T_,T_,F_,T_,T_,T_,T_,F_,F_,F_,F_,F_,F_,F_,F_,F_,F_,F_,F_,F_,F_,F_,F_,F_] HT_ HW_ hHeld ?_; refine on_ 16 (some 78) (pf 21 38) HT_ (fun K hK => ?_); refine gs_ Try.func16 #[.agg #[.int .i64 a0_0, .int .i64 a0_1], .agg #[.int .i64 a1_0, .int .i64 a1_1], .agg #[.int .i64 a0_0, .int .i64 a0_1], .agg #[.int .i64 a2_0, .int .i64 a2_1]] ?_
          with_reducible refine (cross_Meet.calls kj26 a0_0 a0_1 a1_0 a1_1 a0_0 a0_1 a2_0 a2_1 t417 _ A55.out).mono ?_
          rintro e w70 ⟨rfl, hb⟩; refine ⟨_, rfl, ?_⟩; replace BK400 := kx BK400 hb; replace BK401 := kx BK401 hb; replace BK402 := kx BK402 hb; replace BK403 := kx BK403 hb; replace HB := hs (hb4 HB GE400 GE401 GE402 GE403) hb
          (try clear hb)
          (try clear hb2)
          (try clear hk)
          (try clear hi)
          refine hK.out _ _ ⟨bc BK400 0, bc BK400 1, bc BK401 0, bc BK401 1, bc BK402 0, bc BK402 1, bc BK403 0, bc BK403 1⟩ (fun hHeld => ?_); clear hK K; refine nm_ (some 78) ?_; refine on_ 21 (some 83) (pf 22 38) HT_ (fun K hK => ?_); refine gs_ Try.func17 #[.agg #[.int .i64 a0_0, .int .i64 a0_1], .agg #[.int .i64 a1_0, .int .i64 a1_1], .agg #[.int .i64 a0_0, .int .i64 a0_1], .agg #[.int .i64 a2_0, .int .i64 a2_1]] ?_
          with_reducible refine (tangramref26_Meet.calls kj26 a0_0 a0_1 a1_0 a1_1 a0_0 a0_1 a2_0 a2_1 t418 _ A56.out).mono ?_
          rintro e w71 ⟨rfl, hb⟩; refine ⟨_, rfl, ?_⟩; replace BK400 := kx BK400 hb; replace BK401 := kx BK401 hb; replace BK402 := kx BK402 hb; replace BK403 := kx BK403 hb; replace HB := hs (hb4 HB GE400 GE401 GE402 GE403) hb
          (try clear hb)
          (try clear hb2)
          (try clear hk)
          (try clear hi)
          refine hK.out _ _ ⟨bc BK400 0, bc BK400 1, bc BK401 0, bc BK401 1, bc BK402 0, bc BK402 1, bc BK403 0, bc BK403 1⟩ (fun hHeld => ?_); clear hK K; refine nm_ (some 83) ?_; refine pu_ 22 (some 84) (pf 23 38) HT_ ?_; refine pu_ 23 (some 85) (pf 24 38) HT_ ?_; refine pu_ 24 (some 86) (pf 25 38) HT_ ?_; refine pn_ 25 (some 87) (pf 26 38) HT_ ?_; refine pn_ 26 (some 88) (pf 27 38) HT_ ?_; refine pn_ 27 (some 89) (pf 28 38) HT_ ?_; refine pn_ 28 (some 90) (pf 29 38) HT_ ?_; refine pn_ 29 (some 91) (pf 30 38) HT_ ?_; refine pn_ 30 (some 92) (pf 31 38) HT_ ?_
          refine pn_ 31 (some 93) (pf 32 38) HT_ ?_; refine pn_ 32 (some 94) (pf 33 38) HT_ ?_; refine pn_ 33 (some 95) (pf 34 38) HT_ ?_; refine pn_ 34 (some 96) (pf 35 38) HT_ ?_; refine pn_ 35 (some 97) (pf 36 38) HT_ ?_; refine pu_ 36 (some 98) (pf 37 38) HT_ ?_; refine pu_ 37 (some 8) (pf 38 38) HT_ ?_; refine done_ (done_of HT_.out (by kernel_rfl)) ?_
          try go_wp2
          go_ret
          exact ⟨by first | rfl | (simp [errW_none, errW_some] <;> rfl) | (simp [*, errW_none, errW_some] <;> rfl), hb4 HB GE400 GE401 GE402 GE403⟩
        ·rw [if_neg c54] at H; have c54b0 : (t415 == t416) = false := by simpa using c54
         (try (have c54b1 : decide (t415 = t416) = false := by simpa using c54))
         (try (have c54b2 : (t415 == t416) = false := by simpa using c54))
         (try (have c54b3 : ¬ (t415 = t416) := by simpa using c54))
         clear c54; obtain rfl := Option.some.inj H
         try go_wp2
         replace BK400 := bd BK400; replace BK401 := bd BK401; replace BK402 := bd BK402; replace BK403 := bd BK403; replace HB := Aside0.mk (below_drew1 HB.out); refine start_ (n := 38) (S := fun w' => w'.cell? ⟨gb400, 0, none⟩ = some (.int .i64 a0_0) ∧ w'.cell? ⟨gb400, 1, none⟩ = some (.int .i64 a0_1) ∧ w'.cell? ⟨gb401, 0, none⟩ = some (.int .i64 a1_0) ∧ w'.cell? ⟨gb401, 1, none⟩ = some (.int .i64 a1_1) ∧ w'.cell? ⟨gb402, 0, none⟩ = some (.int .i64 a2_0) ∧ w'.cell? ⟨gb402, 1, none⟩ = some (.int .i64 a2_1) ∧ w'.cell? ⟨gb403, 0, none⟩ = some (.int .i64 a3_0) ∧ w'.cell? ⟨gb403, 1, none⟩ = some (.int .i64 a3_1)) (ds := []) (pf 0 38) (by kernel_rfl) rfl rfl ⟨bc BK400 0, bc BK400 1, bc BK401 0, bc BK401 1, bc BK402 0, bc BK402 1, bc BK403 0, bc BK403 1⟩ (fun hHeld => ?_); refine with_tabW tangramlaw26_CrossPieces.tab7 tangramlaw26_CrossPieces.bits7 (fun HT_ HW_ => ?_); generalize wc.drew = w72 at BK400 BK401 BK402 BK403 HB hHeld ⊢; refine tk8_ 0 (some 62) (pf 1 38) HT_ HW_ hHeld ?_; refine tk8_ 1 (some 63) (pf 2 38) HT_ HW_ hHeld ?_; refine tk8_ 2 (some 64) (pf 3 38) HT_ HW_ hHeld ?_
         refine tk8_ 3 (some 65) (pf 4 38) HT_ HW_ hHeld ?_; refine tk8_ 5 (some 67) #[T_,T_,T_,T_,F_,T_,F_,F_,F_,F_,F_,F_,F_,F_,F_,F_,F_,F_,F_,F_,F_,F_,F_,F_,F_,F_,F_,F_,F_,F_,F_,F_,F_,F_,F_,F_,F_,F_] HT_ HW_ hHeld ?_; refine tk8_ 6 (some 68) #[T_,T_,T_,T_,F_,T_,T_,F_,F_,F_,F_,F_,F_,F_,F_,F_,F_,F_,F_,F_,F_,F_,F_,F_,F_,F_,F_,F_,F_,F_,F_,F_,F_,F_,F_,F_,F_,F_] HT_ HW_ hHeld ?_; refine tk8_ 7 (some 69) #[T_,T_,T_,T_,F_,T_,T_,T_,F_,F_,F_,F_,F_,F_,F_,F_,F_,F_,F_,F_,F_,F_,F_,F_,F_,F_,F_,F_,F_,F_,F_,F_,F_,F_,F_,F_,F_,F_] HT_ HW_ hHeld ?_; refine tk8_ 8 (some 70) #[T_,T_,T_,T_,F_,T_,T_,T_,T_,F_,F_,F_,F_,F_,F_,F_,F_,F_,F_,F_,F_,F_,F_,F_,F_,F_,F_,F_,F_,F_,F_,F_,F_,F_,F_,F_,F_,F_] HT_ HW_ hHeld ?_; refine on_ 4 (some 66) (pf 9 38) HT_ (fun K hK => ?_); refine gs_ Try.func16 #[.agg #[.int .i64 a0_0, .int .i64 a0_1], .agg #[.int .i64 a1_0, .int .i64 a1_1], .agg #[.int .i64 a2_0, .int .i64 a2_1], .agg #[.int .i64 a3_0, .int .i64 a3_1]] ?_
         with_reducible refine (cross_Meet.calls kj26 a0_0 a0_1 a1_0 a1_1 a2_0 a2_1 a3_0 a3_1 t415 _ A52.out).mono ?_
         rintro e w73 ⟨rfl, hb⟩; refine ⟨_, rfl, ?_⟩; replace BK400 := kx BK400 hb; replace BK401 := kx BK401 hb; replace BK402 := kx BK402 hb; replace BK403 := kx BK403 hb; replace HB := hs (hb4 HB GE400 GE401 GE402 GE403) hb
         (try clear hb)
         (try clear hb2)
         (try clear hk)
         (try clear hi)
         refine hK.out _ _ ⟨bc BK400 0, bc BK400 1, bc BK401 0, bc BK401 1, bc BK402 0, bc BK402 1, bc BK403 0, bc BK403 1⟩ (fun hHeld => ?_); clear hK K; refine nm_ (some 66) ?_; refine on_ 9 (some 71) (pf 10 38) HT_ (fun K hK => ?_); refine gs_ Try.func17 #[.agg #[.int .i64 a0_0, .int .i64 a0_1], .agg #[.int .i64 a1_0, .int .i64 a1_1], .agg #[.int .i64 a2_0, .int .i64 a2_1], .agg #[.int .i64 a3_0, .int .i64 a3_1]] ?_
         with_reducible refine (tangramref26_Meet.calls kj26 a0_0 a0_1 a1_0 a1_1 a2_0 a2_1 a3_0 a3_1 t416 _ A53.out).mono ?_
         rintro e w74 ⟨rfl, hb⟩; refine ⟨_, rfl, ?_⟩; replace BK400 := kx BK400 hb; replace BK401 := kx BK401 hb; replace BK402 := kx BK402 hb; replace BK403 := kx BK403 hb; replace HB := hs (hb4 HB GE400 GE401 GE402 GE403) hb
         (try clear hb)
         (try clear hb2)
         (try clear hk)
         (try clear hi)
         refine hK.out _ _ ⟨bc BK400 0, bc BK400 1, bc BK401 0, bc BK401 1, bc BK402 0, bc BK402 1, bc BK403 0, bc BK403 1⟩ (fun hHeld => ?_); clear hK K; refine nm_ (some 71) ?_; refine pu_ 10 (some 72) (pf 11 38) HT_ ?_; refine pu_ 11 (some 73) (pf 12 38) HT_ ?_; refine pn_ 12 (some 74) (pf 13 38) HT_ ?_; refine pn_ 13 (some 75) (pf 14 38) HT_ ?_; refine pn_ 14 (some 76) (pf 15 38) HT_ ?_; refine pn_ 15 (some 77) (pf 16 38) HT_ ?_; refine pn_ 16 (some 78) (pf 17 38) HT_ ?_; refine pn_ 17 (some 79) (pf 18 38) HT_ ?_; refine pn_ 18 (some 80) (pf 19 38) HT_ ?_
         refine pn_ 19 (some 81) (pf 20 38) HT_ ?_; refine pn_ 20 (some 82) (pf 21 38) HT_ ?_; refine pn_ 21 (some 83) (pf 22 38) HT_ ?_; refine pn_ 22 (some 84) (pf 23 38) HT_ ?_; refine pu_ 23 (some 85) (pf 24 38) HT_ ?_; refine pu_ 24 (some 86) (pf 25 38) HT_ ?_; refine pn_ 25 (some 87) (pf 26 38) HT_ ?_; refine pn_ 26 (some 88) (pf 27 38) HT_ ?_; refine pn_ 27 (some 89) (pf 28 38) HT_ ?_; refine pn_ 28 (some 90) (pf 29 38) HT_ ?_; refine pn_ 29 (some 91) (pf 30 38) HT_ ?_
         refine pn_ 30 (some 92) (pf 31 38) HT_ ?_; refine pn_ 31 (some 93) (pf 32 38) HT_ ?_; refine pn_ 32 (some 94) (pf 33 38) HT_ ?_; refine pn_ 33 (some 95) (pf 34 38) HT_ ?_; refine pn_ 34 (some 96) (pf 35 38) HT_ ?_; refine pn_ 35 (some 97) (pf 36 38) HT_ ?_; refine pu_ 36 (some 98) (pf 37 38) HT_ ?_; refine pu_ 37 (some 8) (pf 38 38) HT_ ?_; refine done_ (done_of HT_.out (by kernel_rfl)) ?_
         try go_wp2
         go_ret
         exact ⟨by first | rfl | (simp [errW_none, errW_some] <;> rfl) | (simp [*, errW_none, errW_some] <;> rfl), hb4 HB GE400 GE401 GE402 GE403⟩
 ·replace c6 := Bool.eq_false_iff.mpr c6; subst c6; rw [if_neg (show ¬ (false = true) by decide)] at H; obtain rfl := Option.some.inj H
  go_enter Try.func3, Try.ntmps3
  go_wp2_with (first | ((with_reducible refine gate_dst (N := 4) rfl ?_); refine be_ 4 #[.int .i64 a0_0, .int .i64 a0_1] 23 ?_; intro gb400 hg w75 hbox hb; have BK400 := Aside0.mk (hbox); have GW400 := wq (hb0 HB) hg; have GE400 := wq (hb0 HB) hg; replace HB := hs (hb0 HB) hb; clear hb hbox hg) | ((with_reducible refine gate_dst (N := 5) rfl ?_); refine be_ 5 #[.int .i64 a1_0, .int .i64 a1_1] 23 ?_; intro gb401 hg w76 hbox hb; have BK401 := Aside0.mk (hbox); have GW401 := wq (hb1 HB GE400) hg; have GE401 := wq (hb1 HB GE400) hg; replace HB := hs (hb1 HB GE400) hb; have NB400_401 := lx BK400 hg; have NB401_400 := gx BK400 hg; replace BK400 := kx BK400 hb; clear hb hbox hg) | ((with_reducible refine gate_dst (N := 6) rfl ?_); refine be_ 6 #[.int .i64 a2_0, .int .i64 a2_1] 23 ?_; intro gb402 hg w77 hbox hb; have BK402 := Aside0.mk (hbox); have GW402 := wq (hb2 HB GE400 GE401) hg; have GE402 := wq (hb2 HB GE400 GE401) hg; replace HB := hs (hb2 HB GE400 GE401) hb; have NB400_402 := lx BK400 hg; have NB402_400 := gx BK400 hg; replace BK400 := kx BK400 hb; have NB401_402 := lx BK401 hg; have NB402_401 := gx BK401 hg; replace BK401 := kx BK401 hb; clear hb hbox hg) | ((with_reducible refine gate_dst (N := 7) rfl ?_); refine be_ 7 #[.int .i64 a3_0, .int .i64 a3_1] 23 ?_; intro gb403 hg w78 hbox hb; have BK403 := Aside0.mk (hbox); have GW403 := wq (hb3 HB GE400 GE401 GE402) hg; have GE403 := wq (hb3 HB GE400 GE401 GE402) hg; replace HB := hs (hb3 HB GE400 GE401 GE402) hb; have NB400_403 := lx BK400 hg; have NB403_400 := gx BK400 hg; replace BK400 := kx BK400 hb; have NB401_403 := lx BK401 hg; have NB403_401 := gx BK401 hg; replace BK401 := kx BK401 hb; have NB402_403 := lx BK402 hg; have NB403_402 := gx BK402 hg; replace BK402 := kx BK402 hb; clear hb hbox hg) | ((with_reducible refine gate_callee (f := 11) rfl ?_); refine gl_ (some 9) Try.func11 #[] ?_; (with_reducible refine (tangramlaw26_awake.calls k  false _ A5.out).mono ?_); rintro e w79 ⟨rfl, hb⟩; refine ⟨_, rfl, ?_⟩; replace BK400 := kx BK400 hb; replace BK401 := kx BK401 hb; replace BK402 := kx BK402 hb; replace BK403 := kx BK403 hb; replace HB := hs (hb4 HB GE400 GE401 GE402 GE403) hb; (try clear hb); (try clear hb2); (try clear hk); (try clear hi)))
  go_ret
  exact ⟨by first | rfl | (simp [errW_none, errW_some] <;> rfl) | (simp [*, errW_none, errW_some] <;> rfl), hb4 HB GE400 GE401 GE402 GE403⟩

end Go.Proofs.Ythfoliejhdpbaaa.PCroA
