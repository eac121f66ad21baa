import Derived.Test.YthfoliejhdpbaaaZPCroAx0
import Derived.Test.YthfoliejhdpbaaaZPCroAx3
import Derived.Test.YthfoliejhdpbaaaZPCroAx9
import Derived.Test.YthfoliejhdpbaaaZPCroAx16
import Derived.Test.YthfoliejhdpbaaaZPCroAx18
import Derived.Test.YthfoliejhdpbaaaZPCroAx26
import Derived.Test.YthfoliejhdpbaaaZPCroAx27
import Derived.Test.YthfoliejhdpbaaaZPCroAx28
namespace Go.Proofs.Ythfoliejhdpbaaa.PCroA
open Go.RowKit Go.Proofs.YthfoliejhdpbaaaW.PrintWords Go.Proofs.YthfoliejhdpbaaaW.PrintLast Go.Proofs.YthfoliejhdpbaaaW.PrintMore
open Go.Proofs.YthfoliejhdpbaaaX
attribute [local go_sem] max2_int min2_int max_two min_two max_three min_three max_four min_four
set_option linter.unusedVariables false
set_option linter.unusedSimpArgs false

/-! ### tangramlaw26_awake: function 11 -/
mutual
def tangramlaw26_awake.j0 : Nat → Bool → Int → Int → Int → List (S62) → Option (Bool)
 | 0, _, _, _, _, _ => none
 | k + 1, x61, x293000, x293001, x297000, x297001 => if x61 = true then (some false) else ((tangramlaw26_pt.f 0 0).bind fun bt321 => ((tangramlaw26_pt.f 4 0).bind fun bt323 => ((tangramlaw26_pt.f 2 4).bind fun bt325 => ((tangramlaw26_pt.f 2 1).bind fun bt327 => ((cross_Rotation.f k x297000 x297001 (([(⟨bt321.1, bt321.2⟩ : S23), (⟨bt323.1, bt323.2⟩ : S23), (⟨bt325.1, bt325.2⟩ : S23), (⟨bt327.1, bt327.2⟩ : S23)] : List (S23)))).bind fun bt332 => (if bt332.2 = 0 then (if (bt332.1.length : Int) = 4 then (if 0 < (bt332.1.length : Int) then ((tangramlaw26_sameInts.f k (rd_L3 bt332.1 0) (([0, 4, 2] : List Int))).bind fun t340 => (if t340 = true then (if 3 < (bt332.1.length : Int) then ((tangramlaw26_sameInts.f k (rd_L3 bt332.1 3) (([5, 9, 11] : List Int))).bind fun t345 => (tangramlaw26_awake.j1 k (!t345) x293000 x293001)) else (none)) else (tangramlaw26_awake.j1 k true x293000 x293001))) else (none)) else (tangramlaw26_awake.j1 k true x293000 x293001)) else (tangramlaw26_awake.j1 k true x293000 x293001)))))))
def tangramlaw26_awake.j1 : Nat → Bool → Int → Int → Option (Bool)
 | 0, _, _, _ => none
 | k + 1, x94, x293000, x293001 => if x94 = true then (some false) else ((tangramlaw26_pt.f 1 0).bind fun bt346 => ((tangramlaw26_pt.f 0 1).bind fun bt348 => ((cross_Turn.f k x293000 x293001 bt346.1 bt346.2 bt348.1 bt348.2).bind fun t350 => (if t350 = 1 then ((tangramlaw26_pt.f 2 2).bind fun bt351 => ((tangramlaw26_pt.f 0 2).bind fun bt353 => ((tangramlaw26_pt.f 2 0).bind fun bt355 => ((cross_Meet.f k x293000 x293001 bt351.1 bt351.2 bt353.1 bt353.2 bt355.1 bt355.2).bind fun t357 => (if t357 = true then ((tangramlaw26_pt.f 4 2).bind fun bt358 => ((tangramlaw26_pt.f 2 1).bind fun bt360 => ((cross_On.f k x293000 x293001 bt358.1 bt358.2 bt360.1 bt360.2).bind fun t362 => (some t362)))) else (some false)))))) else (some false)))))
end
def tangramlaw26_awake.f (k : Nat)  : Option (Bool) := (tangramlaw26_pt.f 0 0).bind fun bt290 => ((some (([(⟨0, 1⟩ : S62), (⟨0, 2⟩ : S62), (⟨0, 3⟩ : S62), (⟨1, 2⟩ : S62), (⟨1, 3⟩ : S62), (⟨2, 3⟩ : S62)] : List (S62)) : List (S62))).bind fun y293 => ((tangramlaw26_pt.f 0 0).bind fun bt297 => ((tangramlaw26_pt.f 2 0).bind fun bt299 => ((tangramlaw26_pt.f 2 2).bind fun bt301 => ((tangramlaw26_pt.f 0 2).bind fun bt303 => ((some (([(⟨bt297.1, bt297.2⟩ : S23), (⟨bt299.1, bt299.2⟩ : S23), (⟨bt301.1, bt301.2⟩ : S23), (⟨bt303.1, bt303.2⟩ : S23)] : List (S23)) : List (S23))).bind fun y305 => ((cross_First.f k 4 y293 y305).bind fun bt308 => ((tangramlaw26_pt.f 2 0).bind fun bt311 => ((tangramlaw26_pt.f 0 3).bind fun bt313 => ((cross_Area.f k (([(⟨bt290.1, bt290.2⟩ : S23), (⟨bt311.1, bt311.2⟩ : S23), (⟨bt313.1, bt313.2⟩ : S23)] : List (S23)))).bind fun bt318 => (if bt308.1 = 1 then (if bt308.2.1 = 4 then (if bt308.2.2 = 0 then (if bt318.1 = 6 then (if bt318.2 = 0 then ((cross_Proper.f k 4 y293 y305).bind fun t320 => (tangramlaw26_awake.j0 k t320 bt290.1 bt290.2 4 y293)) else (tangramlaw26_awake.j0 k true bt290.1 bt290.2 4 y293)) else (tangramlaw26_awake.j0 k true bt290.1 bt290.2 4 y293)) else (tangramlaw26_awake.j0 k true bt290.1 bt290.2 4 y293)) else (tangramlaw26_awake.j0 k true bt290.1 bt290.2 4 y293)) else (tangramlaw26_awake.j0 k true bt290.1 bt290.2 4 y293))))))))))))
theorem tangramlaw26_awake.mono_l : ∀ k, (∀ y0 y1 y2 y3 y4, LeO (tangramlaw26_awake.j0 k y0 y1 y2 y3 y4) (tangramlaw26_awake.j0 (k + 1) y0 y1 y2 y3 y4)) ∧ (∀ y0 y1 y2, LeO (tangramlaw26_awake.j1 k y0 y1 y2) (tangramlaw26_awake.j1 (k + 1) y0 y1 y2))
 | 0 => ⟨fun _ _ _ _ _ r h => by simp [tangramlaw26_awake.j0] at h, fun _ _ _ r h => by simp [tangramlaw26_awake.j1] at h⟩
 | k + 1 => by
  obtain ⟨ih0, ih1⟩ := tangramlaw26_awake.mono_l k; refine ⟨?_, ?_⟩
  ·intro y0 y1 y2 y3 y4
   unfold tangramlaw26_awake.j0
   repeat' first
   | (with_reducible exact ih0 _ _ _ _ _)
   | (with_reducible exact ih1 _ _ _)
   | (with_reducible exact cross_Area.mono _ _)
   | (with_reducible exact cross_First.mono _ _ _ _)
   | (with_reducible exact cross_Meet.mono _ _ _ _ _ _ _ _ _)
   | (with_reducible exact cross_On.mono _ _ _ _ _ _ _)
   | (with_reducible exact cross_Proper.mono _ _ _ _)
   | (with_reducible exact cross_Rotation.mono _ _ _ _)
   | (with_reducible exact cross_Turn.mono _ _ _ _ _ _ _)
   | (with_reducible exact tangramlaw26_sameInts.mono _ _ _)
   | (with_reducible exact LeO.refl _)
   | (with_reducible exact LeO.none _)
   | (with_reducible refine LeO.ite ?_ ?_)
   | (with_reducible refine LeO.bind ?_ (fun _ => ?_))
   | exact LeO.none _
   | refine LeO.ite ?_ ?_
   | refine LeO.bind ?_ (fun _ => ?_)
  ·intro y0 y1 y2
   unfold tangramlaw26_awake.j1
   repeat' first
   | (with_reducible exact ih0 _ _ _ _ _)
   | (with_reducible exact ih1 _ _ _)
   | (with_reducible exact cross_Area.mono _ _)
   | (with_reducible exact cross_First.mono _ _ _ _)
   | (with_reducible exact cross_Meet.mono _ _ _ _ _ _ _ _ _)
   | (with_reducible exact cross_On.mono _ _ _ _ _ _ _)
   | (with_reducible exact cross_Proper.mono _ _ _ _)
   | (with_reducible exact cross_Rotation.mono _ _ _ _)
   | (with_reducible exact cross_Turn.mono _ _ _ _ _ _ _)
   | (with_reducible exact tangramlaw26_sameInts.mono _ _ _)
   | (with_reducible exact LeO.refl _)
   | (with_reducible exact LeO.none _)
   | (with_reducible refine LeO.ite ?_ ?_)
   | (with_reducible refine LeO.bind ?_ (fun _ => ?_))
   | exact LeO.none _
   | refine LeO.ite ?_ ?_
   | refine LeO.bind ?_ (fun _ => ?_)
theorem tangramlaw26_awake.mono : ∀ k, LeO (tangramlaw26_awake.f k ) (tangramlaw26_awake.f (k + 1) ) := by
 intro  k; obtain ⟨ih0, ih1⟩ := tangramlaw26_awake.mono_l k
 unfold tangramlaw26_awake.f
 repeat' first
   | (with_reducible exact ih0 _ _ _ _ _)
   | (with_reducible exact ih1 _ _ _)
   | (with_reducible exact cross_Area.mono _ _)
   | (with_reducible exact cross_First.mono _ _ _ _)
   | (with_reducible exact cross_Meet.mono _ _ _ _ _ _ _ _ _)
   | (with_reducible exact cross_On.mono _ _ _ _ _ _ _)
   | (with_reducible exact cross_Proper.mono _ _ _ _)
   | (with_reducible exact cross_Rotation.mono _ _ _ _)
   | (with_reducible exact cross_Turn.mono _ _ _ _ _ _ _)
   | (with_reducible exact tangramlaw26_sameInts.mono _ _ _)
   | (with_reducible exact LeO.refl _)
   | (with_reducible exact LeO.none _)
   | (with_reducible refine LeO.ite ?_ ?_)
   | (with_reducible refine LeO.bind ?_ (fun _ => ?_))
   | exact LeO.none _
   | refine LeO.ite ?_ ?_
   | refine LeO.bind ?_ (fun _ => ?_)
def tangramlaw26_awake.T5 : Bool × List (List Nat × List Nat) := (true, [([], []), ([], []), ([1], []), ([0, 1, 2], [0, 1, 2]), ([3, 2], [3]), ([4], [4]), ([5], [5]), ([5], [5]), ([6, 4, 0, 1, 2, 3, 4, 5, 6], [6]), ([7, 8, 0, 1, 2, 3, 4, 5, 6, 7, 8], [7])])
def tangramlaw26_awake.B5 : List Nat := [0, 0, 2, 7, 15, 31, 63, 63, 127, 511]
theorem tangramlaw26_awake.tab5 : rtab .any (opsOf Try.f11 5) = tangramlaw26_awake.T5 := by kernel_rfl
theorem tangramlaw26_awake.bits5 : waitsOk tangramlaw26_awake.T5.2 tangramlaw26_awake.B5 = true := by kernel_rfl
def tangramlaw26_awake.T8 : Bool × List (List Nat × List Nat) := (true, [([], []), ([], []), ([1], []), ([2], []), ([3], []), ([1, 2, 3, 4], [1, 2, 3, 4]), ([0, 5, 4], [0, 5]), ([6], [6]), ([7], [7]), ([7], [7]), ([8, 6, 0, 1, 2, 3, 4, 5, 6, 7, 8], [8]), ([9, 10, 0, 1, 2, 3, 4, 5, 6, 7, 8, 9, 10], [9])])
def tangramlaw26_awake.B8 : List Nat := [0, 0, 2, 6, 14, 30, 63, 127, 255, 255, 511, 2047]
theorem tangramlaw26_awake.tab8 : rtab .any (opsOf Try.f11 8) = tangramlaw26_awake.T8 := by kernel_rfl
theorem tangramlaw26_awake.bits8 : waitsOk tangramlaw26_awake.T8.2 tangramlaw26_awake.B8 = true := by kernel_rfl
def tangramlaw26_awake.T11 : Bool × List (List Nat × List Nat) := (true, [([], []), ([], []), ([1], []), ([0, 1, 2, 2], [0, 1, 2]), ([3], [3]), ([4, 3], [4]), ([5], [5]), ([5, 5], [5]), ([7, 5], [5]), ([8, 5], [5]), ([6, 7, 8, 9, 9, 5], [5, 6, 7, 8, 9]), ([5, 10], [5, 10]), ([11, 10], [11]), ([12], [12]), ([12, 12], [12]), ([14, 12], [12]), ([13, 14, 15, 15, 12], [12, 13, 14, 15]), ([12, 16], [12, 16]), ([17, 16, 0, 1, 2, 3, 4, 5, 6, 7, 8, 9, 10, 11, 12, 13, 14, 15, 16, 17], [17])])
def tangramlaw26_awake.B11 : List Nat := [0, 0, 2, 7, 15, 31, 63, 63, 191, 447, 1023, 2047, 4095, 8191, 8191, 24575, 65535, 131071, 262143]
theorem tangramlaw26_awake.tab11 : rtab .any (opsOf Try.f11 11) = tangramlaw26_awake.T11 := by kernel_rfl
theorem tangramlaw26_awake.bits11 : waitsOk tangramlaw26_awake.T11.2 tangramlaw26_awake.B11 = true := by kernel_rfl
set_option maxHeartbeats 8000000 in
set_option maxRecDepth 100000 in
theorem tangramlaw26_awake.calls (k : Nat)  (r : Bool) (w : World) (h : tangramlaw26_awake.f k  = some r) :
  Calls Try.prog 11 #[] w fun e w' => e = .returned (.bool r) ∧ Below w.heap.size w w' := by
 have hu23 := Try.underlying23; have hu62 := Try.underlying62; have hu31 := Try.underlying31; have HB := Aside0.mk (Below.refl w.heap.size w); have H : ((tangramlaw26_pt.f 0 0).bind fun bt290 => ((some (([(⟨0, 1⟩ : S62), (⟨0, 2⟩ : S62), (⟨0, 3⟩ : S62), (⟨1, 2⟩ : S62), (⟨1, 3⟩ : S62), (⟨2, 3⟩ : S62)] : List (S62)) : List (S62))).bind fun y293 => ((tangramlaw26_pt.f 0 0).bind fun bt297 => ((tangramlaw26_pt.f 2 0).bind fun bt299 => ((tangramlaw26_pt.f 2 2).bind fun bt301 => ((tangramlaw26_pt.f 0 2).bind fun bt303 => ((some (([(⟨bt297.1, bt297.2⟩ : S23), (⟨bt299.1, bt299.2⟩ : S23), (⟨bt301.1, bt301.2⟩ : S23), (⟨bt303.1, bt303.2⟩ : S23)] : List (S23)) : List (S23))).bind fun y305 => ((cross_First.f k 4 y293 y305).bind fun bt308 => ((tangramlaw26_pt.f 2 0).bind fun bt311 => ((tangramlaw26_pt.f 0 3).bind fun bt313 => ((cross_Area.f k (([(⟨bt290.1, bt290.2⟩ : S23), (⟨bt311.1, bt311.2⟩ : S23), (⟨bt313.1, bt313.2⟩ : S23)] : List (S23)))).bind fun bt318 => (if bt308.1 = 1 then (if bt308.2.1 = 4 then (if bt308.2.2 = 0 then (if bt318.1 = 6 then (if bt318.2 = 0 then ((cross_Proper.f k 4 y293 y305).bind fun t320 => (tangramlaw26_awake.j0 k t320 bt290.1 bt290.2 4 y293)) else (tangramlaw26_awake.j0 k true bt290.1 bt290.2 4 y293)) else (tangramlaw26_awake.j0 k true bt290.1 bt290.2 4 y293)) else (tangramlaw26_awake.j0 k true bt290.1 bt290.2 4 y293)) else (tangramlaw26_awake.j0 k true bt290.1 bt290.2 4 y293)) else (tangramlaw26_awake.j0 k true bt290.1 bt290.2 4 y293))))))))))))) = some r := h; clear h
 replace H := Option.bind_eq_some_iff.mp H; obtain ⟨⟨t290, t291⟩, A10, H⟩ := H; (try dsimp only at H); have A1 := Aside0.mk A10; clear A10; obtain ⟨y293, hy293⟩ : ∃ y_ : List (S62), y_ = (([(⟨0, 1⟩ : S62), (⟨0, 2⟩ : S62), (⟨0, 3⟩ : S62), (⟨1, 2⟩ : S62), (⟨1, 3⟩ : S62), (⟨2, 3⟩ : S62)] : List (S62))) := ⟨_, rfl⟩
 replace H : ((tangramlaw26_pt.f 0 0).bind fun bt297 => ((tangramlaw26_pt.f 2 0).bind fun bt299 => ((tangramlaw26_pt.f 2 2).bind fun bt301 => ((tangramlaw26_pt.f 0 2).bind fun bt303 => ((some (([(⟨bt297.1, bt297.2⟩ : S23), (⟨bt299.1, bt299.2⟩ : S23), (⟨bt301.1, bt301.2⟩ : S23), (⟨bt303.1, bt303.2⟩ : S23)] : List (S23)) : List (S23))).bind fun y305 => ((cross_First.f k 4 y293 y305).bind fun bt308 => ((tangramlaw26_pt.f 2 0).bind fun bt311 => ((tangramlaw26_pt.f 0 3).bind fun bt313 => ((cross_Area.f k (([(⟨t290, t291⟩ : S23), (⟨bt311.1, bt311.2⟩ : S23), (⟨bt313.1, bt313.2⟩ : S23)] : List (S23)))).bind fun bt318 => (if bt308.1 = 1 then (if bt308.2.1 = 4 then (if bt308.2.2 = 0 then (if bt318.1 = 6 then (if bt318.2 = 0 then ((cross_Proper.f k 4 y293 y305).bind fun t320 => (tangramlaw26_awake.j0 k t320 t290 t291 4 y293)) else (tangramlaw26_awake.j0 k true t290 t291 4 y293)) else (tangramlaw26_awake.j0 k true t290 t291 4 y293)) else (tangramlaw26_awake.j0 k true t290 t291 4 y293)) else (tangramlaw26_awake.j0 k true t290 t291 4 y293)) else (tangramlaw26_awake.j0 k true t290 t291 4 y293))))))))))) = some r := by first | (rw [hy293]; with_reducible exact H) | (have H2_ := (Option.bind_some _ _).symm.trans H; rw [hy293]; with_reducible exact H2_) | (have H2_ := (Option.bind_some _ _).symm.trans H; with_reducible exact H2_) | with_reducible exact H | (rw [hy293]; exact H) | exact H
 have Ny293 := Aside0.mk hy293; clear hy293; replace H := Option.bind_eq_some_iff.mp H; obtain ⟨⟨t297, t298⟩, A20, H⟩ := H; (try dsimp only at H); have A2 := Aside0.mk A20; clear A20; replace H := Option.bind_eq_some_iff.mp H; obtain ⟨⟨t299, t300⟩, A30, H⟩ := H; (try dsimp only at H)
 have A3 := Aside0.mk A30; clear A30; replace H := Option.bind_eq_some_iff.mp H; obtain ⟨⟨t301, t302⟩, A40, H⟩ := H; (try dsimp only at H); have A4 := Aside0.mk A40; clear A40; replace H := Option.bind_eq_some_iff.mp H; obtain ⟨⟨t303, t304⟩, A50, H⟩ := H; (try dsimp only at H)
 have A5 := Aside0.mk A50; clear A50; obtain ⟨y305, hy305⟩ : ∃ y_ : List (S23), y_ = (([(⟨t297, t298⟩ : S23), (⟨t299, t300⟩ : S23), (⟨t301, t302⟩ : S23), (⟨t303, t304⟩ : S23)] : List (S23))) := ⟨_, rfl⟩; replace H : ((cross_First.f k 4 y293 y305).bind fun bt308 => ((tangramlaw26_pt.f 2 0).bind fun bt311 => ((tangramlaw26_pt.f 0 3).bind fun bt313 => ((cross_Area.f k (([(⟨t290, t291⟩ : S23), (⟨bt311.1, bt311.2⟩ : S23), (⟨bt313.1, bt313.2⟩ : S23)] : List (S23)))).bind fun bt318 => (if bt308.1 = 1 then (if bt308.2.1 = 4 then (if bt308.2.2 = 0 then (if bt318.1 = 6 then (if bt318.2 = 0 then ((cross_Proper.f k 4 y293 y305).bind fun t320 => (tangramlaw26_awake.j0 k t320 t290 t291 4 y293)) else (tangramlaw26_awake.j0 k true t290 t291 4 y293)) else (tangramlaw26_awake.j0 k true t290 t291 4 y293)) else (tangramlaw26_awake.j0 k true t290 t291 4 y293)) else (tangramlaw26_awake.j0 k true t290 t291 4 y293)) else (tangramlaw26_awake.j0 k true t290 t291 4 y293)))))) = some r := by first | (rw [hy305]; with_reducible exact H) | (have H2_ := (Option.bind_some _ _).symm.trans H; rw [hy305]; with_reducible exact H2_) | (have H2_ := (Option.bind_some _ _).symm.trans H; with_reducible exact H2_) | with_reducible exact H | (rw [hy305]; exact H) | exact H
 have Ny305 := Aside0.mk hy305; clear hy305; replace H := Option.bind_eq_some_iff.mp H; obtain ⟨⟨t308, t309, t310⟩, A60, H⟩ := H; (try dsimp only at H); have A6 := Aside0.mk A60; clear A60; replace H := Option.bind_eq_some_iff.mp H; obtain ⟨⟨t311, t312⟩, A70, H⟩ := H; (try dsimp only at H)
 have A7 := Aside0.mk A70; clear A70; replace H := Option.bind_eq_some_iff.mp H; obtain ⟨⟨t313, t314⟩, A80, H⟩ := H; (try dsimp only at H); have A8 := Aside0.mk A80; clear A80; obtain ⟨y315, hy315⟩ : ∃ y_ : List (S23), y_ = (([(⟨t290, t291⟩ : S23), (⟨t311, t312⟩ : S23), (⟨t313, t314⟩ : S23)] : List (S23))) := ⟨_, rfl⟩; replace H : ((cross_Area.f k y315).bind fun bt318 => (if t308 = 1 then (if t309 = 4 then (if t310 = 0 then (if bt318.1 = 6 then (if bt318.2 = 0 then ((cross_Proper.f k 4 y293 y305).bind fun t320 => (tangramlaw26_awake.j0 k t320 t290 t291 4 y293)) else (tangramlaw26_awake.j0 k true t290 t291 4 y293)) else (tangramlaw26_awake.j0 k true t290 t291 4 y293)) else (tangramlaw26_awake.j0 k true t290 t291 4 y293)) else (tangramlaw26_awake.j0 k true t290 t291 4 y293)) else (tangramlaw26_awake.j0 k true t290 t291 4 y293))) = some r := by first | (rw [hy315]; with_reducible exact H) | (have H2_ := (Option.bind_some _ _).symm.trans H; rw [hy315]; with_reducible exact H2_) | (have H2_ := (Option.bind_some _ _).symm.trans H; with_reducible exact H2_) | with_reducible exact H | (rw [hy315]; exact H) | exact H
 have Ny315 := Aside0.mk hy315; clear hy315; replace H := Option.bind_eq_some_iff.mp H; obtain ⟨⟨t318, t319⟩, A90, H⟩ := H; (try dsimp only at H); have A9 := Aside0.mk A90; clear A90; have HC10 := Aside0.mk H; clear H
 go_enter Try.func11, Try.ntmps11
 try go_wp2_with (first | ((with_reducible refine gate_callee (f := 31) rfl ?_); refine gl_ (some 10) Try.func31 #[.int .i64 0, .int .i64 0] ?_; (with_reducible refine (tangramlaw26_pt.calls 0 0 t290 t291 _ A1.out).mono ?_); rintro e w11 ⟨rfl, hb⟩; refine ⟨_, rfl, ?_⟩; replace HB := hs (hb0 HB) hb; (try clear hb); (try clear hb2); (try clear hk); (try clear hi)) | ((with_reducible refine gate_dst (N := 1) rfl ?_); (try (refine gate_guard (by rfl) ?_; dsimp only)); refine be_ 1 #[.int .i64 0, .int .i64 0] 23 ?_; intro gb292 hg w12 hbox hb; have BK292 := Aside0.mk (hbox); have GW292 := wq (hb0 HB) hg; have GE292 := wq (hb0 HB) hg; replace HB := hs (hb0 HB) hb; clear hb hbox hg; have hcz13_0 : w12.cell? ⟨gb292, 0, none⟩ = some (.int .i64 0) := bc BK292 0; have hcz13_1 : w12.cell? ⟨gb292, 1, none⟩ = some (.int .i64 0) := bc BK292 1; have hfz13_0 := blk_frozen BK292.out 0; have hfz13_1 := blk_frozen BK292.out 1) | ((with_reducible refine gate_dst (N := 17) rfl ?_); (try (refine gate_guard (by rfl) ?_; dsimp only)); refine Kd.R_lit k62 _ 62 ?hg (N := 17) ?hd (xs := ([(⟨0, 1⟩ : S62), (⟨0, 2⟩ : S62), (⟨0, 3⟩ : S62), (⟨1, 2⟩ : S62), (⟨1, 3⟩ : S62), (⟨2, 3⟩ : S62)] : List (S62))) (inner := [.int .i64 0, .int .i64 1, .int .i64 0, .int .i64 2, .int .i64 0, .int .i64 3, .int .i64 1, .int .i64 2, .int .i64 1, .int .i64 3, .int .i64 2, .int .i64 3]) (ok := fun _ => True) (okp := fun _ => True) ?hr ?hp (fun _ hk => hk) trivial (Below.refl _ _) (Nat.le_refl _) (by simp) ?_; (case hd => rfl); (case hg => rfl); (case hr => first | (go_simp; done) | (go_simp; rfl)); (case hp => exact (Reps.c2 (show Kd.M k62 _ _ _ (⟨0, 1⟩ : S62) [.int .i64 0, .int .i64 1] from (k62_mkM _ _ _ (⟨0, 1⟩ : S62) )) (Reps.c2 (show Kd.M k62 _ _ _ (⟨0, 2⟩ : S62) [.int .i64 0, .int .i64 2] from (k62_mkM _ _ _ (⟨0, 2⟩ : S62) )) (Reps.c2 (show Kd.M k62 _ _ _ (⟨0, 3⟩ : S62) [.int .i64 0, .int .i64 3] from (k62_mkM _ _ _ (⟨0, 3⟩ : S62) )) (Reps.c2 (show Kd.M k62 _ _ _ (⟨1, 2⟩ : S62) [.int .i64 1, .int .i64 2] from (k62_mkM _ _ _ (⟨1, 2⟩ : S62) )) (Reps.c2 (show Kd.M k62 _ _ _ (⟨1, 3⟩ : S62) [.int .i64 1, .int .i64 3] from (k62_mkM _ _ _ (⟨1, 3⟩ : S62) )) (Reps.c2 (show Kd.M k62 _ _ _ (⟨2, 3⟩ : S62) [.int .i64 2, .int .i64 3] from (k62_mkM _ _ _ (⟨2, 3⟩ : S62) )) (Reps.none _ _)))))))); intro v294 w14 ho15 hb hg_ hnew_; clear hg_ hnew_; (first | rw [← Ny293.out] at ho15 | (simp only [Int.reduceToNat] at ho15; rw [← Ny293.out] at ho15)); have HO295 := Aside0.mk (Kd.R_lower ho15 (below_size (hb1 HB GE292))); replace BK292 := Aside0.mk (blk_below (g := gb292) (o := .cells #[.int .i64 t290, .int .i64 t291] 23 (0, 0)) (bp BK292) hb); replace HB := hs (hb1 HB GE292) hb; clear hb ho15; obtain ⟨Ao16, co16, eo16⟩ := Kd.R_slice HO295.out; subst eo16) | ((with_reducible refine gate_dst (N := 2) rfl ?_); (try (refine gate_guard (by rfl) ?_; dsimp only)); refine be_ 2 #[.int .i64 0, .slice none 0 0] 31 ?_; intro gb296 hg w17 hbox hb; replace HO295 := ry HO295 hb; have BK296 := Aside0.mk (hbox); have GW296 := wq (hb1 HB GE292) hg; have GE296 := wq (hb1 HB GE292) hg; replace HB := hs (hb1 HB GE292) hb; have NB292_296 := lx BK292 hg; have NB296_292 := gx BK292 hg; replace BK292 := kx BK292 hb; clear hb hbox hg; have hnb18 := NB296_292.out; have hnc18 := NB292_296.out; have hcz19_0 : w17.cell? ⟨gb296, 0, none⟩ = some (.int .i64 0) := bc BK296 0; have hcz19_1 : w17.cell? ⟨gb296, 1, none⟩ = some (.slice none 0 0) := bc BK296 1; have hfz19_0 := blk_frozen BK296.out 0; have hfz19_1 := blk_frozen BK296.out 1) | ((with_reducible refine gate_callee (f := 31) rfl ?_); refine gl_ (some 19) Try.func31 #[.int .i64 0, .int .i64 0] ?_; (with_reducible refine (tangramlaw26_pt.calls 0 0 t297 t298 _ A2.out).mono ?_); rintro e w20 ⟨rfl, hb⟩; refine ⟨_, rfl, ?_⟩; replace HO295 := Aside0.mk (Kd.R_below (rf HO295 BK296) hb); replace BK292 := kb (bx1 BK292 NB292_296) hb; replace BK296 := Aside0.mk (blk_below (g := gb296) (o := .cells #[.int .i64 4, .slice Ao16 y293.length co16] 31 (0, 0)) (bp BK296) hb); replace HB := hs (hb2 HB GE292 GE296) hb; (try clear hb); (try clear hb2); (try clear hk); (try clear hi)) | ((with_reducible refine gate_callee (f := 31) rfl ?_); refine gl_ (some 20) Try.func31 #[.int .i64 2, .int .i64 0] ?_; (with_reducible refine (tangramlaw26_pt.calls 2 0 t299 t300 _ A3.out).mono ?_); rintro e w21 ⟨rfl, hb⟩; refine ⟨_, rfl, ?_⟩; replace HO295 := ry HO295 hb; replace BK292 := kx BK292 hb; replace BK296 := kx BK296 hb; replace HB := hs (hb2 HB GE292 GE296) hb; (try clear hb); (try clear hb2); (try clear hk); (try clear hi)) | ((with_reducible refine gate_callee (f := 31) rfl ?_); refine gl_ (some 21) Try.func31 #[.int .i64 2, .int .i64 2] ?_; (with_reducible refine (tangramlaw26_pt.calls 2 2 t301 t302 _ A4.out).mono ?_); rintro e w22 ⟨rfl, hb⟩; refine ⟨_, rfl, ?_⟩; replace HO295 := ry HO295 hb; replace BK292 := kx BK292 hb; replace BK296 := kx BK296 hb; replace HB := hs (hb2 HB GE292 GE296) hb; (try clear hb); (try clear hb2); (try clear hk); (try clear hi)) | ((with_reducible refine gate_callee (f := 31) rfl ?_); refine gl_ (some 22) Try.func31 #[.int .i64 0, .int .i64 2] ?_; (with_reducible refine (tangramlaw26_pt.calls 0 2 t303 t304 _ A5.out).mono ?_); rintro e w23 ⟨rfl, hb⟩; refine ⟨_, rfl, ?_⟩; replace HO295 := ry HO295 hb; replace BK292 := kx BK292 hb; replace BK296 := kx BK296 hb; replace HB := hs (hb2 HB GE292 GE296) hb; (try clear hb); (try clear hb2); (try clear hk); (try clear hi)) | ((with_reducible refine gate_dst (N := 23) rfl ?_); (try (refine gate_guard (by rfl) ?_; dsimp only)); refine Kd.R_lit k23 _ 23 ?hg (N := 23) ?hd (xs := ([(⟨t297, t298⟩ : S23), (⟨t299, t300⟩ : S23), (⟨t301, t302⟩ : S23), (⟨t303, t304⟩ : S23)] : List (S23))) (inner := [.int .i64 t297, .int .i64 t298, .int .i64 t299, .int .i64 t300, .int .i64 t301, .int .i64 t302, .int .i64 t303, .int .i64 t304]) (ok := fun _ => True) (okp := fun _ => True) ?hr ?hp (fun _ hk => hk) trivial (Below.refl _ _) (Nat.le_refl _) (by simp) ?_; (case hd => rfl); (case hg => rfl); (case hr => first | (go_simp; done) | (go_simp; rfl)); (case hp => exact (Reps.c2 (show Kd.M k23 _ _ _ (⟨t297, t298⟩ : S23) [.int .i64 t297, .int .i64 t298] from (k23_mkM _ _ _ (⟨t297, t298⟩ : S23) )) (Reps.c2 (show Kd.M k23 _ _ _ (⟨t299, t300⟩ : S23) [.int .i64 t299, .int .i64 t300] from (k23_mkM _ _ _ (⟨t299, t300⟩ : S23) )) (Reps.c2 (show Kd.M k23 _ _ _ (⟨t301, t302⟩ : S23) [.int .i64 t301, .int .i64 t302] from (k23_mkM _ _ _ (⟨t301, t302⟩ : S23) )) (Reps.c2 (show Kd.M k23 _ _ _ (⟨t303, t304⟩ : S23) [.int .i64 t303, .int .i64 t304] from (k23_mkM _ _ _ (⟨t303, t304⟩ : S23) )) (Reps.none _ _)))))); intro v306 w24 ho25 hb hg_ hnew_; clear hg_ hnew_; (first | rw [← Ny305.out] at ho25 | (simp only [Int.reduceToNat] at ho25; rw [← Ny305.out] at ho25)); replace HO295 := ry HO295 hb; have HO307 := Aside0.mk (Kd.R_lower (Kd.R_newB ho25 (bx BK292)) (below_size (hb2 HB GE292 GE296))); replace BK292 := kx BK292 hb; replace BK296 := kx BK296 hb; replace HB := hs (hb2 HB GE292 GE296) hb; clear hb ho25; have hcz26_0 : w24.cell? ⟨gb296, 0, none⟩ = some (.int .i64 4) := bc BK296 0; have hcz26_1 : w24.cell? ⟨gb296, 1, none⟩ = some (.slice Ao16 y293.length co16) := bc BK296 1; have hfz26_0 := blk_frozen BK296.out 0; have hfz26_1 := blk_frozen BK296.out 1; obtain ⟨Ao27, co27, eo27⟩ := Kd.R_slice HO307.out; subst eo27) | ((with_reducible refine gate_callee (f := 21) rfl ?_); refine gl_ (some 27) Try.func21 #[.agg #[.int .i64 4, .slice Ao16 y293.length co16], .slice Ao27 y305.length co27] ?_; (with_reducible refine (cross_First.calls k 4 _ _ y293 _ _ y305 t308 t309 t310 _ ?side1 ?side2 ?side3 ?side4 A6.out).mono ?_); (case side1 => exact cr HO295); (case side2 => exact (Kd.R_reads' HO295.out).2.1); (case side3 => exact cr HO307); (case side4 => exact (Kd.R_reads' HO307.out).2.1); rintro e w28 ⟨rfl, hb⟩; refine ⟨_, rfl, ?_⟩; replace HO295 := ry HO295 hb; replace HO307 := ry HO307 hb; replace BK292 := kx BK292 hb; replace BK296 := kx BK296 hb; replace HB := hs (hb2 HB GE292 GE296) hb; (try clear hb); (try clear hb2); (try clear hk); (try clear hi)))
 replace HO295 := rd HO295; replace HO307 := rd HO307; replace BK292 := bd BK292; replace BK296 := bd BK296; replace HB := Aside0.mk (below_drew1 HB.out); refine start_ (n := 10) (S := fun w' => w'.cell? ⟨gb292, 0, none⟩ = some (.int .i64 t290) ∧ w'.cell? ⟨gb292, 1, none⟩ = some (.int .i64 t291)) (ds := []) (pf 0 10) (by kernel_rfl) rfl rfl ⟨bc BK292 0, bc BK292 1⟩ (fun hHeld => ?_); refine with_tabW tangramlaw26_awake.tab5 tangramlaw26_awake.bits5 (fun HT_ HW_ => ?_); generalize w28.drew = w29 at HO295 HO307 BK292 BK296 HB hHeld ⊢; refine tk2_ 0 (some 32) (pf 1 10) HT_ HW_ hHeld ?_; refine on_ 1 (some 33) (pf 2 10) HT_ (fun K hK => ?_); refine gs_ Try.func31 #[.int .i64 2, .int .i64 0] ?_
 with_reducible refine (tangramlaw26_pt.calls 2 0 t311 t312 _ A7.out).mono ?_
 rintro e w30 ⟨rfl, hb⟩; refine ⟨_, rfl, ?_⟩; replace HO295 := ry HO295 hb; replace HO307 := ry HO307 hb; replace BK292 := kx BK292 hb; replace BK296 := kx BK296 hb; replace HB := hs (hb2 HB GE292 GE296) hb
 (try clear hb)
 (try clear hk)
 (try clear hi)
 refine hK.out _ _ ⟨bc BK292 0, bc BK292 1⟩ (fun hHeld => ?_); clear hK K; refine nm_ (some 33) ?_; refine on_ 2 (some 34) (pf 3 10) HT_ (fun K hK => ?_); refine gs_ Try.func31 #[.int .i64 0, .int .i64 3] ?_
 with_reducible refine (tangramlaw26_pt.calls 0 3 t313 t314 _ A8.out).mono ?_
 rintro e w31 ⟨rfl, hb⟩; refine ⟨_, rfl, ?_⟩; replace HO295 := ry HO295 hb; replace HO307 := ry HO307 hb; replace BK292 := kx BK292 hb; replace BK296 := kx BK296 hb; replace HB := hs (hb2 HB GE292 GE296) hb
 (try clear hb)
 (try clear hk)
 (try clear hi)
 refine hK.out _ _ ⟨bc BK292 0, bc BK292 1⟩ (fun hHeld => ?_); clear hK K; refine nm_ (some 34) ?_; refine on_ 3 (some 35) (pf 4 10) HT_ (fun K hK => ?_); refine Kd.R_lit_step k23 _ 23 ?hg (N := 35) ?hd (xs := ([(⟨t290, t291⟩ : S23), (⟨t311, t312⟩ : S23), (⟨t313, t314⟩ : S23)] : List (S23))) (inner := [.int .i64 t290, .int .i64 t291, .int .i64 t311, .int .i64 t312, .int .i64 t313, .int .i64 t314]) (ok := fun _ => True) (okp := fun _ => True) ?hr ?hp (fun _ hk => hk) trivial (Below.refl _ _) (Nat.le_refl _) (by simp) ?_; (case hd => rfl); (case hg => rfl); (case hr => first | (go_simp; done) | (go_simp; rfl)); (case hp => exact (Reps.c2 (show Kd.M k23 _ _ _ (⟨t290, t291⟩ : S23) [.int .i64 t290, .int .i64 t291] from (k23_mkM _ _ _ (⟨t290, t291⟩ : S23) )) (Reps.c2 (show Kd.M k23 _ _ _ (⟨t311, t312⟩ : S23) [.int .i64 t311, .int .i64 t312] from (k23_mkM _ _ _ (⟨t311, t312⟩ : S23) )) (Reps.c2 (show Kd.M k23 _ _ _ (⟨t313, t314⟩ : S23) [.int .i64 t313, .int .i64 t314] from (k23_mkM _ _ _ (⟨t313, t314⟩ : S23) )) (Reps.none _ _))))); intro v316 w32 ho33 hb hg_ hnew_; clear hg_ hnew_
 (first | rw [← Ny315.out] at ho33 | (simp only [Int.reduceToNat] at ho33; rw [← Ny315.out] at ho33))
 replace HO295 := ry HO295 hb; have HO317 := Aside0.mk (Kd.R_lower (Kd.R_newB (Kd.R_new' ho33 (Kd.R_lt (rx HO307))) (bx BK292)) (below_size (hb2 HB GE292 GE296))); replace HO307 := Aside0.mk (Kd.R_elder' (rx HO307) (Kd.R_base ho33) hb); replace BK292 := kx BK292 hb; replace BK296 := kx BK296 hb; replace HB := hs (hb2 HB GE292 GE296) hb; clear hb ho33; obtain ⟨Ao34, co34, eo34⟩ := Kd.R_slice HO317.out
 (first | subst eo34 | obtain ⟨rfl, rfl⟩ := sx eo34)
 refine hK.out _ _ ⟨bc BK292 0, bc BK292 1⟩ (fun hHeld => ?_); clear hK K; refine nm_ (some 35) ?_; refine on_ 4 (some 36) (pf 5 10) HT_ (fun K hK => ?_); refine gs_ Try.func29 #[.slice Ao34 y315.length co34] ?_
 with_reducible refine (cross_Area.calls k _ _ y315 t318 t319 _ ?side1 ?side2 A9.out).mono ?_
 (case side1 => exact cr HO317)
 (case side2 => exact (Kd.R_reads' HO317.out).2.1)
 rintro e w35 ⟨rfl, hb⟩; refine ⟨_, rfl, ?_⟩; replace HO295 := ry HO295 hb; replace HO307 := ry HO307 hb; replace HO317 := ry HO317 hb; replace BK292 := kx BK292 hb; replace BK296 := kx BK296 hb; replace HB := hs (hb2 HB GE292 GE296) hb
 (try clear hb)
 (try clear hk)
 (try clear hi)
 refine hK.out _ _ ⟨bc BK292 0, bc BK292 1⟩ (fun hHeld => ?_); clear hK K; refine nm_ (some 36) ?_; refine pu_ 5 (some 31) (pf 6 10) HT_ ?_; refine pu_ 6 (some 37) (pf 7 10) HT_ ?_; refine pu_ 7 (some 38) (pf 8 10) HT_ ?_; refine pu_ 8 (some 7) (pf 9 10) HT_ ?_; refine pu_ 9 (some 8) (pf 10 10) HT_ ?_; refine done_ (done_of HT_.out (by kernel_rfl)) ?_
 go_upto_region 6 with (fail)
 go_cut [61] (fun v61 wc => ∃ (kq : Nat) (x61_9 : Bool), v61 = .bool x61_9 ∧ Aside0 (tangramlaw26_awake.j0 kq x61_9 t290 t291 4 y293 = some r) ∧ Aside0 (kq ≤ k) ∧ Aside0 (Kd.R k62 62 wc w.heap.size (fun _ => True) (.slice Ao16 y293.length co16) y293) ∧ Aside0 (wc.heap[gb292]? = some (.cells #[.int .i64 t290, .int .i64 t291] 23 (0, 0))) ∧ Aside0 (wc.heap[gb296]? = some (.cells #[.int .i64 4, (.slice Ao16 y293.length co16)] 31 (0, 0))) ∧ Aside0 (Below w.heap.size w wc))
 case first =>
  have H := HC10.out; clear HC10
  by_cases c36 : t308 = 1
  ·rw [if_pos c36] at H; have c36b0 : (t308 == 1) = true := beq_iff_eq.mpr c36; have c36b1 : (t308 != 1) = false := bne_eq_false_iff_eq.mpr c36; clear c36
   (first | rw [c36b0] | (simp only [i64_w, i32_w]; rw [c36b0]) | skip)
   by_cases c37 : t309 = 4
   ·rw [if_pos c37] at H; have c37b0 : (t309 == 4) = true := beq_iff_eq.mpr c37; have c37b1 : (t309 != 4) = false := bne_eq_false_iff_eq.mpr c37; clear c37
    by_cases c38 : t310 = 0
    ·rw [if_pos c38] at H; have c38b0 : (t310 == 0) = true := beq_iff_eq.mpr c38; have c38b1 : (t310 != 0) = false := bne_eq_false_iff_eq.mpr c38; clear c38
     by_cases c39 : t318 = 6
     ·rw [if_pos c39] at H; have c39b0 : (t318 == 6) = true := beq_iff_eq.mpr c39; have c39b1 : (t318 != 6) = false := bne_eq_false_iff_eq.mpr c39; clear c39
      by_cases c40 : t319 = 0
      ·rw [if_pos c40] at H; have c40b0 : (t319 == 0) = true := beq_iff_eq.mpr c40; have c40b1 : (t319 != 0) = false := bne_eq_false_iff_eq.mpr c40; clear c40; replace H := Option.bind_eq_some_iff.mp H; obtain ⟨t320, A410, H⟩ := H; (try dsimp only at H); have A41 := Aside0.mk A410; clear A410; have H' := Aside0.mk H; clear H; have hnb42 := NB296_292.out; have hnc42 := NB292_296.out; have hcz43_0 : w35.cell? ⟨gb296, 0, none⟩ = some (.int .i64 4) := bc BK296 0; have hcz43_1 : w35.cell? ⟨gb296, 1, none⟩ = some (.slice Ao16 y293.length co16) := bc BK296 1; have hfz43_0 := blk_frozen BK296.out 0; have hfz43_1 := blk_frozen BK296.out 1
       go_wp2_with (first | (go_at_call 23; (with_reducible refine (cross_Proper.calls k 4 _ _ y293 _ _ y305 t320 _ ?side1 ?side2 ?side3 ?side4 A41.out).mono ?_); (case side1 => exact cr HO295); (case side2 => exact (Kd.R_reads' HO295.out).2.1); (case side3 => exact cr HO307); (case side4 => exact (Kd.R_reads' HO307.out).2.1); rintro e w44 ⟨rfl, hb⟩; replace HO295 := ry HO295 hb; replace HO307 := ry HO307 hb; replace HO317 := ry HO317 hb; replace BK292 := kx BK292 hb; replace BK296 := kx BK296 hb; replace HB := hs (hb2 HB GE292 GE296) hb; (try clear hb); (try clear hb2); (try clear hk); (try clear hi)))
       go_meet
       case rel => exact ⟨_, (t320), (by first | rfl | (simp; done) | (simp [*]; done)), H', ⟨by first | omega | exact Nat.le_refl _⟩, ⟨rx HO295⟩, ⟨bx BK292⟩, ⟨bx BK296⟩, ⟨hb2 HB GE292 GE296⟩⟩
      ·rw [if_neg c40] at H; have c40b0 : (t319 == 0) = false := beq_eq_false_iff_ne.mpr c40; have c40b1 : (t319 != 0) = true := bne_iff_ne.mpr c40; have H' := Aside0.mk H; clear H
       go_wp2
       go_meet
       case rel => exact ⟨_, (true), (by first | rfl | (simp; done) | (simp [*]; done)), H', ⟨by first | omega | exact Nat.le_refl _⟩, ⟨rx HO295⟩, ⟨bx BK292⟩, ⟨bx BK296⟩, ⟨hb2 HB GE292 GE296⟩⟩
     ·rw [if_neg c39] at H; have c39b0 : (t318 == 6) = false := beq_eq_false_iff_ne.mpr c39; have c39b1 : (t318 != 6) = true := bne_iff_ne.mpr c39; have H' := Aside0.mk H; clear H
      go_wp2
      go_meet
      case rel => exact ⟨_, (true), (by first | rfl | (simp; done) | (simp [*]; done)), H', ⟨by first | omega | exact Nat.le_refl _⟩, ⟨rx HO295⟩, ⟨bx BK292⟩, ⟨bx BK296⟩, ⟨hb2 HB GE292 GE296⟩⟩
    ·rw [if_neg c38] at H; have c38b0 : (t310 == 0) = false := beq_eq_false_iff_ne.mpr c38; have c38b1 : (t310 != 0) = true := bne_iff_ne.mpr c38; have H' := Aside0.mk H; clear H
     go_wp2
     go_meet
     case rel => exact ⟨_, (true), (by first | rfl | (simp; done) | (simp [*]; done)), H', ⟨by first | omega | exact Nat.le_refl _⟩, ⟨rx HO295⟩, ⟨bx BK292⟩, ⟨bx BK296⟩, ⟨hb2 HB GE292 GE296⟩⟩
   ·rw [if_neg c37] at H; have c37b0 : (t309 == 4) = false := beq_eq_false_iff_ne.mpr c37; have c37b1 : (t309 != 4) = true := bne_iff_ne.mpr c37; have H' := Aside0.mk H; clear H
    go_wp2
    go_meet
    case rel => exact ⟨_, (true), (by first | rfl | (simp; done) | (simp [*]; done)), H', ⟨by first | omega | exact Nat.le_refl _⟩, ⟨rx HO295⟩, ⟨bx BK292⟩, ⟨bx BK296⟩, ⟨hb2 HB GE292 GE296⟩⟩
  ·rw [if_neg c36] at H; have c36b0 : (t308 == 1) = false := beq_eq_false_iff_ne.mpr c36; have c36b1 : (t308 != 1) = true := bne_iff_ne.mpr c36
   (first | rw [c36b0] | (simp only [i64_w, i32_w]; rw [c36b0]) | skip)
   have H' := Aside0.mk H; clear H
   go_wp2
   go_meet
   case rel => exact ⟨_, (true), (by first | rfl | (simp; done) | (simp [*]; done)), H', ⟨by first | omega | exact Nat.le_refl _⟩, ⟨rx HO295⟩, ⟨bx BK292⟩, ⟨bx BK296⟩, ⟨hb2 HB GE292 GE296⟩⟩
 case rest =>
  clear HC10
  try clear c1
  try clear c2
  try clear p2
  try clear c3
  try clear c4
  try clear c11
  try clear c18
  try clear c21
  try clear c29
  try clear c31
  try clear c36
  try clear c36b0
  try clear c36b1
  try clear c37
  try clear c37b0
  try clear c37b1
  try clear c38
  try clear c38b0
  try clear c38b1
  try clear c39
  try clear c39b0
  try clear c39b1
  try clear c40
  try clear c40b0
  try clear c40b1
  try clear c42
  try clear hcz13_0
  try clear hcz13_1
  try clear hcz19_0
  try clear hcz19_1
  try clear hcz26_0
  try clear hcz26_1
  try clear hcz43_0
  try clear hcz43_1
  try clear hfz13_0
  try clear hfz13_1
  try clear hfz19_0
  try clear hfz19_1
  try clear hfz26_0
  try clear hfz26_1
  try clear hfz43_0
  try clear hfz43_1
  obtain ⟨kq, x61_9, rfl, HA, HJ9, HO_297001, BK292, BK296, HB⟩ := hcut
  cases kq with
  | zero => exact absurd HA.out (by simp [tangramlaw26_awake.j0])
  | succ kj9 =>
   have H := HA.out; clear HA; simp only [tangramlaw26_awake.j0] at H
   by_cases c45 : x61_9 = true
   ·subst c45; rw [if_pos rfl] at H; obtain rfl := Option.some.inj H
    go_wp2
    go_ret
    exact ⟨by rfl, hb2 HB GE292 GE296⟩
   ·replace c45 := Bool.eq_false_iff.mpr c45; subst c45; rw [if_neg (show ¬ (false = true) by decide)] at H; replace H := Option.bind_eq_some_iff.mp H; obtain ⟨⟨t321, t322⟩, A460, H⟩ := H; (try dsimp only at H); have A46 := Aside0.mk A460; clear A460; replace H := Option.bind_eq_some_iff.mp H; obtain ⟨⟨t323, t324⟩, A470, H⟩ := H; (try dsimp only at H)
    have A47 := Aside0.mk A470; clear A470; replace H := Option.bind_eq_some_iff.mp H; obtain ⟨⟨t325, t326⟩, A480, H⟩ := H; (try dsimp only at H); have A48 := Aside0.mk A480; clear A480; replace H := Option.bind_eq_some_iff.mp H; obtain ⟨⟨t327, t328⟩, A490, H⟩ := H; (try dsimp only at H)
    have A49 := Aside0.mk A490; clear A490; obtain ⟨y329, hy329⟩ : ∃ y_ : List (S23), y_ = (([(⟨t321, t322⟩ : S23), (⟨t323, t324⟩ : S23), (⟨t325, t326⟩ : S23), (⟨t327, t328⟩ : S23)] : List (S23))) := ⟨_, rfl⟩; replace H : ((cross_Rotation.f kj9 4 y293 y329).bind fun bt332 => (if bt332.2 = 0 then (if (bt332.1.length : Int) = 4 then (if 0 < (bt332.1.length : Int) then ((tangramlaw26_sameInts.f kj9 (rd_L3 bt332.1 0) (([0, 4, 2] : List Int))).bind fun t340 => (if t340 = true then (if 3 < (bt332.1.length : Int) then ((tangramlaw26_sameInts.f kj9 (rd_L3 bt332.1 3) (([5, 9, 11] : List Int))).bind fun t345 => (tangramlaw26_awake.j1 kj9 (!t345) t290 t291)) else (none)) else (tangramlaw26_awake.j1 kj9 true t290 t291))) else (none)) else (tangramlaw26_awake.j1 kj9 true t290 t291)) else (tangramlaw26_awake.j1 kj9 true t290 t291))) = some r := by first | (rw [hy329]; with_reducible exact H) | (have H2_ := (Option.bind_some _ _).symm.trans H; rw [hy329]; with_reducible exact H2_) | (have H2_ := (Option.bind_some _ _).symm.trans H; with_reducible exact H2_) | with_reducible exact H | (rw [hy329]; exact H) | exact H
    have Ny329 := Aside0.mk hy329; clear hy329; replace H := Option.bind_eq_some_iff.mp H; obtain ⟨⟨t332, t335⟩, A500, H⟩ := H; (try dsimp only at H); have A50 := Aside0.mk A500; clear A500; have HC51 := Aside0.mk H; clear H
    try go_wp2
    replace HO_297001 := rd HO_297001; replace BK292 := bd BK292; replace BK296 := bd BK296; replace HB := Aside0.mk (below_drew1 HB.out); refine start_ (n := 12) (S := fun w' => w'.cell? ⟨gb296, 0, none⟩ = some (.int .i64 4) ∧ w'.cell? ⟨gb296, 1, none⟩ = some (.slice Ao16 y293.length co16)) (ds := []) (pf 0 12) (by kernel_rfl) rfl rfl ⟨bc BK296 0, bc BK296 1⟩ (fun hHeld => ?_); refine with_tabW tangramlaw26_awake.tab8 tangramlaw26_awake.bits8 (fun HT_ HW_ => ?_); generalize wc.drew = w52 at HO_297001 BK292 BK296 HB hHeld ⊢; refine tk2_ 0 (some 63) (pf 1 12) HT_ HW_ hHeld ?_; refine on_ 1 (some 64) (pf 2 12) HT_ (fun K hK => ?_); refine gs_ Try.func31 #[.int .i64 0, .int .i64 0] ?_
    with_reducible refine (tangramlaw26_pt.calls 0 0 t321 t322 _ A46.out).mono ?_
    rintro e w53 ⟨rfl, hb⟩; refine ⟨_, rfl, ?_⟩; replace HO_297001 := ry HO_297001 hb; replace BK292 := kx BK292 hb; replace BK296 := kx BK296 hb; replace HB := hs (hb2 HB GE292 GE296) hb
    (try clear hb)
    (try clear hk)
    (try clear hi)
    refine hK.out _ _ ⟨bc BK296 0, bc BK296 1⟩ (fun hHeld => ?_); clear hK K; refine nm_ (some 64) ?_; refine on_ 2 (some 65) (pf 3 12) HT_ (fun K hK => ?_); refine gs_ Try.func31 #[.int .i64 4, .int .i64 0] ?_
    with_reducible refine (tangramlaw26_pt.calls 4 0 t323 t324 _ A47.out).mono ?_
    rintro e w54 ⟨rfl, hb⟩; refine ⟨_, rfl, ?_⟩; replace HO_297001 := ry HO_297001 hb; replace BK292 := kx BK292 hb; replace BK296 := kx BK296 hb; replace HB := hs (hb2 HB GE292 GE296) hb
    (try clear hb)
    (try clear hk)
    (try clear hi)
    refine hK.out _ _ ⟨bc BK296 0, bc BK296 1⟩ (fun hHeld => ?_); clear hK K; refine nm_ (some 65) ?_; refine on_ 3 (some 66) (pf 4 12) HT_ (fun K hK => ?_); refine gs_ Try.func31 #[.int .i64 2, .int .i64 4] ?_
    with_reducible refine (tangramlaw26_pt.calls 2 4 t325 t326 _ A48.out).mono ?_
    rintro e w55 ⟨rfl, hb⟩; refine ⟨_, rfl, ?_⟩; replace HO_297001 := ry HO_297001 hb; replace BK292 := kx BK292 hb; replace BK296 := kx BK296 hb; replace HB := hs (hb2 HB GE292 GE296) hb
    (try clear hb)
    (try clear hk)
    (try clear hi)
    refine hK.out _ _ ⟨bc BK296 0, bc BK296 1⟩ (fun hHeld => ?_); clear hK K; refine nm_ (some 66) ?_; refine on_ 4 (some 67) (pf 5 12) HT_ (fun K hK => ?_); refine gs_ Try.func31 #[.int .i64 2, .int .i64 1] ?_
    with_reducible refine (tangramlaw26_pt.calls 2 1 t327 t328 _ A49.out).mono ?_
    rintro e w56 ⟨rfl, hb⟩; refine ⟨_, rfl, ?_⟩; replace HO_297001 := ry HO_297001 hb; replace BK292 := kx BK292 hb; replace BK296 := kx BK296 hb; replace HB := hs (hb2 HB GE292 GE296) hb
    (try clear hb)
    (try clear hk)
    (try clear hi)
    refine hK.out _ _ ⟨bc BK296 0, bc BK296 1⟩ (fun hHeld => ?_); clear hK K; refine nm_ (some 67) ?_; refine on_ 5 (some 68) (pf 6 12) HT_ (fun K hK => ?_); refine Kd.R_lit_step k23 _ 23 ?hg (N := 68) ?hd (xs := ([(⟨t321, t322⟩ : S23), (⟨t323, t324⟩ : S23), (⟨t325, t326⟩ : S23), (⟨t327, t328⟩ : S23)] : List (S23))) (inner := [.int .i64 t321, .int .i64 t322, .int .i64 t323, .int .i64 t324, .int .i64 t325, .int .i64 t326, .int .i64 t327, .int .i64 t328]) (ok := fun _ => True) (okp := fun _ => True) ?hr ?hp (fun _ hk => hk) trivial (Below.refl _ _) (Nat.le_refl _) (by simp) ?_; (case hd => rfl); (case hg => rfl); (case hr => first | (go_simp; done) | (go_simp; rfl)); (case hp => exact (Reps.c2 (show Kd.M k23 _ _ _ (⟨t321, t322⟩ : S23) [.int .i64 t321, .int .i64 t322] from (k23_mkM _ _ _ (⟨t321, t322⟩ : S23) )) (Reps.c2 (show Kd.M k23 _ _ _ (⟨t323, t324⟩ : S23) [.int .i64 t323, .int .i64 t324] from (k23_mkM _ _ _ (⟨t323, t324⟩ : S23) )) (Reps.c2 (show Kd.M k23 _ _ _ (⟨t325, t326⟩ : S23) [.int .i64 t325, .int .i64 t326] from (k23_mkM _ _ _ (⟨t325, t326⟩ : S23) )) (Reps.c2 (show Kd.M k23 _ _ _ (⟨t327, t328⟩ : S23) [.int .i64 t327, .int .i64 t328] from (k23_mkM _ _ _ (⟨t327, t328⟩ : S23) )) (Reps.none _ _)))))); intro v330 w57 ho58 hb hg_ hnew_; clear hg_ hnew_
    (first | rw [← Ny329.out] at ho58 | (simp only [Int.reduceToNat] at ho58; rw [← Ny329.out] at ho58))
    replace HO_297001 := ry HO_297001 hb; have HO331 := Aside0.mk (Kd.R_lower (Kd.R_newB ho58 (bx BK292)) (below_size (hb2 HB GE292 GE296))); replace BK292 := kx BK292 hb; replace BK296 := kx BK296 hb; replace HB := hs (hb2 HB GE292 GE296) hb; clear hb ho58; obtain ⟨Ao59, co59, eo59⟩ := Kd.R_slice HO331.out
    (first | subst eo59 | obtain ⟨rfl, rfl⟩ := sx eo59)
    refine hK.out _ _ ⟨bc BK296 0, bc BK296 1⟩ (fun hHeld => ?_); clear hK K; refine nm_ (some 68) ?_; refine on_ 6 (some 69) (pf 7 12) HT_ (fun K hK => ?_); refine gs_ Try.func26 #[.agg #[.int .i64 4, .slice Ao16 y293.length co16], .slice Ao59 y329.length co59] ?_
    with_reducible refine (cross_Rotation.calls kj9 4 _ _ y293 _ _ y329 t332 t335 _ ?side1 ?side2 ?side3 ?side4 A50.out).mono ?_
    (case side1 => exact cr HO_297001)
    (case side2 => exact (Kd.R_reads' HO_297001.out).2.1)
    (case side3 => exact cr HO331)
    (case side4 => exact (Kd.R_reads' HO331.out).2.1)
    rintro e w60 ⟨v333, rfl, ho0, hb⟩; refine ⟨_, rfl, ?_⟩; replace HO_297001 := ry HO_297001 hb; replace HO331 := ry HO331 hb; have HO334 := Aside0.mk (Kd.S_lower ho0 (below_size (hb2 HB GE292 GE296))); replace BK292 := kx BK292 hb; replace BK296 := kx BK296 hb; replace HB := hs (hb2 HB GE292 GE296) hb
    (try clear hb)
    (try clear hk)
    (try clear hi)
    (try clear ho0)
    refine hK.out _ _ ⟨bc BK296 0, bc BK296 1⟩ (fun hHeld => ?_); clear hK K; refine nm_ (some 69) ?_; refine pu_ 7 (some 62) (pf 8 12) HT_ ?_; refine pu_ 8 (some 70) (pf 9 12) HT_ ?_; refine pu_ 9 (some 71) (pf 10 12) HT_ ?_; refine pu_ 10 (some 9) (pf 11 12) HT_ ?_; refine pu_ 11 (some 6) (pf 12 12) HT_ ?_; refine done_ (done_of HT_.out (by kernel_rfl)) ?_
    go_upto_region 9 with (fail)
    go_cut [94] (fun v94 wc => ∃ (kq : Nat) (x94_50 : Bool), v94 = .bool x94_50 ∧ Aside0 (tangramlaw26_awake.j1 kq x94_50 t290 t291 = some r) ∧ Aside0 (kq ≤ kj9) ∧ Aside0 (Kd.R k62 62 wc w.heap.size (fun _ => True) (.slice Ao16 y293.length co16) y293) ∧ Aside0 (wc.heap[gb292]? = some (.cells #[.int .i64 t290, .int .i64 t291] 23 (0, 0))) ∧ Aside0 (wc.heap[gb296]? = some (.cells #[.int .i64 4, (.slice Ao16 y293.length co16)] 31 (0, 0))) ∧ Aside0 (Below w.heap.size w wc))
    case first =>
     have H := HC51.out; clear HC51
     by_cases c61 : t335 = 0
     ·rw [if_pos c61] at H; have c61b0 : (t335 == 0) = true := beq_iff_eq.mpr c61; have c61b1 : (t335 != 0) = false := bne_eq_false_iff_eq.mpr c61; clear c61
      (first | rw [c61b0] | (simp only [i64_w, i32_w]; rw [c61b0]) | skip)
      by_cases c62 : (t332.length : Int) = 4
      ·rw [if_pos c62] at H; have c62b0 : ((t332.length : Int) == 4) = true := beq_iff_eq.mpr c62; have c62b1 : ((t332.length : Int) != 4) = false := bne_eq_false_iff_eq.mpr c62; clear c62
       by_cases c63 : 0 < (t332.length : Int)
       ·rw [if_pos c63] at H; have c63b0 : decide (0 < (t332.length : Int)) = true := decide_eq_true c63; have c63b1 : decide (0 < t332.length) = true := decide_eq_true (by omega); clear c63; obtain ⟨y337, hy337⟩ : ∃ y_ : List Int, y_ = (([0, 4, 2] : List Int)) := ⟨_, rfl⟩; replace H : ((tangramlaw26_sameInts.f kj9 (rd_L3 t332 0) y337).bind fun t340 => (if t340 = true then (if 3 < (t332.length : Int) then ((tangramlaw26_sameInts.f kj9 (rd_L3 t332 3) (([5, 9, 11] : List Int))).bind fun t345 => (tangramlaw26_awake.j1 kj9 (!t345) t290 t291)) else (none)) else (tangramlaw26_awake.j1 kj9 true t290 t291))) = some r := by first | (rw [hy337]; with_reducible exact H) | (have H2_ := (Option.bind_some _ _).symm.trans H; rw [hy337]; with_reducible exact H2_) | (have H2_ := (Option.bind_some _ _).symm.trans H; with_reducible exact H2_) | with_reducible exact H | (rw [hy337]; exact H) | exact H
        have Ny337 := Aside0.mk hy337; clear hy337; replace H := Option.bind_eq_some_iff.mp H; obtain ⟨t340, A640, H⟩ := H; (try dsimp only at H); have A64 := Aside0.mk A640; clear A640
        by_cases c65 : t340 = true
        ·subst c65; rw [if_pos rfl] at H
         by_cases c66 : 3 < (t332.length : Int)
         ·rw [if_pos c66] at H; have c66b0 : decide (3 < (t332.length : Int)) = true := decide_eq_true c66; have c66b1 : decide (3 < t332.length) = true := decide_eq_true (by omega); clear c66; obtain ⟨y342, hy342⟩ : ∃ y_ : List Int, y_ = (([5, 9, 11] : List Int)) := ⟨_, rfl⟩; replace H : ((tangramlaw26_sameInts.f kj9 (rd_L3 t332 3) y342).bind fun t345 => (tangramlaw26_awake.j1 kj9 (!t345) t290 t291)) = some r := by first | (rw [hy342]; with_reducible exact H) | (have H2_ := (Option.bind_some _ _).symm.trans H; rw [hy342]; with_reducible exact H2_) | (have H2_ := (Option.bind_some _ _).symm.trans H; with_reducible exact H2_) | with_reducible exact H | (rw [hy342]; exact H) | exact H
          have Ny342 := Aside0.mk hy342; clear hy342; replace H := Option.bind_eq_some_iff.mp H; obtain ⟨t345, A670, H⟩ := H; (try dsimp only at H); have A67 := Aside0.mk A670; clear A670; have H' := Aside0.mk H; clear H; obtain ⟨Ao68, co68, eo68⟩ := Kd.S_slice HO334.out; subst eo68; have p336 : 0 ≤ (0 : Int) := (by omega); have q336 : 0 < (t332.length : Int) := of_decide_eq_true (by first | (with_reducible assumption) | assumption); obtain ⟨ad336, A336_0, c336_0, e336, hx336_0, hl336_0, hi336_0⟩ := at_L3 (Kd.S_reads' HO334.out).2.2 0 p336 q336
          cases e336
          obtain ⟨ce336, hce336, hMe336, hcc336⟩ := Kd.S_get HO334.out [] 0 p336 (by first | exact q336 | exact of_decide_eq_true (by first | (with_reducible assumption) | assumption) | (have e_ := (Kd.S_reads' HO334.out).1; omega)); obtain ⟨ve336_0, rfl, ge336_0⟩ := hMe336; have hv336_0 := hcc336 0 _ rfl; rw [Nat.add_zero, show ((Kd.slice 3 (Kd.int .i64))).sz = 1 from rfl, Nat.mul_one] at hv336_0; replace hv336_0 := Option.some.inj (hv336_0.symm.trans hx336_0); rw [hv336_0] at ge336_0; have HL336_0 := Aside0.mk (show Kd.R (Kd.int .i64) 3 _ _ _ _ (rd_L3 t332 0) from ge336_0); clear hv336_0 ge336_0 hcc336 hce336; have qi336 : (0 < t332.length) = True := eq_true (by omega)
          (try rw [show ((0 : Int)).toNat = 0 from rfl] at hx336_0)
          (try rw [Addr.add_zero'] at hx336_0)
          have HR336_0 := Aside0.mk hi336_0; have HC336_0 := Aside0.mk hl336_0; clear hi336_0 hl336_0; replace p336 := eq_true p336; replace q336 := eq_true q336
          go_wp2_with (first | ((with_reducible refine gate_dst (N := 83) rfl ?_); (try (refine gate_guard (by rfl) ?_; dsimp only)); refine Kd.R_lit (Kd.int .i64) _ 3 ?hg (N := 83) ?hd (xs := ([0, 4, 2] : List Int)) (inner := [.int .i64 0, .int .i64 4, .int .i64 2]) (ok := fun _ => True) (okp := fun _ => True) ?hr ?hp (fun _ hk => hk) trivial (Below.refl _ _) (Nat.le_refl _) (by simp) ?_; (case hd => rfl); (case hg => rfl); (case hr => first | (go_simp; done) | (go_simp; rfl)); (case hp => exact (Reps.one (show Kd.M (Kd.int .i64) _ _ _ 0 [.int .i64 0] from rfl) (Reps.one (show Kd.M (Kd.int .i64) _ _ _ 4 [.int .i64 4] from rfl) (Reps.one (show Kd.M (Kd.int .i64) _ _ _ 2 [.int .i64 2] from rfl) (Reps.none _ _))))); intro v338 w69 ho70 hb hg_ hnew_; clear hg_ hnew_; (first | rw [← Ny337.out] at ho70 | (simp only [Int.reduceToNat] at ho70; rw [← Ny337.out] at ho70)); replace HO_297001 := ry HO_297001 hb; replace HO331 := ry HO331 hb; replace HO334 := Aside0.mk (Kd.S_elder' (by (with_reducible repeat (first | apply Kd.S_alloc | apply Kd.S_drewN | apply Kd.S_drew)); exact HO334.out) (Kd.R_base ho70) hb); have HO339 := Aside0.mk (Kd.R_lower (Kd.R_new' ho70 (Kd.R_lt (rx HL336_0))) (below_size (hb2 HB GE292 GE296))); replace HL336_0 := Aside0.mk (Kd.R_elder' (rx HL336_0) (Kd.R_base ho70) hb); replace BK292 := kx BK292 hb; replace BK296 := kx BK296 hb; replace HR336_0 := Aside0.mk (Kd.C_below (by repeat (first | (with_reducible exact HR336_0.out) | (with_reducible exact Kd.C_drewN HR336_0.out _) | (with_reducible refine Kd.C_alloc ?_ _) | (with_reducible refine Kd.C_drewN ?_ _) | (with_reducible refine Kd.C_drew ?_) | exact HR336_0.out)) hb); replace HB := hs (hb2 HB GE292 GE296) hb; clear hb ho70; obtain ⟨Ao71, co71, eo71⟩ := Kd.R_slice HO339.out; subst eo71) | (go_at_call 36; (with_reducible refine (tangramlaw26_sameInts.calls kj9 _ _ (rd_L3 t332 0) _ _ y337 true _ ?side1 ?side2 ?side3 ?side4 A64.out).mono ?_); (case side1 => repeat (first | exact (by repeat (first | (with_reducible exact HR336_0.out) | (with_reducible exact Kd.C_drewN HR336_0.out _) | (with_reducible refine Kd.C_alloc ?_ _) | (with_reducible refine Kd.C_drewN ?_ _) | (with_reducible refine Kd.C_drew ?_) | exact HR336_0.out)) | (with_reducible refine Kd.C_alloc ?_ _) | (with_reducible refine Kd.C_drewN ?_ _) | (with_reducible refine Kd.C_drew ?_))); (case side2 => exact HC336_0.out); (case side3 => exact cr HO339); (case side4 => exact (Kd.R_reads' HO339.out).2.1); rintro e w' ⟨rfl, ⟨nd, rfl⟩⟩; have p341 : 0 ≤ (3 : Int) := (by omega); have q341 : 3 < (t332.length : Int) := of_decide_eq_true (by first | (with_reducible assumption) | assumption); obtain ⟨ad341, A341_0, c341_0, e341, hx341_0, hl341_0, hi341_0⟩ := at_L3 (Kd.S_reads' HO334.out).2.2 3 p341 q341; obtain rfl : ad336 = ad341 := (by injection e341); obtain ⟨ce341, hce341, hMe341, hcc341⟩ := Kd.S_get HO334.out [] 3 p341 (by first | exact q341 | exact of_decide_eq_true (by first | (with_reducible assumption) | assumption) | (have e_ := (Kd.S_reads' HO334.out).1; omega)); obtain ⟨ve341_0, rfl, ge341_0⟩ := hMe341; have hv341_0 := hcc341 0 _ rfl; rw [Nat.add_zero, show ((Kd.slice 3 (Kd.int .i64))).sz = 1 from rfl, Nat.mul_one] at hv341_0; replace hv341_0 := Option.some.inj (hv341_0.symm.trans hx341_0); rw [hv341_0] at ge341_0; have HL341_0 := Aside0.mk (show Kd.R (Kd.int .i64) 3 _ _ _ _ (rd_L3 t332 3) from ge341_0); clear hv341_0 ge341_0; clear hcc341 hce341; (try simp only [show (3 : Int).toNat = 3 from rfl, Nat.reduceMul, Nat.reduceEqDiff, Go.Addr.add, ↓reduceIte] at hx341_0); have qi341 : (3 < t332.length) = True := eq_true (by omega); (try rw [show ((3 : Int)).toNat = 3 from rfl] at hx341_0); have HR341_0 := Aside0.mk hi341_0; have HC341_0 := Aside0.mk hl341_0; clear hi341_0 hl341_0; replace p341 := eq_true p341; replace q341 := eq_true q341) | ((with_reducible refine gate_dst (N := 91) rfl ?_); (try (refine gate_guard (by rfl) ?_; dsimp only)); refine Kd.R_lit (Kd.int .i64) _ 3 ?hg (N := 91) ?hd (xs := ([5, 9, 11] : List Int)) (inner := [.int .i64 5, .int .i64 9, .int .i64 11]) (ok := fun _ => True) (okp := fun _ => True) ?hr ?hp (fun _ hk => hk) trivial (Below.refl _ _) (Nat.le_refl _) (by simp) ?_; (case hd => rfl); (case hg => rfl); (case hr => first | (go_simp; done) | (go_simp; rfl)); (case hp => exact (Reps.one (show Kd.M (Kd.int .i64) _ _ _ 5 [.int .i64 5] from rfl) (Reps.one (show Kd.M (Kd.int .i64) _ _ _ 9 [.int .i64 9] from rfl) (Reps.one (show Kd.M (Kd.int .i64) _ _ _ 11 [.int .i64 11] from rfl) (Reps.none _ _))))); intro v343 w72 ho73 hb hg_ hnew_; clear hg_ hnew_; (first | rw [← Ny342.out] at ho73 | (simp only [Int.reduceToNat] at ho73; rw [← Ny342.out] at ho73)); replace HO_297001 := ry HO_297001 hb; replace HO331 := ry HO331 hb; replace HO334 := Aside0.mk (Kd.S_elder' (by (with_reducible repeat (first | apply Kd.S_alloc | apply Kd.S_drewN | apply Kd.S_drew)); exact HO334.out) (Kd.R_base ho73) hb); have HO344 := Aside0.mk (Kd.R_lower (Kd.R_new' (Kd.R_new' (Kd.R_new' ho73 (Kd.R_lt (rx HL336_0))) (Kd.R_lt (rx HO339))) (Kd.R_lt (rx HL341_0))) (below_size (hb2 HB GE292 GE296))); replace HL336_0 := Aside0.mk (Kd.R_elder' (rx HL336_0) (Kd.R_base ho73) hb); replace HO339 := Aside0.mk (Kd.R_elder' (rx HO339) (Kd.R_base ho73) hb); replace HL341_0 := Aside0.mk (Kd.R_elder' (rx HL341_0) (Kd.R_base ho73) hb); replace BK292 := kx BK292 hb; replace BK296 := kx BK296 hb; replace HR336_0 := Aside0.mk (Kd.C_below (by repeat (first | (with_reducible exact HR336_0.out) | (with_reducible exact Kd.C_drewN HR336_0.out _) | (with_reducible refine Kd.C_alloc ?_ _) | (with_reducible refine Kd.C_drewN ?_ _) | (with_reducible refine Kd.C_drew ?_) | exact HR336_0.out)) hb); replace HR341_0 := Aside0.mk (Kd.C_below (by repeat (first | (with_reducible exact HR341_0.out) | (with_reducible exact Kd.C_drewN HR341_0.out _) | (with_reducible refine Kd.C_alloc ?_ _) | (with_reducible refine Kd.C_drewN ?_ _) | (with_reducible refine Kd.C_drew ?_) | exact HR341_0.out)) hb); replace HB := hs (hb2 HB GE292 GE296) hb; clear hb ho73; obtain ⟨Ao74, co74, eo74⟩ := Kd.R_slice HO344.out; subst eo74) | (go_at_call 36; (with_reducible refine (tangramlaw26_sameInts.calls kj9 _ _ (rd_L3 t332 3) _ _ y342 t345 _ ?side1 ?side2 ?side3 ?side4 A67.out).mono ?_); (case side1 => repeat (first | exact (by repeat (first | (with_reducible exact HR341_0.out) | (with_reducible exact Kd.C_drewN HR341_0.out _) | (with_reducible refine Kd.C_alloc ?_ _) | (with_reducible refine Kd.C_drewN ?_ _) | (with_reducible refine Kd.C_drew ?_) | exact HR341_0.out)) | (with_reducible refine Kd.C_alloc ?_ _) | (with_reducible refine Kd.C_drewN ?_ _) | (with_reducible refine Kd.C_drew ?_))); (case side2 => exact HC341_0.out); (case side3 => exact cr HO344); (case side4 => exact (Kd.R_reads' HO344.out).2.1); rintro e w' ⟨rfl, ⟨nd, rfl⟩⟩))
          go_meet
          case rel => exact ⟨_, (!t345), (by first | rfl | (simp; done) | (simp [*]; done)), H', ⟨by have := HJ9.out; first | omega | exact Nat.le_refl _⟩, ⟨rx HO_297001⟩, ⟨bx BK292⟩, ⟨bx BK296⟩, ⟨hb2 HB GE292 GE296⟩⟩
         ·rw [if_neg c66] at H; exact absurd H (by simp)
        ·replace c65 := Bool.eq_false_iff.mpr c65; subst c65; rw [if_neg (show ¬ (false = true) by decide)] at H; have H' := Aside0.mk H; clear H; obtain ⟨Ao75, co75, eo75⟩ := Kd.S_slice HO334.out; subst eo75; have p336 : 0 ≤ (0 : Int) := (by omega); have q336 : 0 < (t332.length : Int) := of_decide_eq_true (by first | (with_reducible assumption) | assumption); obtain ⟨ad336, A336_0, c336_0, e336, hx336_0, hl336_0, hi336_0⟩ := at_L3 (Kd.S_reads' HO334.out).2.2 0 p336 q336
         cases e336
         obtain ⟨ce336, hce336, hMe336, hcc336⟩ := Kd.S_get HO334.out [] 0 p336 (by first | exact q336 | exact of_decide_eq_true (by first | (with_reducible assumption) | assumption) | (have e_ := (Kd.S_reads' HO334.out).1; omega)); obtain ⟨ve336_0, rfl, ge336_0⟩ := hMe336; have hv336_0 := hcc336 0 _ rfl; rw [Nat.add_zero, show ((Kd.slice 3 (Kd.int .i64))).sz = 1 from rfl, Nat.mul_one] at hv336_0; replace hv336_0 := Option.some.inj (hv336_0.symm.trans hx336_0); rw [hv336_0] at ge336_0; have HL336_0 := Aside0.mk (show Kd.R (Kd.int .i64) 3 _ _ _ _ (rd_L3 t332 0) from ge336_0); clear hv336_0 ge336_0 hcc336 hce336; have qi336 : (0 < t332.length) = True := eq_true (by omega)
         (try rw [show ((0 : Int)).toNat = 0 from rfl] at hx336_0)
         (try rw [Addr.add_zero'] at hx336_0)
         have HR336_0 := Aside0.mk hi336_0; have HC336_0 := Aside0.mk hl336_0; clear hi336_0 hl336_0; replace p336 := eq_true p336; replace q336 := eq_true q336
         go_wp2_with (first | ((with_reducible refine gate_dst (N := 83) rfl ?_); (try (refine gate_guard (by rfl) ?_; dsimp only)); refine Kd.R_lit (Kd.int .i64) _ 3 ?hg (N := 83) ?hd (xs := ([0, 4, 2] : List Int)) (inner := [.int .i64 0, .int .i64 4, .int .i64 2]) (ok := fun _ => True) (okp := fun _ => True) ?hr ?hp (fun _ hk => hk) trivial (Below.refl _ _) (Nat.le_refl _) (by simp) ?_; (case hd => rfl); (case hg => rfl); (case hr => first | (go_simp; done) | (go_simp; rfl)); (case hp => exact (Reps.one (show Kd.M (Kd.int .i64) _ _ _ 0 [.int .i64 0] from rfl) (Reps.one (show Kd.M (Kd.int .i64) _ _ _ 4 [.int .i64 4] from rfl) (Reps.one (show Kd.M (Kd.int .i64) _ _ _ 2 [.int .i64 2] from rfl) (Reps.none _ _))))); intro v338 w76 ho77 hb hg_ hnew_; clear hg_ hnew_; (first | rw [← Ny337.out] at ho77 | (simp only [Int.reduceToNat] at ho77; rw [← Ny337.out] at ho77)); replace HO_297001 := ry HO_297001 hb; replace HO331 := ry HO331 hb; replace HO334 := Aside0.mk (Kd.S_elder' (by (with_reducible repeat (first | apply Kd.S_alloc | apply Kd.S_drewN | apply Kd.S_drew)); exact HO334.out) (Kd.R_base ho77) hb); have HO339 := Aside0.mk (Kd.R_lower (Kd.R_new' ho77 (Kd.R_lt (rx HL336_0))) (below_size (hb2 HB GE292 GE296))); replace HL336_0 := Aside0.mk (Kd.R_elder' (rx HL336_0) (Kd.R_base ho77) hb); replace BK292 := kx BK292 hb; replace BK296 := kx BK296 hb; replace HR336_0 := Aside0.mk (Kd.C_below (by repeat (first | (with_reducible exact HR336_0.out) | (with_reducible exact Kd.C_drewN HR336_0.out _) | (with_reducible refine Kd.C_alloc ?_ _) | (with_reducible refine Kd.C_drewN ?_ _) | (with_reducible refine Kd.C_drew ?_) | exact HR336_0.out)) hb); replace HB := hs (hb2 HB GE292 GE296) hb; clear hb ho77; obtain ⟨Ao78, co78, eo78⟩ := Kd.R_slice HO339.out; subst eo78) | (go_at_call 36; (with_reducible refine (tangramlaw26_sameInts.calls kj9 _ _ (rd_L3 t332 0) _ _ y337 false _ ?side1 ?side2 ?side3 ?side4 A64.out).mono ?_); (case side1 => repeat (first | exact (by repeat (first | (with_reducible exact HR336_0.out) | (with_reducible exact Kd.C_drewN HR336_0.out _) | (with_reducible refine Kd.C_alloc ?_ _) | (with_reducible refine Kd.C_drewN ?_ _) | (with_reducible refine Kd.C_drew ?_) | exact HR336_0.out)) | (with_reducible refine Kd.C_alloc ?_ _) | (with_reducible refine Kd.C_drewN ?_ _) | (with_reducible refine Kd.C_drew ?_))); (case side2 => exact HC336_0.out); (case side3 => exact cr HO339); (case side4 => exact (Kd.R_reads' HO339.out).2.1); rintro e w' ⟨rfl, ⟨nd, rfl⟩⟩))
         go_meet
         case rel => exact ⟨_, (true), (by first | rfl | (simp; done) | (simp [*]; done)), H', ⟨by have := HJ9.out; first | omega | exact Nat.le_refl _⟩, ⟨rx HO_297001⟩, ⟨bx BK292⟩, ⟨bx BK296⟩, ⟨hb2 HB GE292 GE296⟩⟩
       ·rw [if_neg c63] at H; exact absurd H (by simp)
      ·rw [if_neg c62] at H; have c62b0 : ((t332.length : Int) == 4) = false := beq_eq_false_iff_ne.mpr c62; have c62b1 : ((t332.length : Int) != 4) = true := bne_iff_ne.mpr c62; have H' := Aside0.mk H; clear H; obtain ⟨Ao79, co79, eo79⟩ := Kd.S_slice HO334.out; subst eo79
       go_wp2
       go_meet
       case rel => exact ⟨_, (true), (by first | rfl | (simp; done) | (simp [*]; done)), H', ⟨by have := HJ9.out; first | omega | exact Nat.le_refl _⟩, ⟨rx HO_297001⟩, ⟨bx BK292⟩, ⟨bx BK296⟩, ⟨hb2 HB GE292 GE296⟩⟩
     ·rw [if_neg c61] at H; have c61b0 : (t335 == 0) = false := beq_eq_false_iff_ne.mpr c61; have c61b1 : (t335 != 0) = true := bne_iff_ne.mpr c61
      (first | rw [c61b0] | (simp only [i64_w, i32_w]; rw [c61b0]) | skip)
      have H' := Aside0.mk H; clear H
      go_wp2
      go_meet
      case rel => exact ⟨_, (true), (by first | rfl | (simp; done) | (simp [*]; done)), H', ⟨by have := HJ9.out; first | omega | exact Nat.le_refl _⟩, ⟨rx HO_297001⟩, ⟨bx BK292⟩, ⟨bx BK296⟩, ⟨hb2 HB GE292 GE296⟩⟩
    case rest =>
     clear HC51
     try clear c1
     try clear c2
     try clear p2
     try clear c3
     try clear p3
     try clear q3
     try clear hx3
     try clear qi3
     try clear c4
     try clear c6
     try clear c11
     try clear c18
     try clear c21
     try clear c26
     try clear c29
     try clear c31
     try clear c33
     try clear p33
     try clear q33
     try clear hx33
     try clear qi33
     try clear c34
     try clear p34
     try clear q34
     try clear hx34
     try clear qi34
     try clear c36
     try clear c36b0
     try clear c36b1
     try clear c37
     try clear c37b0
     try clear c37b1
     try clear c38
     try clear c38b0
     try clear c38b1
     try clear c39
     try clear c39b0
     try clear c39b1
     try clear c40
     try clear c40b0
     try clear c40b1
     try clear c42
     try clear c45
     try clear c61
     try clear c61b0
     try clear c61b1
     try clear c62
     try clear c62b0
     try clear c62b1
     try clear c63
     try clear c63b0
     try clear c63b1
     try clear c65
     try clear c66
     try clear c66b0
     try clear c66b1
     try clear hcz13_0
     try clear hcz13_1
     try clear hcz19_0
     try clear hcz19_1
     try clear hcz26_0
     try clear hcz26_1
     try clear hcz43_0
     try clear hcz43_1
     try clear hfz13_0
     try clear hfz13_1
     try clear hfz19_0
     try clear hfz19_1
     try clear hfz26_0
     try clear hfz26_1
     try clear hfz43_0
     try clear hfz43_1
     try clear hx336_0
     try clear hx341_0
     try clear p2
     try clear p336
     try clear p341
     try clear q336
     try clear q341
     obtain ⟨kq, x94_50, rfl, HA, HJ50, HO_297001, BK292, BK296, HB⟩ := hcut
     cases kq with
     | zero => exact absurd HA.out (by simp [tangramlaw26_awake.j1])
     | succ kj50 =>
      have H := HA.out; clear HA; simp only [tangramlaw26_awake.j1] at H
      by_cases c80 : x94_50 = true
      ·subst c80; rw [if_pos rfl] at H; obtain rfl := Option.some.inj H
       go_wp2
       go_ret
       exact ⟨by rfl, hb2 HB GE292 GE296⟩
      ·replace c80 := Bool.eq_false_iff.mpr c80; subst c80; rw [if_neg (show ¬ (false = true) by decide)] at H; replace H := Option.bind_eq_some_iff.mp H; obtain ⟨⟨t346, t347⟩, A810, H⟩ := H; (try dsimp only at H); have A81 := Aside0.mk A810; clear A810; replace H := Option.bind_eq_some_iff.mp H; obtain ⟨⟨t348, t349⟩, A820, H⟩ := H; (try dsimp only at H); have A82 := Aside0.mk A820; clear A820; replace H := Option.bind_eq_some_iff.mp H
       obtain ⟨t350, A830, H⟩ := H; (try dsimp only at H); have A83 := Aside0.mk A830; clear A830
       by_cases c84 : t350 = 1
       ·rw [if_pos c84] at H; have c84b0 : (t350 == 1) = true := beq_iff_eq.mpr c84; have c84b1 : (t350 != 1) = false := bne_eq_false_iff_eq.mpr c84; clear c84; replace H := Option.bind_eq_some_iff.mp H; obtain ⟨⟨t351, t352⟩, A850, H⟩ := H; (try dsimp only at H); have A85 := Aside0.mk A850; clear A850; replace H := Option.bind_eq_some_iff.mp H; obtain ⟨⟨t353, t354⟩, A860, H⟩ := H; (try dsimp only at H); have A86 := Aside0.mk A860; clear A860; replace H := Option.bind_eq_some_iff.mp H; obtain ⟨⟨t355, t356⟩, A870, H⟩ := H; (try dsimp only at H)
        have A87 := Aside0.mk A870; clear A870; replace H := Option.bind_eq_some_iff.mp H; obtain ⟨t357, A880, H⟩ := H; (try dsimp only at H); have A88 := Aside0.mk A880; clear A880
        by_cases c89 : t357 = true
        ·subst c89; rw [if_pos rfl] at H; replace H := Option.bind_eq_some_iff.mp H; obtain ⟨⟨t358, t359⟩, A900, H⟩ := H; (try dsimp only at H); have A90 := Aside0.mk A900; clear A900; replace H := Option.bind_eq_some_iff.mp H; obtain ⟨⟨t360, t361⟩, A910, H⟩ := H; (try dsimp only at H); have A91 := Aside0.mk A910; clear A910; replace H := Option.bind_eq_some_iff.mp H; obtain ⟨t362, A920, H⟩ := H; (try dsimp only at H); have A92 := Aside0.mk A920; clear A920; obtain rfl := Option.some.inj H
         try go_wp2
         replace HO_297001 := rd HO_297001; replace BK292 := bd BK292; replace BK296 := bd BK296; replace HB := Aside0.mk (below_drew1 HB.out); refine start_ (n := 19) (S := fun w' => w'.cell? ⟨gb292, 0, none⟩ = some (.int .i64 t290) ∧ w'.cell? ⟨gb292, 1, none⟩ = some (.int .i64 t291)) (ds := []) (pf 0 19) (by kernel_rfl) rfl rfl ⟨bc BK292 0, bc BK292 1⟩ (fun hHeld => ?_); refine with_tabW tangramlaw26_awake.tab11 tangramlaw26_awake.bits11 (fun HT_ HW_ => ?_); generalize wc.drew = w93 at HO_297001 BK292 BK296 HB hHeld ⊢; refine tk2_ 0 (some 95) (pf 1 19) HT_ HW_ hHeld ?_; refine on_ 1 (some 96) (pf 2 19) HT_ (fun K hK => ?_); refine gs_ Try.func31 #[.int .i64 1, .int .i64 0] ?_
         with_reducible refine (tangramlaw26_pt.calls 1 0 t346 t347 _ A81.out).mono ?_
         rintro e w94 ⟨rfl, hb⟩; refine ⟨_, rfl, ?_⟩; replace HO_297001 := ry HO_297001 hb; replace BK292 := kx BK292 hb; replace BK296 := kx BK296 hb; replace HB := hs (hb2 HB GE292 GE296) hb
         (try clear hb)
         (try clear hk)
         (try clear hi)
         refine hK.out _ _ ⟨bc BK292 0, bc BK292 1⟩ (fun hHeld => ?_); clear hK K; refine nm_ (some 96) ?_; refine on_ 2 (some 97) (pf 3 19) HT_ (fun K hK => ?_); refine gs_ Try.func31 #[.int .i64 0, .int .i64 1] ?_
         with_reducible refine (tangramlaw26_pt.calls 0 1 t348 t349 _ A82.out).mono ?_
         rintro e w95 ⟨rfl, hb⟩; refine ⟨_, rfl, ?_⟩; replace HO_297001 := ry HO_297001 hb; replace BK292 := kx BK292 hb; replace BK296 := kx BK296 hb; replace HB := hs (hb2 HB GE292 GE296) hb
         (try clear hb)
         (try clear hk)
         (try clear hi)
         refine hK.out _ _ ⟨bc BK292 0, bc BK292 1⟩ (fun hHeld => ?_); clear hK K; refine nm_ (some 97) ?_; refine on_ 3 (some 98) (pf 4 19) HT_ (fun K hK => ?_); refine gs_ Try.func12 #[.agg #[.int .i64 t290, .int .i64 t291], .agg #[.int .i64 t346, .int .i64 t347], .agg #[.int .i64 t348, .int .i64 t349]] ?_
         with_reducible refine (cross_Turn.calls kj50 t290 t291 t346 t347 t348 t349 t350 _ A83.out).mono ?_
         rintro e w96 ⟨rfl, hb⟩; refine ⟨_, rfl, ?_⟩; replace HO_297001 := ry HO_297001 hb; replace BK292 := kx BK292 hb; replace BK296 := kx BK296 hb; replace HB := hs (hb2 HB GE292 GE296) hb
         (try clear hb)
         (try clear hk)
         (try clear hi)
         refine hK.out _ _ ⟨bc BK292 0, bc BK292 1⟩ (fun hHeld => ?_); clear hK K; refine nm_ (some 98) ?_; refine pu_ 4 (some 99) (pf 5 19) HT_ ?_; refine pu_ 5 (some 100) (pf 6 19) HT_ ?_; refine tk2_ 6 (some 101) (pf 7 19) HT_ HW_ hHeld ?_; refine on_ 7 (some 102) (pf 8 19) HT_ (fun K hK => ?_); refine gs_ Try.func31 #[.int .i64 2, .int .i64 2] ?_
         with_reducible refine (tangramlaw26_pt.calls 2 2 t351 t352 _ A85.out).mono ?_
         rintro e w97 ⟨rfl, hb⟩; refine ⟨_, rfl, ?_⟩; replace HO_297001 := ry HO_297001 hb; replace BK292 := kx BK292 hb; replace BK296 := kx BK296 hb; replace HB := hs (hb2 HB GE292 GE296) hb
         (try clear hb)
         (try clear hk)
         (try clear hi)
         refine hK.out _ _ ⟨bc BK292 0, bc BK292 1⟩ (fun hHeld => ?_); clear hK K; refine nm_ (some 102) ?_; refine on_ 8 (some 103) (pf 9 19) HT_ (fun K hK => ?_); refine gs_ Try.func31 #[.int .i64 0, .int .i64 2] ?_
         with_reducible refine (tangramlaw26_pt.calls 0 2 t353 t354 _ A86.out).mono ?_
         rintro e w98 ⟨rfl, hb⟩; refine ⟨_, rfl, ?_⟩; replace HO_297001 := ry HO_297001 hb; replace BK292 := kx BK292 hb; replace BK296 := kx BK296 hb; replace HB := hs (hb2 HB GE292 GE296) hb
         (try clear hb)
         (try clear hk)
         (try clear hi)
         refine hK.out _ _ ⟨bc BK292 0, bc BK292 1⟩ (fun hHeld => ?_); clear hK K; refine nm_ (some 103) ?_; refine on_ 9 (some 104) (pf 10 19) HT_ (fun K hK => ?_); refine gs_ Try.func31 #[.int .i64 2, .int .i64 0] ?_
         with_reducible refine (tangramlaw26_pt.calls 2 0 t355 t356 _ A87.out).mono ?_
         rintro e w99 ⟨rfl, hb⟩; refine ⟨_, rfl, ?_⟩; replace HO_297001 := ry HO_297001 hb; replace BK292 := kx BK292 hb; replace BK296 := kx BK296 hb; replace HB := hs (hb2 HB GE292 GE296) hb
         (try clear hb)
         (try clear hk)
         (try clear hi)
         refine hK.out _ _ ⟨bc BK292 0, bc BK292 1⟩ (fun hHeld => ?_); clear hK K; refine nm_ (some 104) ?_; refine on_ 10 (some 105) (pf 11 19) HT_ (fun K hK => ?_); refine gs_ Try.func16 #[.agg #[.int .i64 t290, .int .i64 t291], .agg #[.int .i64 t351, .int .i64 t352], .agg #[.int .i64 t353, .int .i64 t354], .agg #[.int .i64 t355, .int .i64 t356]] ?_
         with_reducible refine (cross_Meet.calls kj50 t290 t291 t351 t352 t353 t354 t355 t356 true _ A88.out).mono ?_
         rintro e w100 ⟨rfl, hb⟩; refine ⟨_, rfl, ?_⟩; replace HO_297001 := ry HO_297001 hb; replace BK292 := kx BK292 hb; replace BK296 := kx BK296 hb; replace HB := hs (hb2 HB GE292 GE296) hb
         (try clear hb)
         (try clear hk)
         (try clear hi)
         refine hK.out _ _ ⟨bc BK292 0, bc BK292 1⟩ (fun hHeld => ?_); clear hK K; refine nm_ (some 105) ?_; refine pu_ 11 (some 106) (pf 12 19) HT_ ?_; refine pu_ 12 (some 107) (pf 13 19) HT_ ?_; refine tk2_ 13 (some 108) (pf 14 19) HT_ HW_ hHeld ?_; refine on_ 14 (some 109) (pf 15 19) HT_ (fun K hK => ?_); refine gs_ Try.func31 #[.int .i64 4, .int .i64 2] ?_
         with_reducible refine (tangramlaw26_pt.calls 4 2 t358 t359 _ A90.out).mono ?_
         rintro e w101 ⟨rfl, hb⟩; refine ⟨_, rfl, ?_⟩; replace HO_297001 := ry HO_297001 hb; replace BK292 := kx BK292 hb; replace BK296 := kx BK296 hb; replace HB := hs (hb2 HB GE292 GE296) hb
         (try clear hb)
         (try clear hk)
         (try clear hi)
         refine hK.out _ _ ⟨bc BK292 0, bc BK292 1⟩ (fun hHeld => ?_); clear hK K; refine nm_ (some 109) ?_; refine on_ 15 (some 110) (pf 16 19) HT_ (fun K hK => ?_); refine gs_ Try.func31 #[.int .i64 2, .int .i64 1] ?_
         with_reducible refine (tangramlaw26_pt.calls 2 1 t360 t361 _ A91.out).mono ?_
         rintro e w102 ⟨rfl, hb⟩; refine ⟨_, rfl, ?_⟩; replace HO_297001 := ry HO_297001 hb; replace BK292 := kx BK292 hb; replace BK296 := kx BK296 hb; replace HB := hs (hb2 HB GE292 GE296) hb
         (try clear hb)
         (try clear hk)
         (try clear hi)
         refine hK.out _ _ ⟨bc BK292 0, bc BK292 1⟩ (fun hHeld => ?_); clear hK K; refine nm_ (some 110) ?_; refine on_ 16 (some 111) (pf 17 19) HT_ (fun K hK => ?_); refine gs_ Try.func14 #[.agg #[.int .i64 t290, .int .i64 t291], .agg #[.int .i64 t358, .int .i64 t359], .agg #[.int .i64 t360, .int .i64 t361]] ?_
         with_reducible refine (cross_On.calls kj50 t290 t291 t358 t359 t360 t361 t362 _ A92.out).mono ?_
         rintro e w103 ⟨rfl, hb⟩; refine ⟨_, rfl, ?_⟩; replace HO_297001 := ry HO_297001 hb; replace BK292 := kx BK292 hb; replace BK296 := kx BK296 hb; replace HB := hs (hb2 HB GE292 GE296) hb
         (try clear hb)
         (try clear hk)
         (try clear hi)
         refine hK.out _ _ ⟨bc BK292 0, bc BK292 1⟩ (fun hHeld => ?_); clear hK K; refine nm_ (some 111) ?_; refine pu_ 17 (some 112) (pf 18 19) HT_ ?_; refine pu_ 18 (some 0) (pf 19 19) HT_ ?_; refine done_ (done_of HT_.out (by kernel_rfl)) ?_
         try go_wp2
         go_ret
         exact ⟨by rfl, hb2 HB GE292 GE296⟩
        ·replace c89 := Bool.eq_false_iff.mpr c89; subst c89; rw [if_neg (show ¬ (false = true) by decide)] at H; obtain rfl := Option.some.inj H
         try go_wp2
         replace HO_297001 := rd HO_297001; replace BK292 := bd BK292; replace BK296 := bd BK296; replace HB := Aside0.mk (below_drew1 HB.out); refine start_ (n := 19) (S := fun w' => w'.cell? ⟨gb292, 0, none⟩ = some (.int .i64 t290) ∧ w'.cell? ⟨gb292, 1, none⟩ = some (.int .i64 t291)) (ds := []) (pf 0 19) (by kernel_rfl) rfl rfl ⟨bc BK292 0, bc BK292 1⟩ (fun hHeld => ?_); refine with_tabW tangramlaw26_awake.tab11 tangramlaw26_awake.bits11 (fun HT_ HW_ => ?_); generalize wc.drew = w104 at HO_297001 BK292 BK296 HB hHeld ⊢; refine tk2_ 0 (some 95) (pf 1 19) HT_ HW_ hHeld ?_; refine on_ 1 (some 96) (pf 2 19) HT_ (fun K hK => ?_); refine gs_ Try.func31 #[.int .i64 1, .int .i64 0] ?_
         with_reducible refine (tangramlaw26_pt.calls 1 0 t346 t347 _ A81.out).mono ?_
         rintro e w105 ⟨rfl, hb⟩; refine ⟨_, rfl, ?_⟩; replace HO_297001 := ry HO_297001 hb; replace BK292 := kx BK292 hb; replace BK296 := kx BK296 hb; replace HB := hs (hb2 HB GE292 GE296) hb
         (try clear hb)
         (try clear hk)
         (try clear hi)
         refine hK.out _ _ ⟨bc BK292 0, bc BK292 1⟩ (fun hHeld => ?_); clear hK K; refine nm_ (some 96) ?_; refine on_ 2 (some 97) (pf 3 19) HT_ (fun K hK => ?_); refine gs_ Try.func31 #[.int .i64 0, .int .i64 1] ?_
         with_reducible refine (tangramlaw26_pt.calls 0 1 t348 t349 _ A82.out).mono ?_
         rintro e w106 ⟨rfl, hb⟩; refine ⟨_, rfl, ?_⟩; replace HO_297001 := ry HO_297001 hb; replace BK292 := kx BK292 hb; replace BK296 := kx BK296 hb; replace HB := hs (hb2 HB GE292 GE296) hb
         (try clear hb)
         (try clear hk)
         (try clear hi)
         refine hK.out _ _ ⟨bc BK292 0, bc BK292 1⟩ (fun hHeld => ?_); clear hK K; refine nm_ (some 97) ?_; refine on_ 3 (some 98) (pf 4 19) HT_ (fun K hK => ?_); refine gs_ Try.func12 #[.agg #[.int .i64 t290, .int .i64 t291], .agg #[.int .i64 t346, .int .i64 t347], .agg #[.int .i64 t348, .int .i64 t349]] ?_
         with_reducible refine (cross_Turn.calls kj50 t290 t291 t346 t347 t348 t349 t350 _ A83.out).mono ?_
         rintro e w107 ⟨rfl, hb⟩; refine ⟨_, rfl, ?_⟩; replace HO_297001 := ry HO_297001 hb; replace BK292 := kx BK292 hb; replace BK296 := kx BK296 hb; replace HB := hs (hb2 HB GE292 GE296) hb
         (try clear hb)
         (try clear hk)
         (try clear hi)
         refine hK.out _ _ ⟨bc BK292 0, bc BK292 1⟩ (fun hHeld => ?_); clear hK K; refine nm_ (some 98) ?_; refine pu_ 4 (some 99) (pf 5 19) HT_ ?_; refine pu_ 5 (some 100) (pf 6 19) HT_ ?_; refine tk2_ 6 (some 101) (pf 7 19) HT_ HW_ hHeld ?_; refine on_ 7 (some 102) (pf 8 19) HT_ (fun K hK => ?_); refine gs_ Try.func31 #[.int .i64 2, .int .i64 2] ?_
         with_reducible refine (tangramlaw26_pt.calls 2 2 t351 t352 _ A85.out).mono ?_
         rintro e w108 ⟨rfl, hb⟩; refine ⟨_, rfl, ?_⟩; replace HO_297001 := ry HO_297001 hb; replace BK292 := kx BK292 hb; replace BK296 := kx BK296 hb; replace HB := hs (hb2 HB GE292 GE296) hb
         (try clear hb)
         (try clear hk)
         (try clear hi)
         refine hK.out _ _ ⟨bc BK292 0, bc BK292 1⟩ (fun hHeld => ?_); clear hK K; refine nm_ (some 102) ?_; refine on_ 8 (some 103) (pf 9 19) HT_ (fun K hK => ?_); refine gs_ Try.func31 #[.int .i64 0, .int .i64 2] ?_
         with_reducible refine (tangramlaw26_pt.calls 0 2 t353 t354 _ A86.out).mono ?_
         rintro e w109 ⟨rfl, hb⟩; refine ⟨_, rfl, ?_⟩; replace HO_297001 := ry HO_297001 hb; replace BK292 := kx BK292 hb; replace BK296 := kx BK296 hb; replace HB := hs (hb2 HB GE292 GE296) hb
         (try clear hb)
         (try clear hk)
         (try clear hi)
         refine hK.out _ _ ⟨bc BK292 0, bc BK292 1⟩ (fun hHeld => ?_); clear hK K; refine nm_ (some 103) ?_; refine on_ 9 (some 104) (pf 10 19) HT_ (fun K hK => ?_); refine gs_ Try.func31 #[.int .i64 2, .int .i64 0] ?_
         with_reducible refine (tangramlaw26_pt.calls 2 0 t355 t356 _ A87.out).mono ?_
         rintro e w110 ⟨rfl, hb⟩; refine ⟨_, rfl, ?_⟩; replace HO_297001 := ry HO_297001 hb; replace BK292 := kx BK292 hb; replace BK296 := kx BK296 hb; replace HB := hs (hb2 HB GE292 GE296) hb
         (try clear hb)
         (try clear hk)
         (try clear hi)
         refine hK.out _ _ ⟨bc BK292 0, bc BK292 1⟩ (fun hHeld => ?_); clear hK K; refine nm_ (some 104) ?_; refine on_ 10 (some 105) (pf 11 19) HT_ (fun K hK => ?_); refine gs_ Try.func16 #[.agg #[.int .i64 t290, .int .i64 t291], .agg #[.int .i64 t351, .int .i64 t352], .agg #[.int .i64 t353, .int .i64 t354], .agg #[.int .i64 t355, .int .i64 t356]] ?_
         with_reducible refine (cross_Meet.calls kj50 t290 t291 t351 t352 t353 t354 t355 t356 false _ A88.out).mono ?_
         rintro e w111 ⟨rfl, hb⟩; refine ⟨_, rfl, ?_⟩; replace HO_297001 := ry HO_297001 hb; replace BK292 := kx BK292 hb; replace BK296 := kx BK296 hb; replace HB := hs (hb2 HB GE292 GE296) hb
         (try clear hb)
         (try clear hk)
         (try clear hi)
         refine hK.out _ _ ⟨bc BK292 0, bc BK292 1⟩ (fun hHeld => ?_); clear hK K; refine nm_ (some 105) ?_; refine pu_ 11 (some 106) (pf 12 19) HT_ ?_; refine pu_ 12 (some 107) (pf 13 19) HT_ ?_; refine pn_ 13 (some 108) (pf 14 19) HT_ ?_; refine pn_ 14 (some 109) (pf 15 19) HT_ ?_; refine pn_ 15 (some 110) (pf 16 19) HT_ ?_; refine pn_ 16 (some 111) (pf 17 19) HT_ ?_; refine pu_ 17 (some 112) (pf 18 19) HT_ ?_; refine pu_ 18 (some 0) (pf 19 19) HT_ ?_; refine done_ (done_of HT_.out (by kernel_rfl)) ?_
         try go_wp2
         go_ret
         exact ⟨by rfl, hb2 HB GE292 GE296⟩
       ·rw [if_neg c84] at H; have c84b0 : (t350 == 1) = false := beq_eq_false_iff_ne.mpr c84; have c84b1 : (t350 != 1) = true := bne_iff_ne.mpr c84; obtain rfl := Option.some.inj H
        try go_wp2
        replace HO_297001 := rd HO_297001; replace BK292 := bd BK292; replace BK296 := bd BK296; replace HB := Aside0.mk (below_drew1 HB.out); refine start_ (n := 19) (S := fun w' => w'.cell? ⟨gb292, 0, none⟩ = some (.int .i64 t290) ∧ w'.cell? ⟨gb292, 1, none⟩ = some (.int .i64 t291)) (ds := []) (pf 0 19) (by kernel_rfl) rfl rfl ⟨bc BK292 0, bc BK292 1⟩ (fun hHeld => ?_); refine with_tabW tangramlaw26_awake.tab11 tangramlaw26_awake.bits11 (fun HT_ HW_ => ?_); generalize wc.drew = w112 at HO_297001 BK292 BK296 HB hHeld ⊢; refine tk2_ 0 (some 95) (pf 1 19) HT_ HW_ hHeld ?_; refine on_ 1 (some 96) (pf 2 19) HT_ (fun K hK => ?_); refine gs_ Try.func31 #[.int .i64 1, .int .i64 0] ?_
        with_reducible refine (tangramlaw26_pt.calls 1 0 t346 t347 _ A81.out).mono ?_
        rintro e w113 ⟨rfl, hb⟩; refine ⟨_, rfl, ?_⟩; replace HO_297001 := ry HO_297001 hb; replace BK292 := kx BK292 hb; replace BK296 := kx BK296 hb; replace HB := hs (hb2 HB GE292 GE296) hb
        (try clear hb)
        (try clear hk)
        (try clear hi)
        refine hK.out _ _ ⟨bc BK292 0, bc BK292 1⟩ (fun hHeld => ?_); clear hK K; refine nm_ (some 96) ?_; refine on_ 2 (some 97) (pf 3 19) HT_ (fun K hK => ?_); refine gs_ Try.func31 #[.int .i64 0, .int .i64 1] ?_
        with_reducible refine (tangramlaw26_pt.calls 0 1 t348 t349 _ A82.out).mono ?_
        rintro e w114 ⟨rfl, hb⟩; refine ⟨_, rfl, ?_⟩; replace HO_297001 := ry HO_297001 hb; replace BK292 := kx BK292 hb; replace BK296 := kx BK296 hb; replace HB := hs (hb2 HB GE292 GE296) hb
        (try clear hb)
        (try clear hk)
        (try clear hi)
        refine hK.out _ _ ⟨bc BK292 0, bc BK292 1⟩ (fun hHeld => ?_); clear hK K; refine nm_ (some 97) ?_; refine on_ 3 (some 98) (pf 4 19) HT_ (fun K hK => ?_); refine gs_ Try.func12 #[.agg #[.int .i64 t290, .int .i64 t291], .agg #[.int .i64 t346, .int .i64 t347], .agg #[.int .i64 t348, .int .i64 t349]] ?_
        with_reducible refine (cross_Turn.calls kj50 t290 t291 t346 t347 t348 t349 t350 _ A83.out).mono ?_
        rintro e w115 ⟨rfl, hb⟩; refine ⟨_, rfl, ?_⟩; replace HO_297001 := ry HO_297001 hb; replace BK292 := kx BK292 hb; replace BK296 := kx BK296 hb; replace HB := hs (hb2 HB GE292 GE296) hb
        (try clear hb)
        (try clear hk)
        (try clear hi)
        refine hK.out _ _ ⟨bc BK292 0, bc BK292 1⟩ (fun hHeld => ?_); clear hK K; refine nm_ (some 98) ?_; refine pu_ 4 (some 99) (pf 5 19) HT_ ?_; refine pu_ 5 (some 100) (pf 6 19) HT_ ?_; refine pn_ 6 (some 101) (pf 7 19) HT_ ?_; refine pn_ 7 (some 102) (pf 8 19) HT_ ?_; refine pn_ 8 (some 103) (pf 9 19) HT_ ?_; refine pn_ 9 (some 104) (pf 10 19) HT_ ?_; refine pn_ 10 (some 105) (pf 11 19) HT_ ?_; refine pu_ 11 (some 106) (pf 12 19) HT_ ?_; refine pu_ 12 (some 107) (pf 13 19) HT_ ?_; refine pn_ 13 (some 108) (pf 14 19) HT_ ?_; refine pn_ 14 (some 109) (pf 15 19) HT_ ?_; refine pn_ 15 (some 110) (pf 16 19) HT_ ?_; refine pn_ 16 (some 111) (pf 17 19) HT_ ?_; refine pu_ 17 (some 112) (pf 18 19) HT_ ?_; refine pu_ 18 (some 0) (pf 19 19) HT_ ?_; refine done_ (done_of HT_.out (by kernel_rfl)) ?_
        try go_wp2
        go_ret
        exact ⟨by rfl, hb2 HB GE292 GE296⟩

end Go.Proofs.Ythfoliejhdpbaaa.PCroA
