-- PRINTED by print.py (a twelfth state) out of the translation. Not trusted: Lean checks it.
import Derived.Test.YtjgaicdieddekaaDoorZPNumAx0
import Derived.Test.YtjgaicdieddekaaDoorZPNumAx1
import Derived.Test.YtjgaicdieddekaaDoorZPNumAx7
import Derived.Test.YtjgaicdieddekaaDoorZPNumAx8
import Derived.Test.YtjgaicdieddekaaDoorZPNumAx14
import Derived.Test.YtjgaicdieddekaaDoorZPNumAx19
namespace Go.Proofs.YtjgaicdieddekaaDoor.PNumA
open Go.RowKit Go.Proofs.YtjgaicdieddekaaDoorW.PrintWords Go.Proofs.YtjgaicdieddekaaDoorW.PrintLast Go.Proofs.YtjgaicdieddekaaDoorW.PrintMore
open Go.Proofs.YtjgaicdieddekaaDoorX
attribute [local go_sem] max2_int min2_int max_two min_two max_three min_three max_four min_four   -- for this text's walks alone
set_option linter.unusedVariables false
set_option linter.unusedSimpArgs false

attribute [local go_sem high] eqA34
/-! ### tangramlaw01_NumsBack: function 7 -/
mutual
def tangramlaw01_NumsBack.l0 : Nat → List Int → List Int → Int → Option (Bool)
 | 0, _, _, _ => none
 | k + 1, x0, x3, x4 => if x4 < (x0.length : Int) then (tangramlaw01_NumsBack.j1 k x0 x3 x4 (decide (x4 < 2000000))) else (tangramlaw01_NumsBack.j1 k x0 x3 x4 false)
def tangramlaw01_NumsBack.j1 : Nat → List Int → List Int → Int → Bool → Option (Bool)
 | 0, _, _, _, _ => none
 | k + 1, x0, x3, x4, x21 => if x21 = true then (if 0 ≤ x4 then (if x4 < (x0.length : Int) then (if (rd x0 x4) ≥ 0 then (if (rd x0 x4) ≤ 999999999 then (if x3.length < 17592186044416 then (tangramlaw01_NumsBack.l0 k x0 (x3 ++ [rd x0 x4]) (wrap64 (x4 + 1))) else (none)) else (tangramlaw01_NumsBack.l0 k x0 x3 (wrap64 (x4 + 1)))) else (tangramlaw01_NumsBack.l0 k x0 x3 (wrap64 (x4 + 1)))) else (none)) else (none)) else ((nums_Line.f k x3).bind fun t350 => ((nums_scanner_all.f k t350).bind fun bt351 => (if bt351.2.2 = 0 then (tangramlaw01_NumsBack.j2 k x3 t350 bt351.1 ((bt351.1.length : Int) != (wrap64 ((x3.length : Int) + 2)))) else (tangramlaw01_NumsBack.j2 k x3 t350 bt351.1 true))))
def tangramlaw01_NumsBack.j2 : Nat → List Int → ByteArray → List (S34) → Bool → Option (Bool)
 | 0, _, _, _, _ => none
 | k + 1, x3, x5, x6, x61 => if x61 = true then (some false) else (tangramlaw01_NumsBack.l1 k x3 x5 x6 0 0)
def tangramlaw01_NumsBack.l1 : Nat → List Int → ByteArray → List (S34) → Int → Int → Option (Bool)
 | 0, _, _, _, _, _ => none
 | k + 1, x3, x5, x6, x9, x10 => if x10 < (x3.length : Int) then (if 0 ≤ x10 then (if x10 < (x6.length : Int) then (if ((rd_T34 x6 x10).f0) = 1 then (if ((rd_T34 x6 x10).f3) = (rd x3 x10) then (if ((rd_T34 x6 x10).f1) = x9 then (if ((rd_T34 x6 x10).f2) < ((rd_T34 x6 x10).f1) then (some false) else (if ((rd_T34 x6 x10).f2) > (x5.size : Int) then (some false) else (if 0 ≤ ((rd_T34 x6 x10).f1) then (if ((rd_T34 x6 x10).f1) ≤ ((rd_T34 x6 x10).f2) then (if ((rd_T34 x6 x10).f2) ≤ (x5.size : Int) then ((nums_Text.f k (rd x3 x10)).bind fun t360 => (if (x5.extract (((rd_T34 x6 x10).f1) : Int).toNat (((rd_T34 x6 x10).f2) : Int).toNat).toList = t360.toList then (tangramlaw01_NumsBack.l1 k x3 x5 x6 (wrap64 (((rd_T34 x6 x10).f2) + 1)) (wrap64 (x10 + 1))) else (some false))) else (none)) else (none)) else (none)))) else (some false)) else (some false)) else (some false)) else (none)) else (none)) else (if 0 ≤ (x3.length : Int) then (if (x3.length : Int) < (x6.length : Int) then (if (((rd_T34 x6 (x3.length : Int)).f0) == 2 && (((rd_T34 x6 (x3.length : Int)).f1) == (wrap64 ((x5.size : Int) - 1)) && (((rd_T34 x6 (x3.length : Int)).f2) == (x5.size : Int) && (((rd_T34 x6 (x3.length : Int)).f3) == 0)))) = true then (if 0 ≤ (wrap64 ((x3.length : Int) + 1)) then (if (wrap64 ((x3.length : Int) + 1)) < (x6.length : Int) then (some (((rd_T34 x6 (wrap64 ((x3.length : Int) + 1))).f0) == 3 && (((rd_T34 x6 (wrap64 ((x3.length : Int) + 1))).f1) == (x5.size : Int) && (((rd_T34 x6 (wrap64 ((x3.length : Int) + 1))).f2) == (x5.size : Int) && (((rd_T34 x6 (wrap64 ((x3.length : Int) + 1))).f3) == 0))))) else (none)) else (none)) else (some false)) else (none)) else (none))
end
def tangramlaw01_NumsBack.f (k : Nat) (l0 : List Int) : Option (Bool) := (tangramlaw01_awake.f k).bind fun t343 => (if t343 = true then (tangramlaw01_NumsBack.l0 k l0 ([] : List Int) 0) else (some false))
theorem tangramlaw01_NumsBack.mono_l : ∀ k, (∀ y0 y1 y2, LeO (tangramlaw01_NumsBack.l0 k y0 y1 y2) (tangramlaw01_NumsBack.l0 (k + 1) y0 y1 y2)) ∧ (∀ y0 y1 y2 y3, LeO (tangramlaw01_NumsBack.j1 k y0 y1 y2 y3) (tangramlaw01_NumsBack.j1 (k + 1) y0 y1 y2 y3)) ∧ (∀ y0 y1 y2 y3, LeO (tangramlaw01_NumsBack.j2 k y0 y1 y2 y3) (tangramlaw01_NumsBack.j2 (k + 1) y0 y1 y2 y3)) ∧ (∀ y0 y1 y2 y3 y4, LeO (tangramlaw01_NumsBack.l1 k y0 y1 y2 y3 y4) (tangramlaw01_NumsBack.l1 (k + 1) y0 y1 y2 y3 y4))
 | 0 => ⟨fun _ _ _ r h => by simp [tangramlaw01_NumsBack.l0] at h, fun _ _ _ _ r h => by simp [tangramlaw01_NumsBack.j1] at h, fun _ _ _ _ r h => by simp [tangramlaw01_NumsBack.j2] at h, fun _ _ _ _ _ r h => by simp [tangramlaw01_NumsBack.l1] at h⟩
 | k + 1 => by
  obtain ⟨ih0, ih1, ih2, ih3⟩ := tangramlaw01_NumsBack.mono_l k; refine ⟨?_, ?_, ?_, ?_⟩
  ·intro y0 y1 y2
   unfold tangramlaw01_NumsBack.l0
   repeat' first
   | (with_reducible exact ih0 _ _ _)
   | (with_reducible exact ih1 _ _ _ _)
   | (with_reducible exact ih2 _ _ _ _)
   | (with_reducible exact ih3 _ _ _ _ _)
   | (with_reducible exact nums_Line.mono _ _)
   | (with_reducible exact nums_Text.mono _ _)
   | (with_reducible exact nums_scanner_all.mono _ _)
   | (with_reducible exact tangramlaw01_awake.mono _)
   | (with_reducible exact LeO.refl _)
   | (with_reducible exact LeO.none _)
   | (with_reducible refine LeO.ite ?_ ?_)
   | (with_reducible refine LeO.bind ?_ (fun _ => ?_))
   | exact ih0 _ _ _
   | exact ih1 _ _ _ _
   | exact ih2 _ _ _ _
   | exact ih3 _ _ _ _ _
   | exact nums_Line.mono _ _
   | exact nums_Text.mono _ _
   | exact nums_scanner_all.mono _ _
   | exact tangramlaw01_awake.mono _
   | exact LeO.none _
   | refine LeO.ite ?_ ?_
   | refine LeO.bind ?_ (fun _ => ?_)
  ·intro y0 y1 y2 y3
   unfold tangramlaw01_NumsBack.j1
   repeat' first
   | (with_reducible exact ih0 _ _ _)
   | (with_reducible exact ih1 _ _ _ _)
   | (with_reducible exact ih2 _ _ _ _)
   | (with_reducible exact ih3 _ _ _ _ _)
   | (with_reducible exact nums_Line.mono _ _)
   | (with_reducible exact nums_Text.mono _ _)
   | (with_reducible exact nums_scanner_all.mono _ _)
   | (with_reducible exact tangramlaw01_awake.mono _)
   | (with_reducible exact LeO.refl _)
   | (with_reducible exact LeO.none _)
   | (with_reducible refine LeO.ite ?_ ?_)
   | (with_reducible refine LeO.bind ?_ (fun _ => ?_))
   | exact ih0 _ _ _
   | exact ih1 _ _ _ _
   | exact ih2 _ _ _ _
   | exact ih3 _ _ _ _ _
   | exact nums_Line.mono _ _
   | exact nums_Text.mono _ _
   | exact nums_scanner_all.mono _ _
   | exact tangramlaw01_awake.mono _
   | exact LeO.none _
   | refine LeO.ite ?_ ?_
   | refine LeO.bind ?_ (fun _ => ?_)
  ·intro y0 y1 y2 y3
   unfold tangramlaw01_NumsBack.j2
   repeat' first
   | (with_reducible exact ih0 _ _ _)
   | (with_reducible exact ih1 _ _ _ _)
   | (with_reducible exact ih2 _ _ _ _)
   | (with_reducible exact ih3 _ _ _ _ _)
   | (with_reducible exact nums_Line.mono _ _)
   | (with_reducible exact nums_Text.mono _ _)
   | (with_reducible exact nums_scanner_all.mono _ _)
   | (with_reducible exact tangramlaw01_awake.mono _)
   | (with_reducible exact LeO.refl _)
   | (with_reducible exact LeO.none _)
   | (with_reducible refine LeO.ite ?_ ?_)
   | (with_reducible refine LeO.bind ?_ (fun _ => ?_))
   | exact ih0 _ _ _
   | exact ih1 _ _ _ _
   | exact ih2 _ _ _ _
   | exact ih3 _ _ _ _ _
   | exact nums_Line.mono _ _
   | exact nums_Text.mono _ _
   | exact nums_scanner_all.mono _ _
   | exact tangramlaw01_awake.mono _
   | exact LeO.none _
   | refine LeO.ite ?_ ?_
   | refine LeO.bind ?_ (fun _ => ?_)
  ·intro y0 y1 y2 y3 y4
   unfold tangramlaw01_NumsBack.l1
   repeat' first
   | (with_reducible exact ih0 _ _ _)
   | (with_reducible exact ih1 _ _ _ _)
   | (with_reducible exact ih2 _ _ _ _)
   | (with_reducible exact ih3 _ _ _ _ _)
   | (with_reducible exact nums_Line.mono _ _)
   | (with_reducible exact nums_Text.mono _ _)
   | (with_reducible exact nums_scanner_all.mono _ _)
   | (with_reducible exact tangramlaw01_awake.mono _)
   | (with_reducible exact LeO.refl _)
   | (with_reducible exact LeO.none _)
   | (with_reducible refine LeO.ite ?_ ?_)
   | (with_reducible refine LeO.bind ?_ (fun _ => ?_))
   | exact ih0 _ _ _
   | exact ih1 _ _ _ _
   | exact ih2 _ _ _ _
   | exact ih3 _ _ _ _ _
   | exact nums_Line.mono _ _
   | exact nums_Text.mono _ _
   | exact nums_scanner_all.mono _ _
   | exact tangramlaw01_awake.mono _
   | exact LeO.none _
   | refine LeO.ite ?_ ?_
   | refine LeO.bind ?_ (fun _ => ?_)
theorem tangramlaw01_NumsBack.mono : ∀ a0 k, LeO (tangramlaw01_NumsBack.f k a0) (tangramlaw01_NumsBack.f (k + 1) a0) := by
 intro a0 k; obtain ⟨ih0, ih1, ih2, ih3⟩ := tangramlaw01_NumsBack.mono_l k
 unfold tangramlaw01_NumsBack.f
 repeat' first
   | (with_reducible exact ih0 _ _ _)
   | (with_reducible exact ih1 _ _ _ _)
   | (with_reducible exact ih2 _ _ _ _)
   | (with_reducible exact ih3 _ _ _ _ _)
   | (with_reducible exact nums_Line.mono _ _)
   | (with_reducible exact nums_Text.mono _ _)
   | (with_reducible exact nums_scanner_all.mono _ _)
   | (with_reducible exact tangramlaw01_awake.mono _)
   | (with_reducible exact LeO.refl _)
   | (with_reducible exact LeO.none _)
   | (with_reducible refine LeO.ite ?_ ?_)
   | (with_reducible refine LeO.bind ?_ (fun _ => ?_))
   | exact ih0 _ _ _
   | exact ih1 _ _ _ _
   | exact ih2 _ _ _ _
   | exact ih3 _ _ _ _ _
   | exact nums_Line.mono _ _
   | exact nums_Text.mono _ _
   | exact nums_scanner_all.mono _ _
   | exact tangramlaw01_awake.mono _
   | exact LeO.none _
   | refine LeO.ite ?_ ?_
   | refine LeO.bind ?_ (fun _ => ?_)
def tangramlaw01_NumsBack.T18 : Bool × List (List Nat × List Nat) := (true, [([], []), ([0], [0]), ([1], [1]), ([2], [2]), ([3], [3]), ([4, 3], [3, 4]), ([3], [3]), ([3], [3]), ([6, 7, 3], [3, 6, 7]), ([8, 3], [3, 8]), ([5, 9, 3], [3, 5, 9]), ([3, 10], [3, 10]), ([11, 3], [11]), ([12], [12]), ([13, 12], [12, 13]), ([12], [12]), ([14, 15, 12], [12, 14, 15]), ([12, 16], [12, 16]), ([17, 12], [17]), ([18], [18]), ([19, 18], [18, 19]), ([18], [18]), ([21, 18], [18, 21]), ([20, 22, 18], [18, 20, 22]), ([18, 23], [18, 23]), ([24, 18], [24]), ([25], [25]), ([26, 25], [25, 26]), ([25], [25]), ([28, 25], [25, 28]), ([27, 29, 25], [25, 27, 29]), ([25, 30], [25, 30]), ([31, 25], [31]), ([32], [32]), ([32], [32]), ([34, 32], [32, 34]), ([32], [32]), ([36, 32], [32, 36]), ([33, 35, 37, 32], [32, 33, 35, 37]), ([32], [32]), ([32], [32]), ([39, 40, 32], [32, 39, 40]), ([41, 32], [32, 41]), ([42, 32, 32], [32, 42]), ([38, 43, 32], [32, 38, 43]), ([32, 44], [32, 44])])
def tangramlaw01_NumsBack.B18 : List Nat := [0, 1, 3, 7, 15, 31, 15, 15, 207, 463, 1023, 2047, 4095, 8191, 16383, 8191, 65535, 131071, 262143, 524287, 1048575, 524287, 2621439, 8388607, 16777215, 33554431, 67108863, 134217727, 67108863, 335544319, 1073741823, 2147483647, 4294967295, 8589934591, 8589934591, 25769803775, 8589934591, 77309411327, 274877906943, 8589934591, 8589934591, 1657857376255, 3856880631807, 8254927142911, 17592186044415, 35184372088831]
theorem tangramlaw01_NumsBack.tab18 : rtab .any (opsOf Tryd.f7 18) = tangramlaw01_NumsBack.T18 := by kernel_rfl
theorem tangramlaw01_NumsBack.bits18 : waitsOk tangramlaw01_NumsBack.T18.2 tangramlaw01_NumsBack.B18 = true := by kernel_rfl
set_option maxHeartbeats 8000000 in
set_option maxRecDepth 100000 in
theorem tangramlaw01_NumsBack.calls (k : Nat) (A0 : Option Addr) (c0 : Nat) (l0 : List Int) (r : Bool) (w : World) (hT : TabW w) (hr0 : Kd.C (Kd.int .i64) w A0 l0.length l0) (hc0 : l0.length ≤ c0) (h : tangramlaw01_NumsBack.f k l0 = some r) :
  Calls Tryd.prog 7 #[.slice A0 l0.length c0] w fun e w' => e = .returned (.bool r) ∧ Below w.heap.size w w' := by
 have HT := Aside0.mk hT; clear hT; have hcvs := fun (w : World) (s : ByteArray) => Lib.run_convert_string_bytes (P := Tryd.prog) w 9 22 5 s Tryd.underlying9 Tryd.underlying22 Tryd.underlying5
 have hu34 := Tryd.underlying34; have HR0 := Aside0.mk hr0; have HC0 := Aside0.mk hc0; clear hr0 hc0; have HB := Aside0.mk (Below.refl w.heap.size w); have H : ((tangramlaw01_awake.f k).bind fun t343 => (if t343 = true then (tangramlaw01_NumsBack.l0 k l0 ([] : List Int) 0) else (some false))) = some r := h; clear h; replace H := Option.bind_eq_some_iff.mp H; obtain ⟨t343, A20, H⟩ := H; (try dsimp only at H); have A2 := Aside0.mk A20; clear A20
 by_cases c3 : t343 = true
 ·subst c3; rw [if_pos rfl] at H; have H' := Aside0.mk H; clear H
  go_enter Tryd.func7, Tryd.ntmps7
  go_wp2_with (first | ((with_reducible refine gate_callee (f := 10) rfl ?_); refine gl_ (some 12) Tryd.func10 #[] ?_; (with_reducible refine (tangramlaw01_awake.calls k  true _ ?sideT A2.out).mono ?_); (case sideT => exact tb HT (hb0 HB)); rintro e w4 ⟨rfl, hb⟩; refine ⟨_, rfl, ?_⟩; replace HB := hs (hb0 HB) hb; (try clear hb); (try clear hb2); (try clear hk); (try clear hi)))
  go_loopg [3, 4] k (fun kq v3 v4 w' => ∃ (x3_1 : List Int) (x4_1 : Int), v4 = .int .i64 x4_1 ∧ Aside0 (tangramlaw01_NumsBack.l0 kq l0 x3_1 x4_1 = some r) ∧ Aside0 (kq ≤ k) ∧ Aside0 (Kd.R (Kd.int .i64) 3 w' w.heap.size (fun _ => True) v3 x3_1) ∧ Aside0 (Below w.heap.size w w'))
  case atStart => exact ⟨(([] : List Int)), (0), (by first | rfl | (simp; done) | (simp [*]; done)), H', ⟨Nat.le_refl _⟩, ⟨by first | exact Kd.R_nil _ _ _ _ _ | exact Kd.N_nil _ _ _ _ _ | exact Kd.V_nil _ _ _ _ _ | exact Kd.Q_nil _ _ _ _ _ | exact Kd.S_nil _ _ _ _ _⟩, ⟨hb0 HB⟩⟩
  case round =>
   clear H'
   try clear c1
   try clear p2
   try clear c3
   obtain ⟨x3_1, x4_1, rfl, HA, HK1, HO_3, HB⟩ := hrel
   cases gk with
   | zero => exact absurd HA.out (by simp [tangramlaw01_NumsBack.l0])
   | succ k1 =>
    have H := HA.out; clear HA; simp only [tangramlaw01_NumsBack.l0] at H; have HC5 := Aside0.mk H; clear H
    go_upto_region 5 with (fail)
    go_cut [21] (fun v21 wc => ∃ (kq : Nat) (x21_4 : Bool), v21 = .bool x21_4 ∧ Aside0 (tangramlaw01_NumsBack.j1 kq l0 x3_1 x4_1 x21_4 = some r) ∧ Aside0 (kq ≤ k1) ∧ Aside0 (Kd.R (Kd.int .i64) 3 wc w.heap.size (fun _ => True) u3 x3_1) ∧ Aside0 (Below w.heap.size w wc))
    case first => as_aux_lemma =>
     have H := HC5.out; clear HC5
     by_cases c6 : x4_1 < (l0.length : Int)
     ·rw [if_pos c6] at H; have c6b0 : decide (x4_1 < (l0.length : Int)) = true := decide_eq_true c6; clear c6
      (first | rw [c6b0] | (simp only [i64_w, i32_w]; rw [c6b0]) | skip)
      have H' := Aside0.mk H; clear H
      go_wp2
      go_meet
      case rel => exact ⟨_, (decide (x4_1 < 2000000)), (by first | rfl | (simp; done) | (simp [*]; done)), H', ⟨by have := HK1.out; first | omega | exact Nat.le_refl _⟩, ⟨rx HO_3⟩, ⟨hb0 HB⟩⟩
     ·rw [if_neg c6] at H; have c6b0 : decide (x4_1 < (l0.length : Int)) = false := decide_eq_false c6; clear c6
      (first | rw [c6b0] | (simp only [i64_w, i32_w]; rw [c6b0]) | skip)
      have H' := Aside0.mk H; clear H
      go_wp2
      go_meet
      case rel => exact ⟨_, (false), (by first | rfl | (simp; done) | (simp [*]; done)), H', ⟨by have := HK1.out; first | omega | exact Nat.le_refl _⟩, ⟨rx HO_3⟩, ⟨hb0 HB⟩⟩
    case rest => as_aux_lemma =>
     clear HC5
     try clear c1
     try clear p2
     try clear c3
     try clear c6
     try clear c6b0
     try clear p2
     obtain ⟨kq, x21_4, rfl, HA, HJ4, HO_3, HB⟩ := hcut
     cases kq with
     | zero => exact absurd HA.out (by simp [tangramlaw01_NumsBack.j1])
     | succ kj4 =>
      have H := HA.out; clear HA; simp only [tangramlaw01_NumsBack.j1] at H
      by_cases c7 : x21_4 = true
      ·subst c7; rw [if_pos rfl] at H
       by_cases c8 : 0 ≤ x4_1
       ·rw [if_pos c8] at H; have c8b0 : decide (0 ≤ x4_1) = true := decide_eq_true c8; clear c8
        by_cases c9 : x4_1 < (l0.length : Int)
        ·rw [if_pos c9] at H; have c9b0 : decide (x4_1 < (l0.length : Int)) = true := decide_eq_true c9; clear c9
         by_cases c10 : (rd l0 x4_1) ≥ 0
         ·rw [if_pos c10] at H; have c10b0 : decide (0 ≤ (rd l0 x4_1)) = true := decide_eq_true c10; clear c10
          by_cases c11 : (rd l0 x4_1) ≤ 999999999
          ·rw [if_pos c11] at H; have c11b0 : decide ((rd l0 x4_1) ≤ 999999999) = true := decide_eq_true c11; clear c11
           by_cases c12 : x3_1.length < 17592186044416
           ·rw [if_pos c12] at H; have LMc12 := Aside0.mk c12; clear c12; obtain ⟨y347, hy347⟩ : ∃ y_ : List Int, y_ = (x3_1 ++ [rd l0 x4_1]) := ⟨_, rfl⟩; replace H : (tangramlaw01_NumsBack.l0 kj4 l0 y347 (wrap64 (x4_1 + 1))) = some r := by first | (rw [hy347]; with_reducible exact H) | (have H2_ := (Option.bind_some _ _).symm.trans H; rw [hy347]; with_reducible exact H2_) | (have H2_ := (Option.bind_some _ _).symm.trans H; with_reducible exact H2_) | with_reducible exact H | (rw [hy347]; exact H) | exact H
            have Ny347 := Aside0.mk hy347; clear hy347; have H' := Aside0.mk H; clear H; have p344 : 0 ≤ (x4_1 : Int) := of_decide_eq_true (by first | (with_reducible assumption) | assumption); have q344 : x4_1 < (l0.length : Int) := of_decide_eq_true (by first | (with_reducible assumption) | assumption); obtain ⟨ad344, e344, hx344_0⟩ := Kd.at_int HR0.out x4_1 p344 q344
            cases e344
            replace hx344_0 := (HB.out.cell (World.block_lt_of_cell? w _ hx344_0)).trans hx344_0; replace p344 := eq_true p344; replace q344 := eq_true q344; have p345 : 0 ≤ (x4_1 : Int) := of_decide_eq_true (by first | (with_reducible assumption) | assumption); have q345 : x4_1 < (l0.length : Int) := of_decide_eq_true (by first | (with_reducible assumption) | assumption); obtain ⟨ad345, e345, hx345_0⟩ := Kd.at_int HR0.out x4_1 p345 q345; obtain rfl : ad344 = ad345 := (by injection e345); replace hx345_0 := (HB.out.cell (World.block_lt_of_cell? w _ hx345_0)).trans hx345_0; replace p345 := eq_true p345; replace q345 := eq_true q345; have p346 : 0 ≤ (x4_1 : Int) := of_decide_eq_true (by first | (with_reducible assumption) | assumption); have q346 : x4_1 < (l0.length : Int) := of_decide_eq_true (by first | (with_reducible assumption) | assumption); obtain ⟨ad346, e346, hx346_0⟩ := Kd.at_int HR0.out x4_1 p346 q346; obtain rfl : ad344 = ad346 := (by injection e346); replace hx346_0 := (HB.out.cell (World.block_lt_of_cell? w _ hx346_0)).trans hx346_0; replace p346 := eq_true p346; replace q346 := eq_true q346
            go_wp2_with (first | ((with_reducible refine gate_builtin (b := .append) (xs := #[.tmp 36, .tmp 41]) rfl ?_); (try (refine gate_guard (by rfl) ?_; dsimp only)); at_builtin; refine Kd.R_append (Kd.int .i64) (w0 := w) w.heap.size rfl (.tmp 36) (.tmp 41) 37 3 (.int .i64 0) 8 rfl Tryd.underlying37 info3 rfl (by decide) (by omega) u3 x3_1 (rd l0 x4_1) [.int .i64 (rd l0 x4_1)] (fun _ => True) (fun _ => False) rfl rfl ?aP (fun _ hk => hk.elim) ?aF ?aO ?aB ?aS ?aL ?_; (case aP => exact rfl); (case aB => exact (hb0 HB)); (case aF => exact (fun _ _ => trivial)); (case aO => exact (rx HO_3)); (case aS => exact (below_size (hb0 HB))); (case aL => have := LMc12.out; omega); intro v348 w13 ho hb hg hat; rw [← Ny347.out] at ho; have n0_ := Aside0.mk (hb); have n1_ := Aside0.mk (ho); clear HB; clear HO_3; have HB := n0_; have HO349 := n1_; clear n0_ n1_; clear ho hb hg hat))
            go_roundg kj4
            case measure => have := HK1.out; have := HJ4.out; omega
            case rel => exact ⟨(y347), (wrap64 (x4_1 + 1)), (by first | rfl | (simp; done) | (simp [*]; done)), H', ⟨by have := HK1.out; have := HJ4.out; omega⟩, ⟨rx HO349⟩, ⟨hb0 HB⟩⟩
           ·rw [if_neg c12] at H; exact absurd H (by simp)
          ·rw [if_neg c11] at H; have c11b0 : decide ((rd l0 x4_1) ≤ 999999999) = false := decide_eq_false c11; clear c11; have H' := Aside0.mk H; clear H; have p344 : 0 ≤ (x4_1 : Int) := of_decide_eq_true (by first | (with_reducible assumption) | assumption); have q344 : x4_1 < (l0.length : Int) := of_decide_eq_true (by first | (with_reducible assumption) | assumption); obtain ⟨ad344, e344, hx344_0⟩ := Kd.at_int HR0.out x4_1 p344 q344
           cases e344
           replace hx344_0 := (HB.out.cell (World.block_lt_of_cell? w _ hx344_0)).trans hx344_0; replace p344 := eq_true p344; replace q344 := eq_true q344; have p345 : 0 ≤ (x4_1 : Int) := of_decide_eq_true (by first | (with_reducible assumption) | assumption); have q345 : x4_1 < (l0.length : Int) := of_decide_eq_true (by first | (with_reducible assumption) | assumption); obtain ⟨ad345, e345, hx345_0⟩ := Kd.at_int HR0.out x4_1 p345 q345; obtain rfl : ad344 = ad345 := (by injection e345); replace hx345_0 := (HB.out.cell (World.block_lt_of_cell? w _ hx345_0)).trans hx345_0; replace p345 := eq_true p345; replace q345 := eq_true q345
           go_wp2
           go_roundg kj4
           case measure => have := HK1.out; have := HJ4.out; omega
           case rel => exact ⟨(x3_1), (wrap64 (x4_1 + 1)), (by first | rfl | (simp; done) | (simp [*]; done)), H', ⟨by have := HK1.out; have := HJ4.out; omega⟩, ⟨rx HO_3⟩, ⟨hb0 HB⟩⟩
         ·rw [if_neg c10] at H; have c10b0 : decide (0 ≤ (rd l0 x4_1)) = false := decide_eq_false c10; clear c10; have H' := Aside0.mk H; clear H; have p344 : 0 ≤ (x4_1 : Int) := of_decide_eq_true (by first | (with_reducible assumption) | assumption); have q344 : x4_1 < (l0.length : Int) := of_decide_eq_true (by first | (with_reducible assumption) | assumption); obtain ⟨ad344, e344, hx344_0⟩ := Kd.at_int HR0.out x4_1 p344 q344
          cases e344
          replace hx344_0 := (HB.out.cell (World.block_lt_of_cell? w _ hx344_0)).trans hx344_0; replace p344 := eq_true p344; replace q344 := eq_true q344
          go_wp2
          go_roundg kj4
          case measure => have := HK1.out; have := HJ4.out; omega
          case rel => exact ⟨(x3_1), (wrap64 (x4_1 + 1)), (by first | rfl | (simp; done) | (simp [*]; done)), H', ⟨by have := HK1.out; have := HJ4.out; omega⟩, ⟨rx HO_3⟩, ⟨hb0 HB⟩⟩
        ·rw [if_neg c9] at H; exact absurd H (by simp)
       ·rw [if_neg c8] at H; exact absurd H (by simp)
      ·replace c7 := Bool.eq_false_iff.mpr c7; subst c7; rw [if_neg (show ¬ (false = true) by decide)] at H; replace H := Option.bind_eq_some_iff.mp H; obtain ⟨t350, A140, H⟩ := H; (try dsimp only at H); have A14 := Aside0.mk A140; clear A140; replace H := Option.bind_eq_some_iff.mp H; obtain ⟨⟨t351, t352, t353⟩, A150, H⟩ := H; (try dsimp only at H); have A15 := Aside0.mk A150; clear A150; have HC16 := Aside0.mk H; clear H; obtain ⟨Ao17, co17, eo17⟩ := Kd.R_slice HO_3.out; subst eo17
       go_upto_region 11 with (first | ((with_reducible refine gate_callee (f := 15) rfl ?_); refine gl_ (some 44) Tryd.func15 #[.slice Ao17 x3_1.length co17] ?_; (with_reducible refine (nums_Line.calls kj4 _ _ x3_1 t350 _ ?sideT ?side1 ?side2 A14.out).mono ?_); (case sideT => exact tb HT (hb0 HB)); (case side1 => exact cr HO_3); (case side2 => exact (Kd.R_reads' HO_3.out).2.1); rintro e w18 ⟨rfl, hb⟩; refine ⟨_, rfl, ?_⟩; replace HO_3 := ry HO_3 hb; replace HB := hs (hb0 HB) hb; (try clear hb); (try clear hb2); (try clear hk); (try clear hi)) | (go_at_call 11; (with_reducible refine (nums_scanner_all.calls kj4 t350 t351 t352 t353 _ A15.out).mono ?_); rintro e w19 ⟨v354, rfl, ho0, hb⟩; replace HO_3 := ry HO_3 hb; have HO355 := Aside0.mk (Kd.R_lower ho0 (below_size (hb0 HB))); replace HB := hs (hb0 HB) hb; (try clear hb); (try clear hb2); (try clear hk); (try clear hi); (try clear ho0)))
       (try simp only [Act.put, List.setIfInBounds_toArray, List.set_cons_zero, List.set_cons_succ])
       go_cut [61] (fun v61 wc => ∃ (kq : Nat) (x61_15 : Bool), v61 = .bool x61_15 ∧ Aside0 (tangramlaw01_NumsBack.j2 kq x3_1 t350 t351 x61_15 = some r) ∧ Aside0 (kq ≤ kj4) ∧ Aside0 (Kd.R (Kd.int .i64) 3 wc w.heap.size (fun _ => True) (.slice Ao17 x3_1.length co17) x3_1) ∧ Aside0 (Kd.R k34 34 wc w.heap.size (fun _ => True) v354 t351) ∧ Aside0 (Below w.heap.size w wc))
       case first => as_aux_lemma =>
        have H := HC16.out; clear HC16
        by_cases c20 : t353 = 0
        ·rw [if_pos c20] at H; have c20b0 : (t353 == 0) = true := beq_iff_eq.mpr c20; have c20b1 : (t353 != 0) = false := bne_eq_false_iff_eq.mpr c20; clear c20
         (first | rw [c20b0] | (simp only [i64_w, i32_w]; rw [c20b0]) | skip)
         have H' := Aside0.mk H; clear H; obtain ⟨Ao21, co21, eo21⟩ := Kd.R_slice HO355.out; subst eo21
         go_wp2
         go_meet
         case rel => exact ⟨_, (((t351.length : Int) != (wrap64 ((x3_1.length : Int) + 2)))), (by first | rfl | (simp; done) | (simp [*]; done)), H', ⟨by have := HK1.out; have := HJ4.out; first | omega | exact Nat.le_refl _⟩, ⟨rx HO_3⟩, ⟨rx HO355⟩, ⟨hb0 HB⟩⟩
        ·rw [if_neg c20] at H; have c20b0 : (t353 == 0) = false := beq_eq_false_iff_ne.mpr c20; have c20b1 : (t353 != 0) = true := bne_iff_ne.mpr c20
         (first | rw [c20b0] | (simp only [i64_w, i32_w]; rw [c20b0]) | skip)
         have H' := Aside0.mk H; clear H
         go_wp2
         go_meet
         case rel => exact ⟨_, (true), (by first | rfl | (simp; done) | (simp [*]; done)), H', ⟨by have := HK1.out; have := HJ4.out; first | omega | exact Nat.le_refl _⟩, ⟨rx HO_3⟩, ⟨rx HO355⟩, ⟨hb0 HB⟩⟩
       case rest => as_aux_lemma =>
        clear HC16
        try clear c1
        try clear c2
        try clear p2
        try clear c3
        try clear p3
        try clear q3
        try clear hx3
        try clear c6
        try clear c6b0
        try clear p6
        try clear c7
        try clear c8
        try clear c8b0
        try clear c9
        try clear c9b0
        try clear c10
        try clear c10b0
        try clear c11
        try clear c11b0
        try clear c12
        try clear c15
        try clear c20
        try clear c20b0
        try clear c20b1
        try clear hx344_0
        try clear hx345_0
        try clear hx346_0
        try clear p2
        try clear p344
        try clear p345
        try clear p346
        try clear q344
        try clear q345
        try clear q346
        obtain ⟨kq, x61_15, rfl, HA, HJ15, HO_3, HO_6, HB⟩ := hcut
        cases kq with
        | zero => exact absurd HA.out (by simp [tangramlaw01_NumsBack.j2])
        | succ kj15 =>
         have H := HA.out; clear HA; simp only [tangramlaw01_NumsBack.j2] at H
         by_cases c22 : x61_15 = true
         ·subst c22; rw [if_pos rfl] at H; obtain rfl := Option.some.inj H
          go_wp2
          go_ret
          exact ⟨by first | rfl | (simp [errW_none, errW_some] <;> rfl) | (simp [*, errW_none, errW_some] <;> rfl), hb0 HB⟩
         ·replace c22 := Bool.eq_false_iff.mpr c22; subst c22; rw [if_neg (show ¬ (false = true) by decide)] at H; have H' := Aside0.mk H; clear H
          go_wp2
          go_loopg [9, 10] kj15 (fun kq v9 v10 w' => ∃ (x9_4 : Int) (x10_4 : Int), v9 = .int .i64 x9_4 ∧ v10 = .int .i64 x10_4 ∧ Aside0 (tangramlaw01_NumsBack.l1 kq x3_1 t350 t351 x9_4 x10_4 = some r) ∧ Aside0 (kq ≤ kj15) ∧ Aside0 (Kd.R (Kd.int .i64) 3 w' w.heap.size (fun _ => True) (.slice Ao17 x3_1.length co17) x3_1) ∧ Aside0 (Kd.R k34 34 w' w.heap.size (fun _ => True) v354 t351) ∧ Aside0 (Below w.heap.size w w'))
          case atStart => exact ⟨(0), (0), (by first | rfl | (simp; done) | (simp [*]; done)), (by first | rfl | (simp; done) | (simp [*]; done)), H', ⟨Nat.le_refl _⟩, ⟨rx HO_3⟩, ⟨rx HO_6⟩, ⟨hb0 HB⟩⟩
          case round =>
           clear H'
           try clear c1
           try clear c2
           try clear p2
           try clear c3
           try clear p3
           try clear q3
           try clear hx3
           try clear c6
           try clear c6b0
           try clear p6
           try clear c7
           try clear c8
           try clear c8b0
           try clear c9
           try clear c9b0
           try clear c10
           try clear c10b0
           try clear c11
           try clear c11b0
           try clear c12
           try clear c15
           try clear c20
           try clear c20b0
           try clear c20b1
           try clear c22
           try clear hx344_0
           try clear hx345_0
           try clear hx346_0
           try clear p2
           try clear p3
           try clear p344
           try clear p345
           try clear p346
           try clear p6
           try clear q3
           try clear q344
           try clear q345
           try clear q346
           obtain ⟨x9_4, x10_4, rfl, rfl, HA, HK4, HO_3, HO_6, HB⟩ := hrel
           cases gk with
           | zero => exact absurd HA.out (by simp [tangramlaw01_NumsBack.l1])
           | succ k4 =>
            have H := HA.out; clear HA; simp only [tangramlaw01_NumsBack.l1] at H
            by_cases c23 : x10_4 < (x3_1.length : Int)
            ·rw [if_pos c23] at H; have c23b0 : decide (x10_4 < (x3_1.length : Int)) = true := decide_eq_true c23; clear c23
             by_cases c24 : 0 ≤ x10_4
             ·rw [if_pos c24] at H; have c24b0 : decide (0 ≤ x10_4) = true := decide_eq_true c24; clear c24
              by_cases c25 : x10_4 < (t351.length : Int)
              ·rw [if_pos c25] at H; have c25b0 : decide (x10_4 < (t351.length : Int)) = true := decide_eq_true c25; clear c25
               by_cases c26 : ((rd_T34 t351 x10_4).f0) = 1
               ·rw [if_pos c26] at H; have c26b0 : (((rd_T34 t351 x10_4).f0) == 1) = true := beq_iff_eq.mpr c26; have c26b1 : (((rd_T34 t351 x10_4).f0) != 1) = false := bne_eq_false_iff_eq.mpr c26; clear c26
                by_cases c27 : ((rd_T34 t351 x10_4).f3) = (rd x3_1 x10_4)
                ·rw [if_pos c27] at H; have c27b0 : (((rd_T34 t351 x10_4).f3) == (rd x3_1 x10_4)) = true := beq_iff_eq.mpr c27; have c27b1 : (((rd_T34 t351 x10_4).f3) != (rd x3_1 x10_4)) = false := bne_eq_false_iff_eq.mpr c27; clear c27
                 by_cases c28 : ((rd_T34 t351 x10_4).f1) = x9_4
                 ·rw [if_pos c28] at H; have c28b0 : (((rd_T34 t351 x10_4).f1) == x9_4) = true := beq_iff_eq.mpr c28; have c28b1 : (((rd_T34 t351 x10_4).f1) != x9_4) = false := bne_eq_false_iff_eq.mpr c28; clear c28
                  by_cases c29 : ((rd_T34 t351 x10_4).f2) < ((rd_T34 t351 x10_4).f1)
                  ·rw [if_pos c29] at H; have c29b0 : decide (((rd_T34 t351 x10_4).f2) < ((rd_T34 t351 x10_4).f1)) = true := decide_eq_true c29; clear c29; obtain rfl := Option.some.inj H; obtain ⟨Ao30, co30, eo30⟩ := Kd.R_slice HO_6.out; subst eo30; have p356 : 0 ≤ (x10_4 : Int) := of_decide_eq_true (by first | (with_reducible assumption) | assumption); have q356 : x10_4 < (t351.length : Int) := of_decide_eq_true (by first | (with_reducible assumption) | assumption); obtain ⟨ad356, e356, hx356_0, hx356_1, hx356_2, hx356_3⟩ := at_T34 (Kd.R_reads' HO_6.out).2.2 x10_4 p356 q356
                   cases e356
                   replace p356 := eq_true p356; replace q356 := eq_true q356
                   try go_wp2_with (first | ((with_reducible refine gate_dst (N := 11) rfl ?_); (try (refine gate_guard (by rfl) ?_; dsimp only)); refine be_ 11 #[.int .i64 0, .int .i64 0, .int .i64 0, .int .i64 0] 34 ?_; intro gb357 hg w31 hbox hb; replace HO_3 := ry HO_3 hb; replace HO_6 := Aside0.mk (Kd.R_below (Kd.R_elderB (rx HO_6) gb357 (Nat.le_of_eq hg.symm)) hb); have BK357 := Aside0.mk (hbox); have GW357 := wq (hb0 HB) hg; have GE357 := wq (hb0 HB) hg; replace HB := hs (hb0 HB) hb; clear hb hbox hg; have hcz32_0 : w31.cell? ⟨gb357, 0, none⟩ = some (.int .i64 0) := bc BK357 0; have hcz32_1 : w31.cell? ⟨gb357, 1, none⟩ = some (.int .i64 0) := bc BK357 1; have hcz32_2 : w31.cell? ⟨gb357, 2, none⟩ = some (.int .i64 0) := bc BK357 2; have hcz32_3 : w31.cell? ⟨gb357, 3, none⟩ = some (.int .i64 0) := bc BK357 3; have hfz32_0 := blk_frozen BK357.out 0; have hfz32_1 := blk_frozen BK357.out 1; have hfz32_2 := blk_frozen BK357.out 2; have hfz32_3 := blk_frozen BK357.out 3))
                   have n0_ : Aside0 (Kd.R (Kd.int .i64) 3 ((((w31.setCell ⟨gb357, 0, none⟩ (.int .i64 ((rd_T34 t351 x10_4).f0))).setCell ⟨gb357, 1, none⟩ (.int .i64 ((rd_T34 t351 x10_4).f1))).setCell ⟨gb357, 2, none⟩ (.int .i64 ((rd_T34 t351 x10_4).f2))).setCell ⟨gb357, 3, none⟩ (.int .i64 ((rd_T34 t351 x10_4).f3))) w.heap.size (fun _ => True) (.slice Ao17 x3_1.length co17) x3_1) := ⟨Kd.R_mono (rf HO_3 BK357) (fun _ hk => trivial)⟩; have n1_ : Aside0 (Kd.R k34 34 ((((w31.setCell ⟨gb357, 0, none⟩ (.int .i64 ((rd_T34 t351 x10_4).f0))).setCell ⟨gb357, 1, none⟩ (.int .i64 ((rd_T34 t351 x10_4).f1))).setCell ⟨gb357, 2, none⟩ (.int .i64 ((rd_T34 t351 x10_4).f2))).setCell ⟨gb357, 3, none⟩ (.int .i64 ((rd_T34 t351 x10_4).f3))) w.heap.size (fun k_ => k_ ≠ gb357) (.slice (some ad356) t351.length co30) t351) := ⟨by (with_reducible repeat (first | apply Kd.R_alloc | apply Kd.R_drewN | apply Kd.R_drew)); exact Kd.R_mono (Kd.R_far (p := ⟨gb357, 3, none⟩) (Kd.R_far (p := ⟨gb357, 2, none⟩) (Kd.R_far (p := ⟨gb357, 1, none⟩) (Kd.R_far (p := ⟨gb357, 0, none⟩) (Kd.R_mono HO_6.out (fun k_ hk => (⟨hk, hk.2⟩ : _ ∧ k_ ≠ gb357))) (fun _ hk => hk.2) (.int .i64 ((rd_T34 t351 x10_4).f0))) (fun _ hk => hk.2) (.int .i64 ((rd_T34 t351 x10_4).f1))) (fun _ hk => hk.2) (.int .i64 ((rd_T34 t351 x10_4).f2))) (fun _ hk => hk.2) (.int .i64 ((rd_T34 t351 x10_4).f3))) (fun _ hk => hk.1.2)⟩; have n2_ : Aside0 (((((w31.setCell ⟨gb357, 0, none⟩ (.int .i64 ((rd_T34 t351 x10_4).f0))).setCell ⟨gb357, 1, none⟩ (.int .i64 ((rd_T34 t351 x10_4).f1))).setCell ⟨gb357, 2, none⟩ (.int .i64 ((rd_T34 t351 x10_4).f2))).setCell ⟨gb357, 3, none⟩ (.int .i64 ((rd_T34 t351 x10_4).f3))).heap[gb357]? = some (.cells #[.int .i64 ((rd_T34 t351 x10_4).f0), .int .i64 ((rd_T34 t351 x10_4).f1), .int .i64 ((rd_T34 t351 x10_4).f2), .int .i64 ((rd_T34 t351 x10_4).f3)] 34 (0, 0))) := ⟨bp BK357⟩
                   have n3_ : Aside0 (Below w.heap.size w ((((w31.setCell ⟨gb357, 0, none⟩ (.int .i64 ((rd_T34 t351 x10_4).f0))).setCell ⟨gb357, 1, none⟩ (.int .i64 ((rd_T34 t351 x10_4).f1))).setCell ⟨gb357, 2, none⟩ (.int .i64 ((rd_T34 t351 x10_4).f2))).setCell ⟨gb357, 3, none⟩ (.int .i64 ((rd_T34 t351 x10_4).f3)))) := ⟨hb1 HB GE357⟩
                   (try clear HO_3)
                   (try clear HO_6)
                   (try clear BK357)
                   (try clear HB)
                   generalize ((((w31.setCell ⟨gb357, 0, none⟩ (.int .i64 ((rd_T34 t351 x10_4).f0))).setCell ⟨gb357, 1, none⟩ (.int .i64 ((rd_T34 t351 x10_4).f1))).setCell ⟨gb357, 2, none⟩ (.int .i64 ((rd_T34 t351 x10_4).f2))).setCell ⟨gb357, 3, none⟩ (.int .i64 ((rd_T34 t351 x10_4).f3))) = w33 at n0_ n1_ n2_ n3_ ⊢; have HO_3 := n0_; have HO_6 := n1_; have BK357 := n2_; have HB := n3_; clear n0_ n1_ n2_ n3_; replace HO_3 := rd HO_3; replace HO_6 := rd HO_6; replace BK357 := bd BK357; replace HB := Aside0.mk (below_drew1 HB.out); have p358 : 0 ≤ (x10_4 : Int) := of_decide_eq_true (by first | (with_reducible assumption) | assumption); have q358 : x10_4 < (x3_1.length : Int) := of_decide_eq_true (by first | (with_reducible assumption) | assumption); obtain ⟨ad358, e358, hx358_0⟩ := Kd.at_int (Kd.R_reads' HO_3.out).2.2 x10_4 p358 q358
                   cases e358
                   replace p358 := eq_true p358; replace q358 := eq_true q358; refine start_ (n := 46) (S := fun w' => w'.cell? ⟨gb357, 0, none⟩ = some (.int .i64 ((rd_T34 t351 x10_4).f0)) ∧ w'.cell? ⟨gb357, 1, none⟩ = some (.int .i64 ((rd_T34 t351 x10_4).f1)) ∧ w'.cell? ⟨gb357, 2, none⟩ = some (.int .i64 ((rd_T34 t351 x10_4).f2)) ∧ w'.cell? ⟨gb357, 3, none⟩ = some (.int .i64 ((rd_T34 t351 x10_4).f3)) ∧ w'.cell? (ad358.add (x10_4).toNat) = some (.int .i64 (rd x3_1 x10_4))) (ds := []) (pf 0 46) (by kernel_rfl) rfl rfl ⟨bc BK357 0, bc BK357 1, bc BK357 2, bc BK357 3, hx358_0⟩ (fun hHeld => ?_); refine with_tabW tangramlaw01_NumsBack.tab18 tangramlaw01_NumsBack.bits18 (fun HT_ HW_ => ?_); generalize w33.drew = w34 at HO_3 HO_6 BK357 HB hx358_0 hHeld ⊢; refine pu_ 0 (some 72) (pf 1 46) HT_ ?_; refine tk5_ 1 (some 73) (pf 2 46) HT_ HW_ hHeld ?_; refine pu_ 2 (some 74) (pf 3 46) HT_ ?_; refine pu_ 3 (some 75) (pf 4 46) HT_ ?_
                   refine pu_ 4 (some 76) (pf 5 46) HT_ ?_; refine pu_ 6 (some 78) #[T_,T_,T_,T_,T_,F_,T_,F_,F_,F_,F_,F_,F_,F_,F_,F_,F_,F_,F_,F_,F_,F_,F_,F_,F_,F_,F_,F_,F_,F_,F_,F_,F_,F_,F_,F_,F_,F_,F_,F_,F_,F_,F_,F_,F_,F_] HT_ ?_; refine pu_ 7 (some 79) #[T_,T_,T_,T_,T_,F_,T_,T_,F_,F_,F_,F_,F_,F_,F_,F_,F_,F_,F_,F_,F_,F_,F_,F_,F_,F_,F_,F_,F_,F_,F_,F_,F_,F_,F_,F_,F_,F_,F_,F_,F_,F_,F_,F_,F_,F_] HT_ ?_; refine pu_ 8 (some 80) #[T_,T_,T_,T_,T_,F_,T_,T_,T_,F_,F_,F_,F_,F_,F_,F_,F_,F_,F_,F_,F_,F_,F_,F_,F_,F_,F_,F_,F_,F_,F_,F_,F_,F_,F_,F_,F_,F_,F_,F_,F_,F_,F_,F_,F_,F_] HT_ ?_; refine tk5_ 5 (some 77) (pf 9 46) HT_ HW_ hHeld ?_; refine tk5_ 9 (some 81) (pf 10 46) HT_ HW_ hHeld ?_; refine pu_ 10 (some 82) (pf 11 46) HT_ ?_; refine pu_ 11 (some 83) (pf 12 46) HT_ ?_; refine pu_ 12 (some 84) (pf 13 46) HT_ ?_
                   refine pu_ 13 (some 85) (pf 14 46) HT_ ?_; refine pu_ 15 (some 87) #[T_,T_,T_,T_,T_,T_,T_,T_,T_,T_,T_,T_,T_,T_,F_,T_,F_,F_,F_,F_,F_,F_,F_,F_,F_,F_,F_,F_,F_,F_,F_,F_,F_,F_,F_,F_,F_,F_,F_,F_,F_,F_,F_,F_,F_,F_] HT_ ?_; refine tk5_ 14 (some 86) (pf 16 46) HT_ HW_ hHeld ?_; refine pu_ 16 (some 88) (pf 17 46) HT_ ?_; refine pu_ 17 (some 89) (pf 18 46) HT_ ?_; refine pu_ 18 (some 90) (pf 19 46) HT_ ?_; refine pu_ 19 (some 91) (pf 20 46) HT_ ?_; refine pu_ 21 (some 93) #[T_,T_,T_,T_,T_,T_,T_,T_,T_,T_,T_,T_,T_,T_,T_,T_,T_,T_,T_,T_,F_,T_,F_,F_,F_,F_,F_,F_,F_,F_,F_,F_,F_,F_,F_,F_,F_,F_,F_,F_,F_,F_,F_,F_,F_,F_] HT_ ?_; refine tk5_ 20 (some 92) (pf 22 46) HT_ HW_ hHeld ?_
                   refine tk5_ 22 (some 94) (pf 23 46) HT_ HW_ hHeld ?_; refine pu_ 23 (some 95) (pf 24 46) HT_ ?_; refine pu_ 24 (some 96) (pf 25 46) HT_ ?_; refine pu_ 25 (some 97) (pf 26 46) HT_ ?_; refine pn_ 26 (some 98) (pf 27 46) HT_ ?_; refine pn_ 27 (some 99) (pf 28 46) HT_ ?_; refine pn_ 28 (some 100) (pf 29 46) HT_ ?_; refine pn_ 29 (some 101) (pf 30 46) HT_ ?_; refine pn_ 30 (some 102) (pf 31 46) HT_ ?_
                   refine pu_ 31 (some 103) (pf 32 46) HT_ ?_; refine pu_ 32 (some 104) (pf 33 46) HT_ ?_; refine pn_ 33 (some 105) (pf 34 46) HT_ ?_; refine pn_ 34 (some 106) (pf 35 46) HT_ ?_; refine pn_ 35 (some 107) (pf 36 46) HT_ ?_; refine pn_ 36 (some 108) (pf 37 46) HT_ ?_; refine pn_ 37 (some 109) (pf 38 46) HT_ ?_; refine pn_ 38 (some 110) (pf 39 46) HT_ ?_; refine pn_ 39 (some 111) (pf 40 46) HT_ ?_
                   refine pn_ 40 (some 112) (pf 41 46) HT_ ?_; refine pn_ 41 (some 113) (pf 42 46) HT_ ?_; refine pn_ 42 (some 114) (pf 43 46) HT_ ?_; refine pn_ 43 (some 115) (pf 44 46) HT_ ?_; refine pn_ 44 (some 116) (pf 45 46) HT_ ?_; refine pu_ 45 (some 117) (pf 46 46) HT_ ?_; refine done_ (done_of HT_.out (by kernel_rfl)) ?_
                   try go_wp2
                   go_ret
                   exact ⟨by first | rfl | (simp [errW_none, errW_some] <;> rfl) | (simp [*, errW_none, errW_some] <;> rfl), hb1 HB GE357⟩
                  ·rw [if_neg c29] at H; have c29b0 : decide (((rd_T34 t351 x10_4).f2) < ((rd_T34 t351 x10_4).f1)) = false := decide_eq_false c29; clear c29
                   by_cases c35 : ((rd_T34 t351 x10_4).f2) > (t350.size : Int)
                   ·rw [if_pos c35] at H; have c35b0 : decide ((t350.size : Int) < ((rd_T34 t351 x10_4).f2)) = true := decide_eq_true c35; clear c35; obtain rfl := Option.some.inj H; obtain ⟨Ao36, co36, eo36⟩ := Kd.R_slice HO_6.out; subst eo36; have p356 : 0 ≤ (x10_4 : Int) := of_decide_eq_true (by first | (with_reducible assumption) | assumption); have q356 : x10_4 < (t351.length : Int) := of_decide_eq_true (by first | (with_reducible assumption) | assumption); obtain ⟨ad356, e356, hx356_0, hx356_1, hx356_2, hx356_3⟩ := at_T34 (Kd.R_reads' HO_6.out).2.2 x10_4 p356 q356
                    cases e356
                    replace p356 := eq_true p356; replace q356 := eq_true q356
                    try go_wp2_with (first | ((with_reducible refine gate_dst (N := 11) rfl ?_); (try (refine gate_guard (by rfl) ?_; dsimp only)); refine be_ 11 #[.int .i64 0, .int .i64 0, .int .i64 0, .int .i64 0] 34 ?_; intro gb357 hg w37 hbox hb; replace HO_3 := ry HO_3 hb; replace HO_6 := Aside0.mk (Kd.R_below (Kd.R_elderB (rx HO_6) gb357 (Nat.le_of_eq hg.symm)) hb); have BK357 := Aside0.mk (hbox); have GW357 := wq (hb0 HB) hg; have GE357 := wq (hb0 HB) hg; replace HB := hs (hb0 HB) hb; clear hb hbox hg; have hcz38_0 : w37.cell? ⟨gb357, 0, none⟩ = some (.int .i64 0) := bc BK357 0; have hcz38_1 : w37.cell? ⟨gb357, 1, none⟩ = some (.int .i64 0) := bc BK357 1; have hcz38_2 : w37.cell? ⟨gb357, 2, none⟩ = some (.int .i64 0) := bc BK357 2; have hcz38_3 : w37.cell? ⟨gb357, 3, none⟩ = some (.int .i64 0) := bc BK357 3; have hfz38_0 := blk_frozen BK357.out 0; have hfz38_1 := blk_frozen BK357.out 1; have hfz38_2 := blk_frozen BK357.out 2; have hfz38_3 := blk_frozen BK357.out 3))
                    have n0_ : Aside0 (Kd.R (Kd.int .i64) 3 ((((w37.setCell ⟨gb357, 0, none⟩ (.int .i64 ((rd_T34 t351 x10_4).f0))).setCell ⟨gb357, 1, none⟩ (.int .i64 ((rd_T34 t351 x10_4).f1))).setCell ⟨gb357, 2, none⟩ (.int .i64 ((rd_T34 t351 x10_4).f2))).setCell ⟨gb357, 3, none⟩ (.int .i64 ((rd_T34 t351 x10_4).f3))) w.heap.size (fun _ => True) (.slice Ao17 x3_1.length co17) x3_1) := ⟨Kd.R_mono (rf HO_3 BK357) (fun _ hk => trivial)⟩; have n1_ : Aside0 (Kd.R k34 34 ((((w37.setCell ⟨gb357, 0, none⟩ (.int .i64 ((rd_T34 t351 x10_4).f0))).setCell ⟨gb357, 1, none⟩ (.int .i64 ((rd_T34 t351 x10_4).f1))).setCell ⟨gb357, 2, none⟩ (.int .i64 ((rd_T34 t351 x10_4).f2))).setCell ⟨gb357, 3, none⟩ (.int .i64 ((rd_T34 t351 x10_4).f3))) w.heap.size (fun k_ => k_ ≠ gb357) (.slice (some ad356) t351.length co36) t351) := ⟨by (with_reducible repeat (first | apply Kd.R_alloc | apply Kd.R_drewN | apply Kd.R_drew)); exact Kd.R_mono (Kd.R_far (p := ⟨gb357, 3, none⟩) (Kd.R_far (p := ⟨gb357, 2, none⟩) (Kd.R_far (p := ⟨gb357, 1, none⟩) (Kd.R_far (p := ⟨gb357, 0, none⟩) (Kd.R_mono HO_6.out (fun k_ hk => (⟨hk, hk.2⟩ : _ ∧ k_ ≠ gb357))) (fun _ hk => hk.2) (.int .i64 ((rd_T34 t351 x10_4).f0))) (fun _ hk => hk.2) (.int .i64 ((rd_T34 t351 x10_4).f1))) (fun _ hk => hk.2) (.int .i64 ((rd_T34 t351 x10_4).f2))) (fun _ hk => hk.2) (.int .i64 ((rd_T34 t351 x10_4).f3))) (fun _ hk => hk.1.2)⟩; have n2_ : Aside0 (((((w37.setCell ⟨gb357, 0, none⟩ (.int .i64 ((rd_T34 t351 x10_4).f0))).setCell ⟨gb357, 1, none⟩ (.int .i64 ((rd_T34 t351 x10_4).f1))).setCell ⟨gb357, 2, none⟩ (.int .i64 ((rd_T34 t351 x10_4).f2))).setCell ⟨gb357, 3, none⟩ (.int .i64 ((rd_T34 t351 x10_4).f3))).heap[gb357]? = some (.cells #[.int .i64 ((rd_T34 t351 x10_4).f0), .int .i64 ((rd_T34 t351 x10_4).f1), .int .i64 ((rd_T34 t351 x10_4).f2), .int .i64 ((rd_T34 t351 x10_4).f3)] 34 (0, 0))) := ⟨bp BK357⟩
                    have n3_ : Aside0 (Below w.heap.size w ((((w37.setCell ⟨gb357, 0, none⟩ (.int .i64 ((rd_T34 t351 x10_4).f0))).setCell ⟨gb357, 1, none⟩ (.int .i64 ((rd_T34 t351 x10_4).f1))).setCell ⟨gb357, 2, none⟩ (.int .i64 ((rd_T34 t351 x10_4).f2))).setCell ⟨gb357, 3, none⟩ (.int .i64 ((rd_T34 t351 x10_4).f3)))) := ⟨hb1 HB GE357⟩
                    (try clear HO_3)
                    (try clear HO_6)
                    (try clear BK357)
                    (try clear HB)
                    generalize ((((w37.setCell ⟨gb357, 0, none⟩ (.int .i64 ((rd_T34 t351 x10_4).f0))).setCell ⟨gb357, 1, none⟩ (.int .i64 ((rd_T34 t351 x10_4).f1))).setCell ⟨gb357, 2, none⟩ (.int .i64 ((rd_T34 t351 x10_4).f2))).setCell ⟨gb357, 3, none⟩ (.int .i64 ((rd_T34 t351 x10_4).f3))) = w39 at n0_ n1_ n2_ n3_ ⊢; have HO_3 := n0_; have HO_6 := n1_; have BK357 := n2_; have HB := n3_; clear n0_ n1_ n2_ n3_; replace HO_3 := rd HO_3; replace HO_6 := rd HO_6; replace BK357 := bd BK357; replace HB := Aside0.mk (below_drew1 HB.out); have p358 : 0 ≤ (x10_4 : Int) := of_decide_eq_true (by first | (with_reducible assumption) | assumption); have q358 : x10_4 < (x3_1.length : Int) := of_decide_eq_true (by first | (with_reducible assumption) | assumption); obtain ⟨ad358, e358, hx358_0⟩ := Kd.at_int (Kd.R_reads' HO_3.out).2.2 x10_4 p358 q358
                    cases e358
                    replace p358 := eq_true p358; replace q358 := eq_true q358; refine start_ (n := 46) (S := fun w' => w'.cell? ⟨gb357, 0, none⟩ = some (.int .i64 ((rd_T34 t351 x10_4).f0)) ∧ w'.cell? ⟨gb357, 1, none⟩ = some (.int .i64 ((rd_T34 t351 x10_4).f1)) ∧ w'.cell? ⟨gb357, 2, none⟩ = some (.int .i64 ((rd_T34 t351 x10_4).f2)) ∧ w'.cell? ⟨gb357, 3, none⟩ = some (.int .i64 ((rd_T34 t351 x10_4).f3)) ∧ w'.cell? (ad358.add (x10_4).toNat) = some (.int .i64 (rd x3_1 x10_4))) (ds := []) (pf 0 46) (by kernel_rfl) rfl rfl ⟨bc BK357 0, bc BK357 1, bc BK357 2, bc BK357 3, hx358_0⟩ (fun hHeld => ?_); refine with_tabW tangramlaw01_NumsBack.tab18 tangramlaw01_NumsBack.bits18 (fun HT_ HW_ => ?_); generalize w39.drew = w40 at HO_3 HO_6 BK357 HB hx358_0 hHeld ⊢; refine pu_ 0 (some 72) (pf 1 46) HT_ ?_; refine tk5_ 1 (some 73) (pf 2 46) HT_ HW_ hHeld ?_; refine pu_ 2 (some 74) (pf 3 46) HT_ ?_; refine pu_ 3 (some 75) (pf 4 46) HT_ ?_
                    refine pu_ 4 (some 76) (pf 5 46) HT_ ?_; refine pu_ 6 (some 78) #[T_,T_,T_,T_,T_,F_,T_,F_,F_,F_,F_,F_,F_,F_,F_,F_,F_,F_,F_,F_,F_,F_,F_,F_,F_,F_,F_,F_,F_,F_,F_,F_,F_,F_,F_,F_,F_,F_,F_,F_,F_,F_,F_,F_,F_,F_] HT_ ?_; refine pu_ 7 (some 79) #[T_,T_,T_,T_,T_,F_,T_,T_,F_,F_,F_,F_,F_,F_,F_,F_,F_,F_,F_,F_,F_,F_,F_,F_,F_,F_,F_,F_,F_,F_,F_,F_,F_,F_,F_,F_,F_,F_,F_,F_,F_,F_,F_,F_,F_,F_] HT_ ?_; refine pu_ 8 (some 80) #[T_,T_,T_,T_,T_,F_,T_,T_,T_,F_,F_,F_,F_,F_,F_,F_,F_,F_,F_,F_,F_,F_,F_,F_,F_,F_,F_,F_,F_,F_,F_,F_,F_,F_,F_,F_,F_,F_,F_,F_,F_,F_,F_,F_,F_,F_] HT_ ?_; refine tk5_ 5 (some 77) (pf 9 46) HT_ HW_ hHeld ?_; refine tk5_ 9 (some 81) (pf 10 46) HT_ HW_ hHeld ?_; refine pu_ 10 (some 82) (pf 11 46) HT_ ?_; refine pu_ 11 (some 83) (pf 12 46) HT_ ?_; refine pu_ 12 (some 84) (pf 13 46) HT_ ?_
                    refine pu_ 13 (some 85) (pf 14 46) HT_ ?_; refine pu_ 15 (some 87) #[T_,T_,T_,T_,T_,T_,T_,T_,T_,T_,T_,T_,T_,T_,F_,T_,F_,F_,F_,F_,F_,F_,F_,F_,F_,F_,F_,F_,F_,F_,F_,F_,F_,F_,F_,F_,F_,F_,F_,F_,F_,F_,F_,F_,F_,F_] HT_ ?_; refine tk5_ 14 (some 86) (pf 16 46) HT_ HW_ hHeld ?_; refine pu_ 16 (some 88) (pf 17 46) HT_ ?_; refine pu_ 17 (some 89) (pf 18 46) HT_ ?_; refine pu_ 18 (some 90) (pf 19 46) HT_ ?_; refine pu_ 19 (some 91) (pf 20 46) HT_ ?_; refine pu_ 21 (some 93) #[T_,T_,T_,T_,T_,T_,T_,T_,T_,T_,T_,T_,T_,T_,T_,T_,T_,T_,T_,T_,F_,T_,F_,F_,F_,F_,F_,F_,F_,F_,F_,F_,F_,F_,F_,F_,F_,F_,F_,F_,F_,F_,F_,F_,F_,F_] HT_ ?_; refine tk5_ 20 (some 92) (pf 22 46) HT_ HW_ hHeld ?_
                    refine tk5_ 22 (some 94) (pf 23 46) HT_ HW_ hHeld ?_; refine pu_ 23 (some 95) (pf 24 46) HT_ ?_; refine pu_ 24 (some 96) (pf 25 46) HT_ ?_; refine pu_ 25 (some 97) (pf 26 46) HT_ ?_; refine pu_ 26 (some 98) (pf 27 46) HT_ ?_; refine pu_ 28 (some 100) #[T_,T_,T_,T_,T_,T_,T_,T_,T_,T_,T_,T_,T_,T_,T_,T_,T_,T_,T_,T_,T_,T_,T_,T_,T_,T_,T_,F_,T_,F_,F_,F_,F_,F_,F_,F_,F_,F_,F_,F_,F_,F_,F_,F_,F_,F_] HT_ ?_; refine pu_ 29 (some 101) #[T_,T_,T_,T_,T_,T_,T_,T_,T_,T_,T_,T_,T_,T_,T_,T_,T_,T_,T_,T_,T_,T_,T_,T_,T_,T_,T_,F_,T_,T_,F_,F_,F_,F_,F_,F_,F_,F_,F_,F_,F_,F_,F_,F_,F_,F_] HT_ ?_; refine tk5_ 27 (some 99) (pf 30 46) HT_ HW_ hHeld ?_; refine pu_ 30 (some 102) (pf 31 46) HT_ ?_
                    refine pu_ 31 (some 103) (pf 32 46) HT_ ?_; refine pu_ 32 (some 104) (pf 33 46) HT_ ?_; refine pn_ 33 (some 105) (pf 34 46) HT_ ?_; refine pn_ 34 (some 106) (pf 35 46) HT_ ?_; refine pn_ 35 (some 107) (pf 36 46) HT_ ?_; refine pn_ 36 (some 108) (pf 37 46) HT_ ?_; refine pn_ 37 (some 109) (pf 38 46) HT_ ?_; refine pn_ 38 (some 110) (pf 39 46) HT_ ?_; refine pn_ 39 (some 111) (pf 40 46) HT_ ?_
                    refine pn_ 40 (some 112) (pf 41 46) HT_ ?_; refine pn_ 41 (some 113) (pf 42 46) HT_ ?_; refine pn_ 42 (some 114) (pf 43 46) HT_ ?_; refine pn_ 43 (some 115) (pf 44 46) HT_ ?_; refine pn_ 44 (some 116) (pf 45 46) HT_ ?_; refine pu_ 45 (some 117) (pf 46 46) HT_ ?_; refine done_ (done_of HT_.out (by kernel_rfl)) ?_
                    try go_wp2
                    go_ret
                    exact ⟨by first | rfl | (simp [errW_none, errW_some] <;> rfl) | (simp [*, errW_none, errW_some] <;> rfl), hb1 HB GE357⟩
                   ·rw [if_neg c35] at H; have c35b0 : decide ((t350.size : Int) < ((rd_T34 t351 x10_4).f2)) = false := decide_eq_false c35; clear c35
                    by_cases c41 : 0 ≤ ((rd_T34 t351 x10_4).f1)
                    ·rw [if_pos c41] at H; have c41b0 := eq_true c41; have c41b1 : decide (0 ≤ ((rd_T34 t351 x10_4).f1)) = true := decide_eq_true c41; clear c41
                     by_cases c42 : ((rd_T34 t351 x10_4).f1) ≤ ((rd_T34 t351 x10_4).f2)
                     ·rw [if_pos c42] at H; have c42b0 := eq_true c42; have c42b1 : decide (((rd_T34 t351 x10_4).f1) ≤ ((rd_T34 t351 x10_4).f2)) = true := decide_eq_true c42; clear c42
                      by_cases c43 : ((rd_T34 t351 x10_4).f2) ≤ (t350.size : Int)
                      ·rw [if_pos c43] at H; have c43b0 := eq_true c43; have c43b1 : decide (((rd_T34 t351 x10_4).f2) ≤ (t350.size : Int)) = true := decide_eq_true c43; clear c43; replace H := Option.bind_eq_some_iff.mp H; obtain ⟨t360, A440, H⟩ := H; (try dsimp only at H); have A44 := Aside0.mk A440; clear A440
                       by_cases c45 : (t350.extract (((rd_T34 t351 x10_4).f1) : Int).toNat (((rd_T34 t351 x10_4).f2) : Int).toNat).toList = t360.toList
                       ·rw [if_pos c45] at H; have c45b0 : ((t350.extract (((rd_T34 t351 x10_4).f1) : Int).toNat (((rd_T34 t351 x10_4).f2) : Int).toNat).toList == t360.toList) = true := beq_iff_eq.mpr c45; have c45b1 : ((t350.extract (((rd_T34 t351 x10_4).f1) : Int).toNat (((rd_T34 t351 x10_4).f2) : Int).toNat).toList != t360.toList) = false := bne_eq_false_iff_eq.mpr c45; clear c45; have H' := Aside0.mk H; clear H; obtain ⟨Ao46, co46, eo46⟩ := Kd.R_slice HO_6.out; subst eo46; have p356 : 0 ≤ (x10_4 : Int) := of_decide_eq_true (by first | (with_reducible assumption) | assumption); have q356 : x10_4 < (t351.length : Int) := of_decide_eq_true (by first | (with_reducible assumption) | assumption); obtain ⟨ad356, e356, hx356_0, hx356_1, hx356_2, hx356_3⟩ := at_T34 (Kd.R_reads' HO_6.out).2.2 x10_4 p356 q356
                        cases e356
                        replace p356 := eq_true p356; replace q356 := eq_true q356
                        try go_wp2_with (first | ((with_reducible refine gate_dst (N := 11) rfl ?_); (try (refine gate_guard (by rfl) ?_; dsimp only)); refine be_ 11 #[.int .i64 0, .int .i64 0, .int .i64 0, .int .i64 0] 34 ?_; intro gb357 hg w47 hbox hb; replace HO_3 := ry HO_3 hb; replace HO_6 := Aside0.mk (Kd.R_below (Kd.R_elderB (rx HO_6) gb357 (Nat.le_of_eq hg.symm)) hb); have BK357 := Aside0.mk (hbox); have GW357 := wq (hb0 HB) hg; have GE357 := wq (hb0 HB) hg; replace HB := hs (hb0 HB) hb; clear hb hbox hg; have hcz48_0 : w47.cell? ⟨gb357, 0, none⟩ = some (.int .i64 0) := bc BK357 0; have hcz48_1 : w47.cell? ⟨gb357, 1, none⟩ = some (.int .i64 0) := bc BK357 1; have hcz48_2 : w47.cell? ⟨gb357, 2, none⟩ = some (.int .i64 0) := bc BK357 2; have hcz48_3 : w47.cell? ⟨gb357, 3, none⟩ = some (.int .i64 0) := bc BK357 3; have hfz48_0 := blk_frozen BK357.out 0; have hfz48_1 := blk_frozen BK357.out 1; have hfz48_2 := blk_frozen BK357.out 2; have hfz48_3 := blk_frozen BK357.out 3))
                        have n0_ : Aside0 (Kd.R (Kd.int .i64) 3 ((((w47.setCell ⟨gb357, 0, none⟩ (.int .i64 ((rd_T34 t351 x10_4).f0))).setCell ⟨gb357, 1, none⟩ (.int .i64 ((rd_T34 t351 x10_4).f1))).setCell ⟨gb357, 2, none⟩ (.int .i64 ((rd_T34 t351 x10_4).f2))).setCell ⟨gb357, 3, none⟩ (.int .i64 ((rd_T34 t351 x10_4).f3))) w.heap.size (fun _ => True) (.slice Ao17 x3_1.length co17) x3_1) := ⟨Kd.R_mono (rf HO_3 BK357) (fun _ hk => trivial)⟩; have n1_ : Aside0 (Kd.R k34 34 ((((w47.setCell ⟨gb357, 0, none⟩ (.int .i64 ((rd_T34 t351 x10_4).f0))).setCell ⟨gb357, 1, none⟩ (.int .i64 ((rd_T34 t351 x10_4).f1))).setCell ⟨gb357, 2, none⟩ (.int .i64 ((rd_T34 t351 x10_4).f2))).setCell ⟨gb357, 3, none⟩ (.int .i64 ((rd_T34 t351 x10_4).f3))) w.heap.size (fun k_ => k_ ≠ gb357) (.slice (some ad356) t351.length co46) t351) := ⟨by (with_reducible repeat (first | apply Kd.R_alloc | apply Kd.R_drewN | apply Kd.R_drew)); exact Kd.R_mono (Kd.R_far (p := ⟨gb357, 3, none⟩) (Kd.R_far (p := ⟨gb357, 2, none⟩) (Kd.R_far (p := ⟨gb357, 1, none⟩) (Kd.R_far (p := ⟨gb357, 0, none⟩) (Kd.R_mono HO_6.out (fun k_ hk => (⟨hk, hk.2⟩ : _ ∧ k_ ≠ gb357))) (fun _ hk => hk.2) (.int .i64 ((rd_T34 t351 x10_4).f0))) (fun _ hk => hk.2) (.int .i64 ((rd_T34 t351 x10_4).f1))) (fun _ hk => hk.2) (.int .i64 ((rd_T34 t351 x10_4).f2))) (fun _ hk => hk.2) (.int .i64 ((rd_T34 t351 x10_4).f3))) (fun _ hk => hk.1.2)⟩; have n2_ : Aside0 (((((w47.setCell ⟨gb357, 0, none⟩ (.int .i64 ((rd_T34 t351 x10_4).f0))).setCell ⟨gb357, 1, none⟩ (.int .i64 ((rd_T34 t351 x10_4).f1))).setCell ⟨gb357, 2, none⟩ (.int .i64 ((rd_T34 t351 x10_4).f2))).setCell ⟨gb357, 3, none⟩ (.int .i64 ((rd_T34 t351 x10_4).f3))).heap[gb357]? = some (.cells #[.int .i64 ((rd_T34 t351 x10_4).f0), .int .i64 ((rd_T34 t351 x10_4).f1), .int .i64 ((rd_T34 t351 x10_4).f2), .int .i64 ((rd_T34 t351 x10_4).f3)] 34 (0, 0))) := ⟨bp BK357⟩
                        have n3_ : Aside0 (Below w.heap.size w ((((w47.setCell ⟨gb357, 0, none⟩ (.int .i64 ((rd_T34 t351 x10_4).f0))).setCell ⟨gb357, 1, none⟩ (.int .i64 ((rd_T34 t351 x10_4).f1))).setCell ⟨gb357, 2, none⟩ (.int .i64 ((rd_T34 t351 x10_4).f2))).setCell ⟨gb357, 3, none⟩ (.int .i64 ((rd_T34 t351 x10_4).f3)))) := ⟨hb1 HB GE357⟩
                        (try clear HO_3)
                        (try clear HO_6)
                        (try clear BK357)
                        (try clear HB)
                        generalize ((((w47.setCell ⟨gb357, 0, none⟩ (.int .i64 ((rd_T34 t351 x10_4).f0))).setCell ⟨gb357, 1, none⟩ (.int .i64 ((rd_T34 t351 x10_4).f1))).setCell ⟨gb357, 2, none⟩ (.int .i64 ((rd_T34 t351 x10_4).f2))).setCell ⟨gb357, 3, none⟩ (.int .i64 ((rd_T34 t351 x10_4).f3))) = w49 at n0_ n1_ n2_ n3_ ⊢; have HO_3 := n0_; have HO_6 := n1_; have BK357 := n2_; have HB := n3_; clear n0_ n1_ n2_ n3_; replace HO_3 := rd HO_3; replace HO_6 := rd HO_6; replace BK357 := bd BK357; replace HB := Aside0.mk (below_drew1 HB.out); have p358 : 0 ≤ (x10_4 : Int) := of_decide_eq_true (by first | (with_reducible assumption) | assumption); have q358 : x10_4 < (x3_1.length : Int) := of_decide_eq_true (by first | (with_reducible assumption) | assumption); obtain ⟨ad358, e358, hx358_0⟩ := Kd.at_int (Kd.R_reads' HO_3.out).2.2 x10_4 p358 q358
                        cases e358
                        replace p358 := eq_true p358; replace q358 := eq_true q358; have p359 : 0 ≤ (x10_4 : Int) := of_decide_eq_true (by first | (with_reducible assumption) | assumption); have q359 : x10_4 < (x3_1.length : Int) := of_decide_eq_true (by first | (with_reducible assumption) | assumption); obtain ⟨ad359, e359, hx359_0⟩ := Kd.at_int (Kd.R_reads' HO_3.out).2.2 x10_4 p359 q359; obtain rfl : ad358 = ad359 := (by injection e359); replace p359 := eq_true p359; replace q359 := eq_true q359; refine start_ (n := 46) (S := fun w' => w'.cell? ⟨gb357, 0, none⟩ = some (.int .i64 ((rd_T34 t351 x10_4).f0)) ∧ w'.cell? ⟨gb357, 1, none⟩ = some (.int .i64 ((rd_T34 t351 x10_4).f1)) ∧ w'.cell? ⟨gb357, 2, none⟩ = some (.int .i64 ((rd_T34 t351 x10_4).f2)) ∧ w'.cell? ⟨gb357, 3, none⟩ = some (.int .i64 ((rd_T34 t351 x10_4).f3)) ∧ w'.cell? (ad358.add (x10_4).toNat) = some (.int .i64 (rd x3_1 x10_4)) ∧ w'.cell? (ad358.add (x10_4).toNat) = some (.int .i64 (rd x3_1 x10_4))) (ds := []) (pf 0 46) (by kernel_rfl) rfl rfl ⟨bc BK357 0, bc BK357 1, bc BK357 2, bc BK357 3, hx358_0, hx359_0⟩ (fun hHeld => ?_); refine with_tabW tangramlaw01_NumsBack.tab18 tangramlaw01_NumsBack.bits18 (fun HT_ HW_ => ?_); generalize w49.drew = w50 at HO_3 HO_6 BK357 HB hx358_0 hx359_0 hHeld ⊢; refine pu_ 0 (some 72) (pf 1 46) HT_ ?_
                        refine tk6_ 1 (some 73) (pf 2 46) HT_ HW_ hHeld ?_; refine pu_ 2 (some 74) (pf 3 46) HT_ ?_; refine pu_ 3 (some 75) (pf 4 46) HT_ ?_; refine pu_ 4 (some 76) (pf 5 46) HT_ ?_; refine pu_ 6 (some 78) #[T_,T_,T_,T_,T_,F_,T_,F_,F_,F_,F_,F_,F_,F_,F_,F_,F_,F_,F_,F_,F_,F_,F_,F_,F_,F_,F_,F_,F_,F_,F_,F_,F_,F_,F_,F_,F_,F_,F_,F_,F_,F_,F_,F_,F_,F_] HT_ ?_; refine pu_ 7 (some 79) #[T_,T_,T_,T_,T_,F_,T_,T_,F_,F_,F_,F_,F_,F_,F_,F_,F_,F_,F_,F_,F_,F_,F_,F_,F_,F_,F_,F_,F_,F_,F_,F_,F_,F_,F_,F_,F_,F_,F_,F_,F_,F_,F_,F_,F_,F_] HT_ ?_; refine pu_ 8 (some 80) #[T_,T_,T_,T_,T_,F_,T_,T_,T_,F_,F_,F_,F_,F_,F_,F_,F_,F_,F_,F_,F_,F_,F_,F_,F_,F_,F_,F_,F_,F_,F_,F_,F_,F_,F_,F_,F_,F_,F_,F_,F_,F_,F_,F_,F_,F_] HT_ ?_; refine tk6_ 5 (some 77) (pf 9 46) HT_ HW_ hHeld ?_; refine tk6_ 9 (some 81) (pf 10 46) HT_ HW_ hHeld ?_
                        refine pu_ 10 (some 82) (pf 11 46) HT_ ?_; refine pu_ 11 (some 83) (pf 12 46) HT_ ?_; refine pu_ 12 (some 84) (pf 13 46) HT_ ?_; refine pu_ 13 (some 85) (pf 14 46) HT_ ?_; refine pu_ 15 (some 87) #[T_,T_,T_,T_,T_,T_,T_,T_,T_,T_,T_,T_,T_,T_,F_,T_,F_,F_,F_,F_,F_,F_,F_,F_,F_,F_,F_,F_,F_,F_,F_,F_,F_,F_,F_,F_,F_,F_,F_,F_,F_,F_,F_,F_,F_,F_] HT_ ?_; refine tk6_ 14 (some 86) (pf 16 46) HT_ HW_ hHeld ?_; refine pu_ 16 (some 88) (pf 17 46) HT_ ?_; refine pu_ 17 (some 89) (pf 18 46) HT_ ?_; refine pu_ 18 (some 90) (pf 19 46) HT_ ?_
                        refine pu_ 19 (some 91) (pf 20 46) HT_ ?_; refine pu_ 21 (some 93) #[T_,T_,T_,T_,T_,T_,T_,T_,T_,T_,T_,T_,T_,T_,T_,T_,T_,T_,T_,T_,F_,T_,F_,F_,F_,F_,F_,F_,F_,F_,F_,F_,F_,F_,F_,F_,F_,F_,F_,F_,F_,F_,F_,F_,F_,F_] HT_ ?_; refine tk6_ 20 (some 92) (pf 22 46) HT_ HW_ hHeld ?_; refine tk6_ 22 (some 94) (pf 23 46) HT_ HW_ hHeld ?_; refine pu_ 23 (some 95) (pf 24 46) HT_ ?_; refine pu_ 24 (some 96) (pf 25 46) HT_ ?_; refine pu_ 25 (some 97) (pf 26 46) HT_ ?_; refine pu_ 26 (some 98) (pf 27 46) HT_ ?_; refine pu_ 28 (some 100) #[T_,T_,T_,T_,T_,T_,T_,T_,T_,T_,T_,T_,T_,T_,T_,T_,T_,T_,T_,T_,T_,T_,T_,T_,T_,T_,T_,F_,T_,F_,F_,F_,F_,F_,F_,F_,F_,F_,F_,F_,F_,F_,F_,F_,F_,F_] HT_ ?_
                        refine pu_ 29 (some 101) #[T_,T_,T_,T_,T_,T_,T_,T_,T_,T_,T_,T_,T_,T_,T_,T_,T_,T_,T_,T_,T_,T_,T_,T_,T_,T_,T_,F_,T_,T_,F_,F_,F_,F_,F_,F_,F_,F_,F_,F_,F_,F_,F_,F_,F_,F_] HT_ ?_; refine tk6_ 27 (some 99) (pf 30 46) HT_ HW_ hHeld ?_; refine pu_ 30 (some 102) (pf 31 46) HT_ ?_; refine pu_ 31 (some 103) (pf 32 46) HT_ ?_; refine pu_ 32 (some 104) (pf 33 46) HT_ ?_; refine pu_ 33 (some 105) (pf 34 46) HT_ ?_; refine pu_ 34 (some 106) (pf 35 46) HT_ ?_; refine pu_ 36 (some 108) #[T_,T_,T_,T_,T_,T_,T_,T_,T_,T_,T_,T_,T_,T_,T_,T_,T_,T_,T_,T_,T_,T_,T_,T_,T_,T_,T_,T_,T_,T_,T_,T_,T_,T_,T_,F_,T_,F_,F_,F_,F_,F_,F_,F_,F_,F_] HT_ ?_; refine pu_ 39 (some 111) #[T_,T_,T_,T_,T_,T_,T_,T_,T_,T_,T_,T_,T_,T_,T_,T_,T_,T_,T_,T_,T_,T_,T_,T_,T_,T_,T_,T_,T_,T_,T_,T_,T_,T_,T_,F_,T_,F_,F_,T_,F_,F_,F_,F_,F_,F_] HT_ ?_
                        refine pu_ 40 (some 112) #[T_,T_,T_,T_,T_,T_,T_,T_,T_,T_,T_,T_,T_,T_,T_,T_,T_,T_,T_,T_,T_,T_,T_,T_,T_,T_,T_,T_,T_,T_,T_,T_,T_,T_,T_,F_,T_,F_,F_,T_,T_,F_,F_,F_,F_,F_] HT_ ?_; refine pu_ 41 (some 113) #[T_,T_,T_,T_,T_,T_,T_,T_,T_,T_,T_,T_,T_,T_,T_,T_,T_,T_,T_,T_,T_,T_,T_,T_,T_,T_,T_,T_,T_,T_,T_,T_,T_,T_,T_,F_,T_,F_,F_,T_,T_,T_,F_,F_,F_,F_] HT_ ?_; refine tk6_ 35 (some 107) #[T_,T_,T_,T_,T_,T_,T_,T_,T_,T_,T_,T_,T_,T_,T_,T_,T_,T_,T_,T_,T_,T_,T_,T_,T_,T_,T_,T_,T_,T_,T_,T_,T_,T_,T_,T_,T_,F_,F_,T_,T_,T_,F_,F_,F_,F_] HT_ HW_ hHeld ?_; refine tk6_ 37 (some 109) #[T_,T_,T_,T_,T_,T_,T_,T_,T_,T_,T_,T_,T_,T_,T_,T_,T_,T_,T_,T_,T_,T_,T_,T_,T_,T_,T_,T_,T_,T_,T_,T_,T_,T_,T_,T_,T_,T_,F_,T_,T_,T_,F_,F_,F_,F_] HT_ HW_ hHeld ?_; refine pu_ 38 (some 110) (pf 42 46) HT_ ?_; refine tk6_ 42 (some 114) (pf 43 46) HT_ HW_ hHeld ?_; refine on_ 43 (some 115) (pf 44 46) HT_ (fun K hK => ?_); refine gs_ Tryd.func14 #[.int .i64 (rd x3_1 x10_4)] ?_
                        with_reducible refine (nums_Text.calls k4 (rd x3_1 x10_4) t360 _ (tb HT HB.out) A44.out).mono ?_
                        rintro e w51 ⟨rfl, hb⟩; have HS4_ := (hb.cell (World.block_lt_of_cell? _ _ (hHeld.2.2.2.2.1))).trans (hHeld.2.2.2.2.1); have HS5_ := (hb.cell (World.block_lt_of_cell? _ _ (hHeld.2.2.2.2.2))).trans (hHeld.2.2.2.2.2); refine ⟨_, rfl, ?_⟩; replace HO_3 := ry HO_3 hb; replace HO_6 := ry HO_6 hb; replace BK357 := kx BK357 hb; replace HB := hs (hb1 HB GE357) hb
                        (try clear hb)
                        (try clear hb2)
                        (try clear hk)
                        (try clear hi)
                        refine hK.out _ _ ⟨bc BK357 0, bc BK357 1, bc BK357 2, bc BK357 3, HS4_, HS5_⟩ (fun hHeld => ?_); clear hK K; refine nm_ (some 115) ?_; refine pu_ 44 (some 116) (pf 45 46) HT_ ?_; refine pu_ 45 (some 117) (pf 46 46) HT_ ?_; refine done_ (done_of HT_.out (by kernel_rfl)) ?_; have hcz52_0 : w51.cell? ⟨gb357, 0, none⟩ = some (.int .i64 ((rd_T34 t351 x10_4).f0)) := bc BK357 0; have hcz52_1 : w51.cell? ⟨gb357, 1, none⟩ = some (.int .i64 ((rd_T34 t351 x10_4).f1)) := bc BK357 1; have hcz52_2 : w51.cell? ⟨gb357, 2, none⟩ = some (.int .i64 ((rd_T34 t351 x10_4).f2)) := bc BK357 2; have hcz52_3 : w51.cell? ⟨gb357, 3, none⟩ = some (.int .i64 ((rd_T34 t351 x10_4).f3)) := bc BK357 3; have hfz52_0 := blk_frozen BK357.out 0; have hfz52_1 := blk_frozen BK357.out 1; have hfz52_2 := blk_frozen BK357.out 2; have hfz52_3 := blk_frozen BK357.out 3
                        try go_wp2
                        go_roundg k4
                        case measure => have := HK1.out; have := HJ4.out; have := HJ15.out; have := HK4.out; omega
                        case rel => exact ⟨(wrap64 (((rd_T34 t351 x10_4).f2) + 1)), (wrap64 (x10_4 + 1)), (by first | rfl | (simp; done) | (simp [*]; done)), (by first | rfl | (simp; done) | (simp [*]; done)), H', ⟨by have := HK1.out; have := HJ4.out; have := HJ15.out; have := HK4.out; omega⟩, ⟨rx HO_3⟩, ⟨Kd.R_mono (rx HO_6) (fun _ hk => trivial)⟩, ⟨hb1 HB GE357⟩⟩
                       ·rw [if_neg c45] at H; have c45b0 : ((t350.extract (((rd_T34 t351 x10_4).f1) : Int).toNat (((rd_T34 t351 x10_4).f2) : Int).toNat).toList == t360.toList) = false := beq_eq_false_iff_ne.mpr c45; have c45b1 : ((t350.extract (((rd_T34 t351 x10_4).f1) : Int).toNat (((rd_T34 t351 x10_4).f2) : Int).toNat).toList != t360.toList) = true := bne_iff_ne.mpr c45; obtain rfl := Option.some.inj H; obtain ⟨Ao53, co53, eo53⟩ := Kd.R_slice HO_6.out; subst eo53; have p356 : 0 ≤ (x10_4 : Int) := of_decide_eq_true (by first | (with_reducible assumption) | assumption); have q356 : x10_4 < (t351.length : Int) := of_decide_eq_true (by first | (with_reducible assumption) | assumption); obtain ⟨ad356, e356, hx356_0, hx356_1, hx356_2, hx356_3⟩ := at_T34 (Kd.R_reads' HO_6.out).2.2 x10_4 p356 q356
                        cases e356
                        replace p356 := eq_true p356; replace q356 := eq_true q356
                        try go_wp2_with (first | ((with_reducible refine gate_dst (N := 11) rfl ?_); (try (refine gate_guard (by rfl) ?_; dsimp only)); refine be_ 11 #[.int .i64 0, .int .i64 0, .int .i64 0, .int .i64 0] 34 ?_; intro gb357 hg w54 hbox hb; replace HO_3 := ry HO_3 hb; replace HO_6 := Aside0.mk (Kd.R_below (Kd.R_elderB (rx HO_6) gb357 (Nat.le_of_eq hg.symm)) hb); have BK357 := Aside0.mk (hbox); have GW357 := wq (hb0 HB) hg; have GE357 := wq (hb0 HB) hg; replace HB := hs (hb0 HB) hb; clear hb hbox hg; have hcz55_0 : w54.cell? ⟨gb357, 0, none⟩ = some (.int .i64 0) := bc BK357 0; have hcz55_1 : w54.cell? ⟨gb357, 1, none⟩ = some (.int .i64 0) := bc BK357 1; have hcz55_2 : w54.cell? ⟨gb357, 2, none⟩ = some (.int .i64 0) := bc BK357 2; have hcz55_3 : w54.cell? ⟨gb357, 3, none⟩ = some (.int .i64 0) := bc BK357 3; have hfz55_0 := blk_frozen BK357.out 0; have hfz55_1 := blk_frozen BK357.out 1; have hfz55_2 := blk_frozen BK357.out 2; have hfz55_3 := blk_frozen BK357.out 3))
                        have n0_ : Aside0 (Kd.R (Kd.int .i64) 3 ((((w54.setCell ⟨gb357, 0, none⟩ (.int .i64 ((rd_T34 t351 x10_4).f0))).setCell ⟨gb357, 1, none⟩ (.int .i64 ((rd_T34 t351 x10_4).f1))).setCell ⟨gb357, 2, none⟩ (.int .i64 ((rd_T34 t351 x10_4).f2))).setCell ⟨gb357, 3, none⟩ (.int .i64 ((rd_T34 t351 x10_4).f3))) w.heap.size (fun _ => True) (.slice Ao17 x3_1.length co17) x3_1) := ⟨Kd.R_mono (rf HO_3 BK357) (fun _ hk => trivial)⟩; have n1_ : Aside0 (Kd.R k34 34 ((((w54.setCell ⟨gb357, 0, none⟩ (.int .i64 ((rd_T34 t351 x10_4).f0))).setCell ⟨gb357, 1, none⟩ (.int .i64 ((rd_T34 t351 x10_4).f1))).setCell ⟨gb357, 2, none⟩ (.int .i64 ((rd_T34 t351 x10_4).f2))).setCell ⟨gb357, 3, none⟩ (.int .i64 ((rd_T34 t351 x10_4).f3))) w.heap.size (fun k_ => k_ ≠ gb357) (.slice (some ad356) t351.length co53) t351) := ⟨by (with_reducible repeat (first | apply Kd.R_alloc | apply Kd.R_drewN | apply Kd.R_drew)); exact Kd.R_mono (Kd.R_far (p := ⟨gb357, 3, none⟩) (Kd.R_far (p := ⟨gb357, 2, none⟩) (Kd.R_far (p := ⟨gb357, 1, none⟩) (Kd.R_far (p := ⟨gb357, 0, none⟩) (Kd.R_mono HO_6.out (fun k_ hk => (⟨hk, hk.2⟩ : _ ∧ k_ ≠ gb357))) (fun _ hk => hk.2) (.int .i64 ((rd_T34 t351 x10_4).f0))) (fun _ hk => hk.2) (.int .i64 ((rd_T34 t351 x10_4).f1))) (fun _ hk => hk.2) (.int .i64 ((rd_T34 t351 x10_4).f2))) (fun _ hk => hk.2) (.int .i64 ((rd_T34 t351 x10_4).f3))) (fun _ hk => hk.1.2)⟩; have n2_ : Aside0 (((((w54.setCell ⟨gb357, 0, none⟩ (.int .i64 ((rd_T34 t351 x10_4).f0))).setCell ⟨gb357, 1, none⟩ (.int .i64 ((rd_T34 t351 x10_4).f1))).setCell ⟨gb357, 2, none⟩ (.int .i64 ((rd_T34 t351 x10_4).f2))).setCell ⟨gb357, 3, none⟩ (.int .i64 ((rd_T34 t351 x10_4).f3))).heap[gb357]? = some (.cells #[.int .i64 ((rd_T34 t351 x10_4).f0), .int .i64 ((rd_T34 t351 x10_4).f1), .int .i64 ((rd_T34 t351 x10_4).f2), .int .i64 ((rd_T34 t351 x10_4).f3)] 34 (0, 0))) := ⟨bp BK357⟩
                        have n3_ : Aside0 (Below w.heap.size w ((((w54.setCell ⟨gb357, 0, none⟩ (.int .i64 ((rd_T34 t351 x10_4).f0))).setCell ⟨gb357, 1, none⟩ (.int .i64 ((rd_T34 t351 x10_4).f1))).setCell ⟨gb357, 2, none⟩ (.int .i64 ((rd_T34 t351 x10_4).f2))).setCell ⟨gb357, 3, none⟩ (.int .i64 ((rd_T34 t351 x10_4).f3)))) := ⟨hb1 HB GE357⟩
                        (try clear HO_3)
                        (try clear HO_6)
                        (try clear BK357)
                        (try clear HB)
                        generalize ((((w54.setCell ⟨gb357, 0, none⟩ (.int .i64 ((rd_T34 t351 x10_4).f0))).setCell ⟨gb357, 1, none⟩ (.int .i64 ((rd_T34 t351 x10_4).f1))).setCell ⟨gb357, 2, none⟩ (.int .i64 ((rd_T34 t351 x10_4).f2))).setCell ⟨gb357, 3, none⟩ (.int .i64 ((rd_T34 t351 x10_4).f3))) = w56 at n0_ n1_ n2_ n3_ ⊢; have HO_3 := n0_; have HO_6 := n1_; have BK357 := n2_; have HB := n3_; clear n0_ n1_ n2_ n3_; replace HO_3 := rd HO_3; replace HO_6 := rd HO_6; replace BK357 := bd BK357; replace HB := Aside0.mk (below_drew1 HB.out); have p358 : 0 ≤ (x10_4 : Int) := of_decide_eq_true (by first | (with_reducible assumption) | assumption); have q358 : x10_4 < (x3_1.length : Int) := of_decide_eq_true (by first | (with_reducible assumption) | assumption); obtain ⟨ad358, e358, hx358_0⟩ := Kd.at_int (Kd.R_reads' HO_3.out).2.2 x10_4 p358 q358
                        cases e358
                        replace p358 := eq_true p358; replace q358 := eq_true q358; have p359 : 0 ≤ (x10_4 : Int) := of_decide_eq_true (by first | (with_reducible assumption) | assumption); have q359 : x10_4 < (x3_1.length : Int) := of_decide_eq_true (by first | (with_reducible assumption) | assumption); obtain ⟨ad359, e359, hx359_0⟩ := Kd.at_int (Kd.R_reads' HO_3.out).2.2 x10_4 p359 q359; obtain rfl : ad358 = ad359 := (by injection e359); replace p359 := eq_true p359; replace q359 := eq_true q359; refine start_ (n := 46) (S := fun w' => w'.cell? ⟨gb357, 0, none⟩ = some (.int .i64 ((rd_T34 t351 x10_4).f0)) ∧ w'.cell? ⟨gb357, 1, none⟩ = some (.int .i64 ((rd_T34 t351 x10_4).f1)) ∧ w'.cell? ⟨gb357, 2, none⟩ = some (.int .i64 ((rd_T34 t351 x10_4).f2)) ∧ w'.cell? ⟨gb357, 3, none⟩ = some (.int .i64 ((rd_T34 t351 x10_4).f3)) ∧ w'.cell? (ad358.add (x10_4).toNat) = some (.int .i64 (rd x3_1 x10_4)) ∧ w'.cell? (ad358.add (x10_4).toNat) = some (.int .i64 (rd x3_1 x10_4))) (ds := []) (pf 0 46) (by kernel_rfl) rfl rfl ⟨bc BK357 0, bc BK357 1, bc BK357 2, bc BK357 3, hx358_0, hx359_0⟩ (fun hHeld => ?_); refine with_tabW tangramlaw01_NumsBack.tab18 tangramlaw01_NumsBack.bits18 (fun HT_ HW_ => ?_); generalize w56.drew = w57 at HO_3 HO_6 BK357 HB hx358_0 hx359_0 hHeld ⊢; refine pu_ 0 (some 72) (pf 1 46) HT_ ?_
                        refine tk6_ 1 (some 73) (pf 2 46) HT_ HW_ hHeld ?_; refine pu_ 2 (some 74) (pf 3 46) HT_ ?_; refine pu_ 3 (some 75) (pf 4 46) HT_ ?_; refine pu_ 4 (some 76) (pf 5 46) HT_ ?_; refine pu_ 6 (some 78) #[T_,T_,T_,T_,T_,F_,T_,F_,F_,F_,F_,F_,F_,F_,F_,F_,F_,F_,F_,F_,F_,F_,F_,F_,F_,F_,F_,F_,F_,F_,F_,F_,F_,F_,F_,F_,F_,F_,F_,F_,F_,F_,F_,F_,F_,F_] HT_ ?_; refine pu_ 7 (some 79) #[T_,T_,T_,T_,T_,F_,T_,T_,F_,F_,F_,F_,F_,F_,F_,F_,F_,F_,F_,F_,F_,F_,F_,F_,F_,F_,F_,F_,F_,F_,F_,F_,F_,F_,F_,F_,F_,F_,F_,F_,F_,F_,F_,F_,F_,F_] HT_ ?_; refine pu_ 8 (some 80) #[T_,T_,T_,T_,T_,F_,T_,T_,T_,F_,F_,F_,F_,F_,F_,F_,F_,F_,F_,F_,F_,F_,F_,F_,F_,F_,F_,F_,F_,F_,F_,F_,F_,F_,F_,F_,F_,F_,F_,F_,F_,F_,F_,F_,F_,F_] HT_ ?_; refine tk6_ 5 (some 77) (pf 9 46) HT_ HW_ hHeld ?_; refine tk6_ 9 (some 81) (pf 10 46) HT_ HW_ hHeld ?_
                        refine pu_ 10 (some 82) (pf 11 46) HT_ ?_; refine pu_ 11 (some 83) (pf 12 46) HT_ ?_; refine pu_ 12 (some 84) (pf 13 46) HT_ ?_; refine pu_ 13 (some 85) (pf 14 46) HT_ ?_; refine pu_ 15 (some 87) #[T_,T_,T_,T_,T_,T_,T_,T_,T_,T_,T_,T_,T_,T_,F_,T_,F_,F_,F_,F_,F_,F_,F_,F_,F_,F_,F_,F_,F_,F_,F_,F_,F_,F_,F_,F_,F_,F_,F_,F_,F_,F_,F_,F_,F_,F_] HT_ ?_; refine tk6_ 14 (some 86) (pf 16 46) HT_ HW_ hHeld ?_; refine pu_ 16 (some 88) (pf 17 46) HT_ ?_; refine pu_ 17 (some 89) (pf 18 46) HT_ ?_; refine pu_ 18 (some 90) (pf 19 46) HT_ ?_
                        refine pu_ 19 (some 91) (pf 20 46) HT_ ?_; refine pu_ 21 (some 93) #[T_,T_,T_,T_,T_,T_,T_,T_,T_,T_,T_,T_,T_,T_,T_,T_,T_,T_,T_,T_,F_,T_,F_,F_,F_,F_,F_,F_,F_,F_,F_,F_,F_,F_,F_,F_,F_,F_,F_,F_,F_,F_,F_,F_,F_,F_] HT_ ?_; refine tk6_ 20 (some 92) (pf 22 46) HT_ HW_ hHeld ?_; refine tk6_ 22 (some 94) (pf 23 46) HT_ HW_ hHeld ?_; refine pu_ 23 (some 95) (pf 24 46) HT_ ?_; refine pu_ 24 (some 96) (pf 25 46) HT_ ?_; refine pu_ 25 (some 97) (pf 26 46) HT_ ?_; refine pu_ 26 (some 98) (pf 27 46) HT_ ?_; refine pu_ 28 (some 100) #[T_,T_,T_,T_,T_,T_,T_,T_,T_,T_,T_,T_,T_,T_,T_,T_,T_,T_,T_,T_,T_,T_,T_,T_,T_,T_,T_,F_,T_,F_,F_,F_,F_,F_,F_,F_,F_,F_,F_,F_,F_,F_,F_,F_,F_,F_] HT_ ?_
                        refine pu_ 29 (some 101) #[T_,T_,T_,T_,T_,T_,T_,T_,T_,T_,T_,T_,T_,T_,T_,T_,T_,T_,T_,T_,T_,T_,T_,T_,T_,T_,T_,F_,T_,T_,F_,F_,F_,F_,F_,F_,F_,F_,F_,F_,F_,F_,F_,F_,F_,F_] HT_ ?_; refine tk6_ 27 (some 99) (pf 30 46) HT_ HW_ hHeld ?_; refine pu_ 30 (some 102) (pf 31 46) HT_ ?_; refine pu_ 31 (some 103) (pf 32 46) HT_ ?_; refine pu_ 32 (some 104) (pf 33 46) HT_ ?_; refine pu_ 33 (some 105) (pf 34 46) HT_ ?_; refine pu_ 34 (some 106) (pf 35 46) HT_ ?_; refine pu_ 36 (some 108) #[T_,T_,T_,T_,T_,T_,T_,T_,T_,T_,T_,T_,T_,T_,T_,T_,T_,T_,T_,T_,T_,T_,T_,T_,T_,T_,T_,T_,T_,T_,T_,T_,T_,T_,T_,F_,T_,F_,F_,F_,F_,F_,F_,F_,F_,F_] HT_ ?_; refine pu_ 39 (some 111) #[T_,T_,T_,T_,T_,T_,T_,T_,T_,T_,T_,T_,T_,T_,T_,T_,T_,T_,T_,T_,T_,T_,T_,T_,T_,T_,T_,T_,T_,T_,T_,T_,T_,T_,T_,F_,T_,F_,F_,T_,F_,F_,F_,F_,F_,F_] HT_ ?_
                        refine pu_ 40 (some 112) #[T_,T_,T_,T_,T_,T_,T_,T_,T_,T_,T_,T_,T_,T_,T_,T_,T_,T_,T_,T_,T_,T_,T_,T_,T_,T_,T_,T_,T_,T_,T_,T_,T_,T_,T_,F_,T_,F_,F_,T_,T_,F_,F_,F_,F_,F_] HT_ ?_; refine pu_ 41 (some 113) #[T_,T_,T_,T_,T_,T_,T_,T_,T_,T_,T_,T_,T_,T_,T_,T_,T_,T_,T_,T_,T_,T_,T_,T_,T_,T_,T_,T_,T_,T_,T_,T_,T_,T_,T_,F_,T_,F_,F_,T_,T_,T_,F_,F_,F_,F_] HT_ ?_; refine tk6_ 35 (some 107) #[T_,T_,T_,T_,T_,T_,T_,T_,T_,T_,T_,T_,T_,T_,T_,T_,T_,T_,T_,T_,T_,T_,T_,T_,T_,T_,T_,T_,T_,T_,T_,T_,T_,T_,T_,T_,T_,F_,F_,T_,T_,T_,F_,F_,F_,F_] HT_ HW_ hHeld ?_; refine tk6_ 37 (some 109) #[T_,T_,T_,T_,T_,T_,T_,T_,T_,T_,T_,T_,T_,T_,T_,T_,T_,T_,T_,T_,T_,T_,T_,T_,T_,T_,T_,T_,T_,T_,T_,T_,T_,T_,T_,T_,T_,T_,F_,T_,T_,T_,F_,F_,F_,F_] HT_ HW_ hHeld ?_; refine pu_ 38 (some 110) (pf 42 46) HT_ ?_; refine tk6_ 42 (some 114) (pf 43 46) HT_ HW_ hHeld ?_; refine on_ 43 (some 115) (pf 44 46) HT_ (fun K hK => ?_); refine gs_ Tryd.func14 #[.int .i64 (rd x3_1 x10_4)] ?_
                        with_reducible refine (nums_Text.calls k4 (rd x3_1 x10_4) t360 _ (tb HT HB.out) A44.out).mono ?_
                        rintro e w58 ⟨rfl, hb⟩; have HS4_ := (hb.cell (World.block_lt_of_cell? _ _ (hHeld.2.2.2.2.1))).trans (hHeld.2.2.2.2.1); have HS5_ := (hb.cell (World.block_lt_of_cell? _ _ (hHeld.2.2.2.2.2))).trans (hHeld.2.2.2.2.2); refine ⟨_, rfl, ?_⟩; replace HO_3 := ry HO_3 hb; replace HO_6 := ry HO_6 hb; replace BK357 := kx BK357 hb; replace HB := hs (hb1 HB GE357) hb
                        (try clear hb)
                        (try clear hb2)
                        (try clear hk)
                        (try clear hi)
                        refine hK.out _ _ ⟨bc BK357 0, bc BK357 1, bc BK357 2, bc BK357 3, HS4_, HS5_⟩ (fun hHeld => ?_); clear hK K; refine nm_ (some 115) ?_; refine pu_ 44 (some 116) (pf 45 46) HT_ ?_; refine pu_ 45 (some 117) (pf 46 46) HT_ ?_; refine done_ (done_of HT_.out (by kernel_rfl)) ?_
                        try go_wp2
                        go_ret
                        exact ⟨by first | rfl | (simp [errW_none, errW_some] <;> rfl) | (simp [*, errW_none, errW_some] <;> rfl), hb1 HB GE357⟩
                      ·rw [if_neg c43] at H; exact absurd H (by simp)
                     ·rw [if_neg c42] at H; exact absurd H (by simp)
                    ·rw [if_neg c41] at H; exact absurd H (by simp)
                 ·rw [if_neg c28] at H; have c28b0 : (((rd_T34 t351 x10_4).f1) == x9_4) = false := beq_eq_false_iff_ne.mpr c28; have c28b1 : (((rd_T34 t351 x10_4).f1) != x9_4) = true := bne_iff_ne.mpr c28; obtain rfl := Option.some.inj H; obtain ⟨Ao59, co59, eo59⟩ := Kd.R_slice HO_6.out; subst eo59; have p356 : 0 ≤ (x10_4 : Int) := of_decide_eq_true (by first | (with_reducible assumption) | assumption); have q356 : x10_4 < (t351.length : Int) := of_decide_eq_true (by first | (with_reducible assumption) | assumption); obtain ⟨ad356, e356, hx356_0, hx356_1, hx356_2, hx356_3⟩ := at_T34 (Kd.R_reads' HO_6.out).2.2 x10_4 p356 q356
                  cases e356
                  replace p356 := eq_true p356; replace q356 := eq_true q356
                  try go_wp2_with (first | ((with_reducible refine gate_dst (N := 11) rfl ?_); (try (refine gate_guard (by rfl) ?_; dsimp only)); refine be_ 11 #[.int .i64 0, .int .i64 0, .int .i64 0, .int .i64 0] 34 ?_; intro gb357 hg w60 hbox hb; replace HO_3 := ry HO_3 hb; replace HO_6 := Aside0.mk (Kd.R_below (Kd.R_elderB (rx HO_6) gb357 (Nat.le_of_eq hg.symm)) hb); have BK357 := Aside0.mk (hbox); have GW357 := wq (hb0 HB) hg; have GE357 := wq (hb0 HB) hg; replace HB := hs (hb0 HB) hb; clear hb hbox hg; have hcz61_0 : w60.cell? ⟨gb357, 0, none⟩ = some (.int .i64 0) := bc BK357 0; have hcz61_1 : w60.cell? ⟨gb357, 1, none⟩ = some (.int .i64 0) := bc BK357 1; have hcz61_2 : w60.cell? ⟨gb357, 2, none⟩ = some (.int .i64 0) := bc BK357 2; have hcz61_3 : w60.cell? ⟨gb357, 3, none⟩ = some (.int .i64 0) := bc BK357 3; have hfz61_0 := blk_frozen BK357.out 0; have hfz61_1 := blk_frozen BK357.out 1; have hfz61_2 := blk_frozen BK357.out 2; have hfz61_3 := blk_frozen BK357.out 3))
                  have n0_ : Aside0 (Kd.R (Kd.int .i64) 3 ((((w60.setCell ⟨gb357, 0, none⟩ (.int .i64 ((rd_T34 t351 x10_4).f0))).setCell ⟨gb357, 1, none⟩ (.int .i64 ((rd_T34 t351 x10_4).f1))).setCell ⟨gb357, 2, none⟩ (.int .i64 ((rd_T34 t351 x10_4).f2))).setCell ⟨gb357, 3, none⟩ (.int .i64 ((rd_T34 t351 x10_4).f3))) w.heap.size (fun _ => True) (.slice Ao17 x3_1.length co17) x3_1) := ⟨Kd.R_mono (rf HO_3 BK357) (fun _ hk => trivial)⟩; have n1_ : Aside0 (Kd.R k34 34 ((((w60.setCell ⟨gb357, 0, none⟩ (.int .i64 ((rd_T34 t351 x10_4).f0))).setCell ⟨gb357, 1, none⟩ (.int .i64 ((rd_T34 t351 x10_4).f1))).setCell ⟨gb357, 2, none⟩ (.int .i64 ((rd_T34 t351 x10_4).f2))).setCell ⟨gb357, 3, none⟩ (.int .i64 ((rd_T34 t351 x10_4).f3))) w.heap.size (fun k_ => k_ ≠ gb357) (.slice (some ad356) t351.length co59) t351) := ⟨by (with_reducible repeat (first | apply Kd.R_alloc | apply Kd.R_drewN | apply Kd.R_drew)); exact Kd.R_mono (Kd.R_far (p := ⟨gb357, 3, none⟩) (Kd.R_far (p := ⟨gb357, 2, none⟩) (Kd.R_far (p := ⟨gb357, 1, none⟩) (Kd.R_far (p := ⟨gb357, 0, none⟩) (Kd.R_mono HO_6.out (fun k_ hk => (⟨hk, hk.2⟩ : _ ∧ k_ ≠ gb357))) (fun _ hk => hk.2) (.int .i64 ((rd_T34 t351 x10_4).f0))) (fun _ hk => hk.2) (.int .i64 ((rd_T34 t351 x10_4).f1))) (fun _ hk => hk.2) (.int .i64 ((rd_T34 t351 x10_4).f2))) (fun _ hk => hk.2) (.int .i64 ((rd_T34 t351 x10_4).f3))) (fun _ hk => hk.1.2)⟩; have n2_ : Aside0 (((((w60.setCell ⟨gb357, 0, none⟩ (.int .i64 ((rd_T34 t351 x10_4).f0))).setCell ⟨gb357, 1, none⟩ (.int .i64 ((rd_T34 t351 x10_4).f1))).setCell ⟨gb357, 2, none⟩ (.int .i64 ((rd_T34 t351 x10_4).f2))).setCell ⟨gb357, 3, none⟩ (.int .i64 ((rd_T34 t351 x10_4).f3))).heap[gb357]? = some (.cells #[.int .i64 ((rd_T34 t351 x10_4).f0), .int .i64 ((rd_T34 t351 x10_4).f1), .int .i64 ((rd_T34 t351 x10_4).f2), .int .i64 ((rd_T34 t351 x10_4).f3)] 34 (0, 0))) := ⟨bp BK357⟩
                  have n3_ : Aside0 (Below w.heap.size w ((((w60.setCell ⟨gb357, 0, none⟩ (.int .i64 ((rd_T34 t351 x10_4).f0))).setCell ⟨gb357, 1, none⟩ (.int .i64 ((rd_T34 t351 x10_4).f1))).setCell ⟨gb357, 2, none⟩ (.int .i64 ((rd_T34 t351 x10_4).f2))).setCell ⟨gb357, 3, none⟩ (.int .i64 ((rd_T34 t351 x10_4).f3)))) := ⟨hb1 HB GE357⟩
                  (try clear HO_3)
                  (try clear HO_6)
                  (try clear BK357)
                  (try clear HB)
                  generalize ((((w60.setCell ⟨gb357, 0, none⟩ (.int .i64 ((rd_T34 t351 x10_4).f0))).setCell ⟨gb357, 1, none⟩ (.int .i64 ((rd_T34 t351 x10_4).f1))).setCell ⟨gb357, 2, none⟩ (.int .i64 ((rd_T34 t351 x10_4).f2))).setCell ⟨gb357, 3, none⟩ (.int .i64 ((rd_T34 t351 x10_4).f3))) = w62 at n0_ n1_ n2_ n3_ ⊢; have HO_3 := n0_; have HO_6 := n1_; have BK357 := n2_; have HB := n3_; clear n0_ n1_ n2_ n3_; replace HO_3 := rd HO_3; replace HO_6 := rd HO_6; replace BK357 := bd BK357; replace HB := Aside0.mk (below_drew1 HB.out); have p358 : 0 ≤ (x10_4 : Int) := of_decide_eq_true (by first | (with_reducible assumption) | assumption); have q358 : x10_4 < (x3_1.length : Int) := of_decide_eq_true (by first | (with_reducible assumption) | assumption); obtain ⟨ad358, e358, hx358_0⟩ := Kd.at_int (Kd.R_reads' HO_3.out).2.2 x10_4 p358 q358
                  cases e358
                  replace p358 := eq_true p358; replace q358 := eq_true q358; refine start_ (n := 46) (S := fun w' => w'.cell? ⟨gb357, 0, none⟩ = some (.int .i64 ((rd_T34 t351 x10_4).f0)) ∧ w'.cell? ⟨gb357, 1, none⟩ = some (.int .i64 ((rd_T34 t351 x10_4).f1)) ∧ w'.cell? ⟨gb357, 2, none⟩ = some (.int .i64 ((rd_T34 t351 x10_4).f2)) ∧ w'.cell? ⟨gb357, 3, none⟩ = some (.int .i64 ((rd_T34 t351 x10_4).f3)) ∧ w'.cell? (ad358.add (x10_4).toNat) = some (.int .i64 (rd x3_1 x10_4))) (ds := []) (pf 0 46) (by kernel_rfl) rfl rfl ⟨bc BK357 0, bc BK357 1, bc BK357 2, bc BK357 3, hx358_0⟩ (fun hHeld => ?_); refine with_tabW tangramlaw01_NumsBack.tab18 tangramlaw01_NumsBack.bits18 (fun HT_ HW_ => ?_); generalize w62.drew = w63 at HO_3 HO_6 BK357 HB hx358_0 hHeld ⊢; refine pu_ 0 (some 72) (pf 1 46) HT_ ?_; refine tk5_ 1 (some 73) (pf 2 46) HT_ HW_ hHeld ?_; refine pu_ 2 (some 74) (pf 3 46) HT_ ?_; refine pu_ 3 (some 75) (pf 4 46) HT_ ?_
                  refine pu_ 4 (some 76) (pf 5 46) HT_ ?_; refine pu_ 6 (some 78) #[T_,T_,T_,T_,T_,F_,T_,F_,F_,F_,F_,F_,F_,F_,F_,F_,F_,F_,F_,F_,F_,F_,F_,F_,F_,F_,F_,F_,F_,F_,F_,F_,F_,F_,F_,F_,F_,F_,F_,F_,F_,F_,F_,F_,F_,F_] HT_ ?_; refine pu_ 7 (some 79) #[T_,T_,T_,T_,T_,F_,T_,T_,F_,F_,F_,F_,F_,F_,F_,F_,F_,F_,F_,F_,F_,F_,F_,F_,F_,F_,F_,F_,F_,F_,F_,F_,F_,F_,F_,F_,F_,F_,F_,F_,F_,F_,F_,F_,F_,F_] HT_ ?_; refine pu_ 8 (some 80) #[T_,T_,T_,T_,T_,F_,T_,T_,T_,F_,F_,F_,F_,F_,F_,F_,F_,F_,F_,F_,F_,F_,F_,F_,F_,F_,F_,F_,F_,F_,F_,F_,F_,F_,F_,F_,F_,F_,F_,F_,F_,F_,F_,F_,F_,F_] HT_ ?_; refine tk5_ 5 (some 77) (pf 9 46) HT_ HW_ hHeld ?_; refine tk5_ 9 (some 81) (pf 10 46) HT_ HW_ hHeld ?_; refine pu_ 10 (some 82) (pf 11 46) HT_ ?_; refine pu_ 11 (some 83) (pf 12 46) HT_ ?_; refine pu_ 12 (some 84) (pf 13 46) HT_ ?_
                  refine pu_ 13 (some 85) (pf 14 46) HT_ ?_; refine pu_ 15 (some 87) #[T_,T_,T_,T_,T_,T_,T_,T_,T_,T_,T_,T_,T_,T_,F_,T_,F_,F_,F_,F_,F_,F_,F_,F_,F_,F_,F_,F_,F_,F_,F_,F_,F_,F_,F_,F_,F_,F_,F_,F_,F_,F_,F_,F_,F_,F_] HT_ ?_; refine tk5_ 14 (some 86) (pf 16 46) HT_ HW_ hHeld ?_; refine pu_ 16 (some 88) (pf 17 46) HT_ ?_; refine pu_ 17 (some 89) (pf 18 46) HT_ ?_; refine pu_ 18 (some 90) (pf 19 46) HT_ ?_; refine pn_ 19 (some 91) (pf 20 46) HT_ ?_; refine pn_ 20 (some 92) (pf 21 46) HT_ ?_; refine pn_ 21 (some 93) (pf 22 46) HT_ ?_
                  refine pn_ 22 (some 94) (pf 23 46) HT_ ?_; refine pn_ 23 (some 95) (pf 24 46) HT_ ?_; refine pu_ 24 (some 96) (pf 25 46) HT_ ?_; refine pu_ 25 (some 97) (pf 26 46) HT_ ?_; refine pn_ 26 (some 98) (pf 27 46) HT_ ?_; refine pn_ 27 (some 99) (pf 28 46) HT_ ?_; refine pn_ 28 (some 100) (pf 29 46) HT_ ?_; refine pn_ 29 (some 101) (pf 30 46) HT_ ?_; refine pn_ 30 (some 102) (pf 31 46) HT_ ?_
                  refine pu_ 31 (some 103) (pf 32 46) HT_ ?_; refine pu_ 32 (some 104) (pf 33 46) HT_ ?_; refine pn_ 33 (some 105) (pf 34 46) HT_ ?_; refine pn_ 34 (some 106) (pf 35 46) HT_ ?_; refine pn_ 35 (some 107) (pf 36 46) HT_ ?_; refine pn_ 36 (some 108) (pf 37 46) HT_ ?_; refine pn_ 37 (some 109) (pf 38 46) HT_ ?_; refine pn_ 38 (some 110) (pf 39 46) HT_ ?_; refine pn_ 39 (some 111) (pf 40 46) HT_ ?_
                  refine pn_ 40 (some 112) (pf 41 46) HT_ ?_; refine pn_ 41 (some 113) (pf 42 46) HT_ ?_; refine pn_ 42 (some 114) (pf 43 46) HT_ ?_; refine pn_ 43 (some 115) (pf 44 46) HT_ ?_; refine pn_ 44 (some 116) (pf 45 46) HT_ ?_; refine pu_ 45 (some 117) (pf 46 46) HT_ ?_; refine done_ (done_of HT_.out (by kernel_rfl)) ?_
                  try go_wp2
                  go_ret
                  exact ⟨by first | rfl | (simp [errW_none, errW_some] <;> rfl) | (simp [*, errW_none, errW_some] <;> rfl), hb1 HB GE357⟩
                ·rw [if_neg c27] at H; have c27b0 : (((rd_T34 t351 x10_4).f3) == (rd x3_1 x10_4)) = false := beq_eq_false_iff_ne.mpr c27; have c27b1 : (((rd_T34 t351 x10_4).f3) != (rd x3_1 x10_4)) = true := bne_iff_ne.mpr c27; obtain rfl := Option.some.inj H; obtain ⟨Ao64, co64, eo64⟩ := Kd.R_slice HO_6.out; subst eo64; have p356 : 0 ≤ (x10_4 : Int) := of_decide_eq_true (by first | (with_reducible assumption) | assumption); have q356 : x10_4 < (t351.length : Int) := of_decide_eq_true (by first | (with_reducible assumption) | assumption); obtain ⟨ad356, e356, hx356_0, hx356_1, hx356_2, hx356_3⟩ := at_T34 (Kd.R_reads' HO_6.out).2.2 x10_4 p356 q356
                 cases e356
                 replace p356 := eq_true p356; replace q356 := eq_true q356
                 try go_wp2_with (first | ((with_reducible refine gate_dst (N := 11) rfl ?_); (try (refine gate_guard (by rfl) ?_; dsimp only)); refine be_ 11 #[.int .i64 0, .int .i64 0, .int .i64 0, .int .i64 0] 34 ?_; intro gb357 hg w65 hbox hb; replace HO_3 := ry HO_3 hb; replace HO_6 := Aside0.mk (Kd.R_below (Kd.R_elderB (rx HO_6) gb357 (Nat.le_of_eq hg.symm)) hb); have BK357 := Aside0.mk (hbox); have GW357 := wq (hb0 HB) hg; have GE357 := wq (hb0 HB) hg; replace HB := hs (hb0 HB) hb; clear hb hbox hg; have hcz66_0 : w65.cell? ⟨gb357, 0, none⟩ = some (.int .i64 0) := bc BK357 0; have hcz66_1 : w65.cell? ⟨gb357, 1, none⟩ = some (.int .i64 0) := bc BK357 1; have hcz66_2 : w65.cell? ⟨gb357, 2, none⟩ = some (.int .i64 0) := bc BK357 2; have hcz66_3 : w65.cell? ⟨gb357, 3, none⟩ = some (.int .i64 0) := bc BK357 3; have hfz66_0 := blk_frozen BK357.out 0; have hfz66_1 := blk_frozen BK357.out 1; have hfz66_2 := blk_frozen BK357.out 2; have hfz66_3 := blk_frozen BK357.out 3))
                 have n0_ : Aside0 (Kd.R (Kd.int .i64) 3 ((((w65.setCell ⟨gb357, 0, none⟩ (.int .i64 ((rd_T34 t351 x10_4).f0))).setCell ⟨gb357, 1, none⟩ (.int .i64 ((rd_T34 t351 x10_4).f1))).setCell ⟨gb357, 2, none⟩ (.int .i64 ((rd_T34 t351 x10_4).f2))).setCell ⟨gb357, 3, none⟩ (.int .i64 ((rd_T34 t351 x10_4).f3))) w.heap.size (fun _ => True) (.slice Ao17 x3_1.length co17) x3_1) := ⟨Kd.R_mono (rf HO_3 BK357) (fun _ hk => trivial)⟩; have n1_ : Aside0 (Kd.R k34 34 ((((w65.setCell ⟨gb357, 0, none⟩ (.int .i64 ((rd_T34 t351 x10_4).f0))).setCell ⟨gb357, 1, none⟩ (.int .i64 ((rd_T34 t351 x10_4).f1))).setCell ⟨gb357, 2, none⟩ (.int .i64 ((rd_T34 t351 x10_4).f2))).setCell ⟨gb357, 3, none⟩ (.int .i64 ((rd_T34 t351 x10_4).f3))) w.heap.size (fun k_ => k_ ≠ gb357) (.slice (some ad356) t351.length co64) t351) := ⟨by (with_reducible repeat (first | apply Kd.R_alloc | apply Kd.R_drewN | apply Kd.R_drew)); exact Kd.R_mono (Kd.R_far (p := ⟨gb357, 3, none⟩) (Kd.R_far (p := ⟨gb357, 2, none⟩) (Kd.R_far (p := ⟨gb357, 1, none⟩) (Kd.R_far (p := ⟨gb357, 0, none⟩) (Kd.R_mono HO_6.out (fun k_ hk => (⟨hk, hk.2⟩ : _ ∧ k_ ≠ gb357))) (fun _ hk => hk.2) (.int .i64 ((rd_T34 t351 x10_4).f0))) (fun _ hk => hk.2) (.int .i64 ((rd_T34 t351 x10_4).f1))) (fun _ hk => hk.2) (.int .i64 ((rd_T34 t351 x10_4).f2))) (fun _ hk => hk.2) (.int .i64 ((rd_T34 t351 x10_4).f3))) (fun _ hk => hk.1.2)⟩; have n2_ : Aside0 (((((w65.setCell ⟨gb357, 0, none⟩ (.int .i64 ((rd_T34 t351 x10_4).f0))).setCell ⟨gb357, 1, none⟩ (.int .i64 ((rd_T34 t351 x10_4).f1))).setCell ⟨gb357, 2, none⟩ (.int .i64 ((rd_T34 t351 x10_4).f2))).setCell ⟨gb357, 3, none⟩ (.int .i64 ((rd_T34 t351 x10_4).f3))).heap[gb357]? = some (.cells #[.int .i64 ((rd_T34 t351 x10_4).f0), .int .i64 ((rd_T34 t351 x10_4).f1), .int .i64 ((rd_T34 t351 x10_4).f2), .int .i64 ((rd_T34 t351 x10_4).f3)] 34 (0, 0))) := ⟨bp BK357⟩
                 have n3_ : Aside0 (Below w.heap.size w ((((w65.setCell ⟨gb357, 0, none⟩ (.int .i64 ((rd_T34 t351 x10_4).f0))).setCell ⟨gb357, 1, none⟩ (.int .i64 ((rd_T34 t351 x10_4).f1))).setCell ⟨gb357, 2, none⟩ (.int .i64 ((rd_T34 t351 x10_4).f2))).setCell ⟨gb357, 3, none⟩ (.int .i64 ((rd_T34 t351 x10_4).f3)))) := ⟨hb1 HB GE357⟩
                 (try clear HO_3)
                 (try clear HO_6)
                 (try clear BK357)
                 (try clear HB)
                 generalize ((((w65.setCell ⟨gb357, 0, none⟩ (.int .i64 ((rd_T34 t351 x10_4).f0))).setCell ⟨gb357, 1, none⟩ (.int .i64 ((rd_T34 t351 x10_4).f1))).setCell ⟨gb357, 2, none⟩ (.int .i64 ((rd_T34 t351 x10_4).f2))).setCell ⟨gb357, 3, none⟩ (.int .i64 ((rd_T34 t351 x10_4).f3))) = w67 at n0_ n1_ n2_ n3_ ⊢; have HO_3 := n0_; have HO_6 := n1_; have BK357 := n2_; have HB := n3_; clear n0_ n1_ n2_ n3_; replace HO_3 := rd HO_3; replace HO_6 := rd HO_6; replace BK357 := bd BK357; replace HB := Aside0.mk (below_drew1 HB.out); have p358 : 0 ≤ (x10_4 : Int) := of_decide_eq_true (by first | (with_reducible assumption) | assumption); have q358 : x10_4 < (x3_1.length : Int) := of_decide_eq_true (by first | (with_reducible assumption) | assumption); obtain ⟨ad358, e358, hx358_0⟩ := Kd.at_int (Kd.R_reads' HO_3.out).2.2 x10_4 p358 q358
                 cases e358
                 replace p358 := eq_true p358; replace q358 := eq_true q358; refine start_ (n := 46) (S := fun w' => w'.cell? ⟨gb357, 0, none⟩ = some (.int .i64 ((rd_T34 t351 x10_4).f0)) ∧ w'.cell? ⟨gb357, 1, none⟩ = some (.int .i64 ((rd_T34 t351 x10_4).f1)) ∧ w'.cell? ⟨gb357, 2, none⟩ = some (.int .i64 ((rd_T34 t351 x10_4).f2)) ∧ w'.cell? ⟨gb357, 3, none⟩ = some (.int .i64 ((rd_T34 t351 x10_4).f3)) ∧ w'.cell? (ad358.add (x10_4).toNat) = some (.int .i64 (rd x3_1 x10_4))) (ds := []) (pf 0 46) (by kernel_rfl) rfl rfl ⟨bc BK357 0, bc BK357 1, bc BK357 2, bc BK357 3, hx358_0⟩ (fun hHeld => ?_); refine with_tabW tangramlaw01_NumsBack.tab18 tangramlaw01_NumsBack.bits18 (fun HT_ HW_ => ?_); generalize w67.drew = w68 at HO_3 HO_6 BK357 HB hx358_0 hHeld ⊢; refine pu_ 0 (some 72) (pf 1 46) HT_ ?_; refine tk5_ 1 (some 73) (pf 2 46) HT_ HW_ hHeld ?_; refine pu_ 2 (some 74) (pf 3 46) HT_ ?_; refine pu_ 3 (some 75) (pf 4 46) HT_ ?_
                 refine pu_ 4 (some 76) (pf 5 46) HT_ ?_; refine pu_ 6 (some 78) #[T_,T_,T_,T_,T_,F_,T_,F_,F_,F_,F_,F_,F_,F_,F_,F_,F_,F_,F_,F_,F_,F_,F_,F_,F_,F_,F_,F_,F_,F_,F_,F_,F_,F_,F_,F_,F_,F_,F_,F_,F_,F_,F_,F_,F_,F_] HT_ ?_; refine pu_ 7 (some 79) #[T_,T_,T_,T_,T_,F_,T_,T_,F_,F_,F_,F_,F_,F_,F_,F_,F_,F_,F_,F_,F_,F_,F_,F_,F_,F_,F_,F_,F_,F_,F_,F_,F_,F_,F_,F_,F_,F_,F_,F_,F_,F_,F_,F_,F_,F_] HT_ ?_; refine pu_ 8 (some 80) #[T_,T_,T_,T_,T_,F_,T_,T_,T_,F_,F_,F_,F_,F_,F_,F_,F_,F_,F_,F_,F_,F_,F_,F_,F_,F_,F_,F_,F_,F_,F_,F_,F_,F_,F_,F_,F_,F_,F_,F_,F_,F_,F_,F_,F_,F_] HT_ ?_; refine tk5_ 5 (some 77) (pf 9 46) HT_ HW_ hHeld ?_; refine tk5_ 9 (some 81) (pf 10 46) HT_ HW_ hHeld ?_; refine pu_ 10 (some 82) (pf 11 46) HT_ ?_; refine pu_ 11 (some 83) (pf 12 46) HT_ ?_; refine pu_ 12 (some 84) (pf 13 46) HT_ ?_
                 refine pn_ 13 (some 85) (pf 14 46) HT_ ?_; refine pn_ 14 (some 86) (pf 15 46) HT_ ?_; refine pn_ 15 (some 87) (pf 16 46) HT_ ?_; refine pn_ 16 (some 88) (pf 17 46) HT_ ?_; refine pu_ 17 (some 89) (pf 18 46) HT_ ?_; refine pu_ 18 (some 90) (pf 19 46) HT_ ?_; refine pn_ 19 (some 91) (pf 20 46) HT_ ?_; refine pn_ 20 (some 92) (pf 21 46) HT_ ?_; refine pn_ 21 (some 93) (pf 22 46) HT_ ?_
                 refine pn_ 22 (some 94) (pf 23 46) HT_ ?_; refine pn_ 23 (some 95) (pf 24 46) HT_ ?_; refine pu_ 24 (some 96) (pf 25 46) HT_ ?_; refine pu_ 25 (some 97) (pf 26 46) HT_ ?_; refine pn_ 26 (some 98) (pf 27 46) HT_ ?_; refine pn_ 27 (some 99) (pf 28 46) HT_ ?_; refine pn_ 28 (some 100) (pf 29 46) HT_ ?_; refine pn_ 29 (some 101) (pf 30 46) HT_ ?_; refine pn_ 30 (some 102) (pf 31 46) HT_ ?_
                 refine pu_ 31 (some 103) (pf 32 46) HT_ ?_; refine pu_ 32 (some 104) (pf 33 46) HT_ ?_; refine pn_ 33 (some 105) (pf 34 46) HT_ ?_; refine pn_ 34 (some 106) (pf 35 46) HT_ ?_; refine pn_ 35 (some 107) (pf 36 46) HT_ ?_; refine pn_ 36 (some 108) (pf 37 46) HT_ ?_; refine pn_ 37 (some 109) (pf 38 46) HT_ ?_; refine pn_ 38 (some 110) (pf 39 46) HT_ ?_; refine pn_ 39 (some 111) (pf 40 46) HT_ ?_
                 refine pn_ 40 (some 112) (pf 41 46) HT_ ?_; refine pn_ 41 (some 113) (pf 42 46) HT_ ?_; refine pn_ 42 (some 114) (pf 43 46) HT_ ?_; refine pn_ 43 (some 115) (pf 44 46) HT_ ?_; refine pn_ 44 (some 116) (pf 45 46) HT_ ?_; refine pu_ 45 (some 117) (pf 46 46) HT_ ?_; refine done_ (done_of HT_.out (by kernel_rfl)) ?_
                 try go_wp2
                 go_ret
                 exact ⟨by first | rfl | (simp [errW_none, errW_some] <;> rfl) | (simp [*, errW_none, errW_some] <;> rfl), hb1 HB GE357⟩
               ·rw [if_neg c26] at H; have c26b0 : (((rd_T34 t351 x10_4).f0) == 1) = false := beq_eq_false_iff_ne.mpr c26; have c26b1 : (((rd_T34 t351 x10_4).f0) != 1) = true := bne_iff_ne.mpr c26; obtain rfl := Option.some.inj H; obtain ⟨Ao69, co69, eo69⟩ := Kd.R_slice HO_6.out; subst eo69; have p356 : 0 ≤ (x10_4 : Int) := of_decide_eq_true (by first | (with_reducible assumption) | assumption); have q356 : x10_4 < (t351.length : Int) := of_decide_eq_true (by first | (with_reducible assumption) | assumption); obtain ⟨ad356, e356, hx356_0, hx356_1, hx356_2, hx356_3⟩ := at_T34 (Kd.R_reads' HO_6.out).2.2 x10_4 p356 q356
                cases e356
                replace p356 := eq_true p356; replace q356 := eq_true q356
                try go_wp2_with (first | ((with_reducible refine gate_dst (N := 11) rfl ?_); (try (refine gate_guard (by rfl) ?_; dsimp only)); refine be_ 11 #[.int .i64 0, .int .i64 0, .int .i64 0, .int .i64 0] 34 ?_; intro gb357 hg w70 hbox hb; replace HO_3 := ry HO_3 hb; replace HO_6 := Aside0.mk (Kd.R_below (Kd.R_elderB (rx HO_6) gb357 (Nat.le_of_eq hg.symm)) hb); have BK357 := Aside0.mk (hbox); have GW357 := wq (hb0 HB) hg; have GE357 := wq (hb0 HB) hg; replace HB := hs (hb0 HB) hb; clear hb hbox hg; have hcz71_0 : w70.cell? ⟨gb357, 0, none⟩ = some (.int .i64 0) := bc BK357 0; have hcz71_1 : w70.cell? ⟨gb357, 1, none⟩ = some (.int .i64 0) := bc BK357 1; have hcz71_2 : w70.cell? ⟨gb357, 2, none⟩ = some (.int .i64 0) := bc BK357 2; have hcz71_3 : w70.cell? ⟨gb357, 3, none⟩ = some (.int .i64 0) := bc BK357 3; have hfz71_0 := blk_frozen BK357.out 0; have hfz71_1 := blk_frozen BK357.out 1; have hfz71_2 := blk_frozen BK357.out 2; have hfz71_3 := blk_frozen BK357.out 3))
                have n0_ : Aside0 (Kd.R (Kd.int .i64) 3 ((((w70.setCell ⟨gb357, 0, none⟩ (.int .i64 ((rd_T34 t351 x10_4).f0))).setCell ⟨gb357, 1, none⟩ (.int .i64 ((rd_T34 t351 x10_4).f1))).setCell ⟨gb357, 2, none⟩ (.int .i64 ((rd_T34 t351 x10_4).f2))).setCell ⟨gb357, 3, none⟩ (.int .i64 ((rd_T34 t351 x10_4).f3))) w.heap.size (fun _ => True) (.slice Ao17 x3_1.length co17) x3_1) := ⟨Kd.R_mono (rf HO_3 BK357) (fun _ hk => trivial)⟩; have n1_ : Aside0 (Kd.R k34 34 ((((w70.setCell ⟨gb357, 0, none⟩ (.int .i64 ((rd_T34 t351 x10_4).f0))).setCell ⟨gb357, 1, none⟩ (.int .i64 ((rd_T34 t351 x10_4).f1))).setCell ⟨gb357, 2, none⟩ (.int .i64 ((rd_T34 t351 x10_4).f2))).setCell ⟨gb357, 3, none⟩ (.int .i64 ((rd_T34 t351 x10_4).f3))) w.heap.size (fun k_ => k_ ≠ gb357) (.slice (some ad356) t351.length co69) t351) := ⟨by (with_reducible repeat (first | apply Kd.R_alloc | apply Kd.R_drewN | apply Kd.R_drew)); exact Kd.R_mono (Kd.R_far (p := ⟨gb357, 3, none⟩) (Kd.R_far (p := ⟨gb357, 2, none⟩) (Kd.R_far (p := ⟨gb357, 1, none⟩) (Kd.R_far (p := ⟨gb357, 0, none⟩) (Kd.R_mono HO_6.out (fun k_ hk => (⟨hk, hk.2⟩ : _ ∧ k_ ≠ gb357))) (fun _ hk => hk.2) (.int .i64 ((rd_T34 t351 x10_4).f0))) (fun _ hk => hk.2) (.int .i64 ((rd_T34 t351 x10_4).f1))) (fun _ hk => hk.2) (.int .i64 ((rd_T34 t351 x10_4).f2))) (fun _ hk => hk.2) (.int .i64 ((rd_T34 t351 x10_4).f3))) (fun _ hk => hk.1.2)⟩; have n2_ : Aside0 (((((w70.setCell ⟨gb357, 0, none⟩ (.int .i64 ((rd_T34 t351 x10_4).f0))).setCell ⟨gb357, 1, none⟩ (.int .i64 ((rd_T34 t351 x10_4).f1))).setCell ⟨gb357, 2, none⟩ (.int .i64 ((rd_T34 t351 x10_4).f2))).setCell ⟨gb357, 3, none⟩ (.int .i64 ((rd_T34 t351 x10_4).f3))).heap[gb357]? = some (.cells #[.int .i64 ((rd_T34 t351 x10_4).f0), .int .i64 ((rd_T34 t351 x10_4).f1), .int .i64 ((rd_T34 t351 x10_4).f2), .int .i64 ((rd_T34 t351 x10_4).f3)] 34 (0, 0))) := ⟨bp BK357⟩
                have n3_ : Aside0 (Below w.heap.size w ((((w70.setCell ⟨gb357, 0, none⟩ (.int .i64 ((rd_T34 t351 x10_4).f0))).setCell ⟨gb357, 1, none⟩ (.int .i64 ((rd_T34 t351 x10_4).f1))).setCell ⟨gb357, 2, none⟩ (.int .i64 ((rd_T34 t351 x10_4).f2))).setCell ⟨gb357, 3, none⟩ (.int .i64 ((rd_T34 t351 x10_4).f3)))) := ⟨hb1 HB GE357⟩
                (try clear HO_3)
                (try clear HO_6)
                (try clear BK357)
                (try clear HB)
                generalize ((((w70.setCell ⟨gb357, 0, none⟩ (.int .i64 ((rd_T34 t351 x10_4).f0))).setCell ⟨gb357, 1, none⟩ (.int .i64 ((rd_T34 t351 x10_4).f1))).setCell ⟨gb357, 2, none⟩ (.int .i64 ((rd_T34 t351 x10_4).f2))).setCell ⟨gb357, 3, none⟩ (.int .i64 ((rd_T34 t351 x10_4).f3))) = w72 at n0_ n1_ n2_ n3_ ⊢; have HO_3 := n0_; have HO_6 := n1_; have BK357 := n2_; have HB := n3_; clear n0_ n1_ n2_ n3_; replace HO_3 := rd HO_3; replace HO_6 := rd HO_6; replace BK357 := bd BK357; replace HB := Aside0.mk (below_drew1 HB.out); refine start_ (n := 46) (S := fun w' => w'.cell? ⟨gb357, 0, none⟩ = some (.int .i64 ((rd_T34 t351 x10_4).f0)) ∧ w'.cell? ⟨gb357, 1, none⟩ = some (.int .i64 ((rd_T34 t351 x10_4).f1)) ∧ w'.cell? ⟨gb357, 2, none⟩ = some (.int .i64 ((rd_T34 t351 x10_4).f2)) ∧ w'.cell? ⟨gb357, 3, none⟩ = some (.int .i64 ((rd_T34 t351 x10_4).f3))) (ds := []) (pf 0 46) (by kernel_rfl) rfl rfl ⟨bc BK357 0, bc BK357 1, bc BK357 2, bc BK357 3⟩ (fun hHeld => ?_); refine with_tabW tangramlaw01_NumsBack.tab18 tangramlaw01_NumsBack.bits18 (fun HT_ HW_ => ?_); generalize w72.drew = w73 at HO_3 HO_6 BK357 HB hHeld ⊢; refine pu_ 0 (some 72) (pf 1 46) HT_ ?_; refine tk4_ 1 (some 73) (pf 2 46) HT_ HW_ hHeld ?_
                refine pu_ 2 (some 74) (pf 3 46) HT_ ?_; refine pu_ 3 (some 75) (pf 4 46) HT_ ?_; refine pn_ 4 (some 76) (pf 5 46) HT_ ?_; refine pn_ 5 (some 77) (pf 6 46) HT_ ?_; refine pn_ 6 (some 78) (pf 7 46) HT_ ?_; refine pn_ 7 (some 79) (pf 8 46) HT_ ?_; refine pn_ 8 (some 80) (pf 9 46) HT_ ?_; refine pn_ 9 (some 81) (pf 10 46) HT_ ?_; refine pn_ 10 (some 82) (pf 11 46) HT_ ?_
                refine pu_ 11 (some 83) (pf 12 46) HT_ ?_; refine pu_ 12 (some 84) (pf 13 46) HT_ ?_; refine pn_ 13 (some 85) (pf 14 46) HT_ ?_; refine pn_ 14 (some 86) (pf 15 46) HT_ ?_; refine pn_ 15 (some 87) (pf 16 46) HT_ ?_; refine pn_ 16 (some 88) (pf 17 46) HT_ ?_; refine pu_ 17 (some 89) (pf 18 46) HT_ ?_; refine pu_ 18 (some 90) (pf 19 46) HT_ ?_; refine pn_ 19 (some 91) (pf 20 46) HT_ ?_
                refine pn_ 20 (some 92) (pf 21 46) HT_ ?_; refine pn_ 21 (some 93) (pf 22 46) HT_ ?_; refine pn_ 22 (some 94) (pf 23 46) HT_ ?_; refine pn_ 23 (some 95) (pf 24 46) HT_ ?_; refine pu_ 24 (some 96) (pf 25 46) HT_ ?_; refine pu_ 25 (some 97) (pf 26 46) HT_ ?_; refine pn_ 26 (some 98) (pf 27 46) HT_ ?_; refine pn_ 27 (some 99) (pf 28 46) HT_ ?_; refine pn_ 28 (some 100) (pf 29 46) HT_ ?_
                refine pn_ 29 (some 101) (pf 30 46) HT_ ?_; refine pn_ 30 (some 102) (pf 31 46) HT_ ?_; refine pu_ 31 (some 103) (pf 32 46) HT_ ?_; refine pu_ 32 (some 104) (pf 33 46) HT_ ?_; refine pn_ 33 (some 105) (pf 34 46) HT_ ?_; refine pn_ 34 (some 106) (pf 35 46) HT_ ?_; refine pn_ 35 (some 107) (pf 36 46) HT_ ?_; refine pn_ 36 (some 108) (pf 37 46) HT_ ?_; refine pn_ 37 (some 109) (pf 38 46) HT_ ?_
                refine pn_ 38 (some 110) (pf 39 46) HT_ ?_; refine pn_ 39 (some 111) (pf 40 46) HT_ ?_; refine pn_ 40 (some 112) (pf 41 46) HT_ ?_; refine pn_ 41 (some 113) (pf 42 46) HT_ ?_; refine pn_ 42 (some 114) (pf 43 46) HT_ ?_; refine pn_ 43 (some 115) (pf 44 46) HT_ ?_; refine pn_ 44 (some 116) (pf 45 46) HT_ ?_; refine pu_ 45 (some 117) (pf 46 46) HT_ ?_; refine done_ (done_of HT_.out (by kernel_rfl)) ?_
                try go_wp2
                go_ret
                exact ⟨by first | rfl | (simp [errW_none, errW_some] <;> rfl) | (simp [*, errW_none, errW_some] <;> rfl), hb1 HB GE357⟩
              ·rw [if_neg c25] at H; exact absurd H (by simp)
             ·rw [if_neg c24] at H; exact absurd H (by simp)
            ·rw [if_neg c23] at H; have c23b0 : decide (x10_4 < (x3_1.length : Int)) = false := decide_eq_false c23; clear c23
             by_cases c74 : 0 ≤ (x3_1.length : Int)
             ·rw [if_pos c74] at H; have c74b0 : decide (0 ≤ (x3_1.length : Int)) = true := decide_eq_true c74; have c74b1 : decide (0 ≤ x3_1.length) = true := decide_eq_true (by omega); clear c74
              by_cases c75 : (x3_1.length : Int) < (t351.length : Int)
              ·rw [if_pos c75] at H; have c75b0 : decide ((x3_1.length : Int) < (t351.length : Int)) = true := decide_eq_true c75; have c75b1 : decide (x3_1.length < t351.length) = true := decide_eq_true (Int.ofNat_lt.mp c75); clear c75
               by_cases c76 : (((rd_T34 t351 (x3_1.length : Int)).f0) == 2 && (((rd_T34 t351 (x3_1.length : Int)).f1) == (wrap64 ((t350.size : Int) - 1)) && (((rd_T34 t351 (x3_1.length : Int)).f2) == (t350.size : Int) && (((rd_T34 t351 (x3_1.length : Int)).f3) == 0)))) = true
               ·rw [if_pos c76] at H; have c76b0 : (((rd_T34 t351 (x3_1.length : Int)).f0) == 2 && (((rd_T34 t351 (x3_1.length : Int)).f1) == (wrap64 ((t350.size : Int) - 1)) && (((rd_T34 t351 (x3_1.length : Int)).f2) == (t350.size : Int) && (((rd_T34 t351 (x3_1.length : Int)).f3) == 0)))) = true := c76
                (try (have c76b1 : decide (((rd_T34 t351 (x3_1.length : Int)).f0) = 2 && (((rd_T34 t351 (x3_1.length : Int)).f1) == (wrap64 ((t350.size : Int) - 1)) && (((rd_T34 t351 (x3_1.length : Int)).f2) == (t350.size : Int) && (((rd_T34 t351 (x3_1.length : Int)).f3) == 0)))) = true := by simpa using c76))
                (try (have c76b2 : (((rd_T34 t351 (x3_1.length : Int)).f0) == 2 && (((rd_T34 t351 (x3_1.length : Int)).f1) == (wrap64 ((t350.size : Int) - 1)) && (((rd_T34 t351 (x3_1.length : Int)).f2) == (t350.size : Int) && (((rd_T34 t351 (x3_1.length : Int)).f3) == 0)))) = true := by simpa using c76))
                clear c76; obtain ⟨ji77, hji77⟩ : ∃ j_ : Int, (wrap64 ((x3_1.length : Int) + 1)) = j_ := ⟨_, rfl⟩; replace H : (if 0 ≤ (ji77) then (if (ji77) < (t351.length : Int) then (some (((rd_T34 t351 (ji77)).f0) == 3 && (((rd_T34 t351 (ji77)).f1) == (t350.size : Int) && (((rd_T34 t351 (ji77)).f2) == (t350.size : Int) && (((rd_T34 t351 (ji77)).f3) == 0))))) else (none)) else (none)) = some r := by first | (rw [hji77] at H; exact H) | (simp only [hji77] at H ⊢; exact H)
                have hji77w : (IntKind.i64.wrap ((x3_1.length : Int) + 1)) = ji77 := (i64_w _).trans hji77
                by_cases c78 : 0 ≤ (ji77)
                ·rw [if_pos c78] at H; have c78b0 : decide (0 ≤ (ji77)) = true := decide_eq_true c78; clear c78
                 by_cases c79 : (ji77) < (t351.length : Int)
                 ·rw [if_pos c79] at H; have c79b0 : decide ((ji77) < (t351.length : Int)) = true := decide_eq_true c79; clear c79; obtain rfl := Option.some.inj H; obtain ⟨Ao80, co80, eo80⟩ := Kd.R_slice HO_6.out; subst eo80; have p361 : 0 ≤ ((x3_1.length : Int) : Int) := of_decide_eq_true (by first | (with_reducible assumption) | assumption); have q361 : (x3_1.length : Int) < (t351.length : Int) := of_decide_eq_true (by first | (with_reducible assumption) | assumption); obtain ⟨ad361, e361, hx361_0, hx361_1, hx361_2, hx361_3⟩ := at_T34 (Kd.R_reads' HO_6.out).2.2 (x3_1.length : Int) p361 q361
                  cases e361
                  (try simp only [Go.IntWalk.toNatUp] at hx361_0)
                  (try simp only [Go.IntWalk.toNatUp] at hx361_1)
                  (try simp only [Go.IntWalk.toNatUp] at hx361_2)
                  (try simp only [Go.IntWalk.toNatUp] at hx361_3)
                  replace p361 := eq_true p361; replace q361 := eq_true q361; have p362 : 0 ≤ ((ji77) : Int) := of_decide_eq_true (by first | (with_reducible assumption) | assumption); have q362 : (ji77) < (t351.length : Int) := of_decide_eq_true (by first | (with_reducible assumption) | assumption); obtain ⟨ad362, e362, hx362_0, hx362_1, hx362_2, hx362_3⟩ := at_T34 (Kd.R_reads' HO_6.out).2.2 (ji77) p362 q362; obtain rfl : ad361 = ad362 := (by injection e362); replace p362 := eq_true p362; replace q362 := eq_true q362
                  go_wp2
                  go_ret
                  exact ⟨by first | rfl | (simp [errW_none, errW_some] <;> rfl) | (simp only [← hji77]; first | rfl | (simp [errW_none, errW_some] <;> rfl)) | (simp [*, errW_none, errW_some] <;> rfl), hb0 HB⟩
                 ·rw [if_neg c79] at H; exact absurd H (by simp)
                ·rw [if_neg c78] at H; exact absurd H (by simp)
               ·rw [if_neg c76] at H; have c76b0 : (((rd_T34 t351 (x3_1.length : Int)).f0) == 2 && (((rd_T34 t351 (x3_1.length : Int)).f1) == (wrap64 ((t350.size : Int) - 1)) && (((rd_T34 t351 (x3_1.length : Int)).f2) == (t350.size : Int) && (((rd_T34 t351 (x3_1.length : Int)).f3) == 0)))) = false := by simpa using c76
                (try (have c76b1 : decide (((rd_T34 t351 (x3_1.length : Int)).f0) = 2 && (((rd_T34 t351 (x3_1.length : Int)).f1) == (wrap64 ((t350.size : Int) - 1)) && (((rd_T34 t351 (x3_1.length : Int)).f2) == (t350.size : Int) && (((rd_T34 t351 (x3_1.length : Int)).f3) == 0)))) = false := by simpa using c76))
                (try (have c76b2 : (((rd_T34 t351 (x3_1.length : Int)).f0) == 2 && (((rd_T34 t351 (x3_1.length : Int)).f1) == (wrap64 ((t350.size : Int) - 1)) && (((rd_T34 t351 (x3_1.length : Int)).f2) == (t350.size : Int) && (((rd_T34 t351 (x3_1.length : Int)).f3) == 0)))) = false := by simpa using c76))
                (try (have c76b3 : ¬ (((rd_T34 t351 (x3_1.length : Int)).f0) = 2 && (((rd_T34 t351 (x3_1.length : Int)).f1) == (wrap64 ((t350.size : Int) - 1)) && (((rd_T34 t351 (x3_1.length : Int)).f2) == (t350.size : Int) && (((rd_T34 t351 (x3_1.length : Int)).f3) == 0)))) := by simpa using c76))
                clear c76; obtain rfl := Option.some.inj H; obtain ⟨Ao81, co81, eo81⟩ := Kd.R_slice HO_6.out; subst eo81; have p361 : 0 ≤ ((x3_1.length : Int) : Int) := of_decide_eq_true (by first | (with_reducible assumption) | assumption); have q361 : (x3_1.length : Int) < (t351.length : Int) := of_decide_eq_true (by first | (with_reducible assumption) | assumption); obtain ⟨ad361, e361, hx361_0, hx361_1, hx361_2, hx361_3⟩ := at_T34 (Kd.R_reads' HO_6.out).2.2 (x3_1.length : Int) p361 q361
                cases e361
                (try simp only [Go.IntWalk.toNatUp] at hx361_0)
                (try simp only [Go.IntWalk.toNatUp] at hx361_1)
                (try simp only [Go.IntWalk.toNatUp] at hx361_2)
                (try simp only [Go.IntWalk.toNatUp] at hx361_3)
                replace p361 := eq_true p361; replace q361 := eq_true q361
                go_wp2
                go_ret
                exact ⟨by first | rfl | (simp [errW_none, errW_some] <;> rfl) | (simp [*, errW_none, errW_some] <;> rfl), hb0 HB⟩
              ·rw [if_neg c75] at H; exact absurd H (by simp)
             ·rw [if_neg c74] at H; exact absurd H (by simp)
 ·replace c3 := Bool.eq_false_iff.mpr c3; subst c3; rw [if_neg (show ¬ (false = true) by decide)] at H; obtain rfl := Option.some.inj H
  go_enter Tryd.func7, Tryd.ntmps7
  go_wp2_with (first | ((with_reducible refine gate_callee (f := 10) rfl ?_); refine gl_ (some 12) Tryd.func10 #[] ?_; (with_reducible refine (tangramlaw01_awake.calls k  false _ ?sideT A2.out).mono ?_); (case sideT => exact tb HT (hb0 HB)); rintro e w82 ⟨rfl, hb⟩; refine ⟨_, rfl, ?_⟩; replace HB := hs (hb0 HB) hb; (try clear hb); (try clear hb2); (try clear hk); (try clear hi)))
  go_ret
  exact ⟨by first | rfl | (simp [errW_none, errW_some] <;> rfl) | (simp [*, errW_none, errW_some] <;> rfl), hb0 HB⟩

/-- THE ONE PURE STATEMENT of tangramlaw01_NumsBack: yours. -/
def tangramlaw01_NumsBack.Pure : Prop := ∀ (l0 : List Int), l0.length ≤ maxLen → l0.length * 8 ≤ 140737488351232 → (∀ x ∈ l0, (Lit.int .i64 x).wf = true) → ∃ k, tangramlaw01_NumsBack.f k l0 = some true
theorem tangramlaw01_NumsBack.walk (P : tangramlaw01_NumsBack.Pure) (a0 : Option Addr) (len0 cap0 : Nat) (z0 : List Int) (w : World) (hT : TabW w) (w0 : (a0 = none ∧ len0 = 0 ∧ cap0 = 0 ∧ z0 = []) ∨ ∃ x, a0 = some x ∧ len0 ≤ cap0 ∧ cap0 ≤ maxLen ∧ z0.length = cap0 ∧ (∀ i, i < z0.length → w.cell? (x.add i) = some (.int .i64 (z0.getD i 0))) ∧ ∀ n ∈ z0, (Lit.int .i64 n).wf = true) (y0 : len0 * 8 ≤ 140737488351232) :
  Calls Tryd.prog 7 #[.slice a0 len0 cap0] w fun e w' => e = .returned (.bool true) ∧ Below w.heap.size w w' := by
 obtain ⟨l0, rfl, hr0, hm0, hw0, hc0⟩ := ReadsInt.ofRowC w0; obtain ⟨k, h⟩ := P l0 hm0 y0 hw0; refine (tangramlaw01_NumsBack.calls k _ _ l0 true w hT (Kd.C_of_reads (d := (0 : Int)) (h1 := fun _ => rfl) hr0) hc0 h).mono ?_; rintro e w' ⟨rfl, hd⟩; exact ⟨rfl, hd⟩

end Go.Proofs.YtjgaicdieddekaaDoor.PNumA
