-- PRINTED by print.py (a twelfth state) out of the translation. Not trusted: Lean checks it.
import Derived.Test.YtjgaicdieddekaaDoorZPNumAx0
import Derived.Test.YtjgaicdieddekaaDoorZPNumAx5
import Derived.Test.YtjgaicdieddekaaDoorZPNumAx7
import Derived.Test.YtjgaicdieddekaaDoorZPNumAx8
namespace Go.Proofs.YtjgaicdieddekaaDoor.PNumA
open Go.RowKit Go.Proofs.YtjgaicdieddekaaDoorW.PrintWords Go.Proofs.YtjgaicdieddekaaDoorW.PrintLast Go.Proofs.YtjgaicdieddekaaDoorW.PrintMore
open Go.Proofs.YtjgaicdieddekaaDoorX
attribute [local go_sem] max2_int min2_int max_two min_two max_three min_three max_four min_four   -- for this text's walks alone
set_option linter.unusedVariables false
set_option linter.unusedSimpArgs false

/-! ### tangramlaw01_NumsLies: function 5 -/
mutual
def tangramlaw01_NumsLies.l0 : Nat → List Int → List (S34) → Int → Int → Option (Bool)
 | 0, _, _, _, _ => none
 | k + 1, x0, x3, x6, x7 => if x7 < (x3.length : Int) then (if 0 ≤ x7 then (if ((rd_T34 x3 x7).f1) < x6 then (tangramlaw01_NumsLies.j1 k x0 x3 x6 x7 true ((rd_T34 x3 x7).f0) ((rd_T34 x3 x7).f1) ((rd_T34 x3 x7).f2) ((rd_T34 x3 x7).f3)) else (if ((rd_T34 x3 x7).f1) > (x0.length : Int) then (tangramlaw01_NumsLies.j1 k x0 x3 x6 x7 true ((rd_T34 x3 x7).f0) ((rd_T34 x3 x7).f1) ((rd_T34 x3 x7).f2) ((rd_T34 x3 x7).f3)) else (if ((rd_T34 x3 x7).f2) > (x0.length : Int) then (tangramlaw01_NumsLies.j1 k x0 x3 x6 x7 true ((rd_T34 x3 x7).f0) ((rd_T34 x3 x7).f1) ((rd_T34 x3 x7).f2) ((rd_T34 x3 x7).f3)) else (tangramlaw01_NumsLies.j1 k x0 x3 x6 x7 ((decide (((rd_T34 x3 x7).f2) ≤ ((rd_T34 x3 x7).f1))) != (((rd_T34 x3 x7).f0) == 3)) ((rd_T34 x3 x7).f0) ((rd_T34 x3 x7).f1) ((rd_T34 x3 x7).f2) ((rd_T34 x3 x7).f3))))) else (none)) else (if (x3.length : Int) > 0 then (if 0 ≤ (wrap64 ((x3.length : Int) - 1)) then (if (wrap64 ((x3.length : Int) - 1)) < (x3.length : Int) then (if ((rd_T34 x3 (wrap64 ((x3.length : Int) - 1))).f0) = 3 then (some (x6 == (x0.length : Int))) else (some false)) else (none)) else (none)) else (some false))
def tangramlaw01_NumsLies.j1 : Nat → List Int → List (S34) → Int → Int → Bool → Int → Int → Int → Int → Option (Bool)
 | 0, _, _, _, _, _, _, _, _, _ => none
 | k + 1, x0, x3, x6, x7, x63, x234000, x234001, x234002, x234003 => if x63 = true then (some false) else (tangramlaw01_NumsLies.l1 k x0 x3 x7 x6 x234000 x234001 x234002 x234003)
def tangramlaw01_NumsLies.l1 : Nat → List Int → List (S34) → Int → Int → Int → Int → Int → Int → Option (Bool)
 | 0, _, _, _, _, _, _, _, _ => none
 | k + 1, x0, x3, x7, x9, x234000, x234001, x234002, x234003 => if x9 < x234001 then (if 0 ≤ x9 then (if x9 < (x0.length : Int) then (if (rd x0 x9) = 32 then (tangramlaw01_NumsLies.l1 k x0 x3 x7 (wrap64 (x9 + 1)) x234000 x234001 x234002 x234003) else (if (rd x0 x9) = 9 then (tangramlaw01_NumsLies.l1 k x0 x3 x7 (wrap64 (x9 + 1)) x234000 x234001 x234002 x234003) else (if (rd x0 x9) = 13 then (tangramlaw01_NumsLies.l1 k x0 x3 x7 (wrap64 (x9 + 1)) x234000 x234001 x234002 x234003) else (some false)))) else (none)) else (none)) else (if x234000 = 1 then ((nums_Text.f k x234003).bind fun t237 => (if 0 ≤ x234001 then (if x234001 ≤ x234002 then (if x234002 ≤ (x0.length : Int) then (if t237.toList = (strOfNums ((x0.take (x234002 : Int).toNat).drop (x234001 : Int).toNat)).toList then (if x234000 = 2 then (if x234001 < (x0.length : Int) then (if (rd x0 x234001) = 10 then (if x234002 = (wrap64 (x234001 + 1)) then (tangramlaw01_NumsLies.l0 k x0 x3 x234002 (wrap64 (x7 + 1))) else (some false)) else (some false)) else (none)) else (tangramlaw01_NumsLies.l0 k x0 x3 x234002 (wrap64 (x7 + 1)))) else (some false)) else (none)) else (none)) else (none))) else (if x234000 = 2 then (if 0 ≤ x234001 then (if x234001 < (x0.length : Int) then (if (rd x0 x234001) = 10 then (if x234002 = (wrap64 (x234001 + 1)) then (tangramlaw01_NumsLies.l0 k x0 x3 x234002 (wrap64 (x7 + 1))) else (some false)) else (some false)) else (none)) else (none)) else (tangramlaw01_NumsLies.l0 k x0 x3 x234002 (wrap64 (x7 + 1)))))
end
def tangramlaw01_NumsLies.f (k : Nat) (l0 : List Int) : Option (Bool) := (tangramlaw01_awake.f k).bind fun t219 => (if t219 = true then ((some (([] : List Int) : List Int)).bind fun y220 => (if y220.length + l0.length < 140737488355328 then ((nums_Scan.f k (y220 ++ l0)).bind fun bt226 => (if bt226.2.2 = 0 then (tangramlaw01_NumsLies.l0 k l0 bt226.1 0 0) else (some ((bt226.1.length : Int) == 0)))) else (none))) else (some false))
theorem tangramlaw01_NumsLies.mono_l : ∀ k, (∀ y0 y1 y2 y3, LeO (tangramlaw01_NumsLies.l0 k y0 y1 y2 y3) (tangramlaw01_NumsLies.l0 (k + 1) y0 y1 y2 y3)) ∧ (∀ y0 y1 y2 y3 y4 y5 y6 y7 y8, LeO (tangramlaw01_NumsLies.j1 k y0 y1 y2 y3 y4 y5 y6 y7 y8) (tangramlaw01_NumsLies.j1 (k + 1) y0 y1 y2 y3 y4 y5 y6 y7 y8)) ∧ (∀ y0 y1 y2 y3 y4 y5 y6 y7, LeO (tangramlaw01_NumsLies.l1 k y0 y1 y2 y3 y4 y5 y6 y7) (tangramlaw01_NumsLies.l1 (k + 1) y0 y1 y2 y3 y4 y5 y6 y7))
 | 0 => ⟨fun _ _ _ _ r h => by simp [tangramlaw01_NumsLies.l0] at h, fun _ _ _ _ _ _ _ _ _ r h => by simp [tangramlaw01_NumsLies.j1] at h, fun _ _ _ _ _ _ _ _ r h => by simp [tangramlaw01_NumsLies.l1] at h⟩
 | k + 1 => by
  obtain ⟨ih0, ih1, ih2⟩ := tangramlaw01_NumsLies.mono_l k; refine ⟨?_, ?_, ?_⟩
  ·intro y0 y1 y2 y3
   unfold tangramlaw01_NumsLies.l0
   repeat' first
   | (with_reducible exact ih0 _ _ _ _)
   | (with_reducible exact ih1 _ _ _ _ _ _ _ _ _)
   | (with_reducible exact ih2 _ _ _ _ _ _ _ _)
   | (with_reducible exact nums_Scan.mono _ _)
   | (with_reducible exact nums_Text.mono _ _)
   | (with_reducible exact tangramlaw01_awake.mono _)
   | (with_reducible exact LeO.refl _)
   | (with_reducible exact LeO.none _)
   | (with_reducible refine LeO.ite ?_ ?_)
   | (with_reducible refine LeO.bind ?_ (fun _ => ?_))
   | exact ih0 _ _ _ _
   | exact ih1 _ _ _ _ _ _ _ _ _
   | exact ih2 _ _ _ _ _ _ _ _
   | exact nums_Scan.mono _ _
   | exact nums_Text.mono _ _
   | exact tangramlaw01_awake.mono _
   | exact LeO.none _
   | refine LeO.ite ?_ ?_
   | refine LeO.bind ?_ (fun _ => ?_)
  ·intro y0 y1 y2 y3 y4 y5 y6 y7 y8
   unfold tangramlaw01_NumsLies.j1
   repeat' first
   | (with_reducible exact ih0 _ _ _ _)
   | (with_reducible exact ih1 _ _ _ _ _ _ _ _ _)
   | (with_reducible exact ih2 _ _ _ _ _ _ _ _)
   | (with_reducible exact nums_Scan.mono _ _)
   | (with_reducible exact nums_Text.mono _ _)
   | (with_reducible exact tangramlaw01_awake.mono _)
   | (with_reducible exact LeO.refl _)
   | (with_reducible exact LeO.none _)
   | (with_reducible refine LeO.ite ?_ ?_)
   | (with_reducible refine LeO.bind ?_ (fun _ => ?_))
   | exact ih0 _ _ _ _
   | exact ih1 _ _ _ _ _ _ _ _ _
   | exact ih2 _ _ _ _ _ _ _ _
   | exact nums_Scan.mono _ _
   | exact nums_Text.mono _ _
   | exact tangramlaw01_awake.mono _
   | exact LeO.none _
   | refine LeO.ite ?_ ?_
   | refine LeO.bind ?_ (fun _ => ?_)
  ·intro y0 y1 y2 y3 y4 y5 y6 y7
   unfold tangramlaw01_NumsLies.l1
   repeat' first
   | (with_reducible exact ih0 _ _ _ _)
   | (with_reducible exact ih1 _ _ _ _ _ _ _ _ _)
   | (with_reducible exact ih2 _ _ _ _ _ _ _ _)
   | (with_reducible exact nums_Scan.mono _ _)
   | (with_reducible exact nums_Text.mono _ _)
   | (with_reducible exact tangramlaw01_awake.mono _)
   | (with_reducible exact LeO.refl _)
   | (with_reducible exact LeO.none _)
   | (with_reducible refine LeO.ite ?_ ?_)
   | (with_reducible refine LeO.bind ?_ (fun _ => ?_))
   | exact ih0 _ _ _ _
   | exact ih1 _ _ _ _ _ _ _ _ _
   | exact ih2 _ _ _ _ _ _ _ _
   | exact nums_Scan.mono _ _
   | exact nums_Text.mono _ _
   | exact tangramlaw01_awake.mono _
   | exact LeO.none _
   | refine LeO.ite ?_ ?_
   | refine LeO.bind ?_ (fun _ => ?_)
theorem tangramlaw01_NumsLies.mono : ∀ a0 k, LeO (tangramlaw01_NumsLies.f k a0) (tangramlaw01_NumsLies.f (k + 1) a0) := by
 intro a0 k; obtain ⟨ih0, ih1, ih2⟩ := tangramlaw01_NumsLies.mono_l k
 unfold tangramlaw01_NumsLies.f
 repeat' first
   | (with_reducible exact ih0 _ _ _ _)
   | (with_reducible exact ih1 _ _ _ _ _ _ _ _ _)
   | (with_reducible exact ih2 _ _ _ _ _ _ _ _)
   | (with_reducible exact nums_Scan.mono _ _)
   | (with_reducible exact nums_Text.mono _ _)
   | (with_reducible exact tangramlaw01_awake.mono _)
   | (with_reducible exact LeO.refl _)
   | (with_reducible exact LeO.none _)
   | (with_reducible refine LeO.ite ?_ ?_)
   | (with_reducible refine LeO.bind ?_ (fun _ => ?_))
   | exact ih0 _ _ _ _
   | exact ih1 _ _ _ _ _ _ _ _ _
   | exact ih2 _ _ _ _ _ _ _ _
   | exact nums_Scan.mono _ _
   | exact nums_Text.mono _ _
   | exact tangramlaw01_awake.mono _
   | exact LeO.none _
   | refine LeO.ite ?_ ?_
   | refine LeO.bind ?_ (fun _ => ?_)
def tangramlaw01_NumsLies.T18 : Bool × List (List Nat × List Nat) := (true, [([], []), ([0], [0]), ([1], [1]), ([2], [2]), ([3], [3]), ([4, 3], [3, 4]), ([5, 3, 3], [3, 5]), ([3], [3]), ([3], [3]), ([8, 3], [3, 8]), ([3], [3]), ([10, 3], [3, 10]), ([7, 9, 11, 3], [3, 7, 9, 11]), ([12, 3], [3, 12]), ([6, 13, 3], [3, 6, 13]), ([3, 14], [3, 14]), ([15, 6], [15]), ([16], [16]), ([17, 16], [16, 17]), ([18, 16], [16, 18]), ([19, 16, 16], [16, 19]), ([20], [20]), ([20], [20]), ([22, 20], [20, 22]), ([21, 23, 20], [20, 21, 23]), ([24, 20], [20, 24]), ([25, 20], [20, 25]), ([26, 20, 20], [20, 26]), ([27], [27]), ([28, 27], [27, 28]), ([27], [27]), ([30, 27], [27, 30]), ([31, 27], [27, 31]), ([29, 32, 27], [27, 29, 32]), ([27, 33, 20], [20, 27, 33]), ([20, 34, 16], [16, 20, 34]), ([16, 35], [16, 35])])
def tangramlaw01_NumsLies.B18 : List Nat := [0, 1, 3, 7, 15, 31, 63, 15, 15, 271, 15, 1039, 3983, 8079, 16383, 32767, 65535, 131071, 262143, 524287, 1048575, 2097151, 2097151, 6291455, 16777215, 33554431, 67108863, 134217727, 268435455, 536870911, 268435455, 1342177279, 3489660927, 8589934591, 17179869183, 34359738367, 68719476735]
theorem tangramlaw01_NumsLies.tab18 : rtab .any (opsOf Tryd.f5 18) = tangramlaw01_NumsLies.T18 := by kernel_rfl
theorem tangramlaw01_NumsLies.bits18 : waitsOk tangramlaw01_NumsLies.T18.2 tangramlaw01_NumsLies.B18 = true := by kernel_rfl
set_option maxHeartbeats 8000000 in
set_option maxRecDepth 100000 in
theorem tangramlaw01_NumsLies.calls (k : Nat) (A0 : Option Addr) (c0 : Nat) (l0 : List Int) (r : Bool) (w : World) (hT : TabW w) (hr0 : Kd.C (Kd.int .u8) w A0 l0.length l0) (hc0 : l0.length ≤ c0) (h : tangramlaw01_NumsLies.f k l0 = some r) :
  Calls Tryd.prog 5 #[.slice A0 l0.length c0] w fun e w' => e = .returned (.bool r) ∧ Below w.heap.size w w' := by
 have HT := Aside0.mk hT; clear hT; have hu34 := Tryd.underlying34; have HR0 := Aside0.mk hr0; have HC0 := Aside0.mk hc0; clear hr0 hc0; have HB := Aside0.mk (Below.refl w.heap.size w); have H : ((tangramlaw01_awake.f k).bind fun t219 => (if t219 = true then ((some (([] : List Int) : List Int)).bind fun y220 => (if y220.length + l0.length < 140737488355328 then ((nums_Scan.f k (y220 ++ l0)).bind fun bt226 => (if bt226.2.2 = 0 then (tangramlaw01_NumsLies.l0 k l0 bt226.1 0 0) else (some ((bt226.1.length : Int) == 0)))) else (none))) else (some false))) = some r := h; clear h; replace H := Option.bind_eq_some_iff.mp H; obtain ⟨t219, A20, H⟩ := H; (try dsimp only at H); have A2 := Aside0.mk A20; clear A20
 by_cases c3 : t219 = true
 ·subst c3; rw [if_pos rfl] at H; obtain ⟨y220, hy220⟩ : ∃ y_ : List Int, y_ = (([] : List Int)) := ⟨_, rfl⟩; replace H : (if y220.length + l0.length < 140737488355328 then ((nums_Scan.f k (y220 ++ l0)).bind fun bt226 => (if bt226.2.2 = 0 then (tangramlaw01_NumsLies.l0 k l0 bt226.1 0 0) else (some ((bt226.1.length : Int) == 0)))) else (none)) = some r := by first | (rw [hy220]; with_reducible exact H) | (have H2_ := (Option.bind_some _ _).symm.trans H; rw [hy220]; with_reducible exact H2_) | (have H2_ := (Option.bind_some _ _).symm.trans H; with_reducible exact H2_) | with_reducible exact H | (rw [hy220]; exact H) | exact H
  have Ny220 := Aside0.mk hy220; clear hy220
  by_cases c4 : y220.length + l0.length < 140737488355328
  ·rw [if_pos c4] at H; have LMc4 := Aside0.mk c4; clear c4; obtain ⟨y223, hy223⟩ : ∃ y_ : List Int, y_ = (y220 ++ l0) := ⟨_, rfl⟩; replace H : ((nums_Scan.f k y223).bind fun bt226 => (if bt226.2.2 = 0 then (tangramlaw01_NumsLies.l0 k l0 bt226.1 0 0) else (some ((bt226.1.length : Int) == 0)))) = some r := by first | (rw [hy223]; with_reducible exact H) | (have H2_ := (Option.bind_some _ _).symm.trans H; rw [hy223]; with_reducible exact H2_) | (have H2_ := (Option.bind_some _ _).symm.trans H; with_reducible exact H2_) | with_reducible exact H | (rw [hy223]; exact H) | exact H
   have Ny223 := Aside0.mk hy223; clear hy223; replace H := Option.bind_eq_some_iff.mp H; obtain ⟨⟨t226, t227, t228⟩, A50, H⟩ := H; (try dsimp only at H); have A5 := Aside0.mk A50; clear A50
   by_cases c6 : t228 = 0
   ·rw [if_pos c6] at H; have c6b0 : (t228 == 0) = true := beq_iff_eq.mpr c6; have c6b1 : (t228 != 0) = false := bne_eq_false_iff_eq.mpr c6; clear c6; have H' := Aside0.mk H; clear H
    go_enter Tryd.func5, Tryd.ntmps5
    go_wp2_with (first | ((with_reducible refine gate_callee (f := 10) rfl ?_); refine gl_ (some 10) Tryd.func10 #[] ?_; (with_reducible refine (tangramlaw01_awake.calls k  true _ ?sideT A2.out).mono ?_); (case sideT => exact tb HT (hb0 HB)); rintro e w7 ⟨rfl, hb⟩; refine ⟨_, rfl, ?_⟩; replace HB := hs (hb0 HB) hb; (try clear hb); (try clear hb2); (try clear hk); (try clear hi)) | ((with_reducible refine gate_dst (N := 13) rfl ?_); (try (refine gate_guard (by rfl) ?_; dsimp only)); refine Kd.R_lit (Kd.int .u8) _ 5 ?hg (N := 13) ?hd (xs := ([] : List Int)) (inner := []) (ok := fun _ => True) (okp := fun _ => True) ?hr ?hp (fun _ hk => hk) trivial (Below.refl _ _) (Nat.le_refl _) (by simp) ?_; (case hd => rfl); (case hg => rfl); (case hr => first | (go_simp; done) | (go_simp; rfl)); (case hp => exact (Reps.none _ _)); intro v221 w8 ho9 hb hg_ hnew_; clear hg_ hnew_; (first | rw [← Ny220.out] at ho9 | (simp only [Int.reduceToNat] at ho9; rw [← Ny220.out] at ho9)); have HO222 := Aside0.mk (Kd.R_lower ho9 (below_size (hb0 HB))); replace HB := hs (hb0 HB) hb; clear hb ho9) | ((with_reducible refine gate_builtin (b := .append) (xs := #[.tmp 13, .tmp 14]) rfl ?_); (try (refine gate_guard (by rfl) ?_; dsimp only)); at_builtin; refine Kd.R_append_rows (Kd.int .u8) (w0 := w) w.heap.size rfl (.tmp 13) (.tmp 14) 22 5 (.int .u8 0) 1 rfl Tryd.underlying22 info5 rfl (by decide) (by omega) v221 y220 l0 _ _ _ (fun _ => True) (fun _ => False) rfl rfl ?aO ?aR (fun _ _ h => h) (fun _ h => h.elim) ?aF ?aB ?aS ?aL ?_; (case aR => repeat (first | exact (Kd.C_below HR0.out HB.out) | (with_reducible refine Kd.C_alloc ?_ _) | (with_reducible refine Kd.C_drewN ?_ _) | (with_reducible refine Kd.C_drew ?_))); (case aB => exact (hb0 HB)); (case aF => exact (fun _ _ => trivial)); (case aO => exact (rx HO222)); (case aS => exact (below_size (hb0 HB))); (case aL => have := LMc4.out; omega); intro v224 w10 ho hb hg hat; rw [← Ny223.out] at ho; have n0_ := Aside0.mk (hb); have n1_ := Aside0.mk (ho); clear HB; clear HO222; have HB := n0_; have HO225 := n1_; clear n0_ n1_; clear ho hb hg hat; obtain ⟨Ao11, co11, eo11⟩ := Kd.R_slice HO225.out; subst eo11) | ((with_reducible refine gate_callee (f := 11) rfl ?_); refine gl_ (some 16) Tryd.func11 #[.slice Ao11 y223.length co11] ?_; (with_reducible refine (nums_Scan.calls k _ _ y223 t226 t227 t228 _ ?side1 ?side2 A5.out).mono ?_); (case side1 => exact cr HO225); (case side2 => exact (Kd.R_reads' HO225.out).2.1); rintro e w12 ⟨v229, rfl, ho0, hb⟩; refine ⟨_, rfl, ?_⟩; replace HO225 := ry HO225 hb; have HO230 := Aside0.mk (Kd.R_lower ho0 (below_size (hb0 HB))); replace HB := hs (hb0 HB) hb; (try clear hb); (try clear hb2); (try clear hk); (try clear hi); (try clear ho0)))
    go_loopg [6, 7] k (fun kq v6 v7 w' => ∃ (x6_1 : Int) (x7_1 : Int), v6 = .int .i64 x6_1 ∧ v7 = .int .i64 x7_1 ∧ Aside0 (tangramlaw01_NumsLies.l0 kq l0 t226 x6_1 x7_1 = some r) ∧ Aside0 (kq ≤ k) ∧ Aside0 (Kd.R k34 34 w' w.heap.size (fun _ => True) v229 t226) ∧ Aside0 (Below w.heap.size w w'))
    case atStart => exact ⟨(0), (0), (by first | rfl | (simp; done) | (simp [*]; done)), (by first | rfl | (simp; done) | (simp [*]; done)), H', ⟨Nat.le_refl _⟩, ⟨rx HO230⟩, ⟨hb0 HB⟩⟩
    case round =>
     clear H'
     try clear c1
     try clear p2
     try clear c3
     try clear c4
     try clear c5
     try clear c6
     try clear c6b0
     try clear c6b1
     try clear c10
     try clear c11
     obtain ⟨x6_1, x7_1, rfl, rfl, HA, HK1, HO_3, HB⟩ := hrel
     cases gk with
     | zero => exact absurd HA.out (by simp [tangramlaw01_NumsLies.l0])
     | succ k1 =>
      have H := HA.out; clear HA; simp only [tangramlaw01_NumsLies.l0] at H
      by_cases c13 : x7_1 < (t226.length : Int)
      ·rw [if_pos c13] at H; have c13b0 : decide (x7_1 < (t226.length : Int)) = true := decide_eq_true c13; clear c13
       by_cases c14 : 0 ≤ x7_1
       ·rw [if_pos c14] at H; have c14b0 : decide (0 ≤ x7_1) = true := decide_eq_true c14; clear c14; have HC15 := Aside0.mk H; clear H; obtain ⟨Ao16, co16, eo16⟩ := Kd.R_slice HO_3.out; subst eo16; have p232 : 0 ≤ (x7_1 : Int) := of_decide_eq_true (by first | (with_reducible assumption) | assumption); have q232 : x7_1 < (t226.length : Int) := of_decide_eq_true (by first | (with_reducible assumption) | assumption); obtain ⟨ad232, e232, hx232_0, hx232_1, hx232_2, hx232_3⟩ := at_T34 (Kd.R_reads' HO_3.out).2.2 x7_1 p232 q232
        cases e232
        replace p232 := eq_true p232; replace q232 := eq_true q232
        go_upto_region 11 with (first | ((with_reducible refine gate_dst (N := 8) rfl ?_); (try (refine gate_guard (by rfl) ?_; dsimp only)); refine be_ 8 #[.int .i64 0, .int .i64 0, .int .i64 0, .int .i64 0] 34 ?_; intro gb233 hg w17 hbox hb; replace HO_3 := Aside0.mk (Kd.R_below (Kd.R_elderB (rx HO_3) gb233 (Nat.le_of_eq hg.symm)) hb); have BK233 := Aside0.mk (hbox); have GW233 := wq (hb0 HB) hg; have GE233 := wq (hb0 HB) hg; replace HB := hs (hb0 HB) hb; clear hb hbox hg; have hcz18_0 : w17.cell? ⟨gb233, 0, none⟩ = some (.int .i64 0) := bc BK233 0; have hcz18_1 : w17.cell? ⟨gb233, 1, none⟩ = some (.int .i64 0) := bc BK233 1; have hcz18_2 : w17.cell? ⟨gb233, 2, none⟩ = some (.int .i64 0) := bc BK233 2; have hcz18_3 : w17.cell? ⟨gb233, 3, none⟩ = some (.int .i64 0) := bc BK233 3; have hfz18_0 := blk_frozen BK233.out 0; have hfz18_1 := blk_frozen BK233.out 1; have hfz18_2 := blk_frozen BK233.out 2; have hfz18_3 := blk_frozen BK233.out 3))
        (try simp only [Act.put, List.setIfInBounds_toArray, List.set_cons_zero, List.set_cons_succ])
        go_cut [63] (fun v63 wc => ∃ (kq : Nat) (x63_14 : Bool), v63 = .bool x63_14 ∧ Aside0 (tangramlaw01_NumsLies.j1 kq l0 t226 x6_1 x7_1 x63_14 ((rd_T34 t226 x7_1).f0) ((rd_T34 t226 x7_1).f1) ((rd_T34 t226 x7_1).f2) ((rd_T34 t226 x7_1).f3) = some r) ∧ Aside0 (kq ≤ k1) ∧ Aside0 (Kd.R k34 34 wc w.heap.size (fun k_ => k_ ≠ gb233) (.slice (some ad232) t226.length co16) t226) ∧ Aside0 (wc.heap[gb233]? = some (.cells #[.int .i64 ((rd_T34 t226 x7_1).f0), .int .i64 ((rd_T34 t226 x7_1).f1), .int .i64 ((rd_T34 t226 x7_1).f2), .int .i64 ((rd_T34 t226 x7_1).f3)] 34 (0, 0))) ∧ Aside0 (Below w.heap.size w wc))
        case first => as_aux_lemma =>
         have H := HC15.out; clear HC15
         by_cases c19 : ((rd_T34 t226 x7_1).f1) < x6_1
         ·rw [if_pos c19] at H; have c19b0 : decide (((rd_T34 t226 x7_1).f1) < x6_1) = true := decide_eq_true c19; clear c19
          (first | rw [c19b0] | (simp only [i64_w, i32_w]; rw [c19b0]) | skip)
          have H' := Aside0.mk H; clear H; have hcz20_0 : w17.cell? ⟨gb233, 0, none⟩ = some (.int .i64 0) := bc BK233 0; have hcz20_1 : w17.cell? ⟨gb233, 1, none⟩ = some (.int .i64 0) := bc BK233 1; have hcz20_2 : w17.cell? ⟨gb233, 2, none⟩ = some (.int .i64 0) := bc BK233 2; have hcz20_3 : w17.cell? ⟨gb233, 3, none⟩ = some (.int .i64 0) := bc BK233 3; have hfz20_0 := blk_frozen BK233.out 0; have hfz20_1 := blk_frozen BK233.out 1; have hfz20_2 := blk_frozen BK233.out 2; have hfz20_3 := blk_frozen BK233.out 3
          go_wp2
          go_meet
          case rel => exact ⟨_, (true), (by first | rfl | (simp; done) | (simp [*]; done)), H', ⟨by have := HK1.out; first | omega | exact Nat.le_refl _⟩, ⟨by (with_reducible repeat (first | apply Kd.R_alloc | apply Kd.R_drewN | apply Kd.R_drew)); exact Kd.R_mono (Kd.R_far (p := ⟨gb233, 3, none⟩) (Kd.R_far (p := ⟨gb233, 2, none⟩) (Kd.R_far (p := ⟨gb233, 1, none⟩) (Kd.R_far (p := ⟨gb233, 0, none⟩) (Kd.R_mono HO_3.out (fun k_ hk => (⟨hk, hk.2⟩ : _ ∧ k_ ≠ gb233))) (fun _ hk => hk.2) (.int .i64 ((rd_T34 t226 x7_1).f0))) (fun _ hk => hk.2) (.int .i64 ((rd_T34 t226 x7_1).f1))) (fun _ hk => hk.2) (.int .i64 ((rd_T34 t226 x7_1).f2))) (fun _ hk => hk.2) (.int .i64 ((rd_T34 t226 x7_1).f3))) (fun _ hk => hk.1.2)⟩, ⟨bp BK233⟩, ⟨hb1 HB GE233⟩⟩
         ·rw [if_neg c19] at H; have c19b0 : decide (((rd_T34 t226 x7_1).f1) < x6_1) = false := decide_eq_false c19; clear c19
          (first | rw [c19b0] | (simp only [i64_w, i32_w]; rw [c19b0]) | skip)
          by_cases c21 : ((rd_T34 t226 x7_1).f1) > (l0.length : Int)
          ·rw [if_pos c21] at H; have c21b0 : decide ((l0.length : Int) < ((rd_T34 t226 x7_1).f1)) = true := decide_eq_true c21; clear c21; have H' := Aside0.mk H; clear H; have hcz22_0 : w17.cell? ⟨gb233, 0, none⟩ = some (.int .i64 0) := bc BK233 0; have hcz22_1 : w17.cell? ⟨gb233, 1, none⟩ = some (.int .i64 0) := bc BK233 1; have hcz22_2 : w17.cell? ⟨gb233, 2, none⟩ = some (.int .i64 0) := bc BK233 2; have hcz22_3 : w17.cell? ⟨gb233, 3, none⟩ = some (.int .i64 0) := bc BK233 3; have hfz22_0 := blk_frozen BK233.out 0; have hfz22_1 := blk_frozen BK233.out 1; have hfz22_2 := blk_frozen BK233.out 2; have hfz22_3 := blk_frozen BK233.out 3
           go_wp2
           go_meet
           case rel => exact ⟨_, (true), (by first | rfl | (simp; done) | (simp [*]; done)), H', ⟨by have := HK1.out; first | omega | exact Nat.le_refl _⟩, ⟨by (with_reducible repeat (first | apply Kd.R_alloc | apply Kd.R_drewN | apply Kd.R_drew)); exact Kd.R_mono (Kd.R_far (p := ⟨gb233, 3, none⟩) (Kd.R_far (p := ⟨gb233, 2, none⟩) (Kd.R_far (p := ⟨gb233, 1, none⟩) (Kd.R_far (p := ⟨gb233, 0, none⟩) (Kd.R_mono HO_3.out (fun k_ hk => (⟨hk, hk.2⟩ : _ ∧ k_ ≠ gb233))) (fun _ hk => hk.2) (.int .i64 ((rd_T34 t226 x7_1).f0))) (fun _ hk => hk.2) (.int .i64 ((rd_T34 t226 x7_1).f1))) (fun _ hk => hk.2) (.int .i64 ((rd_T34 t226 x7_1).f2))) (fun _ hk => hk.2) (.int .i64 ((rd_T34 t226 x7_1).f3))) (fun _ hk => hk.1.2)⟩, ⟨bp BK233⟩, ⟨hb1 HB GE233⟩⟩
          ·rw [if_neg c21] at H; have c21b0 : decide ((l0.length : Int) < ((rd_T34 t226 x7_1).f1)) = false := decide_eq_false c21; clear c21
           by_cases c23 : ((rd_T34 t226 x7_1).f2) > (l0.length : Int)
           ·rw [if_pos c23] at H; have c23b0 : decide ((l0.length : Int) < ((rd_T34 t226 x7_1).f2)) = true := decide_eq_true c23; clear c23; have H' := Aside0.mk H; clear H; have hcz24_0 : w17.cell? ⟨gb233, 0, none⟩ = some (.int .i64 0) := bc BK233 0; have hcz24_1 : w17.cell? ⟨gb233, 1, none⟩ = some (.int .i64 0) := bc BK233 1; have hcz24_2 : w17.cell? ⟨gb233, 2, none⟩ = some (.int .i64 0) := bc BK233 2; have hcz24_3 : w17.cell? ⟨gb233, 3, none⟩ = some (.int .i64 0) := bc BK233 3; have hfz24_0 := blk_frozen BK233.out 0; have hfz24_1 := blk_frozen BK233.out 1; have hfz24_2 := blk_frozen BK233.out 2; have hfz24_3 := blk_frozen BK233.out 3
            go_wp2
            go_meet
            case rel => exact ⟨_, (true), (by first | rfl | (simp; done) | (simp [*]; done)), H', ⟨by have := HK1.out; first | omega | exact Nat.le_refl _⟩, ⟨by (with_reducible repeat (first | apply Kd.R_alloc | apply Kd.R_drewN | apply Kd.R_drew)); exact Kd.R_mono (Kd.R_far (p := ⟨gb233, 3, none⟩) (Kd.R_far (p := ⟨gb233, 2, none⟩) (Kd.R_far (p := ⟨gb233, 1, none⟩) (Kd.R_far (p := ⟨gb233, 0, none⟩) (Kd.R_mono HO_3.out (fun k_ hk => (⟨hk, hk.2⟩ : _ ∧ k_ ≠ gb233))) (fun _ hk => hk.2) (.int .i64 ((rd_T34 t226 x7_1).f0))) (fun _ hk => hk.2) (.int .i64 ((rd_T34 t226 x7_1).f1))) (fun _ hk => hk.2) (.int .i64 ((rd_T34 t226 x7_1).f2))) (fun _ hk => hk.2) (.int .i64 ((rd_T34 t226 x7_1).f3))) (fun _ hk => hk.1.2)⟩, ⟨bp BK233⟩, ⟨hb1 HB GE233⟩⟩
           ·rw [if_neg c23] at H; have c23b0 : decide ((l0.length : Int) < ((rd_T34 t226 x7_1).f2)) = false := decide_eq_false c23; clear c23; have H' := Aside0.mk H; clear H; have hcz25_0 : w17.cell? ⟨gb233, 0, none⟩ = some (.int .i64 0) := bc BK233 0; have hcz25_1 : w17.cell? ⟨gb233, 1, none⟩ = some (.int .i64 0) := bc BK233 1; have hcz25_2 : w17.cell? ⟨gb233, 2, none⟩ = some (.int .i64 0) := bc BK233 2; have hcz25_3 : w17.cell? ⟨gb233, 3, none⟩ = some (.int .i64 0) := bc BK233 3; have hfz25_0 := blk_frozen BK233.out 0; have hfz25_1 := blk_frozen BK233.out 1; have hfz25_2 := blk_frozen BK233.out 2; have hfz25_3 := blk_frozen BK233.out 3
            go_wp2
            go_meet
            case rel => exact ⟨_, (((decide (((rd_T34 t226 x7_1).f2) ≤ ((rd_T34 t226 x7_1).f1))) != (((rd_T34 t226 x7_1).f0) == 3))), (by first | rfl | (simp; done) | (simp [*]; done)), H', ⟨by have := HK1.out; first | omega | exact Nat.le_refl _⟩, ⟨by (with_reducible repeat (first | apply Kd.R_alloc | apply Kd.R_drewN | apply Kd.R_drew)); exact Kd.R_mono (Kd.R_far (p := ⟨gb233, 3, none⟩) (Kd.R_far (p := ⟨gb233, 2, none⟩) (Kd.R_far (p := ⟨gb233, 1, none⟩) (Kd.R_far (p := ⟨gb233, 0, none⟩) (Kd.R_mono HO_3.out (fun k_ hk => (⟨hk, hk.2⟩ : _ ∧ k_ ≠ gb233))) (fun _ hk => hk.2) (.int .i64 ((rd_T34 t226 x7_1).f0))) (fun _ hk => hk.2) (.int .i64 ((rd_T34 t226 x7_1).f1))) (fun _ hk => hk.2) (.int .i64 ((rd_T34 t226 x7_1).f2))) (fun _ hk => hk.2) (.int .i64 ((rd_T34 t226 x7_1).f3))) (fun _ hk => hk.1.2)⟩, ⟨bp BK233⟩, ⟨hb1 HB GE233⟩⟩
        case rest => as_aux_lemma =>
         clear HC15
         try clear c1
         try clear c2
         try clear p2
         try clear q2
         try clear hx2
         try clear c3
         try clear c4
         try clear c5
         try clear c6
         try clear c6b0
         try clear c6b1
         try clear c10
         try clear c11
         try clear c13
         try clear c13b0
         try clear c14
         try clear c14b0
         try clear c19
         try clear c19b0
         try clear c21
         try clear c21b0
         try clear c23
         try clear c23b0
         try clear p23
         try clear q23
         try clear hx23
         try clear hcz18_0
         try clear hcz18_1
         try clear hcz18_2
         try clear hcz18_3
         try clear hcz20_0
         try clear hcz20_1
         try clear hcz20_2
         try clear hcz20_3
         try clear hcz22_0
         try clear hcz22_1
         try clear hcz22_2
         try clear hcz22_3
         try clear hcz24_0
         try clear hcz24_1
         try clear hcz24_2
         try clear hcz24_3
         try clear hcz25_0
         try clear hcz25_1
         try clear hcz25_2
         try clear hcz25_3
         try clear hfz18_0
         try clear hfz18_1
         try clear hfz18_2
         try clear hfz18_3
         try clear hfz20_0
         try clear hfz20_1
         try clear hfz20_2
         try clear hfz20_3
         try clear hfz22_0
         try clear hfz22_1
         try clear hfz22_2
         try clear hfz22_3
         try clear hfz24_0
         try clear hfz24_1
         try clear hfz24_2
         try clear hfz24_3
         try clear hfz25_0
         try clear hfz25_1
         try clear hfz25_2
         try clear hfz25_3
         try clear hx232_0
         try clear hx232_1
         try clear hx232_2
         try clear hx232_3
         try clear p2
         try clear p232
         try clear q232
         obtain ⟨kq, x63_14, rfl, HA, HJ14, HO_3, BK233, HB⟩ := hcut
         cases kq with
         | zero => exact absurd HA.out (by simp [tangramlaw01_NumsLies.j1])
         | succ kj14 =>
          have H := HA.out; clear HA; simp only [tangramlaw01_NumsLies.j1] at H
          by_cases c26 : x63_14 = true
          ·subst c26; rw [if_pos rfl] at H; obtain rfl := Option.some.inj H
           go_wp2
           go_ret
           exact ⟨by first | rfl | (simp [errW_none, errW_some] <;> rfl) | (simp [*, errW_none, errW_some] <;> rfl), hb1 HB GE233⟩
          ·replace c26 := Bool.eq_false_iff.mpr c26; subst c26; rw [if_neg (show ¬ (false = true) by decide)] at H; have H' := Aside0.mk H; clear H
           go_wp2
           go_loopg [9] kj14 (fun kq v9 w' => ∃ (x9_3 : Int), v9 = .int .i64 x9_3 ∧ Aside0 (tangramlaw01_NumsLies.l1 kq l0 t226 x7_1 x9_3 ((rd_T34 t226 x7_1).f0) ((rd_T34 t226 x7_1).f1) ((rd_T34 t226 x7_1).f2) ((rd_T34 t226 x7_1).f3) = some r) ∧ Aside0 (kq ≤ kj14) ∧ Aside0 (Kd.R k34 34 w' w.heap.size (fun k_ => k_ ≠ gb233) (.slice (some ad232) t226.length co16) t226) ∧ Aside0 (w'.heap[gb233]? = some (.cells #[.int .i64 ((rd_T34 t226 x7_1).f0), .int .i64 ((rd_T34 t226 x7_1).f1), .int .i64 ((rd_T34 t226 x7_1).f2), .int .i64 ((rd_T34 t226 x7_1).f3)] 34 (0, 0))) ∧ Aside0 (Below w.heap.size w w'))
           case atStart => exact ⟨(x6_1), (by first | rfl | (simp; done) | (simp [*]; done)), H', ⟨Nat.le_refl _⟩, ⟨rx HO_3⟩, ⟨bx BK233⟩, ⟨hb1 HB GE233⟩⟩
           case round =>
            clear H'
            try clear c1
            try clear c2
            try clear p2
            try clear q2
            try clear hx2
            try clear c3
            try clear c4
            try clear c5
            try clear c6
            try clear c6b0
            try clear c6b1
            try clear c10
            try clear c11
            try clear c13
            try clear c13b0
            try clear c14
            try clear c14b0
            try clear c19
            try clear c19b0
            try clear c21
            try clear c21b0
            try clear c23
            try clear c23b0
            try clear p23
            try clear q23
            try clear hx23
            try clear c26
            try clear hcz18_0
            try clear hcz18_1
            try clear hcz18_2
            try clear hcz18_3
            try clear hcz20_0
            try clear hcz20_1
            try clear hcz20_2
            try clear hcz20_3
            try clear hcz22_0
            try clear hcz22_1
            try clear hcz22_2
            try clear hcz22_3
            try clear hcz24_0
            try clear hcz24_1
            try clear hcz24_2
            try clear hcz24_3
            try clear hcz25_0
            try clear hcz25_1
            try clear hcz25_2
            try clear hcz25_3
            try clear hfz18_0
            try clear hfz18_1
            try clear hfz18_2
            try clear hfz18_3
            try clear hfz20_0
            try clear hfz20_1
            try clear hfz20_2
            try clear hfz20_3
            try clear hfz22_0
            try clear hfz22_1
            try clear hfz22_2
            try clear hfz22_3
            try clear hfz24_0
            try clear hfz24_1
            try clear hfz24_2
            try clear hfz24_3
            try clear hfz25_0
            try clear hfz25_1
            try clear hfz25_2
            try clear hfz25_3
            try clear hx232_0
            try clear hx232_1
            try clear hx232_2
            try clear hx232_3
            try clear p2
            try clear p23
            try clear p232
            try clear q2
            try clear q23
            try clear q232
            obtain ⟨x9_3, rfl, HA, HK3, HO_3, BK233, HB⟩ := hrel
            cases gk with
            | zero => exact absurd HA.out (by simp [tangramlaw01_NumsLies.l1])
            | succ k3 =>
             have H := HA.out; clear HA; simp only [tangramlaw01_NumsLies.l1] at H
             by_cases c27 : x9_3 < ((rd_T34 t226 x7_1).f1)
             ·rw [if_pos c27] at H; have c27b0 : decide (x9_3 < ((rd_T34 t226 x7_1).f1)) = true := decide_eq_true c27; clear c27
              by_cases c28 : 0 ≤ x9_3
              ·rw [if_pos c28] at H; have c28b0 : decide (0 ≤ x9_3) = true := decide_eq_true c28; clear c28
               by_cases c29 : x9_3 < (l0.length : Int)
               ·rw [if_pos c29] at H; have c29b0 : decide (x9_3 < (l0.length : Int)) = true := decide_eq_true c29; clear c29
                by_cases c30 : (rd l0 x9_3) = 32
                ·rw [if_pos c30] at H; have c30b0 : ((rd l0 x9_3) == 32) = true := beq_iff_eq.mpr c30; have c30b1 : ((rd l0 x9_3) != 32) = false := bne_eq_false_iff_eq.mpr c30; clear c30; have H' := Aside0.mk H; clear H; have hcz31_0 : wr.cell? ⟨gb233, 0, none⟩ = some (.int .i64 ((rd_T34 t226 x7_1).f0)) := bc BK233 0; have hcz31_1 : wr.cell? ⟨gb233, 1, none⟩ = some (.int .i64 ((rd_T34 t226 x7_1).f1)) := bc BK233 1; have hcz31_2 : wr.cell? ⟨gb233, 2, none⟩ = some (.int .i64 ((rd_T34 t226 x7_1).f2)) := bc BK233 2; have hcz31_3 : wr.cell? ⟨gb233, 3, none⟩ = some (.int .i64 ((rd_T34 t226 x7_1).f3)) := bc BK233 3; have hfz31_0 := blk_frozen BK233.out 0; have hfz31_1 := blk_frozen BK233.out 1; have hfz31_2 := blk_frozen BK233.out 2; have hfz31_3 := blk_frozen BK233.out 3; have p234 : 0 ≤ (x9_3 : Int) := of_decide_eq_true (by first | (with_reducible assumption) | assumption); have q234 : x9_3 < (l0.length : Int) := of_decide_eq_true (by first | (with_reducible assumption) | assumption); obtain ⟨ad234, e234, hx234_0⟩ := Kd.at_int HR0.out x9_3 p234 q234
                 cases e234
                 replace hx234_0 := (HB.out.cell (World.block_lt_of_cell? w _ hx234_0)).trans hx234_0; replace p234 := eq_true p234; replace q234 := eq_true q234
                 go_wp2
                 go_roundg k3
                 case measure => have := HK1.out; have := HJ14.out; have := HK3.out; omega
                 case rel => exact ⟨(wrap64 (x9_3 + 1)), (by first | rfl | (simp; done) | (simp [*]; done)), H', ⟨by have := HK1.out; have := HJ14.out; have := HK3.out; omega⟩, ⟨rx HO_3⟩, ⟨bx BK233⟩, ⟨hb1 HB GE233⟩⟩
                ·rw [if_neg c30] at H; have c30b0 : ((rd l0 x9_3) == 32) = false := beq_eq_false_iff_ne.mpr c30; have c30b1 : ((rd l0 x9_3) != 32) = true := bne_iff_ne.mpr c30
                 by_cases c32 : (rd l0 x9_3) = 9
                 ·rw [if_pos c32] at H; have c32b0 : ((rd l0 x9_3) == 9) = true := beq_iff_eq.mpr c32; have c32b1 : ((rd l0 x9_3) != 9) = false := bne_eq_false_iff_eq.mpr c32; clear c32; have H' := Aside0.mk H; clear H; have hcz33_0 : wr.cell? ⟨gb233, 0, none⟩ = some (.int .i64 ((rd_T34 t226 x7_1).f0)) := bc BK233 0; have hcz33_1 : wr.cell? ⟨gb233, 1, none⟩ = some (.int .i64 ((rd_T34 t226 x7_1).f1)) := bc BK233 1; have hcz33_2 : wr.cell? ⟨gb233, 2, none⟩ = some (.int .i64 ((rd_T34 t226 x7_1).f2)) := bc BK233 2; have hcz33_3 : wr.cell? ⟨gb233, 3, none⟩ = some (.int .i64 ((rd_T34 t226 x7_1).f3)) := bc BK233 3; have hfz33_0 := blk_frozen BK233.out 0; have hfz33_1 := blk_frozen BK233.out 1; have hfz33_2 := blk_frozen BK233.out 2; have hfz33_3 := blk_frozen BK233.out 3; have p234 : 0 ≤ (x9_3 : Int) := of_decide_eq_true (by first | (with_reducible assumption) | assumption); have q234 : x9_3 < (l0.length : Int) := of_decide_eq_true (by first | (with_reducible assumption) | assumption); obtain ⟨ad234, e234, hx234_0⟩ := Kd.at_int HR0.out x9_3 p234 q234
                  cases e234
                  replace hx234_0 := (HB.out.cell (World.block_lt_of_cell? w _ hx234_0)).trans hx234_0; replace p234 := eq_true p234; replace q234 := eq_true q234; have p235 : 0 ≤ (x9_3 : Int) := of_decide_eq_true (by first | (with_reducible assumption) | assumption); have q235 : x9_3 < (l0.length : Int) := of_decide_eq_true (by first | (with_reducible assumption) | assumption); obtain ⟨ad235, e235, hx235_0⟩ := Kd.at_int HR0.out x9_3 p235 q235; obtain rfl : ad234 = ad235 := (by injection e235); replace hx235_0 := (HB.out.cell (World.block_lt_of_cell? w _ hx235_0)).trans hx235_0; replace p235 := eq_true p235; replace q235 := eq_true q235
                  go_wp2
                  go_roundg k3
                  case measure => have := HK1.out; have := HJ14.out; have := HK3.out; omega
                  case rel => exact ⟨(wrap64 (x9_3 + 1)), (by first | rfl | (simp; done) | (simp [*]; done)), H', ⟨by have := HK1.out; have := HJ14.out; have := HK3.out; omega⟩, ⟨rx HO_3⟩, ⟨bx BK233⟩, ⟨hb1 HB GE233⟩⟩
                 ·rw [if_neg c32] at H; have c32b0 : ((rd l0 x9_3) == 9) = false := beq_eq_false_iff_ne.mpr c32; have c32b1 : ((rd l0 x9_3) != 9) = true := bne_iff_ne.mpr c32
                  by_cases c34 : (rd l0 x9_3) = 13
                  ·rw [if_pos c34] at H; have c34b0 : ((rd l0 x9_3) == 13) = true := beq_iff_eq.mpr c34; have c34b1 : ((rd l0 x9_3) != 13) = false := bne_eq_false_iff_eq.mpr c34; clear c34; have H' := Aside0.mk H; clear H; have hcz35_0 : wr.cell? ⟨gb233, 0, none⟩ = some (.int .i64 ((rd_T34 t226 x7_1).f0)) := bc BK233 0; have hcz35_1 : wr.cell? ⟨gb233, 1, none⟩ = some (.int .i64 ((rd_T34 t226 x7_1).f1)) := bc BK233 1; have hcz35_2 : wr.cell? ⟨gb233, 2, none⟩ = some (.int .i64 ((rd_T34 t226 x7_1).f2)) := bc BK233 2; have hcz35_3 : wr.cell? ⟨gb233, 3, none⟩ = some (.int .i64 ((rd_T34 t226 x7_1).f3)) := bc BK233 3; have hfz35_0 := blk_frozen BK233.out 0; have hfz35_1 := blk_frozen BK233.out 1; have hfz35_2 := blk_frozen BK233.out 2; have hfz35_3 := blk_frozen BK233.out 3; have p234 : 0 ≤ (x9_3 : Int) := of_decide_eq_true (by first | (with_reducible assumption) | assumption); have q234 : x9_3 < (l0.length : Int) := of_decide_eq_true (by first | (with_reducible assumption) | assumption); obtain ⟨ad234, e234, hx234_0⟩ := Kd.at_int HR0.out x9_3 p234 q234
                   cases e234
                   replace hx234_0 := (HB.out.cell (World.block_lt_of_cell? w _ hx234_0)).trans hx234_0; replace p234 := eq_true p234; replace q234 := eq_true q234; have p235 : 0 ≤ (x9_3 : Int) := of_decide_eq_true (by first | (with_reducible assumption) | assumption); have q235 : x9_3 < (l0.length : Int) := of_decide_eq_true (by first | (with_reducible assumption) | assumption); obtain ⟨ad235, e235, hx235_0⟩ := Kd.at_int HR0.out x9_3 p235 q235; obtain rfl : ad234 = ad235 := (by injection e235); replace hx235_0 := (HB.out.cell (World.block_lt_of_cell? w _ hx235_0)).trans hx235_0; replace p235 := eq_true p235; replace q235 := eq_true q235; have p236 : 0 ≤ (x9_3 : Int) := of_decide_eq_true (by first | (with_reducible assumption) | assumption); have q236 : x9_3 < (l0.length : Int) := of_decide_eq_true (by first | (with_reducible assumption) | assumption); obtain ⟨ad236, e236, hx236_0⟩ := Kd.at_int HR0.out x9_3 p236 q236; obtain rfl : ad234 = ad236 := (by injection e236); replace hx236_0 := (HB.out.cell (World.block_lt_of_cell? w _ hx236_0)).trans hx236_0; replace p236 := eq_true p236; replace q236 := eq_true q236
                   go_wp2
                   go_roundg k3
                   case measure => have := HK1.out; have := HJ14.out; have := HK3.out; omega
                   case rel => exact ⟨(wrap64 (x9_3 + 1)), (by first | rfl | (simp; done) | (simp [*]; done)), H', ⟨by have := HK1.out; have := HJ14.out; have := HK3.out; omega⟩, ⟨rx HO_3⟩, ⟨bx BK233⟩, ⟨hb1 HB GE233⟩⟩
                  ·rw [if_neg c34] at H; have c34b0 : ((rd l0 x9_3) == 13) = false := beq_eq_false_iff_ne.mpr c34; have c34b1 : ((rd l0 x9_3) != 13) = true := bne_iff_ne.mpr c34; obtain rfl := Option.some.inj H; have hcz36_0 : wr.cell? ⟨gb233, 0, none⟩ = some (.int .i64 ((rd_T34 t226 x7_1).f0)) := bc BK233 0; have hcz36_1 : wr.cell? ⟨gb233, 1, none⟩ = some (.int .i64 ((rd_T34 t226 x7_1).f1)) := bc BK233 1; have hcz36_2 : wr.cell? ⟨gb233, 2, none⟩ = some (.int .i64 ((rd_T34 t226 x7_1).f2)) := bc BK233 2; have hcz36_3 : wr.cell? ⟨gb233, 3, none⟩ = some (.int .i64 ((rd_T34 t226 x7_1).f3)) := bc BK233 3; have hfz36_0 := blk_frozen BK233.out 0; have hfz36_1 := blk_frozen BK233.out 1; have hfz36_2 := blk_frozen BK233.out 2; have hfz36_3 := blk_frozen BK233.out 3; have p234 : 0 ≤ (x9_3 : Int) := of_decide_eq_true (by first | (with_reducible assumption) | assumption); have q234 : x9_3 < (l0.length : Int) := of_decide_eq_true (by first | (with_reducible assumption) | assumption); obtain ⟨ad234, e234, hx234_0⟩ := Kd.at_int HR0.out x9_3 p234 q234
                   cases e234
                   replace hx234_0 := (HB.out.cell (World.block_lt_of_cell? w _ hx234_0)).trans hx234_0; replace p234 := eq_true p234; replace q234 := eq_true q234; have p235 : 0 ≤ (x9_3 : Int) := of_decide_eq_true (by first | (with_reducible assumption) | assumption); have q235 : x9_3 < (l0.length : Int) := of_decide_eq_true (by first | (with_reducible assumption) | assumption); obtain ⟨ad235, e235, hx235_0⟩ := Kd.at_int HR0.out x9_3 p235 q235; obtain rfl : ad234 = ad235 := (by injection e235); replace hx235_0 := (HB.out.cell (World.block_lt_of_cell? w _ hx235_0)).trans hx235_0; replace p235 := eq_true p235; replace q235 := eq_true q235; have p236 : 0 ≤ (x9_3 : Int) := of_decide_eq_true (by first | (with_reducible assumption) | assumption); have q236 : x9_3 < (l0.length : Int) := of_decide_eq_true (by first | (with_reducible assumption) | assumption); obtain ⟨ad236, e236, hx236_0⟩ := Kd.at_int HR0.out x9_3 p236 q236; obtain rfl : ad234 = ad236 := (by injection e236); replace hx236_0 := (HB.out.cell (World.block_lt_of_cell? w _ hx236_0)).trans hx236_0; replace p236 := eq_true p236; replace q236 := eq_true q236
                   go_wp2
                   go_ret
                   exact ⟨by first | rfl | (simp [errW_none, errW_some] <;> rfl) | (simp [*, errW_none, errW_some] <;> rfl), hb1 HB GE233⟩
               ·rw [if_neg c29] at H; exact absurd H (by simp)
              ·rw [if_neg c28] at H; exact absurd H (by simp)
             ·rw [if_neg c27] at H; have c27b0 : decide (x9_3 < ((rd_T34 t226 x7_1).f1)) = false := decide_eq_false c27; clear c27
              by_cases c37 : ((rd_T34 t226 x7_1).f0) = 1
              ·rw [if_pos c37] at H; have c37b0 : (((rd_T34 t226 x7_1).f0) == 1) = true := beq_iff_eq.mpr c37; have c37b1 : (((rd_T34 t226 x7_1).f0) != 1) = false := bne_eq_false_iff_eq.mpr c37; clear c37; replace H := Option.bind_eq_some_iff.mp H; obtain ⟨t237, A380, H⟩ := H; (try dsimp only at H); have A38 := Aside0.mk A380; clear A380
               by_cases c39 : 0 ≤ ((rd_T34 t226 x7_1).f1)
               ·rw [if_pos c39] at H; have c39b0 := eq_true c39; have c39b1 : decide (0 ≤ ((rd_T34 t226 x7_1).f1)) = true := decide_eq_true c39; clear c39
                by_cases c40 : ((rd_T34 t226 x7_1).f1) ≤ ((rd_T34 t226 x7_1).f2)
                ·rw [if_pos c40] at H; have c40b0 := eq_true c40; have c40b1 : decide (((rd_T34 t226 x7_1).f1) ≤ ((rd_T34 t226 x7_1).f2)) = true := decide_eq_true c40; clear c40
                 by_cases c41 : ((rd_T34 t226 x7_1).f2) ≤ (l0.length : Int)
                 ·rw [if_pos c41] at H; have c41b0 := eq_true c41; have c41b1 : decide (((rd_T34 t226 x7_1).f2) ≤ (l0.length : Int)) = true := decide_eq_true c41; clear c41
                  by_cases c42 : t237.toList = (strOfNums ((l0.take (((rd_T34 t226 x7_1).f2) : Int).toNat).drop (((rd_T34 t226 x7_1).f1) : Int).toNat)).toList
                  ·rw [if_pos c42] at H; have c42b0 : (t237.toList == (strOfNums ((l0.take (((rd_T34 t226 x7_1).f2) : Int).toNat).drop (((rd_T34 t226 x7_1).f1) : Int).toNat)).toList) = true := beq_iff_eq.mpr c42; have c42b1 : (t237.toList != (strOfNums ((l0.take (((rd_T34 t226 x7_1).f2) : Int).toNat).drop (((rd_T34 t226 x7_1).f1) : Int).toNat)).toList) = false := bne_eq_false_iff_eq.mpr c42; clear c42
                   by_cases c43 : ((rd_T34 t226 x7_1).f0) = 2
                   ·rw [if_pos c43] at H; have c43b0 : (((rd_T34 t226 x7_1).f0) == 2) = true := beq_iff_eq.mpr c43; have c43b1 : (((rd_T34 t226 x7_1).f0) != 2) = false := bne_eq_false_iff_eq.mpr c43; clear c43
                    by_cases c44 : ((rd_T34 t226 x7_1).f1) < (l0.length : Int)
                    ·rw [if_pos c44] at H; have c44b0 : decide (((rd_T34 t226 x7_1).f1) < (l0.length : Int)) = true := decide_eq_true c44; clear c44
                     by_cases c45 : (rd l0 ((rd_T34 t226 x7_1).f1)) = 10
                     ·rw [if_pos c45] at H; have c45b0 : ((rd l0 ((rd_T34 t226 x7_1).f1)) == 10) = true := beq_iff_eq.mpr c45; have c45b1 : ((rd l0 ((rd_T34 t226 x7_1).f1)) != 10) = false := bne_eq_false_iff_eq.mpr c45; clear c45
                      by_cases c46 : ((rd_T34 t226 x7_1).f2) = (wrap64 (((rd_T34 t226 x7_1).f1) + 1))
                      ·rw [if_pos c46] at H; have c46b0 : (((rd_T34 t226 x7_1).f2) == (wrap64 (((rd_T34 t226 x7_1).f1) + 1))) = true := beq_iff_eq.mpr c46; have c46b1 : (((rd_T34 t226 x7_1).f2) != (wrap64 (((rd_T34 t226 x7_1).f1) + 1))) = false := bne_eq_false_iff_eq.mpr c46; clear c46; have H' := Aside0.mk H; clear H; have hcz47_0 : wr.cell? ⟨gb233, 0, none⟩ = some (.int .i64 ((rd_T34 t226 x7_1).f0)) := bc BK233 0; have hcz47_1 : wr.cell? ⟨gb233, 1, none⟩ = some (.int .i64 ((rd_T34 t226 x7_1).f1)) := bc BK233 1; have hcz47_2 : wr.cell? ⟨gb233, 2, none⟩ = some (.int .i64 ((rd_T34 t226 x7_1).f2)) := bc BK233 2; have hcz47_3 : wr.cell? ⟨gb233, 3, none⟩ = some (.int .i64 ((rd_T34 t226 x7_1).f3)) := bc BK233 3; have hfz47_0 := blk_frozen BK233.out 0; have hfz47_1 := blk_frozen BK233.out 1; have hfz47_2 := blk_frozen BK233.out 2; have hfz47_3 := blk_frozen BK233.out 3
                       try go_wp2
                       replace HO_3 := rd HO_3; replace BK233 := bd BK233; replace HB := Aside0.mk (below_drew1 HB.out); obtain ⟨i049, hi049, _, hsz49, _⟩ := info_parts info5; obtain ⟨A49, hcut49, hA49, hC49⟩ := print_mid_of (P := Tryd.prog) (Value.int .u8) 0 22 5 .i64 .i64 Tryd.underlying22 hi049 hsz49 A0 c0 l0 ((rd_T34 t226 x7_1).f1) ((rd_T34 t226 x7_1).f2) (of_decide_eq_true (by first | (with_reducible assumption) | assumption)) (by first | omega | exact of_decide_eq_true (by first | (with_reducible assumption) | assumption)) (of_decide_eq_true (by first | (with_reducible assumption) | assumption)) HC0.out; have HR238 := Aside0.mk (Kd.C_of_reads (h1 := fun _ => rfl) (hA49 _ (Kd.reads_of_C HR0.out))); have HC238 := Aside0.mk hC49; clear hA49 hC49 hi049 hsz49; have p239 : 0 ≤ (((rd_T34 t226 x7_1).f1) : Int) := of_decide_eq_true (by first | (with_reducible assumption) | assumption); have q239 : ((rd_T34 t226 x7_1).f1) < (l0.length : Int) := of_decide_eq_true (by first | (with_reducible assumption) | assumption); obtain ⟨ad239, e239, hx239_0⟩ := Kd.at_int HR0.out ((rd_T34 t226 x7_1).f1) p239 q239; have hw239_0 := hx239_0
                       cases e239
                       replace hx239_0 := (HB.out.cell (World.block_lt_of_cell? w _ hx239_0)).trans hx239_0; replace p239 := eq_true p239; replace q239 := eq_true q239; refine start_ (n := 37) (S := fun w' => Below w.heap.size w w' ∧ w'.cell? ⟨gb233, 0, none⟩ = some (.int .i64 ((rd_T34 t226 x7_1).f0)) ∧ w'.cell? ⟨gb233, 1, none⟩ = some (.int .i64 ((rd_T34 t226 x7_1).f1)) ∧ w'.cell? ⟨gb233, 2, none⟩ = some (.int .i64 ((rd_T34 t226 x7_1).f2)) ∧ w'.cell? ⟨gb233, 3, none⟩ = some (.int .i64 ((rd_T34 t226 x7_1).f3)) ∧ w'.cell? (ad239.add (((rd_T34 t226 x7_1).f1)).toNat) = some (.int .u8 (rd l0 ((rd_T34 t226 x7_1).f1)))) (ds := []) (pf 0 37) (by kernel_rfl) rfl rfl ⟨HB.out, bc BK233 0, bc BK233 1, bc BK233 2, bc BK233 3, ((HB.out.cell (World.block_lt_of_cell? w _ hw239_0)).trans hw239_0)⟩ (fun hHeld => ?_); refine with_tabW tangramlaw01_NumsLies.tab18 tangramlaw01_NumsLies.bits18 (fun HT_ HW_ => ?_); generalize wr.drew = w48 at HO_3 BK233 HB HR238 hx239_0 hHeld ⊢; refine pu_ 0 (some 90) (pf 1 37) HT_ ?_; refine tk6_ 1 (some 91) (pf 2 37) HT_ HW_ hHeld ?_; refine pu_ 2 (some 92) (pf 3 37) HT_ ?_; refine pu_ 3 (some 93) (pf 4 37) HT_ ?_
                       refine pu_ 4 (some 94) (pf 5 37) HT_ ?_; refine pu_ 7 (some 97) #[T_,T_,T_,T_,T_,F_,F_,T_,F_,F_,F_,F_,F_,F_,F_,F_,F_,F_,F_,F_,F_,F_,F_,F_,F_,F_,F_,F_,F_,F_,F_,F_,F_,F_,F_,F_,F_] HT_ ?_; refine pu_ 8 (some 98) #[T_,T_,T_,T_,T_,F_,F_,T_,T_,F_,F_,F_,F_,F_,F_,F_,F_,F_,F_,F_,F_,F_,F_,F_,F_,F_,F_,F_,F_,F_,F_,F_,F_,F_,F_,F_,F_] HT_ ?_; refine pu_ 10 (some 100) #[T_,T_,T_,T_,T_,F_,F_,T_,T_,F_,T_,F_,F_,F_,F_,F_,F_,F_,F_,F_,F_,F_,F_,F_,F_,F_,F_,F_,F_,F_,F_,F_,F_,F_,F_,F_,F_] HT_ ?_; refine tk6_ 5 (some 95) #[T_,T_,T_,T_,T_,T_,F_,T_,T_,F_,T_,F_,F_,F_,F_,F_,F_,F_,F_,F_,F_,F_,F_,F_,F_,F_,F_,F_,F_,F_,F_,F_,F_,F_,F_,F_,F_] HT_ HW_ hHeld ?_; refine tk6_ 9 (some 99) #[T_,T_,T_,T_,T_,T_,F_,T_,T_,T_,T_,F_,F_,F_,F_,F_,F_,F_,F_,F_,F_,F_,F_,F_,F_,F_,F_,F_,F_,F_,F_,F_,F_,F_,F_,F_,F_] HT_ HW_ hHeld ?_; refine tk6_ 11 (some 101) #[T_,T_,T_,T_,T_,T_,F_,T_,T_,T_,T_,T_,F_,F_,F_,F_,F_,F_,F_,F_,F_,F_,F_,F_,F_,F_,F_,F_,F_,F_,F_,F_,F_,F_,F_,F_,F_] HT_ HW_ hHeld ?_; refine pu_ 12 (some 102) #[T_,T_,T_,T_,T_,T_,F_,T_,T_,T_,T_,T_,T_,F_,F_,F_,F_,F_,F_,F_,F_,F_,F_,F_,F_,F_,F_,F_,F_,F_,F_,F_,F_,F_,F_,F_,F_] HT_ ?_; refine tk6_ 13 (some 103) #[T_,T_,T_,T_,T_,T_,F_,T_,T_,T_,T_,T_,T_,T_,F_,F_,F_,F_,F_,F_,F_,F_,F_,F_,F_,F_,F_,F_,F_,F_,F_,F_,F_,F_,F_,F_,F_] HT_ HW_ hHeld ?_ (hy := by (rintro w' ⟨s0, s1, s2, s3, s4, s5⟩; have hcv := Kd.C_string (P := Tryd.prog) (A := A49) (c := (c0 - ((rd_T34 t226 x7_1).f1).toNat)) Tryd.underlying22 Tryd.underlying5 Tryd.underlying9 (Kd.C_below HR238.out s0); (have hl : (List.drop (((rd_T34 t226 x7_1).f1) : Int).toNat (List.take (((rd_T34 t226 x7_1).f2) : Int).toNat l0)).length = (((rd_T34 t226 x7_1).f2) : Int).toNat - (((rd_T34 t226 x7_1).f1) : Int).toNat := by (rw [List.length_drop, List.length_take]; have hq := (of_decide_eq_true (by assumption) : (((rd_T34 t226 x7_1).f2) : Int) ≤ (l0.length : Int)); omega)); rw [hl] at hcv; clear s0 hl; go_simp; with_reducible rfl)); refine on_ 6 (some 96) (pf 14 37) HT_ (fun K hK => ?_)
                       refine gs_ Tryd.func14 #[.int .i64 ((rd_T34 t226 x7_1).f3)] ?_
                       with_reducible refine (nums_Text.calls k3 ((rd_T34 t226 x7_1).f3) t237 _ (tb HT HB.out) A38.out).mono ?_
                       rintro e w50 ⟨rfl, hb⟩; refine ⟨_, rfl, ?_⟩; replace HO_3 := ry HO_3 hb; replace BK233 := kx BK233 hb; replace HB := hs (hb1 HB GE233) hb
                       (try clear hb)
                       (try clear hb2)
                       (try clear hk)
                       (try clear hi)
                       refine hK.out _ _ ⟨HB.out, bc BK233 0, bc BK233 1, bc BK233 2, bc BK233 3, ((HB.out.cell (World.block_lt_of_cell? w _ hw239_0)).trans hw239_0)⟩ (fun hHeld => ?_); clear hK K; refine nm_ (some 96) ?_; refine pu_ 14 (some 104) (pf 15 37) HT_ ?_; refine pu_ 15 (some 105) (pf 16 37) HT_ ?_; refine pu_ 16 (some 106) (pf 17 37) HT_ ?_; refine pu_ 17 (some 107) (pf 18 37) HT_ ?_; refine tk6_ 18 (some 108) (pf 19 37) HT_ HW_ hHeld ?_; refine pu_ 19 (some 109) (pf 20 37) HT_ ?_; refine pu_ 20 (some 110) (pf 21 37) HT_ ?_; refine pu_ 21 (some 111) (pf 22 37) HT_ ?_
                       refine pu_ 22 (some 112) (pf 23 37) HT_ ?_; refine tk6_ 23 (some 113) (pf 24 37) HT_ HW_ hHeld ?_; refine pu_ 24 (some 114) (pf 25 37) HT_ ?_; refine tk6_ 25 (some 115) (pf 26 37) HT_ HW_ hHeld ?_; refine pu_ 26 (some 116) (pf 27 37) HT_ ?_; refine pu_ 27 (some 117) (pf 28 37) HT_ ?_; refine pu_ 28 (some 118) (pf 29 37) HT_ ?_; refine pu_ 30 (some 120) #[T_,T_,T_,T_,T_,T_,T_,T_,T_,T_,T_,T_,T_,T_,T_,T_,T_,T_,T_,T_,T_,T_,T_,T_,T_,T_,T_,T_,T_,F_,T_,F_,F_,F_,F_,F_,F_] HT_ ?_; refine tk6_ 29 (some 119) (pf 31 37) HT_ HW_ hHeld ?_; refine tk6_ 31 (some 121) (pf 32 37) HT_ HW_ hHeld ?_
                       refine pu_ 32 (some 122) (pf 33 37) HT_ ?_; refine pu_ 33 (some 123) (pf 34 37) HT_ ?_; refine pu_ 34 (some 124) (pf 35 37) HT_ ?_; refine pu_ 35 (some 125) (pf 36 37) HT_ ?_; refine pu_ 36 (some 126) (pf 37 37) HT_ ?_; refine done_ (done_of HT_.out (by kernel_rfl)) ?_; have hcz53_0 : w50.cell? ⟨gb233, 0, none⟩ = some (.int .i64 ((rd_T34 t226 x7_1).f0)) := bc BK233 0; have hcz53_1 : w50.cell? ⟨gb233, 1, none⟩ = some (.int .i64 ((rd_T34 t226 x7_1).f1)) := bc BK233 1; have hcz53_2 : w50.cell? ⟨gb233, 2, none⟩ = some (.int .i64 ((rd_T34 t226 x7_1).f2)) := bc BK233 2; have hcz53_3 : w50.cell? ⟨gb233, 3, none⟩ = some (.int .i64 ((rd_T34 t226 x7_1).f3)) := bc BK233 3; have hfz53_0 := blk_frozen BK233.out 0; have hfz53_1 := blk_frozen BK233.out 1; have hfz53_2 := blk_frozen BK233.out 2; have hfz53_3 := blk_frozen BK233.out 3
                       try go_wp2
                       go_roundg k3
                       case measure => have := HK1.out; have := HJ14.out; have := HK3.out; omega
                       case rel => exact ⟨(((rd_T34 t226 x7_1).f2)), (wrap64 (x7_1 + 1)), (by first | rfl | (simp; done) | (simp [*]; done)), (by first | rfl | (simp; done) | (simp [*]; done)), H', ⟨by have := HK1.out; have := HJ14.out; have := HK3.out; omega⟩, ⟨Kd.R_mono (rx HO_3) (fun _ hk => trivial)⟩, ⟨hb1 HB GE233⟩⟩
                      ·rw [if_neg c46] at H; have c46b0 : (((rd_T34 t226 x7_1).f2) == (wrap64 (((rd_T34 t226 x7_1).f1) + 1))) = false := beq_eq_false_iff_ne.mpr c46; have c46b1 : (((rd_T34 t226 x7_1).f2) != (wrap64 (((rd_T34 t226 x7_1).f1) + 1))) = true := bne_iff_ne.mpr c46; obtain rfl := Option.some.inj H; have hcz54_0 : wr.cell? ⟨gb233, 0, none⟩ = some (.int .i64 ((rd_T34 t226 x7_1).f0)) := bc BK233 0; have hcz54_1 : wr.cell? ⟨gb233, 1, none⟩ = some (.int .i64 ((rd_T34 t226 x7_1).f1)) := bc BK233 1; have hcz54_2 : wr.cell? ⟨gb233, 2, none⟩ = some (.int .i64 ((rd_T34 t226 x7_1).f2)) := bc BK233 2; have hcz54_3 : wr.cell? ⟨gb233, 3, none⟩ = some (.int .i64 ((rd_T34 t226 x7_1).f3)) := bc BK233 3; have hfz54_0 := blk_frozen BK233.out 0; have hfz54_1 := blk_frozen BK233.out 1; have hfz54_2 := blk_frozen BK233.out 2; have hfz54_3 := blk_frozen BK233.out 3
                       try go_wp2
                       replace HO_3 := rd HO_3; replace BK233 := bd BK233; replace HB := Aside0.mk (below_drew1 HB.out); obtain ⟨i056, hi056, _, hsz56, _⟩ := info_parts info5; obtain ⟨A56, hcut56, hA56, hC56⟩ := print_mid_of (P := Tryd.prog) (Value.int .u8) 0 22 5 .i64 .i64 Tryd.underlying22 hi056 hsz56 A0 c0 l0 ((rd_T34 t226 x7_1).f1) ((rd_T34 t226 x7_1).f2) (of_decide_eq_true (by first | (with_reducible assumption) | assumption)) (by first | omega | exact of_decide_eq_true (by first | (with_reducible assumption) | assumption)) (of_decide_eq_true (by first | (with_reducible assumption) | assumption)) HC0.out; have HR238 := Aside0.mk (Kd.C_of_reads (h1 := fun _ => rfl) (hA56 _ (Kd.reads_of_C HR0.out))); have HC238 := Aside0.mk hC56; clear hA56 hC56 hi056 hsz56; have p239 : 0 ≤ (((rd_T34 t226 x7_1).f1) : Int) := of_decide_eq_true (by first | (with_reducible assumption) | assumption); have q239 : ((rd_T34 t226 x7_1).f1) < (l0.length : Int) := of_decide_eq_true (by first | (with_reducible assumption) | assumption); obtain ⟨ad239, e239, hx239_0⟩ := Kd.at_int HR0.out ((rd_T34 t226 x7_1).f1) p239 q239; have hw239_0 := hx239_0
                       cases e239
                       replace hx239_0 := (HB.out.cell (World.block_lt_of_cell? w _ hx239_0)).trans hx239_0; replace p239 := eq_true p239; replace q239 := eq_true q239; refine start_ (n := 37) (S := fun w' => Below w.heap.size w w' ∧ w'.cell? ⟨gb233, 0, none⟩ = some (.int .i64 ((rd_T34 t226 x7_1).f0)) ∧ w'.cell? ⟨gb233, 1, none⟩ = some (.int .i64 ((rd_T34 t226 x7_1).f1)) ∧ w'.cell? ⟨gb233, 2, none⟩ = some (.int .i64 ((rd_T34 t226 x7_1).f2)) ∧ w'.cell? ⟨gb233, 3, none⟩ = some (.int .i64 ((rd_T34 t226 x7_1).f3)) ∧ w'.cell? (ad239.add (((rd_T34 t226 x7_1).f1)).toNat) = some (.int .u8 (rd l0 ((rd_T34 t226 x7_1).f1)))) (ds := []) (pf 0 37) (by kernel_rfl) rfl rfl ⟨HB.out, bc BK233 0, bc BK233 1, bc BK233 2, bc BK233 3, ((HB.out.cell (World.block_lt_of_cell? w _ hw239_0)).trans hw239_0)⟩ (fun hHeld => ?_); refine with_tabW tangramlaw01_NumsLies.tab18 tangramlaw01_NumsLies.bits18 (fun HT_ HW_ => ?_); generalize wr.drew = w55 at HO_3 BK233 HB HR238 hx239_0 hHeld ⊢; refine pu_ 0 (some 90) (pf 1 37) HT_ ?_; refine tk6_ 1 (some 91) (pf 2 37) HT_ HW_ hHeld ?_; refine pu_ 2 (some 92) (pf 3 37) HT_ ?_; refine pu_ 3 (some 93) (pf 4 37) HT_ ?_
                       refine pu_ 4 (some 94) (pf 5 37) HT_ ?_; refine pu_ 7 (some 97) #[T_,T_,T_,T_,T_,F_,F_,T_,F_,F_,F_,F_,F_,F_,F_,F_,F_,F_,F_,F_,F_,F_,F_,F_,F_,F_,F_,F_,F_,F_,F_,F_,F_,F_,F_,F_,F_] HT_ ?_; refine pu_ 8 (some 98) #[T_,T_,T_,T_,T_,F_,F_,T_,T_,F_,F_,F_,F_,F_,F_,F_,F_,F_,F_,F_,F_,F_,F_,F_,F_,F_,F_,F_,F_,F_,F_,F_,F_,F_,F_,F_,F_] HT_ ?_; refine pu_ 10 (some 100) #[T_,T_,T_,T_,T_,F_,F_,T_,T_,F_,T_,F_,F_,F_,F_,F_,F_,F_,F_,F_,F_,F_,F_,F_,F_,F_,F_,F_,F_,F_,F_,F_,F_,F_,F_,F_,F_] HT_ ?_; refine tk6_ 5 (some 95) #[T_,T_,T_,T_,T_,T_,F_,T_,T_,F_,T_,F_,F_,F_,F_,F_,F_,F_,F_,F_,F_,F_,F_,F_,F_,F_,F_,F_,F_,F_,F_,F_,F_,F_,F_,F_,F_] HT_ HW_ hHeld ?_; refine tk6_ 9 (some 99) #[T_,T_,T_,T_,T_,T_,F_,T_,T_,T_,T_,F_,F_,F_,F_,F_,F_,F_,F_,F_,F_,F_,F_,F_,F_,F_,F_,F_,F_,F_,F_,F_,F_,F_,F_,F_,F_] HT_ HW_ hHeld ?_; refine tk6_ 11 (some 101) #[T_,T_,T_,T_,T_,T_,F_,T_,T_,T_,T_,T_,F_,F_,F_,F_,F_,F_,F_,F_,F_,F_,F_,F_,F_,F_,F_,F_,F_,F_,F_,F_,F_,F_,F_,F_,F_] HT_ HW_ hHeld ?_; refine pu_ 12 (some 102) #[T_,T_,T_,T_,T_,T_,F_,T_,T_,T_,T_,T_,T_,F_,F_,F_,F_,F_,F_,F_,F_,F_,F_,F_,F_,F_,F_,F_,F_,F_,F_,F_,F_,F_,F_,F_,F_] HT_ ?_; refine tk6_ 13 (some 103) #[T_,T_,T_,T_,T_,T_,F_,T_,T_,T_,T_,T_,T_,T_,F_,F_,F_,F_,F_,F_,F_,F_,F_,F_,F_,F_,F_,F_,F_,F_,F_,F_,F_,F_,F_,F_,F_] HT_ HW_ hHeld ?_ (hy := by (rintro w' ⟨s0, s1, s2, s3, s4, s5⟩; have hcv := Kd.C_string (P := Tryd.prog) (A := A56) (c := (c0 - ((rd_T34 t226 x7_1).f1).toNat)) Tryd.underlying22 Tryd.underlying5 Tryd.underlying9 (Kd.C_below HR238.out s0); (have hl : (List.drop (((rd_T34 t226 x7_1).f1) : Int).toNat (List.take (((rd_T34 t226 x7_1).f2) : Int).toNat l0)).length = (((rd_T34 t226 x7_1).f2) : Int).toNat - (((rd_T34 t226 x7_1).f1) : Int).toNat := by (rw [List.length_drop, List.length_take]; have hq := (of_decide_eq_true (by assumption) : (((rd_T34 t226 x7_1).f2) : Int) ≤ (l0.length : Int)); omega)); rw [hl] at hcv; clear s0 hl; go_simp; with_reducible rfl)); refine on_ 6 (some 96) (pf 14 37) HT_ (fun K hK => ?_)
                       refine gs_ Tryd.func14 #[.int .i64 ((rd_T34 t226 x7_1).f3)] ?_
                       with_reducible refine (nums_Text.calls k3 ((rd_T34 t226 x7_1).f3) t237 _ (tb HT HB.out) A38.out).mono ?_
                       rintro e w57 ⟨rfl, hb⟩; refine ⟨_, rfl, ?_⟩; replace HO_3 := ry HO_3 hb; replace BK233 := kx BK233 hb; replace HB := hs (hb1 HB GE233) hb
                       (try clear hb)
                       (try clear hb2)
                       (try clear hk)
                       (try clear hi)
                       refine hK.out _ _ ⟨HB.out, bc BK233 0, bc BK233 1, bc BK233 2, bc BK233 3, ((HB.out.cell (World.block_lt_of_cell? w _ hw239_0)).trans hw239_0)⟩ (fun hHeld => ?_); clear hK K; refine nm_ (some 96) ?_; refine pu_ 14 (some 104) (pf 15 37) HT_ ?_; refine pu_ 15 (some 105) (pf 16 37) HT_ ?_; refine pu_ 16 (some 106) (pf 17 37) HT_ ?_; refine pu_ 17 (some 107) (pf 18 37) HT_ ?_; refine tk6_ 18 (some 108) (pf 19 37) HT_ HW_ hHeld ?_; refine pu_ 19 (some 109) (pf 20 37) HT_ ?_; refine pu_ 20 (some 110) (pf 21 37) HT_ ?_; refine pu_ 21 (some 111) (pf 22 37) HT_ ?_
                       refine pu_ 22 (some 112) (pf 23 37) HT_ ?_; refine tk6_ 23 (some 113) (pf 24 37) HT_ HW_ hHeld ?_; refine pu_ 24 (some 114) (pf 25 37) HT_ ?_; refine tk6_ 25 (some 115) (pf 26 37) HT_ HW_ hHeld ?_; refine pu_ 26 (some 116) (pf 27 37) HT_ ?_; refine pu_ 27 (some 117) (pf 28 37) HT_ ?_; refine pu_ 28 (some 118) (pf 29 37) HT_ ?_; refine pu_ 30 (some 120) #[T_,T_,T_,T_,T_,T_,T_,T_,T_,T_,T_,T_,T_,T_,T_,T_,T_,T_,T_,T_,T_,T_,T_,T_,T_,T_,T_,T_,T_,F_,T_,F_,F_,F_,F_,F_,F_] HT_ ?_; refine tk6_ 29 (some 119) (pf 31 37) HT_ HW_ hHeld ?_; refine tk6_ 31 (some 121) (pf 32 37) HT_ HW_ hHeld ?_
                       refine pu_ 32 (some 122) (pf 33 37) HT_ ?_; refine pu_ 33 (some 123) (pf 34 37) HT_ ?_; refine pu_ 34 (some 124) (pf 35 37) HT_ ?_; refine pu_ 35 (some 125) (pf 36 37) HT_ ?_; refine pu_ 36 (some 126) (pf 37 37) HT_ ?_; refine done_ (done_of HT_.out (by kernel_rfl)) ?_
                       try go_wp2
                       go_ret
                       exact ⟨by first | rfl | (simp [errW_none, errW_some] <;> rfl) | (simp [*, errW_none, errW_some] <;> rfl), hb1 HB GE233⟩
                     ·rw [if_neg c45] at H; have c45b0 : ((rd l0 ((rd_T34 t226 x7_1).f1)) == 10) = false := beq_eq_false_iff_ne.mpr c45; have c45b1 : ((rd l0 ((rd_T34 t226 x7_1).f1)) != 10) = true := bne_iff_ne.mpr c45; obtain rfl := Option.some.inj H; have hcz60_0 : wr.cell? ⟨gb233, 0, none⟩ = some (.int .i64 ((rd_T34 t226 x7_1).f0)) := bc BK233 0; have hcz60_1 : wr.cell? ⟨gb233, 1, none⟩ = some (.int .i64 ((rd_T34 t226 x7_1).f1)) := bc BK233 1; have hcz60_2 : wr.cell? ⟨gb233, 2, none⟩ = some (.int .i64 ((rd_T34 t226 x7_1).f2)) := bc BK233 2; have hcz60_3 : wr.cell? ⟨gb233, 3, none⟩ = some (.int .i64 ((rd_T34 t226 x7_1).f3)) := bc BK233 3; have hfz60_0 := blk_frozen BK233.out 0; have hfz60_1 := blk_frozen BK233.out 1; have hfz60_2 := blk_frozen BK233.out 2; have hfz60_3 := blk_frozen BK233.out 3
                      try go_wp2
                      replace HO_3 := rd HO_3; replace BK233 := bd BK233; replace HB := Aside0.mk (below_drew1 HB.out); obtain ⟨i062, hi062, _, hsz62, _⟩ := info_parts info5; obtain ⟨A62, hcut62, hA62, hC62⟩ := print_mid_of (P := Tryd.prog) (Value.int .u8) 0 22 5 .i64 .i64 Tryd.underlying22 hi062 hsz62 A0 c0 l0 ((rd_T34 t226 x7_1).f1) ((rd_T34 t226 x7_1).f2) (of_decide_eq_true (by first | (with_reducible assumption) | assumption)) (by first | omega | exact of_decide_eq_true (by first | (with_reducible assumption) | assumption)) (of_decide_eq_true (by first | (with_reducible assumption) | assumption)) HC0.out; have HR238 := Aside0.mk (Kd.C_of_reads (h1 := fun _ => rfl) (hA62 _ (Kd.reads_of_C HR0.out))); have HC238 := Aside0.mk hC62; clear hA62 hC62 hi062 hsz62; have p239 : 0 ≤ (((rd_T34 t226 x7_1).f1) : Int) := of_decide_eq_true (by first | (with_reducible assumption) | assumption); have q239 : ((rd_T34 t226 x7_1).f1) < (l0.length : Int) := of_decide_eq_true (by first | (with_reducible assumption) | assumption); obtain ⟨ad239, e239, hx239_0⟩ := Kd.at_int HR0.out ((rd_T34 t226 x7_1).f1) p239 q239; have hw239_0 := hx239_0
                      cases e239
                      replace hx239_0 := (HB.out.cell (World.block_lt_of_cell? w _ hx239_0)).trans hx239_0; replace p239 := eq_true p239; replace q239 := eq_true q239; refine start_ (n := 37) (S := fun w' => Below w.heap.size w w' ∧ w'.cell? ⟨gb233, 0, none⟩ = some (.int .i64 ((rd_T34 t226 x7_1).f0)) ∧ w'.cell? ⟨gb233, 1, none⟩ = some (.int .i64 ((rd_T34 t226 x7_1).f1)) ∧ w'.cell? ⟨gb233, 2, none⟩ = some (.int .i64 ((rd_T34 t226 x7_1).f2)) ∧ w'.cell? ⟨gb233, 3, none⟩ = some (.int .i64 ((rd_T34 t226 x7_1).f3)) ∧ w'.cell? (ad239.add (((rd_T34 t226 x7_1).f1)).toNat) = some (.int .u8 (rd l0 ((rd_T34 t226 x7_1).f1)))) (ds := []) (pf 0 37) (by kernel_rfl) rfl rfl ⟨HB.out, bc BK233 0, bc BK233 1, bc BK233 2, bc BK233 3, ((HB.out.cell (World.block_lt_of_cell? w _ hw239_0)).trans hw239_0)⟩ (fun hHeld => ?_); refine with_tabW tangramlaw01_NumsLies.tab18 tangramlaw01_NumsLies.bits18 (fun HT_ HW_ => ?_); generalize wr.drew = w61 at HO_3 BK233 HB HR238 hx239_0 hHeld ⊢; refine pu_ 0 (some 90) (pf 1 37) HT_ ?_; refine tk6_ 1 (some 91) (pf 2 37) HT_ HW_ hHeld ?_; refine pu_ 2 (some 92) (pf 3 37) HT_ ?_; refine pu_ 3 (some 93) (pf 4 37) HT_ ?_
                      refine pu_ 4 (some 94) (pf 5 37) HT_ ?_; refine pu_ 7 (some 97) #[T_,T_,T_,T_,T_,F_,F_,T_,F_,F_,F_,F_,F_,F_,F_,F_,F_,F_,F_,F_,F_,F_,F_,F_,F_,F_,F_,F_,F_,F_,F_,F_,F_,F_,F_,F_,F_] HT_ ?_; refine pu_ 8 (some 98) #[T_,T_,T_,T_,T_,F_,F_,T_,T_,F_,F_,F_,F_,F_,F_,F_,F_,F_,F_,F_,F_,F_,F_,F_,F_,F_,F_,F_,F_,F_,F_,F_,F_,F_,F_,F_,F_] HT_ ?_; refine pu_ 10 (some 100) #[T_,T_,T_,T_,T_,F_,F_,T_,T_,F_,T_,F_,F_,F_,F_,F_,F_,F_,F_,F_,F_,F_,F_,F_,F_,F_,F_,F_,F_,F_,F_,F_,F_,F_,F_,F_,F_] HT_ ?_; refine tk6_ 5 (some 95) #[T_,T_,T_,T_,T_,T_,F_,T_,T_,F_,T_,F_,F_,F_,F_,F_,F_,F_,F_,F_,F_,F_,F_,F_,F_,F_,F_,F_,F_,F_,F_,F_,F_,F_,F_,F_,F_] HT_ HW_ hHeld ?_; refine tk6_ 9 (some 99) #[T_,T_,T_,T_,T_,T_,F_,T_,T_,T_,T_,F_,F_,F_,F_,F_,F_,F_,F_,F_,F_,F_,F_,F_,F_,F_,F_,F_,F_,F_,F_,F_,F_,F_,F_,F_,F_] HT_ HW_ hHeld ?_; refine tk6_ 11 (some 101) #[T_,T_,T_,T_,T_,T_,F_,T_,T_,T_,T_,T_,F_,F_,F_,F_,F_,F_,F_,F_,F_,F_,F_,F_,F_,F_,F_,F_,F_,F_,F_,F_,F_,F_,F_,F_,F_] HT_ HW_ hHeld ?_; refine pu_ 12 (some 102) #[T_,T_,T_,T_,T_,T_,F_,T_,T_,T_,T_,T_,T_,F_,F_,F_,F_,F_,F_,F_,F_,F_,F_,F_,F_,F_,F_,F_,F_,F_,F_,F_,F_,F_,F_,F_,F_] HT_ ?_; refine tk6_ 13 (some 103) #[T_,T_,T_,T_,T_,T_,F_,T_,T_,T_,T_,T_,T_,T_,F_,F_,F_,F_,F_,F_,F_,F_,F_,F_,F_,F_,F_,F_,F_,F_,F_,F_,F_,F_,F_,F_,F_] HT_ HW_ hHeld ?_ (hy := by (rintro w' ⟨s0, s1, s2, s3, s4, s5⟩; have hcv := Kd.C_string (P := Tryd.prog) (A := A62) (c := (c0 - ((rd_T34 t226 x7_1).f1).toNat)) Tryd.underlying22 Tryd.underlying5 Tryd.underlying9 (Kd.C_below HR238.out s0); (have hl : (List.drop (((rd_T34 t226 x7_1).f1) : Int).toNat (List.take (((rd_T34 t226 x7_1).f2) : Int).toNat l0)).length = (((rd_T34 t226 x7_1).f2) : Int).toNat - (((rd_T34 t226 x7_1).f1) : Int).toNat := by (rw [List.length_drop, List.length_take]; have hq := (of_decide_eq_true (by assumption) : (((rd_T34 t226 x7_1).f2) : Int) ≤ (l0.length : Int)); omega)); rw [hl] at hcv; clear s0 hl; go_simp; with_reducible rfl)); refine on_ 6 (some 96) (pf 14 37) HT_ (fun K hK => ?_)
                      refine gs_ Tryd.func14 #[.int .i64 ((rd_T34 t226 x7_1).f3)] ?_
                      with_reducible refine (nums_Text.calls k3 ((rd_T34 t226 x7_1).f3) t237 _ (tb HT HB.out) A38.out).mono ?_
                      rintro e w63 ⟨rfl, hb⟩; refine ⟨_, rfl, ?_⟩; replace HO_3 := ry HO_3 hb; replace BK233 := kx BK233 hb; replace HB := hs (hb1 HB GE233) hb
                      (try clear hb)
                      (try clear hb2)
                      (try clear hk)
                      (try clear hi)
                      refine hK.out _ _ ⟨HB.out, bc BK233 0, bc BK233 1, bc BK233 2, bc BK233 3, ((HB.out.cell (World.block_lt_of_cell? w _ hw239_0)).trans hw239_0)⟩ (fun hHeld => ?_); clear hK K; refine nm_ (some 96) ?_; refine pu_ 14 (some 104) (pf 15 37) HT_ ?_; refine pu_ 15 (some 105) (pf 16 37) HT_ ?_; refine pu_ 16 (some 106) (pf 17 37) HT_ ?_; refine pu_ 17 (some 107) (pf 18 37) HT_ ?_; refine tk6_ 18 (some 108) (pf 19 37) HT_ HW_ hHeld ?_; refine pu_ 19 (some 109) (pf 20 37) HT_ ?_; refine pu_ 20 (some 110) (pf 21 37) HT_ ?_; refine pu_ 21 (some 111) (pf 22 37) HT_ ?_
                      refine pu_ 22 (some 112) (pf 23 37) HT_ ?_; refine tk6_ 23 (some 113) (pf 24 37) HT_ HW_ hHeld ?_; refine pu_ 24 (some 114) (pf 25 37) HT_ ?_; refine tk6_ 25 (some 115) (pf 26 37) HT_ HW_ hHeld ?_; refine pu_ 26 (some 116) (pf 27 37) HT_ ?_; refine pu_ 27 (some 117) (pf 28 37) HT_ ?_; refine pn_ 28 (some 118) (pf 29 37) HT_ ?_; refine pn_ 29 (some 119) (pf 30 37) HT_ ?_; refine pn_ 30 (some 120) (pf 31 37) HT_ ?_; refine pn_ 31 (some 121) (pf 32 37) HT_ ?_
                      refine pn_ 32 (some 122) (pf 33 37) HT_ ?_; refine pn_ 33 (some 123) (pf 34 37) HT_ ?_; refine pu_ 34 (some 124) (pf 35 37) HT_ ?_; refine pu_ 35 (some 125) (pf 36 37) HT_ ?_; refine pu_ 36 (some 126) (pf 37 37) HT_ ?_; refine done_ (done_of HT_.out (by kernel_rfl)) ?_
                      try go_wp2
                      go_ret
                      exact ⟨by first | rfl | (simp [errW_none, errW_some] <;> rfl) | (simp [*, errW_none, errW_some] <;> rfl), hb1 HB GE233⟩
                    ·rw [if_neg c44] at H; exact absurd H (by simp)
                   ·rw [if_neg c43] at H; have c43b0 : (((rd_T34 t226 x7_1).f0) == 2) = false := beq_eq_false_iff_ne.mpr c43; have c43b1 : (((rd_T34 t226 x7_1).f0) != 2) = true := bne_iff_ne.mpr c43; have H' := Aside0.mk H; clear H; have hcz66_0 : wr.cell? ⟨gb233, 0, none⟩ = some (.int .i64 ((rd_T34 t226 x7_1).f0)) := bc BK233 0; have hcz66_1 : wr.cell? ⟨gb233, 1, none⟩ = some (.int .i64 ((rd_T34 t226 x7_1).f1)) := bc BK233 1; have hcz66_2 : wr.cell? ⟨gb233, 2, none⟩ = some (.int .i64 ((rd_T34 t226 x7_1).f2)) := bc BK233 2; have hcz66_3 : wr.cell? ⟨gb233, 3, none⟩ = some (.int .i64 ((rd_T34 t226 x7_1).f3)) := bc BK233 3; have hfz66_0 := blk_frozen BK233.out 0; have hfz66_1 := blk_frozen BK233.out 1; have hfz66_2 := blk_frozen BK233.out 2; have hfz66_3 := blk_frozen BK233.out 3
                    try go_wp2
                    replace HO_3 := rd HO_3; replace BK233 := bd BK233; replace HB := Aside0.mk (below_drew1 HB.out); obtain ⟨i068, hi068, _, hsz68, _⟩ := info_parts info5; obtain ⟨A68, hcut68, hA68, hC68⟩ := print_mid_of (P := Tryd.prog) (Value.int .u8) 0 22 5 .i64 .i64 Tryd.underlying22 hi068 hsz68 A0 c0 l0 ((rd_T34 t226 x7_1).f1) ((rd_T34 t226 x7_1).f2) (of_decide_eq_true (by first | (with_reducible assumption) | assumption)) (by first | omega | exact of_decide_eq_true (by first | (with_reducible assumption) | assumption)) (of_decide_eq_true (by first | (with_reducible assumption) | assumption)) HC0.out; have HR238 := Aside0.mk (Kd.C_of_reads (h1 := fun _ => rfl) (hA68 _ (Kd.reads_of_C HR0.out))); have HC238 := Aside0.mk hC68; clear hA68 hC68 hi068 hsz68; refine start_ (n := 37) (S := fun w' => Below w.heap.size w w' ∧ w'.cell? ⟨gb233, 0, none⟩ = some (.int .i64 ((rd_T34 t226 x7_1).f0)) ∧ w'.cell? ⟨gb233, 1, none⟩ = some (.int .i64 ((rd_T34 t226 x7_1).f1)) ∧ w'.cell? ⟨gb233, 2, none⟩ = some (.int .i64 ((rd_T34 t226 x7_1).f2)) ∧ w'.cell? ⟨gb233, 3, none⟩ = some (.int .i64 ((rd_T34 t226 x7_1).f3))) (ds := []) (pf 0 37) (by kernel_rfl) rfl rfl ⟨HB.out, bc BK233 0, bc BK233 1, bc BK233 2, bc BK233 3⟩ (fun hHeld => ?_); refine with_tabW tangramlaw01_NumsLies.tab18 tangramlaw01_NumsLies.bits18 (fun HT_ HW_ => ?_); generalize wr.drew = w67 at HO_3 BK233 HB HR238 hHeld ⊢; refine pu_ 0 (some 90) (pf 1 37) HT_ ?_
                    refine tk5_ 1 (some 91) (pf 2 37) HT_ HW_ hHeld ?_; refine pu_ 2 (some 92) (pf 3 37) HT_ ?_; refine pu_ 3 (some 93) (pf 4 37) HT_ ?_; refine pu_ 4 (some 94) (pf 5 37) HT_ ?_; refine pu_ 7 (some 97) #[T_,T_,T_,T_,T_,F_,F_,T_,F_,F_,F_,F_,F_,F_,F_,F_,F_,F_,F_,F_,F_,F_,F_,F_,F_,F_,F_,F_,F_,F_,F_,F_,F_,F_,F_,F_,F_] HT_ ?_; refine pu_ 8 (some 98) #[T_,T_,T_,T_,T_,F_,F_,T_,T_,F_,F_,F_,F_,F_,F_,F_,F_,F_,F_,F_,F_,F_,F_,F_,F_,F_,F_,F_,F_,F_,F_,F_,F_,F_,F_,F_,F_] HT_ ?_; refine pu_ 10 (some 100) #[T_,T_,T_,T_,T_,F_,F_,T_,T_,F_,T_,F_,F_,F_,F_,F_,F_,F_,F_,F_,F_,F_,F_,F_,F_,F_,F_,F_,F_,F_,F_,F_,F_,F_,F_,F_,F_] HT_ ?_; refine tk5_ 5 (some 95) #[T_,T_,T_,T_,T_,T_,F_,T_,T_,F_,T_,F_,F_,F_,F_,F_,F_,F_,F_,F_,F_,F_,F_,F_,F_,F_,F_,F_,F_,F_,F_,F_,F_,F_,F_,F_,F_] HT_ HW_ hHeld ?_; refine tk5_ 9 (some 99) #[T_,T_,T_,T_,T_,T_,F_,T_,T_,T_,T_,F_,F_,F_,F_,F_,F_,F_,F_,F_,F_,F_,F_,F_,F_,F_,F_,F_,F_,F_,F_,F_,F_,F_,F_,F_,F_] HT_ HW_ hHeld ?_; refine tk5_ 11 (some 101) #[T_,T_,T_,T_,T_,T_,F_,T_,T_,T_,T_,T_,F_,F_,F_,F_,F_,F_,F_,F_,F_,F_,F_,F_,F_,F_,F_,F_,F_,F_,F_,F_,F_,F_,F_,F_,F_] HT_ HW_ hHeld ?_
                    refine pu_ 12 (some 102) #[T_,T_,T_,T_,T_,T_,F_,T_,T_,T_,T_,T_,T_,F_,F_,F_,F_,F_,F_,F_,F_,F_,F_,F_,F_,F_,F_,F_,F_,F_,F_,F_,F_,F_,F_,F_,F_] HT_ ?_; refine tk5_ 13 (some 103) #[T_,T_,T_,T_,T_,T_,F_,T_,T_,T_,T_,T_,T_,T_,F_,F_,F_,F_,F_,F_,F_,F_,F_,F_,F_,F_,F_,F_,F_,F_,F_,F_,F_,F_,F_,F_,F_] HT_ HW_ hHeld ?_ (hy := by (rintro w' ⟨s0, s1, s2, s3, s4⟩; have hcv := Kd.C_string (P := Tryd.prog) (A := A68) (c := (c0 - ((rd_T34 t226 x7_1).f1).toNat)) Tryd.underlying22 Tryd.underlying5 Tryd.underlying9 (Kd.C_below HR238.out s0); (have hl : (List.drop (((rd_T34 t226 x7_1).f1) : Int).toNat (List.take (((rd_T34 t226 x7_1).f2) : Int).toNat l0)).length = (((rd_T34 t226 x7_1).f2) : Int).toNat - (((rd_T34 t226 x7_1).f1) : Int).toNat := by (rw [List.length_drop, List.length_take]; have hq := (of_decide_eq_true (by assumption) : (((rd_T34 t226 x7_1).f2) : Int) ≤ (l0.length : Int)); omega)); rw [hl] at hcv; clear s0 hl; go_simp; with_reducible rfl)); refine on_ 6 (some 96) (pf 14 37) HT_ (fun K hK => ?_); refine gs_ Tryd.func14 #[.int .i64 ((rd_T34 t226 x7_1).f3)] ?_
                    with_reducible refine (nums_Text.calls k3 ((rd_T34 t226 x7_1).f3) t237 _ (tb HT HB.out) A38.out).mono ?_
                    rintro e w69 ⟨rfl, hb⟩; refine ⟨_, rfl, ?_⟩; replace HO_3 := ry HO_3 hb; replace BK233 := kx BK233 hb; replace HB := hs (hb1 HB GE233) hb
                    (try clear hb)
                    (try clear hb2)
                    (try clear hk)
                    (try clear hi)
                    refine hK.out _ _ ⟨HB.out, bc BK233 0, bc BK233 1, bc BK233 2, bc BK233 3⟩ (fun hHeld => ?_); clear hK K; refine nm_ (some 96) ?_; refine pu_ 14 (some 104) (pf 15 37) HT_ ?_; refine pu_ 15 (some 105) (pf 16 37) HT_ ?_; refine pu_ 16 (some 106) (pf 17 37) HT_ ?_; refine pu_ 17 (some 107) (pf 18 37) HT_ ?_; refine tk5_ 18 (some 108) (pf 19 37) HT_ HW_ hHeld ?_; refine pu_ 19 (some 109) (pf 20 37) HT_ ?_; refine pu_ 20 (some 110) (pf 21 37) HT_ ?_; refine pn_ 21 (some 111) (pf 22 37) HT_ ?_
                    refine pn_ 22 (some 112) (pf 23 37) HT_ ?_; refine pn_ 23 (some 113) (pf 24 37) HT_ ?_; refine pn_ 24 (some 114) (pf 25 37) HT_ ?_; refine pn_ 25 (some 115) (pf 26 37) HT_ ?_; refine pn_ 26 (some 116) (pf 27 37) HT_ ?_; refine pn_ 27 (some 117) (pf 28 37) HT_ ?_; refine pn_ 28 (some 118) (pf 29 37) HT_ ?_; refine pn_ 29 (some 119) (pf 30 37) HT_ ?_; refine pn_ 30 (some 120) (pf 31 37) HT_ ?_; refine pn_ 31 (some 121) (pf 32 37) HT_ ?_; refine pn_ 32 (some 122) (pf 33 37) HT_ ?_
                    refine pn_ 33 (some 123) (pf 34 37) HT_ ?_; refine pn_ 34 (some 124) (pf 35 37) HT_ ?_; refine pu_ 35 (some 125) (pf 36 37) HT_ ?_; refine pu_ 36 (some 126) (pf 37 37) HT_ ?_; refine done_ (done_of HT_.out (by kernel_rfl)) ?_; have hcz72_0 : w69.cell? ⟨gb233, 0, none⟩ = some (.int .i64 ((rd_T34 t226 x7_1).f0)) := bc BK233 0; have hcz72_1 : w69.cell? ⟨gb233, 1, none⟩ = some (.int .i64 ((rd_T34 t226 x7_1).f1)) := bc BK233 1; have hcz72_2 : w69.cell? ⟨gb233, 2, none⟩ = some (.int .i64 ((rd_T34 t226 x7_1).f2)) := bc BK233 2; have hcz72_3 : w69.cell? ⟨gb233, 3, none⟩ = some (.int .i64 ((rd_T34 t226 x7_1).f3)) := bc BK233 3; have hfz72_0 := blk_frozen BK233.out 0; have hfz72_1 := blk_frozen BK233.out 1; have hfz72_2 := blk_frozen BK233.out 2; have hfz72_3 := blk_frozen BK233.out 3
                    try go_wp2
                    go_roundg k3
                    case measure => have := HK1.out; have := HJ14.out; have := HK3.out; omega
                    case rel => exact ⟨(((rd_T34 t226 x7_1).f2)), (wrap64 (x7_1 + 1)), (by first | rfl | (simp; done) | (simp [*]; done)), (by first | rfl | (simp; done) | (simp [*]; done)), H', ⟨by have := HK1.out; have := HJ14.out; have := HK3.out; omega⟩, ⟨Kd.R_mono (rx HO_3) (fun _ hk => trivial)⟩, ⟨hb1 HB GE233⟩⟩
                  ·rw [if_neg c42] at H; have c42b0 : (t237.toList == (strOfNums ((l0.take (((rd_T34 t226 x7_1).f2) : Int).toNat).drop (((rd_T34 t226 x7_1).f1) : Int).toNat)).toList) = false := beq_eq_false_iff_ne.mpr c42; have c42b1 : (t237.toList != (strOfNums ((l0.take (((rd_T34 t226 x7_1).f2) : Int).toNat).drop (((rd_T34 t226 x7_1).f1) : Int).toNat)).toList) = true := bne_iff_ne.mpr c42; obtain rfl := Option.some.inj H; have hcz73_0 : wr.cell? ⟨gb233, 0, none⟩ = some (.int .i64 ((rd_T34 t226 x7_1).f0)) := bc BK233 0; have hcz73_1 : wr.cell? ⟨gb233, 1, none⟩ = some (.int .i64 ((rd_T34 t226 x7_1).f1)) := bc BK233 1; have hcz73_2 : wr.cell? ⟨gb233, 2, none⟩ = some (.int .i64 ((rd_T34 t226 x7_1).f2)) := bc BK233 2; have hcz73_3 : wr.cell? ⟨gb233, 3, none⟩ = some (.int .i64 ((rd_T34 t226 x7_1).f3)) := bc BK233 3; have hfz73_0 := blk_frozen BK233.out 0; have hfz73_1 := blk_frozen BK233.out 1; have hfz73_2 := blk_frozen BK233.out 2; have hfz73_3 := blk_frozen BK233.out 3
                   try go_wp2
                   replace HO_3 := rd HO_3; replace BK233 := bd BK233; replace HB := Aside0.mk (below_drew1 HB.out); obtain ⟨i075, hi075, _, hsz75, _⟩ := info_parts info5; obtain ⟨A75, hcut75, hA75, hC75⟩ := print_mid_of (P := Tryd.prog) (Value.int .u8) 0 22 5 .i64 .i64 Tryd.underlying22 hi075 hsz75 A0 c0 l0 ((rd_T34 t226 x7_1).f1) ((rd_T34 t226 x7_1).f2) (of_decide_eq_true (by first | (with_reducible assumption) | assumption)) (by first | omega | exact of_decide_eq_true (by first | (with_reducible assumption) | assumption)) (of_decide_eq_true (by first | (with_reducible assumption) | assumption)) HC0.out; have HR238 := Aside0.mk (Kd.C_of_reads (h1 := fun _ => rfl) (hA75 _ (Kd.reads_of_C HR0.out))); have HC238 := Aside0.mk hC75; clear hA75 hC75 hi075 hsz75; refine start_ (n := 37) (S := fun w' => Below w.heap.size w w' ∧ w'.cell? ⟨gb233, 0, none⟩ = some (.int .i64 ((rd_T34 t226 x7_1).f0)) ∧ w'.cell? ⟨gb233, 1, none⟩ = some (.int .i64 ((rd_T34 t226 x7_1).f1)) ∧ w'.cell? ⟨gb233, 2, none⟩ = some (.int .i64 ((rd_T34 t226 x7_1).f2)) ∧ w'.cell? ⟨gb233, 3, none⟩ = some (.int .i64 ((rd_T34 t226 x7_1).f3))) (ds := []) (pf 0 37) (by kernel_rfl) rfl rfl ⟨HB.out, bc BK233 0, bc BK233 1, bc BK233 2, bc BK233 3⟩ (fun hHeld => ?_); refine with_tabW tangramlaw01_NumsLies.tab18 tangramlaw01_NumsLies.bits18 (fun HT_ HW_ => ?_); generalize wr.drew = w74 at HO_3 BK233 HB HR238 hHeld ⊢; refine pu_ 0 (some 90) (pf 1 37) HT_ ?_
                   refine tk5_ 1 (some 91) (pf 2 37) HT_ HW_ hHeld ?_; refine pu_ 2 (some 92) (pf 3 37) HT_ ?_; refine pu_ 3 (some 93) (pf 4 37) HT_ ?_; refine pu_ 4 (some 94) (pf 5 37) HT_ ?_; refine pu_ 7 (some 97) #[T_,T_,T_,T_,T_,F_,F_,T_,F_,F_,F_,F_,F_,F_,F_,F_,F_,F_,F_,F_,F_,F_,F_,F_,F_,F_,F_,F_,F_,F_,F_,F_,F_,F_,F_,F_,F_] HT_ ?_; refine pu_ 8 (some 98) #[T_,T_,T_,T_,T_,F_,F_,T_,T_,F_,F_,F_,F_,F_,F_,F_,F_,F_,F_,F_,F_,F_,F_,F_,F_,F_,F_,F_,F_,F_,F_,F_,F_,F_,F_,F_,F_] HT_ ?_; refine pu_ 10 (some 100) #[T_,T_,T_,T_,T_,F_,F_,T_,T_,F_,T_,F_,F_,F_,F_,F_,F_,F_,F_,F_,F_,F_,F_,F_,F_,F_,F_,F_,F_,F_,F_,F_,F_,F_,F_,F_,F_] HT_ ?_; refine tk5_ 5 (some 95) #[T_,T_,T_,T_,T_,T_,F_,T_,T_,F_,T_,F_,F_,F_,F_,F_,F_,F_,F_,F_,F_,F_,F_,F_,F_,F_,F_,F_,F_,F_,F_,F_,F_,F_,F_,F_,F_] HT_ HW_ hHeld ?_; refine tk5_ 9 (some 99) #[T_,T_,T_,T_,T_,T_,F_,T_,T_,T_,T_,F_,F_,F_,F_,F_,F_,F_,F_,F_,F_,F_,F_,F_,F_,F_,F_,F_,F_,F_,F_,F_,F_,F_,F_,F_,F_] HT_ HW_ hHeld ?_; refine tk5_ 11 (some 101) #[T_,T_,T_,T_,T_,T_,F_,T_,T_,T_,T_,T_,F_,F_,F_,F_,F_,F_,F_,F_,F_,F_,F_,F_,F_,F_,F_,F_,F_,F_,F_,F_,F_,F_,F_,F_,F_] HT_ HW_ hHeld ?_
                   refine pu_ 12 (some 102) #[T_,T_,T_,T_,T_,T_,F_,T_,T_,T_,T_,T_,T_,F_,F_,F_,F_,F_,F_,F_,F_,F_,F_,F_,F_,F_,F_,F_,F_,F_,F_,F_,F_,F_,F_,F_,F_] HT_ ?_; refine tk5_ 13 (some 103) #[T_,T_,T_,T_,T_,T_,F_,T_,T_,T_,T_,T_,T_,T_,F_,F_,F_,F_,F_,F_,F_,F_,F_,F_,F_,F_,F_,F_,F_,F_,F_,F_,F_,F_,F_,F_,F_] HT_ HW_ hHeld ?_ (hy := by (rintro w' ⟨s0, s1, s2, s3, s4⟩; have hcv := Kd.C_string (P := Tryd.prog) (A := A75) (c := (c0 - ((rd_T34 t226 x7_1).f1).toNat)) Tryd.underlying22 Tryd.underlying5 Tryd.underlying9 (Kd.C_below HR238.out s0); (have hl : (List.drop (((rd_T34 t226 x7_1).f1) : Int).toNat (List.take (((rd_T34 t226 x7_1).f2) : Int).toNat l0)).length = (((rd_T34 t226 x7_1).f2) : Int).toNat - (((rd_T34 t226 x7_1).f1) : Int).toNat := by (rw [List.length_drop, List.length_take]; have hq := (of_decide_eq_true (by assumption) : (((rd_T34 t226 x7_1).f2) : Int) ≤ (l0.length : Int)); omega)); rw [hl] at hcv; clear s0 hl; go_simp; with_reducible rfl)); refine on_ 6 (some 96) (pf 14 37) HT_ (fun K hK => ?_); refine gs_ Tryd.func14 #[.int .i64 ((rd_T34 t226 x7_1).f3)] ?_
                   with_reducible refine (nums_Text.calls k3 ((rd_T34 t226 x7_1).f3) t237 _ (tb HT HB.out) A38.out).mono ?_
                   rintro e w76 ⟨rfl, hb⟩; refine ⟨_, rfl, ?_⟩; replace HO_3 := ry HO_3 hb; replace BK233 := kx BK233 hb; replace HB := hs (hb1 HB GE233) hb
                   (try clear hb)
                   (try clear hb2)
                   (try clear hk)
                   (try clear hi)
                   refine hK.out _ _ ⟨HB.out, bc BK233 0, bc BK233 1, bc BK233 2, bc BK233 3⟩ (fun hHeld => ?_); clear hK K; refine nm_ (some 96) ?_; refine pu_ 14 (some 104) (pf 15 37) HT_ ?_; refine pu_ 15 (some 105) (pf 16 37) HT_ ?_; refine pu_ 16 (some 106) (pf 17 37) HT_ ?_; refine pn_ 17 (some 107) (pf 18 37) HT_ ?_; refine pn_ 18 (some 108) (pf 19 37) HT_ ?_; refine pn_ 19 (some 109) (pf 20 37) HT_ ?_; refine pn_ 20 (some 110) (pf 21 37) HT_ ?_; refine pn_ 21 (some 111) (pf 22 37) HT_ ?_; refine pn_ 22 (some 112) (pf 23 37) HT_ ?_
                   refine pn_ 23 (some 113) (pf 24 37) HT_ ?_; refine pn_ 24 (some 114) (pf 25 37) HT_ ?_; refine pn_ 25 (some 115) (pf 26 37) HT_ ?_; refine pn_ 26 (some 116) (pf 27 37) HT_ ?_; refine pn_ 27 (some 117) (pf 28 37) HT_ ?_; refine pn_ 28 (some 118) (pf 29 37) HT_ ?_; refine pn_ 29 (some 119) (pf 30 37) HT_ ?_; refine pn_ 30 (some 120) (pf 31 37) HT_ ?_; refine pn_ 31 (some 121) (pf 32 37) HT_ ?_; refine pn_ 32 (some 122) (pf 33 37) HT_ ?_; refine pn_ 33 (some 123) (pf 34 37) HT_ ?_
                   refine pn_ 34 (some 124) (pf 35 37) HT_ ?_; refine pn_ 35 (some 125) (pf 36 37) HT_ ?_; refine pu_ 36 (some 126) (pf 37 37) HT_ ?_; refine done_ (done_of HT_.out (by kernel_rfl)) ?_
                   try go_wp2
                   go_ret
                   exact ⟨by first | rfl | (simp [errW_none, errW_some] <;> rfl) | (simp [*, errW_none, errW_some] <;> rfl), hb1 HB GE233⟩
                 ·rw [if_neg c41] at H; exact absurd H (by simp)
                ·rw [if_neg c40] at H; exact absurd H (by simp)
               ·rw [if_neg c39] at H; exact absurd H (by simp)
              ·rw [if_neg c37] at H; have c37b0 : (((rd_T34 t226 x7_1).f0) == 1) = false := beq_eq_false_iff_ne.mpr c37; have c37b1 : (((rd_T34 t226 x7_1).f0) != 1) = true := bne_iff_ne.mpr c37
               by_cases c79 : ((rd_T34 t226 x7_1).f0) = 2
               ·rw [if_pos c79] at H; have c79b0 : (((rd_T34 t226 x7_1).f0) == 2) = true := beq_iff_eq.mpr c79; have c79b1 : (((rd_T34 t226 x7_1).f0) != 2) = false := bne_eq_false_iff_eq.mpr c79; clear c79
                by_cases c80 : 0 ≤ ((rd_T34 t226 x7_1).f1)
                ·rw [if_pos c80] at H; have c80b0 : decide (0 ≤ ((rd_T34 t226 x7_1).f1)) = true := decide_eq_true c80; clear c80
                 by_cases c81 : ((rd_T34 t226 x7_1).f1) < (l0.length : Int)
                 ·rw [if_pos c81] at H; have c81b0 : decide (((rd_T34 t226 x7_1).f1) < (l0.length : Int)) = true := decide_eq_true c81; clear c81
                  by_cases c82 : (rd l0 ((rd_T34 t226 x7_1).f1)) = 10
                  ·rw [if_pos c82] at H; have c82b0 : ((rd l0 ((rd_T34 t226 x7_1).f1)) == 10) = true := beq_iff_eq.mpr c82; have c82b1 : ((rd l0 ((rd_T34 t226 x7_1).f1)) != 10) = false := bne_eq_false_iff_eq.mpr c82; clear c82
                   by_cases c83 : ((rd_T34 t226 x7_1).f2) = (wrap64 (((rd_T34 t226 x7_1).f1) + 1))
                   ·rw [if_pos c83] at H; have c83b0 : (((rd_T34 t226 x7_1).f2) == (wrap64 (((rd_T34 t226 x7_1).f1) + 1))) = true := beq_iff_eq.mpr c83; have c83b1 : (((rd_T34 t226 x7_1).f2) != (wrap64 (((rd_T34 t226 x7_1).f1) + 1))) = false := bne_eq_false_iff_eq.mpr c83; clear c83; have H' := Aside0.mk H; clear H; have hcz84_0 : wr.cell? ⟨gb233, 0, none⟩ = some (.int .i64 ((rd_T34 t226 x7_1).f0)) := bc BK233 0; have hcz84_1 : wr.cell? ⟨gb233, 1, none⟩ = some (.int .i64 ((rd_T34 t226 x7_1).f1)) := bc BK233 1; have hcz84_2 : wr.cell? ⟨gb233, 2, none⟩ = some (.int .i64 ((rd_T34 t226 x7_1).f2)) := bc BK233 2; have hcz84_3 : wr.cell? ⟨gb233, 3, none⟩ = some (.int .i64 ((rd_T34 t226 x7_1).f3)) := bc BK233 3; have hfz84_0 := blk_frozen BK233.out 0; have hfz84_1 := blk_frozen BK233.out 1; have hfz84_2 := blk_frozen BK233.out 2; have hfz84_3 := blk_frozen BK233.out 3
                    try go_wp2
                    replace HO_3 := rd HO_3; replace BK233 := bd BK233; replace HB := Aside0.mk (below_drew1 HB.out); have p240 : 0 ≤ (((rd_T34 t226 x7_1).f1) : Int) := of_decide_eq_true (by first | (with_reducible assumption) | assumption); have q240 : ((rd_T34 t226 x7_1).f1) < (l0.length : Int) := of_decide_eq_true (by first | (with_reducible assumption) | assumption); obtain ⟨ad240, e240, hx240_0⟩ := Kd.at_int HR0.out ((rd_T34 t226 x7_1).f1) p240 q240; have hw240_0 := hx240_0
                    cases e240
                    replace hx240_0 := (HB.out.cell (World.block_lt_of_cell? w _ hx240_0)).trans hx240_0; replace p240 := eq_true p240; replace q240 := eq_true q240; refine start_ (n := 37) (S := fun w' => w'.cell? ⟨gb233, 0, none⟩ = some (.int .i64 ((rd_T34 t226 x7_1).f0)) ∧ w'.cell? ⟨gb233, 1, none⟩ = some (.int .i64 ((rd_T34 t226 x7_1).f1)) ∧ w'.cell? ⟨gb233, 2, none⟩ = some (.int .i64 ((rd_T34 t226 x7_1).f2)) ∧ w'.cell? ⟨gb233, 3, none⟩ = some (.int .i64 ((rd_T34 t226 x7_1).f3)) ∧ w'.cell? (ad240.add (((rd_T34 t226 x7_1).f1)).toNat) = some (.int .u8 (rd l0 ((rd_T34 t226 x7_1).f1)))) (ds := []) (pf 0 37) (by kernel_rfl) rfl rfl ⟨bc BK233 0, bc BK233 1, bc BK233 2, bc BK233 3, ((HB.out.cell (World.block_lt_of_cell? w _ hw240_0)).trans hw240_0)⟩ (fun hHeld => ?_); refine with_tabW tangramlaw01_NumsLies.tab18 tangramlaw01_NumsLies.bits18 (fun HT_ HW_ => ?_); generalize wr.drew = w85 at HO_3 BK233 HB hx240_0 hHeld ⊢; refine pu_ 0 (some 90) (pf 1 37) HT_ ?_; refine tk5_ 1 (some 91) (pf 2 37) HT_ HW_ hHeld ?_; refine pu_ 2 (some 92) (pf 3 37) HT_ ?_; refine pu_ 3 (some 93) (pf 4 37) HT_ ?_
                    refine pn_ 4 (some 94) (pf 5 37) HT_ ?_; refine pn_ 5 (some 95) (pf 6 37) HT_ ?_; refine pn_ 6 (some 96) (pf 7 37) HT_ ?_; refine pn_ 7 (some 97) (pf 8 37) HT_ ?_; refine pn_ 8 (some 98) (pf 9 37) HT_ ?_; refine pn_ 9 (some 99) (pf 10 37) HT_ ?_; refine pn_ 10 (some 100) (pf 11 37) HT_ ?_; refine pn_ 11 (some 101) (pf 12 37) HT_ ?_; refine pn_ 12 (some 102) (pf 13 37) HT_ ?_; refine pn_ 13 (some 103) (pf 14 37) HT_ ?_; refine pn_ 14 (some 104) (pf 15 37) HT_ ?_
                    refine pu_ 15 (some 105) (pf 16 37) HT_ ?_; refine pu_ 16 (some 106) (pf 17 37) HT_ ?_; refine pu_ 17 (some 107) (pf 18 37) HT_ ?_; refine tk5_ 18 (some 108) (pf 19 37) HT_ HW_ hHeld ?_; refine pu_ 19 (some 109) (pf 20 37) HT_ ?_; refine pu_ 20 (some 110) (pf 21 37) HT_ ?_; refine pu_ 21 (some 111) (pf 22 37) HT_ ?_; refine pu_ 22 (some 112) (pf 23 37) HT_ ?_; refine tk5_ 23 (some 113) (pf 24 37) HT_ HW_ hHeld ?_; refine pu_ 24 (some 114) (pf 25 37) HT_ ?_
                    refine tk5_ 25 (some 115) (pf 26 37) HT_ HW_ hHeld ?_; refine pu_ 26 (some 116) (pf 27 37) HT_ ?_; refine pu_ 27 (some 117) (pf 28 37) HT_ ?_; refine pu_ 28 (some 118) (pf 29 37) HT_ ?_; refine pu_ 30 (some 120) #[T_,T_,T_,T_,T_,T_,T_,T_,T_,T_,T_,T_,T_,T_,T_,T_,T_,T_,T_,T_,T_,T_,T_,T_,T_,T_,T_,T_,T_,F_,T_,F_,F_,F_,F_,F_,F_] HT_ ?_; refine tk5_ 29 (some 119) (pf 31 37) HT_ HW_ hHeld ?_; refine tk5_ 31 (some 121) (pf 32 37) HT_ HW_ hHeld ?_; refine pu_ 32 (some 122) (pf 33 37) HT_ ?_; refine pu_ 33 (some 123) (pf 34 37) HT_ ?_; refine pu_ 34 (some 124) (pf 35 37) HT_ ?_
                    refine pu_ 35 (some 125) (pf 36 37) HT_ ?_; refine pu_ 36 (some 126) (pf 37 37) HT_ ?_; refine done_ (done_of HT_.out (by kernel_rfl)) ?_; have hcz86_0 : w85.cell? ⟨gb233, 0, none⟩ = some (.int .i64 ((rd_T34 t226 x7_1).f0)) := bc BK233 0; have hcz86_1 : w85.cell? ⟨gb233, 1, none⟩ = some (.int .i64 ((rd_T34 t226 x7_1).f1)) := bc BK233 1; have hcz86_2 : w85.cell? ⟨gb233, 2, none⟩ = some (.int .i64 ((rd_T34 t226 x7_1).f2)) := bc BK233 2; have hcz86_3 : w85.cell? ⟨gb233, 3, none⟩ = some (.int .i64 ((rd_T34 t226 x7_1).f3)) := bc BK233 3; have hfz86_0 := blk_frozen BK233.out 0; have hfz86_1 := blk_frozen BK233.out 1; have hfz86_2 := blk_frozen BK233.out 2; have hfz86_3 := blk_frozen BK233.out 3
                    try go_wp2
                    go_roundg k3
                    case measure => have := HK1.out; have := HJ14.out; have := HK3.out; omega
                    case rel => exact ⟨(((rd_T34 t226 x7_1).f2)), (wrap64 (x7_1 + 1)), (by first | rfl | (simp; done) | (simp [*]; done)), (by first | rfl | (simp; done) | (simp [*]; done)), H', ⟨by have := HK1.out; have := HJ14.out; have := HK3.out; omega⟩, ⟨Kd.R_mono (rx HO_3) (fun _ hk => trivial)⟩, ⟨hb1 HB GE233⟩⟩
                   ·rw [if_neg c83] at H; have c83b0 : (((rd_T34 t226 x7_1).f2) == (wrap64 (((rd_T34 t226 x7_1).f1) + 1))) = false := beq_eq_false_iff_ne.mpr c83; have c83b1 : (((rd_T34 t226 x7_1).f2) != (wrap64 (((rd_T34 t226 x7_1).f1) + 1))) = true := bne_iff_ne.mpr c83; obtain rfl := Option.some.inj H; have hcz87_0 : wr.cell? ⟨gb233, 0, none⟩ = some (.int .i64 ((rd_T34 t226 x7_1).f0)) := bc BK233 0; have hcz87_1 : wr.cell? ⟨gb233, 1, none⟩ = some (.int .i64 ((rd_T34 t226 x7_1).f1)) := bc BK233 1; have hcz87_2 : wr.cell? ⟨gb233, 2, none⟩ = some (.int .i64 ((rd_T34 t226 x7_1).f2)) := bc BK233 2; have hcz87_3 : wr.cell? ⟨gb233, 3, none⟩ = some (.int .i64 ((rd_T34 t226 x7_1).f3)) := bc BK233 3; have hfz87_0 := blk_frozen BK233.out 0; have hfz87_1 := blk_frozen BK233.out 1; have hfz87_2 := blk_frozen BK233.out 2; have hfz87_3 := blk_frozen BK233.out 3
                    try go_wp2
                    replace HO_3 := rd HO_3; replace BK233 := bd BK233; replace HB := Aside0.mk (below_drew1 HB.out); have p240 : 0 ≤ (((rd_T34 t226 x7_1).f1) : Int) := of_decide_eq_true (by first | (with_reducible assumption) | assumption); have q240 : ((rd_T34 t226 x7_1).f1) < (l0.length : Int) := of_decide_eq_true (by first | (with_reducible assumption) | assumption); obtain ⟨ad240, e240, hx240_0⟩ := Kd.at_int HR0.out ((rd_T34 t226 x7_1).f1) p240 q240; have hw240_0 := hx240_0
                    cases e240
                    replace hx240_0 := (HB.out.cell (World.block_lt_of_cell? w _ hx240_0)).trans hx240_0; replace p240 := eq_true p240; replace q240 := eq_true q240; refine start_ (n := 37) (S := fun w' => w'.cell? ⟨gb233, 0, none⟩ = some (.int .i64 ((rd_T34 t226 x7_1).f0)) ∧ w'.cell? ⟨gb233, 1, none⟩ = some (.int .i64 ((rd_T34 t226 x7_1).f1)) ∧ w'.cell? ⟨gb233, 2, none⟩ = some (.int .i64 ((rd_T34 t226 x7_1).f2)) ∧ w'.cell? ⟨gb233, 3, none⟩ = some (.int .i64 ((rd_T34 t226 x7_1).f3)) ∧ w'.cell? (ad240.add (((rd_T34 t226 x7_1).f1)).toNat) = some (.int .u8 (rd l0 ((rd_T34 t226 x7_1).f1)))) (ds := []) (pf 0 37) (by kernel_rfl) rfl rfl ⟨bc BK233 0, bc BK233 1, bc BK233 2, bc BK233 3, ((HB.out.cell (World.block_lt_of_cell? w _ hw240_0)).trans hw240_0)⟩ (fun hHeld => ?_); refine with_tabW tangramlaw01_NumsLies.tab18 tangramlaw01_NumsLies.bits18 (fun HT_ HW_ => ?_); generalize wr.drew = w88 at HO_3 BK233 HB hx240_0 hHeld ⊢; refine pu_ 0 (some 90) (pf 1 37) HT_ ?_; refine tk5_ 1 (some 91) (pf 2 37) HT_ HW_ hHeld ?_; refine pu_ 2 (some 92) (pf 3 37) HT_ ?_; refine pu_ 3 (some 93) (pf 4 37) HT_ ?_
                    refine pn_ 4 (some 94) (pf 5 37) HT_ ?_; refine pn_ 5 (some 95) (pf 6 37) HT_ ?_; refine pn_ 6 (some 96) (pf 7 37) HT_ ?_; refine pn_ 7 (some 97) (pf 8 37) HT_ ?_; refine pn_ 8 (some 98) (pf 9 37) HT_ ?_; refine pn_ 9 (some 99) (pf 10 37) HT_ ?_; refine pn_ 10 (some 100) (pf 11 37) HT_ ?_; refine pn_ 11 (some 101) (pf 12 37) HT_ ?_; refine pn_ 12 (some 102) (pf 13 37) HT_ ?_; refine pn_ 13 (some 103) (pf 14 37) HT_ ?_; refine pn_ 14 (some 104) (pf 15 37) HT_ ?_
                    refine pu_ 15 (some 105) (pf 16 37) HT_ ?_; refine pu_ 16 (some 106) (pf 17 37) HT_ ?_; refine pu_ 17 (some 107) (pf 18 37) HT_ ?_; refine tk5_ 18 (some 108) (pf 19 37) HT_ HW_ hHeld ?_; refine pu_ 19 (some 109) (pf 20 37) HT_ ?_; refine pu_ 20 (some 110) (pf 21 37) HT_ ?_; refine pu_ 21 (some 111) (pf 22 37) HT_ ?_; refine pu_ 22 (some 112) (pf 23 37) HT_ ?_; refine tk5_ 23 (some 113) (pf 24 37) HT_ HW_ hHeld ?_; refine pu_ 24 (some 114) (pf 25 37) HT_ ?_
                    refine tk5_ 25 (some 115) (pf 26 37) HT_ HW_ hHeld ?_; refine pu_ 26 (some 116) (pf 27 37) HT_ ?_; refine pu_ 27 (some 117) (pf 28 37) HT_ ?_; refine pu_ 28 (some 118) (pf 29 37) HT_ ?_; refine pu_ 30 (some 120) #[T_,T_,T_,T_,T_,T_,T_,T_,T_,T_,T_,T_,T_,T_,T_,T_,T_,T_,T_,T_,T_,T_,T_,T_,T_,T_,T_,T_,T_,F_,T_,F_,F_,F_,F_,F_,F_] HT_ ?_; refine tk5_ 29 (some 119) (pf 31 37) HT_ HW_ hHeld ?_; refine tk5_ 31 (some 121) (pf 32 37) HT_ HW_ hHeld ?_; refine pu_ 32 (some 122) (pf 33 37) HT_ ?_; refine pu_ 33 (some 123) (pf 34 37) HT_ ?_; refine pu_ 34 (some 124) (pf 35 37) HT_ ?_
                    refine pu_ 35 (some 125) (pf 36 37) HT_ ?_; refine pu_ 36 (some 126) (pf 37 37) HT_ ?_; refine done_ (done_of HT_.out (by kernel_rfl)) ?_
                    try go_wp2
                    go_ret
                    exact ⟨by first | rfl | (simp [errW_none, errW_some] <;> rfl) | (simp [*, errW_none, errW_some] <;> rfl), hb1 HB GE233⟩
                  ·rw [if_neg c82] at H; have c82b0 : ((rd l0 ((rd_T34 t226 x7_1).f1)) == 10) = false := beq_eq_false_iff_ne.mpr c82; have c82b1 : ((rd l0 ((rd_T34 t226 x7_1).f1)) != 10) = true := bne_iff_ne.mpr c82; obtain rfl := Option.some.inj H; have hcz89_0 : wr.cell? ⟨gb233, 0, none⟩ = some (.int .i64 ((rd_T34 t226 x7_1).f0)) := bc BK233 0; have hcz89_1 : wr.cell? ⟨gb233, 1, none⟩ = some (.int .i64 ((rd_T34 t226 x7_1).f1)) := bc BK233 1; have hcz89_2 : wr.cell? ⟨gb233, 2, none⟩ = some (.int .i64 ((rd_T34 t226 x7_1).f2)) := bc BK233 2; have hcz89_3 : wr.cell? ⟨gb233, 3, none⟩ = some (.int .i64 ((rd_T34 t226 x7_1).f3)) := bc BK233 3; have hfz89_0 := blk_frozen BK233.out 0; have hfz89_1 := blk_frozen BK233.out 1; have hfz89_2 := blk_frozen BK233.out 2; have hfz89_3 := blk_frozen BK233.out 3
                   try go_wp2
                   replace HO_3 := rd HO_3; replace BK233 := bd BK233; replace HB := Aside0.mk (below_drew1 HB.out); have p240 : 0 ≤ (((rd_T34 t226 x7_1).f1) : Int) := of_decide_eq_true (by first | (with_reducible assumption) | assumption); have q240 : ((rd_T34 t226 x7_1).f1) < (l0.length : Int) := of_decide_eq_true (by first | (with_reducible assumption) | assumption); obtain ⟨ad240, e240, hx240_0⟩ := Kd.at_int HR0.out ((rd_T34 t226 x7_1).f1) p240 q240; have hw240_0 := hx240_0
                   cases e240
                   replace hx240_0 := (HB.out.cell (World.block_lt_of_cell? w _ hx240_0)).trans hx240_0; replace p240 := eq_true p240; replace q240 := eq_true q240; refine start_ (n := 37) (S := fun w' => w'.cell? ⟨gb233, 0, none⟩ = some (.int .i64 ((rd_T34 t226 x7_1).f0)) ∧ w'.cell? ⟨gb233, 1, none⟩ = some (.int .i64 ((rd_T34 t226 x7_1).f1)) ∧ w'.cell? ⟨gb233, 2, none⟩ = some (.int .i64 ((rd_T34 t226 x7_1).f2)) ∧ w'.cell? ⟨gb233, 3, none⟩ = some (.int .i64 ((rd_T34 t226 x7_1).f3)) ∧ w'.cell? (ad240.add (((rd_T34 t226 x7_1).f1)).toNat) = some (.int .u8 (rd l0 ((rd_T34 t226 x7_1).f1)))) (ds := []) (pf 0 37) (by kernel_rfl) rfl rfl ⟨bc BK233 0, bc BK233 1, bc BK233 2, bc BK233 3, ((HB.out.cell (World.block_lt_of_cell? w _ hw240_0)).trans hw240_0)⟩ (fun hHeld => ?_); refine with_tabW tangramlaw01_NumsLies.tab18 tangramlaw01_NumsLies.bits18 (fun HT_ HW_ => ?_); generalize wr.drew = w90 at HO_3 BK233 HB hx240_0 hHeld ⊢; refine pu_ 0 (some 90) (pf 1 37) HT_ ?_; refine tk5_ 1 (some 91) (pf 2 37) HT_ HW_ hHeld ?_; refine pu_ 2 (some 92) (pf 3 37) HT_ ?_; refine pu_ 3 (some 93) (pf 4 37) HT_ ?_
                   refine pn_ 4 (some 94) (pf 5 37) HT_ ?_; refine pn_ 5 (some 95) (pf 6 37) HT_ ?_; refine pn_ 6 (some 96) (pf 7 37) HT_ ?_; refine pn_ 7 (some 97) (pf 8 37) HT_ ?_; refine pn_ 8 (some 98) (pf 9 37) HT_ ?_; refine pn_ 9 (some 99) (pf 10 37) HT_ ?_; refine pn_ 10 (some 100) (pf 11 37) HT_ ?_; refine pn_ 11 (some 101) (pf 12 37) HT_ ?_; refine pn_ 12 (some 102) (pf 13 37) HT_ ?_; refine pn_ 13 (some 103) (pf 14 37) HT_ ?_; refine pn_ 14 (some 104) (pf 15 37) HT_ ?_
                   refine pu_ 15 (some 105) (pf 16 37) HT_ ?_; refine pu_ 16 (some 106) (pf 17 37) HT_ ?_; refine pu_ 17 (some 107) (pf 18 37) HT_ ?_; refine tk5_ 18 (some 108) (pf 19 37) HT_ HW_ hHeld ?_; refine pu_ 19 (some 109) (pf 20 37) HT_ ?_; refine pu_ 20 (some 110) (pf 21 37) HT_ ?_; refine pu_ 21 (some 111) (pf 22 37) HT_ ?_; refine pu_ 22 (some 112) (pf 23 37) HT_ ?_; refine tk5_ 23 (some 113) (pf 24 37) HT_ HW_ hHeld ?_; refine pu_ 24 (some 114) (pf 25 37) HT_ ?_
                   refine tk5_ 25 (some 115) (pf 26 37) HT_ HW_ hHeld ?_; refine pu_ 26 (some 116) (pf 27 37) HT_ ?_; refine pu_ 27 (some 117) (pf 28 37) HT_ ?_; refine pn_ 28 (some 118) (pf 29 37) HT_ ?_; refine pn_ 29 (some 119) (pf 30 37) HT_ ?_; refine pn_ 30 (some 120) (pf 31 37) HT_ ?_; refine pn_ 31 (some 121) (pf 32 37) HT_ ?_; refine pn_ 32 (some 122) (pf 33 37) HT_ ?_; refine pn_ 33 (some 123) (pf 34 37) HT_ ?_; refine pu_ 34 (some 124) (pf 35 37) HT_ ?_; refine pu_ 35 (some 125) (pf 36 37) HT_ ?_
                   refine pu_ 36 (some 126) (pf 37 37) HT_ ?_; refine done_ (done_of HT_.out (by kernel_rfl)) ?_
                   try go_wp2
                   go_ret
                   exact ⟨by first | rfl | (simp [errW_none, errW_some] <;> rfl) | (simp [*, errW_none, errW_some] <;> rfl), hb1 HB GE233⟩
                 ·rw [if_neg c81] at H; exact absurd H (by simp)
                ·rw [if_neg c80] at H; exact absurd H (by simp)
               ·rw [if_neg c79] at H; have c79b0 : (((rd_T34 t226 x7_1).f0) == 2) = false := beq_eq_false_iff_ne.mpr c79; have c79b1 : (((rd_T34 t226 x7_1).f0) != 2) = true := bne_iff_ne.mpr c79; have H' := Aside0.mk H; clear H; have hcz91_0 : wr.cell? ⟨gb233, 0, none⟩ = some (.int .i64 ((rd_T34 t226 x7_1).f0)) := bc BK233 0; have hcz91_1 : wr.cell? ⟨gb233, 1, none⟩ = some (.int .i64 ((rd_T34 t226 x7_1).f1)) := bc BK233 1; have hcz91_2 : wr.cell? ⟨gb233, 2, none⟩ = some (.int .i64 ((rd_T34 t226 x7_1).f2)) := bc BK233 2; have hcz91_3 : wr.cell? ⟨gb233, 3, none⟩ = some (.int .i64 ((rd_T34 t226 x7_1).f3)) := bc BK233 3; have hfz91_0 := blk_frozen BK233.out 0; have hfz91_1 := blk_frozen BK233.out 1; have hfz91_2 := blk_frozen BK233.out 2; have hfz91_3 := blk_frozen BK233.out 3
                try go_wp2
                replace HO_3 := rd HO_3; replace BK233 := bd BK233; replace HB := Aside0.mk (below_drew1 HB.out); refine start_ (n := 37) (S := fun w' => w'.cell? ⟨gb233, 0, none⟩ = some (.int .i64 ((rd_T34 t226 x7_1).f0)) ∧ w'.cell? ⟨gb233, 1, none⟩ = some (.int .i64 ((rd_T34 t226 x7_1).f1)) ∧ w'.cell? ⟨gb233, 2, none⟩ = some (.int .i64 ((rd_T34 t226 x7_1).f2)) ∧ w'.cell? ⟨gb233, 3, none⟩ = some (.int .i64 ((rd_T34 t226 x7_1).f3))) (ds := []) (pf 0 37) (by kernel_rfl) rfl rfl ⟨bc BK233 0, bc BK233 1, bc BK233 2, bc BK233 3⟩ (fun hHeld => ?_); refine with_tabW tangramlaw01_NumsLies.tab18 tangramlaw01_NumsLies.bits18 (fun HT_ HW_ => ?_); generalize wr.drew = w92 at HO_3 BK233 HB hHeld ⊢; refine pu_ 0 (some 90) (pf 1 37) HT_ ?_; refine tk4_ 1 (some 91) (pf 2 37) HT_ HW_ hHeld ?_; refine pu_ 2 (some 92) (pf 3 37) HT_ ?_; refine pu_ 3 (some 93) (pf 4 37) HT_ ?_; refine pn_ 4 (some 94) (pf 5 37) HT_ ?_
                refine pn_ 5 (some 95) (pf 6 37) HT_ ?_; refine pn_ 6 (some 96) (pf 7 37) HT_ ?_; refine pn_ 7 (some 97) (pf 8 37) HT_ ?_; refine pn_ 8 (some 98) (pf 9 37) HT_ ?_; refine pn_ 9 (some 99) (pf 10 37) HT_ ?_; refine pn_ 10 (some 100) (pf 11 37) HT_ ?_; refine pn_ 11 (some 101) (pf 12 37) HT_ ?_; refine pn_ 12 (some 102) (pf 13 37) HT_ ?_; refine pn_ 13 (some 103) (pf 14 37) HT_ ?_; refine pn_ 14 (some 104) (pf 15 37) HT_ ?_; refine pu_ 15 (some 105) (pf 16 37) HT_ ?_
                refine pu_ 16 (some 106) (pf 17 37) HT_ ?_; refine pu_ 17 (some 107) (pf 18 37) HT_ ?_; refine tk4_ 18 (some 108) (pf 19 37) HT_ HW_ hHeld ?_; refine pu_ 19 (some 109) (pf 20 37) HT_ ?_; refine pu_ 20 (some 110) (pf 21 37) HT_ ?_; refine pn_ 21 (some 111) (pf 22 37) HT_ ?_; refine pn_ 22 (some 112) (pf 23 37) HT_ ?_; refine pn_ 23 (some 113) (pf 24 37) HT_ ?_; refine pn_ 24 (some 114) (pf 25 37) HT_ ?_; refine pn_ 25 (some 115) (pf 26 37) HT_ ?_; refine pn_ 26 (some 116) (pf 27 37) HT_ ?_
                refine pn_ 27 (some 117) (pf 28 37) HT_ ?_; refine pn_ 28 (some 118) (pf 29 37) HT_ ?_; refine pn_ 29 (some 119) (pf 30 37) HT_ ?_; refine pn_ 30 (some 120) (pf 31 37) HT_ ?_; refine pn_ 31 (some 121) (pf 32 37) HT_ ?_; refine pn_ 32 (some 122) (pf 33 37) HT_ ?_; refine pn_ 33 (some 123) (pf 34 37) HT_ ?_; refine pn_ 34 (some 124) (pf 35 37) HT_ ?_; refine pu_ 35 (some 125) (pf 36 37) HT_ ?_; refine pu_ 36 (some 126) (pf 37 37) HT_ ?_; refine done_ (done_of HT_.out (by kernel_rfl)) ?_
                have hcz93_0 : w92.cell? ⟨gb233, 0, none⟩ = some (.int .i64 ((rd_T34 t226 x7_1).f0)) := bc BK233 0; have hcz93_1 : w92.cell? ⟨gb233, 1, none⟩ = some (.int .i64 ((rd_T34 t226 x7_1).f1)) := bc BK233 1; have hcz93_2 : w92.cell? ⟨gb233, 2, none⟩ = some (.int .i64 ((rd_T34 t226 x7_1).f2)) := bc BK233 2; have hcz93_3 : w92.cell? ⟨gb233, 3, none⟩ = some (.int .i64 ((rd_T34 t226 x7_1).f3)) := bc BK233 3; have hfz93_0 := blk_frozen BK233.out 0; have hfz93_1 := blk_frozen BK233.out 1; have hfz93_2 := blk_frozen BK233.out 2; have hfz93_3 := blk_frozen BK233.out 3
                try go_wp2
                go_roundg k3
                case measure => have := HK1.out; have := HJ14.out; have := HK3.out; omega
                case rel => exact ⟨(((rd_T34 t226 x7_1).f2)), (wrap64 (x7_1 + 1)), (by first | rfl | (simp; done) | (simp [*]; done)), (by first | rfl | (simp; done) | (simp [*]; done)), H', ⟨by have := HK1.out; have := HJ14.out; have := HK3.out; omega⟩, ⟨Kd.R_mono (rx HO_3) (fun _ hk => trivial)⟩, ⟨hb1 HB GE233⟩⟩
       ·rw [if_neg c14] at H; exact absurd H (by simp)
      ·rw [if_neg c13] at H; have c13b0 : decide (x7_1 < (t226.length : Int)) = false := decide_eq_false c13; clear c13
       by_cases c94 : (t226.length : Int) > 0
       ·rw [if_pos c94] at H; have c94b0 : decide (0 < (t226.length : Int)) = true := decide_eq_true c94; have c94b1 : decide (0 < t226.length) = true := decide_eq_true (by omega); clear c94; obtain ⟨ji95, hji95⟩ : ∃ j_ : Int, (wrap64 ((t226.length : Int) - 1)) = j_ := ⟨_, rfl⟩; replace H : (if 0 ≤ (ji95) then (if (ji95) < (t226.length : Int) then (if ((rd_T34 t226 (ji95)).f0) = 3 then (some (x6_1 == (l0.length : Int))) else (some false)) else (none)) else (none)) = some r := by first | (rw [hji95] at H; exact H) | (simp only [hji95] at H ⊢; exact H)
        have hji95w : (IntKind.i64.wrap ((t226.length : Int) - 1)) = ji95 := (i64_w _).trans hji95
        by_cases c96 : 0 ≤ (ji95)
        ·rw [if_pos c96] at H; have c96b0 : decide (0 ≤ (ji95)) = true := decide_eq_true c96; clear c96
         by_cases c97 : (ji95) < (t226.length : Int)
         ·rw [if_pos c97] at H; have c97b0 : decide ((ji95) < (t226.length : Int)) = true := decide_eq_true c97; clear c97
          by_cases c98 : ((rd_T34 t226 (ji95)).f0) = 3
          ·rw [if_pos c98] at H; have c98b0 : (((rd_T34 t226 (ji95)).f0) == 3) = true := beq_iff_eq.mpr c98; have c98b1 : (((rd_T34 t226 (ji95)).f0) != 3) = false := bne_eq_false_iff_eq.mpr c98; clear c98; obtain rfl := Option.some.inj H; obtain ⟨Ao99, co99, eo99⟩ := Kd.R_slice HO_3.out; subst eo99; have p231 : 0 ≤ ((ji95) : Int) := of_decide_eq_true (by first | (with_reducible assumption) | assumption); have q231 : (ji95) < (t226.length : Int) := of_decide_eq_true (by first | (with_reducible assumption) | assumption); obtain ⟨ad231, e231, hx231_0, hx231_1, hx231_2, hx231_3⟩ := at_T34 (Kd.R_reads' HO_3.out).2.2 (ji95) p231 q231
           cases e231
           replace p231 := eq_true p231; replace q231 := eq_true q231
           go_wp2
           go_ret
           exact ⟨by first | rfl | (simp [errW_none, errW_some] <;> rfl) | (simp only [← hji95]; first | rfl | (simp [errW_none, errW_some] <;> rfl)) | (simp [*, errW_none, errW_some] <;> rfl), hb0 HB⟩
          ·rw [if_neg c98] at H; have c98b0 : (((rd_T34 t226 (ji95)).f0) == 3) = false := beq_eq_false_iff_ne.mpr c98; have c98b1 : (((rd_T34 t226 (ji95)).f0) != 3) = true := bne_iff_ne.mpr c98; obtain rfl := Option.some.inj H; obtain ⟨Ao100, co100, eo100⟩ := Kd.R_slice HO_3.out; subst eo100; have p231 : 0 ≤ ((ji95) : Int) := of_decide_eq_true (by first | (with_reducible assumption) | assumption); have q231 : (ji95) < (t226.length : Int) := of_decide_eq_true (by first | (with_reducible assumption) | assumption); obtain ⟨ad231, e231, hx231_0, hx231_1, hx231_2, hx231_3⟩ := at_T34 (Kd.R_reads' HO_3.out).2.2 (ji95) p231 q231
           cases e231
           replace p231 := eq_true p231; replace q231 := eq_true q231
           go_wp2
           go_ret
           exact ⟨by first | rfl | (simp [errW_none, errW_some] <;> rfl) | (simp only [← hji95]; first | rfl | (simp [errW_none, errW_some] <;> rfl)) | (simp [*, errW_none, errW_some] <;> rfl), hb0 HB⟩
         ·rw [if_neg c97] at H; exact absurd H (by simp)
        ·rw [if_neg c96] at H; exact absurd H (by simp)
       ·rw [if_neg c94] at H; have c94b0 : decide (0 < (t226.length : Int)) = false := decide_eq_false c94; have c94b1 : decide (0 < t226.length) = false := decide_eq_false (by omega); clear c94; obtain rfl := Option.some.inj H; obtain ⟨Ao101, co101, eo101⟩ := Kd.R_slice HO_3.out; subst eo101
        go_wp2
        go_ret
        exact ⟨by first | rfl | (simp [errW_none, errW_some] <;> rfl) | (simp [*, errW_none, errW_some] <;> rfl), hb0 HB⟩
   ·rw [if_neg c6] at H; have c6b0 : (t228 == 0) = false := beq_eq_false_iff_ne.mpr c6; have c6b1 : (t228 != 0) = true := bne_iff_ne.mpr c6; obtain rfl := Option.some.inj H
    go_enter Tryd.func5, Tryd.ntmps5
    go_wp2_with (first | ((with_reducible refine gate_callee (f := 10) rfl ?_); refine gl_ (some 10) Tryd.func10 #[] ?_; (with_reducible refine (tangramlaw01_awake.calls k  true _ ?sideT A2.out).mono ?_); (case sideT => exact tb HT (hb0 HB)); rintro e w102 ⟨rfl, hb⟩; refine ⟨_, rfl, ?_⟩; replace HB := hs (hb0 HB) hb; (try clear hb); (try clear hb2); (try clear hk); (try clear hi)) | ((with_reducible refine gate_dst (N := 13) rfl ?_); (try (refine gate_guard (by rfl) ?_; dsimp only)); refine Kd.R_lit (Kd.int .u8) _ 5 ?hg (N := 13) ?hd (xs := ([] : List Int)) (inner := []) (ok := fun _ => True) (okp := fun _ => True) ?hr ?hp (fun _ hk => hk) trivial (Below.refl _ _) (Nat.le_refl _) (by simp) ?_; (case hd => rfl); (case hg => rfl); (case hr => first | (go_simp; done) | (go_simp; rfl)); (case hp => exact (Reps.none _ _)); intro v221 w103 ho104 hb hg_ hnew_; clear hg_ hnew_; (first | rw [← Ny220.out] at ho104 | (simp only [Int.reduceToNat] at ho104; rw [← Ny220.out] at ho104)); have HO222 := Aside0.mk (Kd.R_lower ho104 (below_size (hb0 HB))); replace HB := hs (hb0 HB) hb; clear hb ho104) | ((with_reducible refine gate_builtin (b := .append) (xs := #[.tmp 13, .tmp 14]) rfl ?_); (try (refine gate_guard (by rfl) ?_; dsimp only)); at_builtin; refine Kd.R_append_rows (Kd.int .u8) (w0 := w) w.heap.size rfl (.tmp 13) (.tmp 14) 22 5 (.int .u8 0) 1 rfl Tryd.underlying22 info5 rfl (by decide) (by omega) v221 y220 l0 _ _ _ (fun _ => True) (fun _ => False) rfl rfl ?aO ?aR (fun _ _ h => h) (fun _ h => h.elim) ?aF ?aB ?aS ?aL ?_; (case aR => repeat (first | exact (Kd.C_below HR0.out HB.out) | (with_reducible refine Kd.C_alloc ?_ _) | (with_reducible refine Kd.C_drewN ?_ _) | (with_reducible refine Kd.C_drew ?_))); (case aB => exact (hb0 HB)); (case aF => exact (fun _ _ => trivial)); (case aO => exact (rx HO222)); (case aS => exact (below_size (hb0 HB))); (case aL => have := LMc4.out; omega); intro v224 w105 ho hb hg hat; rw [← Ny223.out] at ho; have n0_ := Aside0.mk (hb); have n1_ := Aside0.mk (ho); clear HB; clear HO222; have HB := n0_; have HO225 := n1_; clear n0_ n1_; clear ho hb hg hat; obtain ⟨Ao106, co106, eo106⟩ := Kd.R_slice HO225.out; subst eo106) | ((with_reducible refine gate_callee (f := 11) rfl ?_); refine gl_ (some 16) Tryd.func11 #[.slice Ao106 y223.length co106] ?_; (with_reducible refine (nums_Scan.calls k _ _ y223 t226 t227 t228 _ ?side1 ?side2 A5.out).mono ?_); (case side1 => exact cr HO225); (case side2 => exact (Kd.R_reads' HO225.out).2.1); rintro e w107 ⟨v229, rfl, ho0, hb⟩; refine ⟨_, rfl, ?_⟩; replace HO225 := ry HO225 hb; have HO230 := Aside0.mk (Kd.R_lower ho0 (below_size (hb0 HB))); replace HB := hs (hb0 HB) hb; (try clear hb); (try clear hb2); (try clear hk); (try clear hi); (try clear ho0); obtain ⟨Ao108, co108, eo108⟩ := Kd.R_slice HO230.out; subst eo108))
    go_ret
    exact ⟨by first | rfl | (simp [errW_none, errW_some] <;> rfl) | (simp [*, errW_none, errW_some] <;> rfl), hb0 HB⟩
  ·rw [if_neg c4] at H; exact absurd H (by simp)
 ·replace c3 := Bool.eq_false_iff.mpr c3; subst c3; rw [if_neg (show ¬ (false = true) by decide)] at H; obtain rfl := Option.some.inj H
  go_enter Tryd.func5, Tryd.ntmps5
  go_wp2_with (first | ((with_reducible refine gate_callee (f := 10) rfl ?_); refine gl_ (some 10) Tryd.func10 #[] ?_; (with_reducible refine (tangramlaw01_awake.calls k  false _ ?sideT A2.out).mono ?_); (case sideT => exact tb HT (hb0 HB)); rintro e w109 ⟨rfl, hb⟩; refine ⟨_, rfl, ?_⟩; replace HB := hs (hb0 HB) hb; (try clear hb); (try clear hb2); (try clear hk); (try clear hi)))
  go_ret
  exact ⟨by first | rfl | (simp [errW_none, errW_some] <;> rfl) | (simp [*, errW_none, errW_some] <;> rfl), hb0 HB⟩

/-- THE ONE PURE STATEMENT of tangramlaw01_NumsLies: yours. -/
def tangramlaw01_NumsLies.Pure : Prop := ∀ (l0 : List Int), l0.length ≤ maxLen → l0.length * 1 ≤ 140737488351232 → (∀ x ∈ l0, (Lit.int .u8 x).wf = true) → ∃ k, tangramlaw01_NumsLies.f k l0 = some true
theorem tangramlaw01_NumsLies.walk (P : tangramlaw01_NumsLies.Pure) (a0 : Option Addr) (len0 cap0 : Nat) (z0 : List Int) (w : World) (hT : TabW w) (w0 : (a0 = none ∧ len0 = 0 ∧ cap0 = 0 ∧ z0 = []) ∨ ∃ x, a0 = some x ∧ len0 ≤ cap0 ∧ cap0 ≤ maxLen ∧ z0.length = cap0 ∧ (∀ i, i < z0.length → w.cell? (x.add i) = some (.int .u8 (z0.getD i 0))) ∧ ∀ n ∈ z0, (Lit.int .u8 n).wf = true) (y0 : len0 * 1 ≤ 140737488351232) :
  Calls Tryd.prog 5 #[.slice a0 len0 cap0] w fun e w' => e = .returned (.bool true) ∧ Below w.heap.size w w' := by
 obtain ⟨l0, rfl, hr0, hm0, hw0, hc0⟩ := ReadsInt.ofRowC w0; obtain ⟨k, h⟩ := P l0 hm0 y0 hw0; refine (tangramlaw01_NumsLies.calls k _ _ l0 true w hT (Kd.C_of_reads (d := (0 : Int)) (h1 := fun _ => rfl) hr0) hc0 h).mono ?_; rintro e w' ⟨rfl, hd⟩; exact ⟨rfl, hd⟩

end Go.Proofs.YtjgaicdieddekaaDoor.PNumA
