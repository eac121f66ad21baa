import Derived.Test.YthfoliejhdpbaaaZPCroAx0
import Derived.Test.YthfoliejhdpbaaaZPCroAx16
import Derived.Test.YthfoliejhdpbaaaZPCroAx26
import Derived.Test.YthfoliejhdpbaaaZPCroAx27
import Derived.Test.YthfoliejhdpbaaaZPCroAx28
import Derived.Test.YthfoliejhdpbaaaZPCroAx30
import Derived.Test.YthfoliejhdpbaaaZPCroAx40
import Derived.Test.YthfoliejhdpbaaaZPCroAx44
import Derived.Test.YthfoliejhdpbaaaZPCroAx52
namespace Go.Proofs.Ythfoliejhdpbaaa.PCroA
open Go.RowKit Go.Proofs.YthfoliejhdpbaaaW.PrintWords Go.Proofs.YthfoliejhdpbaaaW.PrintLast Go.Proofs.YthfoliejhdpbaaaW.PrintMore
open Go.Proofs.YthfoliejhdpbaaaX
attribute [local go_sem] max2_int min2_int max_two min_two max_three min_three max_four min_four
set_option linter.unusedVariables false
set_option linter.unusedSimpArgs false

/-! ### tangramlaw26_CrossMoved: function 8 -/
mutual
def tangramlaw26_CrossMoved.j0 : Nat → List (S23) → Int → Int → Int → Bool → Int → List (S62) → Option (Bool)
 | 0, _, _, _, _, _, _, _ => none
 | k + 1, x1, x2, x3, x4, x50, x543000, x543001 => if x50 = true then (some true) else ((tangramlaw26_points.f x1).bind fun t544 => (tangramlaw26_CrossMoved.l0 k x1 x2 x3 x4 t544 (t544.length : Int) 0 x543000 x543001))
def tangramlaw26_CrossMoved.l0 : Nat → List (S23) → Int → Int → Int → List (S23) → Int → Int → Int → List (S62) → Option (Bool)
 | 0, _, _, _, _, _, _, _, _, _ => none
 | k + 1, x1, x2, x3, x4, x11, x54, x55, x543000, x543001 => if x55 < x54 then (if 0 ≤ x55 then (if x55 < (x11.length : Int) then (if ((rd_T23 x11 x55).f0) < (-262144) then (some true) else (if ((rd_T23 x11 x55).f0) > 262144 then (some true) else (if ((rd_T23 x11 x55).f1) < (-262144) then (some true) else (if ((rd_T23 x11 x55).f1) > 262144 then (some true) else ((tangramlaw26_pt.f (wrap64 ((wrap64 (((rd_T23 x11 x55).f0) * x4)) + x2)) (wrap64 ((wrap64 (((rd_T23 x11 x55).f1) * x4)) + x3))).bind fun bt553 => (tangramlaw26_CrossMoved.l0 k x1 x2 x3 x4 (x11.set (x55 : Int).toNat (⟨bt553.1, bt553.2⟩ : S23)) x54 (wrap64 (x55 + 1)) x543000 x543001)))))) else (none)) else (none)) else ((tangramlaw26_graph.f x543000 x543001).bind fun bt556 => ((tangramlaw26_points.f x1).bind fun t560 => ((cross_First.f k bt556.1 bt556.2 t560).bind fun bt563 => ((tangramlaw26_graph.f x543000 x543001).bind fun bt566 => ((tangramlaw26_points.f x11).bind fun t570 => ((cross_First.f k bt566.1 bt566.2 t570).bind fun bt573 => ((tangramlaw26_graph.f x543000 x543001).bind fun bt576 => ((tangramlaw26_points.f x1).bind fun t580 => ((cross_Rotation.f k bt576.1 bt576.2 t580).bind fun bt583 => ((tangramlaw26_graph.f x543000 x543001).bind fun bt587 => ((tangramlaw26_points.f x11).bind fun t591 => ((cross_Rotation.f k bt587.1 bt587.2 t591).bind fun bt594 => ((tangramlaw26_points.f x1).bind fun t598 => ((cross_Area.f k t598).bind fun bt601 => ((cross_Area.f k x11).bind fun bt603 => (if bt563.1 = bt573.1 then (if bt563.2.1 = bt573.2.1 then (if bt563.2.2 = bt573.2.2 then (if bt583.2 = bt594.2 then ((tangramlaw26_SameRotation.f k bt583.1 bt594.1).bind fun t605 => (if t605 = true then (if bt601.2 = bt603.2 then (some (bt603.1 == (wrap64 ((wrap64 (bt601.1 * x4)) * x4)))) else (some false)) else (some false))) else (some false)) else (some false)) else (some false)) else (some false)))))))))))))))))
end
def tangramlaw26_CrossMoved.f (k : Nat) (a0_0 : Int) (l0_1 : List (S62)) (l1 : List (S23)) (a2 : Int) (a3 : Int) (a4 : Int) : Option (Bool) := (tangramlaw26_awake.f k).bind fun t543 => (if t543 = true then (if a4 < 1 then (tangramlaw26_CrossMoved.j0 k l1 a2 a3 a4 true a0_0 l0_1) else (if a4 > 8 then (tangramlaw26_CrossMoved.j0 k l1 a2 a3 a4 true a0_0 l0_1) else (if a2 < (-1000) then (tangramlaw26_CrossMoved.j0 k l1 a2 a3 a4 true a0_0 l0_1) else (if a2 > 1000 then (tangramlaw26_CrossMoved.j0 k l1 a2 a3 a4 true a0_0 l0_1) else (if a3 < (-1000) then (tangramlaw26_CrossMoved.j0 k l1 a2 a3 a4 true a0_0 l0_1) else (tangramlaw26_CrossMoved.j0 k l1 a2 a3 a4 (decide (a3 > 1000)) a0_0 l0_1)))))) else (some false))
theorem tangramlaw26_CrossMoved.mono_l : ∀ k, (∀ y0 y1 y2 y3 y4 y5 y6, LeO (tangramlaw26_CrossMoved.j0 k y0 y1 y2 y3 y4 y5 y6) (tangramlaw26_CrossMoved.j0 (k + 1) y0 y1 y2 y3 y4 y5 y6)) ∧ (∀ y0 y1 y2 y3 y4 y5 y6 y7 y8, LeO (tangramlaw26_CrossMoved.l0 k y0 y1 y2 y3 y4 y5 y6 y7 y8) (tangramlaw26_CrossMoved.l0 (k + 1) y0 y1 y2 y3 y4 y5 y6 y7 y8))
 | 0 => ⟨fun _ _ _ _ _ _ _ r h => by simp [tangramlaw26_CrossMoved.j0] at h, fun _ _ _ _ _ _ _ _ _ r h => by simp [tangramlaw26_CrossMoved.l0] at h⟩
 | k + 1 => by
  obtain ⟨ih0, ih1⟩ := tangramlaw26_CrossMoved.mono_l k; refine ⟨?_, ?_⟩
  ·intro y0 y1 y2 y3 y4 y5 y6
   unfold tangramlaw26_CrossMoved.j0
   repeat' first
   | (with_reducible exact ih0 _ _ _ _ _ _ _)
   | (with_reducible exact ih1 _ _ _ _ _ _ _ _ _)
   | (with_reducible exact cross_Area.mono _ _)
   | (with_reducible exact cross_First.mono _ _ _ _)
   | (with_reducible exact cross_Rotation.mono _ _ _ _)
   | (with_reducible exact tangramlaw26_SameRotation.mono _ _ _)
   | (with_reducible exact tangramlaw26_awake.mono _)
   | (with_reducible exact LeO.refl _)
   | (with_reducible exact LeO.none _)
   | (with_reducible refine LeO.ite ?_ ?_)
   | (with_reducible refine LeO.bind ?_ (fun _ => ?_))
   | exact LeO.none _
   | refine LeO.ite ?_ ?_
   | refine LeO.bind ?_ (fun _ => ?_)
  ·intro y0 y1 y2 y3 y4 y5 y6 y7 y8
   unfold tangramlaw26_CrossMoved.l0
   repeat' first
   | (with_reducible exact ih0 _ _ _ _ _ _ _)
   | (with_reducible exact ih1 _ _ _ _ _ _ _ _ _)
   | (with_reducible exact cross_Area.mono _ _)
   | (with_reducible exact cross_First.mono _ _ _ _)
   | (with_reducible exact cross_Rotation.mono _ _ _ _)
   | (with_reducible exact tangramlaw26_SameRotation.mono _ _ _)
   | (with_reducible exact tangramlaw26_awake.mono _)
   | (with_reducible exact LeO.refl _)
   | (with_reducible exact LeO.none _)
   | (with_reducible refine LeO.ite ?_ ?_)
   | (with_reducible refine LeO.bind ?_ (fun _ => ?_))
   | exact LeO.none _
   | refine LeO.ite ?_ ?_
   | refine LeO.bind ?_ (fun _ => ?_)
theorem tangramlaw26_CrossMoved.mono : ∀ a0 a1 a2 a3 a4 a5 k, LeO (tangramlaw26_CrossMoved.f k a0 a1 a2 a3 a4 a5) (tangramlaw26_CrossMoved.f (k + 1) a0 a1 a2 a3 a4 a5) := by
 intro a0 a1 a2 a3 a4 a5 k; obtain ⟨ih0, ih1⟩ := tangramlaw26_CrossMoved.mono_l k
 unfold tangramlaw26_CrossMoved.f
 repeat' first
   | (with_reducible exact ih0 _ _ _ _ _ _ _)
   | (with_reducible exact ih1 _ _ _ _ _ _ _ _ _)
   | (with_reducible exact cross_Area.mono _ _)
   | (with_reducible exact cross_First.mono _ _ _ _)
   | (with_reducible exact cross_Rotation.mono _ _ _ _)
   | (with_reducible exact tangramlaw26_SameRotation.mono _ _ _)
   | (with_reducible exact tangramlaw26_awake.mono _)
   | (with_reducible exact LeO.refl _)
   | (with_reducible exact LeO.none _)
   | (with_reducible refine LeO.ite ?_ ?_)
   | (with_reducible refine LeO.bind ?_ (fun _ => ?_))
   | exact LeO.none _
   | refine LeO.ite ?_ ?_
   | refine LeO.bind ?_ (fun _ => ?_)
def tangramlaw26_CrossMoved.T11 : Bool × List (List Nat × List Nat) := (true, [([], []), ([], []), ([], []), ([], []), ([2, 3], [2, 3]), ([4], [4]), ([5], [5]), ([], []), ([6, 7], [6, 7]), ([], []), ([8, 9], [8, 9]), ([], []), ([], []), ([11, 12], [11, 12]), ([13], [13]), ([14], [14]), ([], []), ([15, 16], [15, 16]), ([], []), ([17, 18], [17, 18]), ([10, 19], [10, 19]), ([0, 1, 0, 1, 2, 3, 4, 5, 6, 7, 8, 9, 10, 11, 12, 13, 14, 15, 16, 17, 18, 19, 20], [0, 1]), ([21, 20, 20, 0, 1, 2, 3, 4, 5, 6, 7, 8, 9, 10, 11, 12, 13, 14, 15, 16, 17, 18, 19, 20], [20, 21])])
def tangramlaw26_CrossMoved.B11 : List Nat := [0, 0, 0, 0, 12, 28, 60, 0, 252, 0, 1020, 0, 0, 6144, 14336, 30720, 0, 129024, 0, 522240, 1048572, 2097151, 4194303]
theorem tangramlaw26_CrossMoved.tab11 : rtab .any (opsOf Try.f8 11) = tangramlaw26_CrossMoved.T11 := by kernel_rfl
theorem tangramlaw26_CrossMoved.bits11 : waitsOk tangramlaw26_CrossMoved.T11.2 tangramlaw26_CrossMoved.B11 = true := by kernel_rfl
set_option maxHeartbeats 8000000 in
set_option maxRecDepth 100000 in
theorem tangramlaw26_CrossMoved.calls (k : Nat) (a0_0 : Int) (A0_1 : Option Addr) (c0_1 : Nat) (l0_1 : List (S62)) (A1 : Option Addr) (c1 : Nat) (l1 : List (S23)) (a2 : Int) (a3 : Int) (a4 : Int) (r : Bool) (w : World) (hr0_1 : Kd.C k62 w A0_1 l0_1.length l0_1) (hc0_1 : l0_1.length ≤ c0_1) (hr1 : Kd.C k23 w A1 l1.length l1) (hc1 : l1.length ≤ c1) (h : tangramlaw26_CrossMoved.f k a0_0 l0_1 l1 a2 a3 a4 = some r) :
  Calls Try.prog 8 #[.agg #[.int .i64 a0_0, .slice A0_1 l0_1.length c0_1], .slice A1 l1.length c1, .int .i64 a2, .int .i64 a3, .int .i64 a4] w fun e w' => e = .returned (.bool r) ∧ Below w.heap.size w w' := by
 have hu31 := Try.underlying31; have hu23 := Try.underlying23; have HR0_1 := Aside0.mk hr0_1; have HC0_1 := Aside0.mk hc0_1; clear hr0_1 hc0_1; have HR1 := Aside0.mk hr1; have HC1 := Aside0.mk hc1; clear hr1 hc1; have HB := Aside0.mk (Below.refl w.heap.size w); have H : ((tangramlaw26_awake.f k).bind fun t543 => (if t543 = true then (if a4 < 1 then (tangramlaw26_CrossMoved.j0 k l1 a2 a3 a4 true a0_0 l0_1) else (if a4 > 8 then (tangramlaw26_CrossMoved.j0 k l1 a2 a3 a4 true a0_0 l0_1) else (if a2 < (-1000) then (tangramlaw26_CrossMoved.j0 k l1 a2 a3 a4 true a0_0 l0_1) else (if a2 > 1000 then (tangramlaw26_CrossMoved.j0 k l1 a2 a3 a4 true a0_0 l0_1) else (if a3 < (-1000) then (tangramlaw26_CrossMoved.j0 k l1 a2 a3 a4 true a0_0 l0_1) else (tangramlaw26_CrossMoved.j0 k l1 a2 a3 a4 (decide (a3 > 1000)) a0_0 l0_1)))))) else (some false))) = some r := h; clear h; replace H := Option.bind_eq_some_iff.mp H; obtain ⟨t543, A60, H⟩ := H; (try dsimp only at H); have A6 := Aside0.mk A60
 clear A60
 by_cases c7 : t543 = true
 ·subst c7; rw [if_pos rfl] at H; have HC8 := Aside0.mk H; clear H
  go_enter Try.func8, Try.ntmps8
  go_upto_region 3 with (first | ((with_reducible refine gate_dst (N := 5) rfl ?_); refine be_ 5 #[.int .i64 a0_0, .slice A0_1 l0_1.length c0_1] 31 ?_; intro gb542 hg w9 hbox hb; have BK542 := Aside0.mk (hbox); have GW542 := wq (hb0 HB) hg; have GE542 := wq (hb0 HB) hg; replace HB := hs (hb0 HB) hb; clear hb hbox hg) | ((with_reducible refine gate_callee (f := 11) rfl ?_); refine gl_ (some 27) Try.func11 #[] ?_; (with_reducible refine (tangramlaw26_awake.calls k  true _ A6.out).mono ?_); rintro e w10 ⟨rfl, hb⟩; refine ⟨_, rfl, ?_⟩; replace BK542 := kx BK542 hb; replace HB := hs (hb1 HB GE542) hb; (try clear hb); (try clear hb2); (try clear hk); (try clear hi)))
  (try simp only [Act.put, List.setIfInBounds_toArray, List.set_cons_zero, List.set_cons_succ])
  go_cut [50] (fun v50 wc => ∃ (kq : Nat) (x50_7 : Bool), v50 = .bool x50_7 ∧ Aside0 (tangramlaw26_CrossMoved.j0 kq l1 a2 a3 a4 x50_7 a0_0 l0_1 = some r) ∧ Aside0 (kq ≤ k) ∧ Aside0 (wc.heap[gb542]? = some (.cells #[.int .i64 a0_0, (.slice A0_1 l0_1.length c0_1)] 31 (0, 0))) ∧ Aside0 (Below w.heap.size w wc))
  case first => as_aux_lemma =>
   have H := HC8.out; clear HC8
   by_cases c11 : a4 < 1
   ·rw [if_pos c11] at H; have c11b0 : decide (a4 < 1) = true := decide_eq_true c11; clear c11
    (first | rw [c11b0] | (simp only [i64_w, i32_w]; rw [c11b0]) | skip)
    have H' := Aside0.mk H; clear H
    go_wp2
    go_meet
    case rel => exact ⟨_, (true), (by first | rfl | (simp; done) | (simp [*]; done)), H', ⟨by first | omega | exact Nat.le_refl _⟩, ⟨bx BK542⟩, ⟨hb1 HB GE542⟩⟩
   ·rw [if_neg c11] at H; have c11b0 : decide (a4 < 1) = false := decide_eq_false c11; clear c11
    (first | rw [c11b0] | (simp only [i64_w, i32_w]; rw [c11b0]) | skip)
    by_cases c12 : a4 > 8
    ·rw [if_pos c12] at H; have c12b0 : decide (8 < a4) = true := decide_eq_true c12; clear c12; have H' := Aside0.mk H; clear H
     go_wp2
     go_meet
     case rel => exact ⟨_, (true), (by first | rfl | (simp; done) | (simp [*]; done)), H', ⟨by first | omega | exact Nat.le_refl _⟩, ⟨bx BK542⟩, ⟨hb1 HB GE542⟩⟩
    ·rw [if_neg c12] at H; have c12b0 : decide (8 < a4) = false := decide_eq_false c12; clear c12
     by_cases c13 : a2 < (-1000)
     ·rw [if_pos c13] at H; have c13b0 : decide (a2 < (-1000)) = true := decide_eq_true c13; clear c13; have H' := Aside0.mk H; clear H
      go_wp2
      go_meet
      case rel => exact ⟨_, (true), (by first | rfl | (simp; done) | (simp [*]; done)), H', ⟨by first | omega | exact Nat.le_refl _⟩, ⟨bx BK542⟩, ⟨hb1 HB GE542⟩⟩
     ·rw [if_neg c13] at H; have c13b0 : decide (a2 < (-1000)) = false := decide_eq_false c13; clear c13
      by_cases c14 : a2 > 1000
      ·rw [if_pos c14] at H; have c14b0 : decide (1000 < a2) = true := decide_eq_true c14; clear c14; have H' := Aside0.mk H; clear H
       go_wp2
       go_meet
       case rel => exact ⟨_, (true), (by first | rfl | (simp; done) | (simp [*]; done)), H', ⟨by first | omega | exact Nat.le_refl _⟩, ⟨bx BK542⟩, ⟨hb1 HB GE542⟩⟩
      ·rw [if_neg c14] at H; have c14b0 : decide (1000 < a2) = false := decide_eq_false c14; clear c14
       by_cases c15 : a3 < (-1000)
       ·rw [if_pos c15] at H; have c15b0 : decide (a3 < (-1000)) = true := decide_eq_true c15; clear c15; have H' := Aside0.mk H; clear H
        go_wp2
        go_meet
        case rel => exact ⟨_, (true), (by first | rfl | (simp; done) | (simp [*]; done)), H', ⟨by first | omega | exact Nat.le_refl _⟩, ⟨bx BK542⟩, ⟨hb1 HB GE542⟩⟩
       ·rw [if_neg c15] at H; have c15b0 : decide (a3 < (-1000)) = false := decide_eq_false c15; clear c15; have H' := Aside0.mk H; clear H
        go_wp2
        go_meet
        case rel => exact ⟨_, (decide (a3 > 1000)), (by first | rfl | (simp; done) | (simp [*]; done)), H', ⟨by first | omega | exact Nat.le_refl _⟩, ⟨bx BK542⟩, ⟨hb1 HB GE542⟩⟩
  case rest => as_aux_lemma =>
   clear HC8
   try clear c1
   try clear p2
   try clear c7
   try clear c8
   try clear c11
   try clear c11b0
   try clear c12
   try clear c12b0
   try clear c13
   try clear c13b0
   try clear c14
   try clear c14b0
   try clear c15
   try clear c15b0
   obtain ⟨kq, x50_7, rfl, HA, HJ7, BK542, HB⟩ := hcut
   cases kq with
   | zero => exact absurd HA.out (by simp [tangramlaw26_CrossMoved.j0])
   | succ kj7 =>
    have H := HA.out; clear HA; simp only [tangramlaw26_CrossMoved.j0] at H
    by_cases c16 : x50_7 = true
    ·subst c16; rw [if_pos rfl] at H; obtain rfl := Option.some.inj H
     go_wp2
     go_ret
     exact ⟨by rfl, hb1 HB GE542⟩
    ·replace c16 := Bool.eq_false_iff.mpr c16; subst c16; rw [if_neg (show ¬ (false = true) by decide)] at H; replace H := Option.bind_eq_some_iff.mp H; obtain ⟨t544, A170, H⟩ := H; (try dsimp only at H); have A17 := Aside0.mk A170; clear A170; have H' := Aside0.mk H; clear H
     go_wp2_with (first | ((with_reducible refine gate_callee (f := 20) rfl ?_); refine gl_ (some 52) Try.func20 #[.slice A1 l1.length c1] ?_; (with_reducible refine (tangramlaw26_points.calls _ _ l1 t544 _ ?side1 ?side2 A17.out).mono ?_); (case side1 => repeat (first | exact (Kd.C_below HR1.out HB.out) | (with_reducible refine Kd.C_alloc ?_ _) | (with_reducible refine Kd.C_drewN ?_ _) | (with_reducible refine Kd.C_drew ?_))); (case side2 => exact HC1.out); rintro e w18 ⟨v545, rfl, ho0, hb⟩; refine ⟨_, rfl, ?_⟩; have HO546 := Aside0.mk (Kd.R_lower ho0 (below_size (hb1 HB GE542))); replace BK542 := kx BK542 hb; replace HB := hs (hb1 HB GE542) hb; (try clear hb); (try clear hb2); (try clear hk); (try clear hi); (try clear ho0); obtain ⟨Ao19, co19, eo19⟩ := Kd.R_slice HO546.out; subst eo19))
     go_loopg [55] kj7 (fun kq v55 w' => ∃ (x11_2 : List (S23)) (x55_2 : Int), v55 = .int .i64 x55_2 ∧ Aside0 (tangramlaw26_CrossMoved.l0 kq l1 a2 a3 a4 x11_2 (t544.length : Int) x55_2 a0_0 l0_1 = some r) ∧ Aside0 (kq ≤ kj7) ∧ Aside0 (Kd.R k23 23 w' w.heap.size (fun _ => True) (.slice Ao19 t544.length co19) x11_2) ∧ Aside0 (w'.heap[gb542]? = some (.cells #[.int .i64 a0_0, (.slice A0_1 l0_1.length c0_1)] 31 (0, 0))) ∧ Aside0 (Below w.heap.size w w'))
     case atStart => exact ⟨(t544), (0), (by first | rfl | (simp; done) | (simp [*]; done)), H', ⟨Nat.le_refl _⟩, ⟨rx HO546⟩, ⟨bx BK542⟩, ⟨hb1 HB GE542⟩⟩
     case round =>
      clear H'
      try clear c1
      try clear c2
      try clear p2
      try clear c7
      try clear c8
      try clear c11
      try clear c11b0
      try clear c12
      try clear c12b0
      try clear c13
      try clear c13b0
      try clear c14
      try clear c14b0
      try clear c15
      try clear c15b0
      try clear c16
      try clear p2
      obtain ⟨x11_2, x55_2, rfl, HA, HK2, HO_11, BK542, HB⟩ := hrel; have hl11_2 := (Kd.R_reads' HO_11.out).1; rw [hl11_2] at HO_11
      (try simp only [hl11_2])
      (try simp only [hl11_2] at BK542)
      cases gk with
      | zero => exact absurd HA.out (by simp [tangramlaw26_CrossMoved.l0])
      | succ k2 =>
       have H := HA.out; clear HA; simp only [tangramlaw26_CrossMoved.l0] at H
       by_cases c20 : x55_2 < (t544.length : Int)
       ·rw [if_pos c20] at H; have c20b0 : decide (x55_2 < (t544.length : Int)) = true := decide_eq_true c20; clear c20
        by_cases c21 : 0 ≤ x55_2
        ·rw [if_pos c21] at H; have c21b0 : decide (0 ≤ x55_2) = true := decide_eq_true c21; clear c21
         by_cases c22 : x55_2 < (x11_2.length : Int)
         ·rw [if_pos c22] at H; have c22b0 : decide (x55_2 < (x11_2.length : Int)) = true := decide_eq_true c22; clear c22
          by_cases c23 : ((rd_T23 x11_2 x55_2).f0) < (-262144)
          ·rw [if_pos c23] at H; have c23b0 : decide (((rd_T23 x11_2 x55_2).f0) < (-262144)) = true := decide_eq_true c23; clear c23; obtain rfl := Option.some.inj H; have p547 : 0 ≤ (x55_2 : Int) := of_decide_eq_true (by first | (with_reducible assumption) | assumption); have q547 : x55_2 < (x11_2.length : Int) := of_decide_eq_true (by first | (with_reducible assumption) | assumption); obtain ⟨ad547, e547, hx547_0, hx547_1⟩ := at_T23 (Kd.R_reads' HO_11.out).2.2 x55_2 p547 q547
           cases e547
           replace p547 := eq_true p547; replace q547 := eq_true q547
           go_wp2
           go_ret
           exact ⟨by rfl, hb1 HB GE542⟩
          ·rw [if_neg c23] at H; have c23b0 : decide (((rd_T23 x11_2 x55_2).f0) < (-262144)) = false := decide_eq_false c23; clear c23; have HH_ := Aside0.mk H; clear H; have p547 : 0 ≤ (x55_2 : Int) := of_decide_eq_true (by first | (with_reducible assumption) | assumption); have q547 : x55_2 < (x11_2.length : Int) := of_decide_eq_true (by first | (with_reducible assumption) | assumption); obtain ⟨ad547, e547, hx547_0, hx547_1⟩ := at_T23 (Kd.R_reads' HO_11.out).2.2 x55_2 p547 q547
           cases e547
           replace p547 := eq_true p547; replace q547 := eq_true q547; have p548 : 0 ≤ (x55_2 : Int) := of_decide_eq_true (by first | (with_reducible assumption) | assumption); have q548 : x55_2 < (x11_2.length : Int) := of_decide_eq_true (by first | (with_reducible assumption) | assumption); obtain ⟨ad548, e548, hx548_0, hx548_1⟩ := at_T23 (Kd.R_reads' HO_11.out).2.2 x55_2 p548 q548; obtain rfl : ad547 = ad548 := (by injection e548); replace p548 := eq_true p548; replace q548 := eq_true q548; have H := HH_.out; clear HH_
           by_cases c24 : ((rd_T23 x11_2 x55_2).f0) > 262144
           ·rw [if_pos c24] at H; have c24b0 : decide (262144 < ((rd_T23 x11_2 x55_2).f0)) = true := decide_eq_true c24; clear c24; obtain rfl := Option.some.inj H
            go_wp2
            go_ret
            exact ⟨by rfl, hb1 HB GE542⟩
           ·rw [if_neg c24] at H; have c24b0 : decide (262144 < ((rd_T23 x11_2 x55_2).f0)) = false := decide_eq_false c24; clear c24
            by_cases c25 : ((rd_T23 x11_2 x55_2).f1) < (-262144)
            ·rw [if_pos c25] at H; have c25b0 : decide (((rd_T23 x11_2 x55_2).f1) < (-262144)) = true := decide_eq_true c25; clear c25; obtain rfl := Option.some.inj H; have p549 : 0 ≤ (x55_2 : Int) := of_decide_eq_true (by first | (with_reducible assumption) | assumption); have q549 : x55_2 < (x11_2.length : Int) := of_decide_eq_true (by first | (with_reducible assumption) | assumption); obtain ⟨ad549, e549, hx549_0, hx549_1⟩ := at_T23 (Kd.R_reads' HO_11.out).2.2 x55_2 p549 q549; obtain rfl : ad547 = ad549 := (by injection e549); replace p549 := eq_true p549; replace q549 := eq_true q549
             go_wp2
             go_ret
             exact ⟨by rfl, hb1 HB GE542⟩
            ·rw [if_neg c25] at H; have c25b0 : decide (((rd_T23 x11_2 x55_2).f1) < (-262144)) = false := decide_eq_false c25; clear c25
             by_cases c26 : ((rd_T23 x11_2 x55_2).f1) > 262144
             ·rw [if_pos c26] at H; have c26b0 : decide (262144 < ((rd_T23 x11_2 x55_2).f1)) = true := decide_eq_true c26; clear c26; obtain rfl := Option.some.inj H; have p549 : 0 ≤ (x55_2 : Int) := of_decide_eq_true (by first | (with_reducible assumption) | assumption); have q549 : x55_2 < (x11_2.length : Int) := of_decide_eq_true (by first | (with_reducible assumption) | assumption); obtain ⟨ad549, e549, hx549_0, hx549_1⟩ := at_T23 (Kd.R_reads' HO_11.out).2.2 x55_2 p549 q549; obtain rfl : ad547 = ad549 := (by injection e549); replace p549 := eq_true p549; replace q549 := eq_true q549; have p550 : 0 ≤ (x55_2 : Int) := of_decide_eq_true (by first | (with_reducible assumption) | assumption); have q550 : x55_2 < (x11_2.length : Int) := of_decide_eq_true (by first | (with_reducible assumption) | assumption); obtain ⟨ad550, e550, hx550_0, hx550_1⟩ := at_T23 (Kd.R_reads' HO_11.out).2.2 x55_2 p550 q550; obtain rfl : ad547 = ad550 := (by injection e550); replace p550 := eq_true p550; replace q550 := eq_true q550
              go_wp2
              go_ret
              exact ⟨by rfl, hb1 HB GE542⟩
             ·rw [if_neg c26] at H; have c26b0 : decide (262144 < ((rd_T23 x11_2 x55_2).f1)) = false := decide_eq_false c26; clear c26; replace H := Option.bind_eq_some_iff.mp H; obtain ⟨⟨t553, t554⟩, A270, H⟩ := H; (try dsimp only at H); have A27 := Aside0.mk A270; clear A270; obtain ⟨y555, hy555⟩ : ∃ y_ : List (S23), y_ = (x11_2.set (x55_2 : Int).toNat (⟨t553, t554⟩ : S23)) := ⟨_, rfl⟩; replace H : (tangramlaw26_CrossMoved.l0 k2 l1 a2 a3 a4 y555 (t544.length : Int) (wrap64 (x55_2 + 1)) a0_0 l0_1) = some r := by first | (rw [hy555]; with_reducible exact H) | (have H2_ := (Option.bind_some _ _).symm.trans H; rw [hy555]; with_reducible exact H2_) | (have H2_ := (Option.bind_some _ _).symm.trans H; with_reducible exact H2_) | with_reducible exact H | (rw [hy555]; exact H) | exact H
              have Ny555 := Aside0.mk hy555; clear hy555; have H' := Aside0.mk H; clear H; have p549 : 0 ≤ (x55_2 : Int) := of_decide_eq_true (by first | (with_reducible assumption) | assumption); have q549 : x55_2 < (x11_2.length : Int) := of_decide_eq_true (by first | (with_reducible assumption) | assumption); obtain ⟨ad549, e549, hx549_0, hx549_1⟩ := at_T23 (Kd.R_reads' HO_11.out).2.2 x55_2 p549 q549; obtain rfl : ad547 = ad549 := (by injection e549); replace p549 := eq_true p549; replace q549 := eq_true q549; have p550 : 0 ≤ (x55_2 : Int) := of_decide_eq_true (by first | (with_reducible assumption) | assumption); have q550 : x55_2 < (x11_2.length : Int) := of_decide_eq_true (by first | (with_reducible assumption) | assumption); obtain ⟨ad550, e550, hx550_0, hx550_1⟩ := at_T23 (Kd.R_reads' HO_11.out).2.2 x55_2 p550 q550; obtain rfl : ad547 = ad550 := (by injection e550); replace p550 := eq_true p550; replace q550 := eq_true q550
              try go_wp2
              replace HO_11 := rd HO_11; replace BK542 := bd BK542; replace HB := Aside0.mk (below_drew1 HB.out); have p551 : 0 ≤ (x55_2 : Int) := of_decide_eq_true (by first | (with_reducible assumption) | assumption); have q551 : x55_2 < (x11_2.length : Int) := of_decide_eq_true (by first | (with_reducible assumption) | assumption); obtain ⟨ad551, e551, hx551_0, hx551_1⟩ := at_T23 (Kd.R_reads' HO_11.out).2.2 x55_2 p551 q551; obtain rfl : ad547 = ad551 := (by injection e551); replace p551 := eq_true p551; replace q551 := eq_true q551; have p552 : 0 ≤ (x55_2 : Int) := of_decide_eq_true (by first | (with_reducible assumption) | assumption); have q552 : x55_2 < (x11_2.length : Int) := of_decide_eq_true (by first | (with_reducible assumption) | assumption); obtain ⟨ad552, e552, hx552_0, hx552_1⟩ := at_T23 (Kd.R_reads' HO_11.out).2.2 x55_2 p552 q552; obtain rfl : ad547 = ad552 := (by injection e552); replace p552 := eq_true p552; replace q552 := eq_true q552; refine start_ (n := 23) (S := fun w' => w'.cell? (ad547.add ((x55_2).toNat * 2)) = some (.int .i64 ((rd_T23 x11_2 x55_2).f0)) ∧ w'.cell? ⟨(ad547.add ((x55_2).toNat * 2)).block, (ad547.add ((x55_2).toNat * 2)).off + 1, none⟩ = some (.int .i64 ((rd_T23 x11_2 x55_2).f1)) ∧ w'.cell? (ad547.add ((x55_2).toNat * 2)) = some (.int .i64 ((rd_T23 x11_2 x55_2).f0)) ∧ w'.cell? ⟨(ad547.add ((x55_2).toNat * 2)).block, (ad547.add ((x55_2).toNat * 2)).off + 1, none⟩ = some (.int .i64 ((rd_T23 x11_2 x55_2).f1))) (ds := [22]) (pf 0 23) (by kernel_rfl) rfl rfl ⟨hx551_0, hx551_1, hx552_0, hx552_1⟩ (fun hHeld => ?_); refine with_tabW tangramlaw26_CrossMoved.tab11 tangramlaw26_CrossMoved.bits11 (fun HT_ HW_ => ?_)
              generalize wr.drew = w29 at HO_11 BK542 HB hx551_0 hx551_1 hx552_0 hx552_1 hHeld ⊢; refine pu_ 0 (some 88) (pf 1 23) HT_ ?_; refine pu_ 1 (some 89) (pf 2 23) HT_ ?_; refine pu_ 2 (some 90) (pf 3 23) HT_ ?_; refine pu_ 3 (some 91) (pf 4 23) HT_ ?_; refine pu_ 4 (some 92) (pf 5 23) HT_ ?_; refine pu_ 5 (some 93) (pf 6 23) HT_ ?_; refine pu_ 7 (some 95) #[T_,T_,T_,T_,T_,T_,F_,T_,F_,F_,F_,F_,F_,F_,F_,F_,F_,F_,F_,F_,F_,F_,F_] HT_ ?_; refine pu_ 9 (some 97) #[T_,T_,T_,T_,T_,T_,F_,T_,F_,T_,F_,F_,F_,F_,F_,F_,F_,F_,F_,F_,F_,F_,F_] HT_ ?_; refine pu_ 11 (some 99) #[T_,T_,T_,T_,T_,T_,F_,T_,F_,T_,F_,T_,F_,F_,F_,F_,F_,F_,F_,F_,F_,F_,F_] HT_ ?_; refine pu_ 12 (some 100) #[T_,T_,T_,T_,T_,T_,F_,T_,F_,T_,F_,T_,T_,F_,F_,F_,F_,F_,F_,F_,F_,F_,F_] HT_ ?_; refine pu_ 13 (some 101) #[T_,T_,T_,T_,T_,T_,F_,T_,F_,T_,F_,T_,T_,T_,F_,F_,F_,F_,F_,F_,F_,F_,F_] HT_ ?_; refine pu_ 14 (some 102) #[T_,T_,T_,T_,T_,T_,F_,T_,F_,T_,F_,T_,T_,T_,T_,F_,F_,F_,F_,F_,F_,F_,F_] HT_ ?_; refine pu_ 16 (some 104) #[T_,T_,T_,T_,T_,T_,F_,T_,F_,T_,F_,T_,T_,T_,T_,F_,T_,F_,F_,F_,F_,F_,F_] HT_ ?_; refine pu_ 18 (some 106) #[T_,T_,T_,T_,T_,T_,F_,T_,F_,T_,F_,T_,T_,T_,T_,F_,T_,F_,T_,F_,F_,F_,F_] HT_ ?_
              refine tk4_ 6 (some 94) #[T_,T_,T_,T_,T_,T_,T_,T_,F_,T_,F_,T_,T_,T_,T_,F_,T_,F_,T_,F_,F_,F_,F_] HT_ HW_ hHeld ?_; refine pu_ 8 (some 96) #[T_,T_,T_,T_,T_,T_,T_,T_,T_,T_,F_,T_,T_,T_,T_,F_,T_,F_,T_,F_,F_,F_,F_] HT_ ?_; refine pu_ 10 (some 98) #[T_,T_,T_,T_,T_,T_,T_,T_,T_,T_,T_,T_,T_,T_,T_,F_,T_,F_,T_,F_,F_,F_,F_] HT_ ?_; refine tk4_ 15 (some 103) #[T_,T_,T_,T_,T_,T_,T_,T_,T_,T_,T_,T_,T_,T_,T_,T_,T_,F_,T_,F_,F_,F_,F_] HT_ HW_ hHeld ?_; refine pu_ 17 (some 105) (pf 19 23) HT_ ?_; refine pu_ 19 (some 107) (pf 20 23) HT_ ?_; refine on_ 20 (some 108) (pf 21 23) HT_ (fun K hK => ?_); refine gs_ Try.func31 #[.int .i64 (wrap64 ((wrap64 (((rd_T23 x11_2 x55_2).f0) * a4)) + a2)), .int .i64 (wrap64 ((wrap64 (((rd_T23 x11_2 x55_2).f1) * a4)) + a3))] ?_
              with_reducible refine (tangramlaw26_pt.calls (wrap64 ((wrap64 (((rd_T23 x11_2 x55_2).f0) * a4)) + a2)) (wrap64 ((wrap64 (((rd_T23 x11_2 x55_2).f1) * a4)) + a3)) t553 t554 _ A27.out).mono ?_
              rintro e w30 ⟨rfl, hb⟩; have HS0_ := (hb.cell (World.block_lt_of_cell? _ _ (hHeld.1))).trans (hHeld.1); have HS1_ := (hb.cell (World.block_lt_of_cell? _ _ (hHeld.2.1))).trans (hHeld.2.1); have HS2_ := (hb.cell (World.block_lt_of_cell? _ _ (hHeld.2.2.1))).trans (hHeld.2.2.1); have HS3_ := (hb.cell (World.block_lt_of_cell? _ _ (hHeld.2.2.2))).trans (hHeld.2.2.2); refine ⟨_, rfl, ?_⟩; replace HO_11 := ry HO_11 hb; replace BK542 := kx BK542 hb; replace HB := hs (hb1 HB GE542) hb
              (try clear hb)
              (try clear hk)
              (try clear hi)
              have p28 : 0 ≤ (x55_2 : Int) := of_decide_eq_true (by first | (with_reducible assumption) | assumption); have q28 : (x55_2 : Int) < ((x11_2.length : Int) : Int) := of_decide_eq_true (by first | (with_reducible assumption) | assumption); obtain ⟨go28, co28, eo28, gb28, gl28, cl28, HG28⟩ := Kd.R_form HO_11.out (by omega)
              (first | cases eo28 | (injection eo28 with ea_ en_ ec_; (first | subst ea_ | (injection ea_ with ea_; subst ea_)); subst ec_; clear en_))
              have GB28 := Aside0.mk gb28; have GG28 := Aside0.mk HG28; clear gb28 gl28 HG28
              (first | simp only [add_plain] at hx547_0 | skip)
              (first | simp only [add_plain] at hx547_1 | skip)
              (first | simp only [add_plain] at hx548_0 | skip)
              (first | simp only [add_plain] at hx548_1 | skip)
              (first | simp only [add_plain] at hx549_0 | skip)
              (first | simp only [add_plain] at hx549_1 | skip)
              (first | simp only [add_plain] at hx550_0 | skip)
              (first | simp only [add_plain] at hx550_1 | skip)
              (first | simp only [add_plain] at hx551_0 | skip)
              (first | simp only [add_plain] at hx551_1 | skip)
              (first | simp only [add_plain] at hx552_0 | skip)
              (first | simp only [add_plain] at hx552_1 | skip)
              obtain ⟨ce28, hcl28, hM28, hcc28, hfr28⟩ := Kd.R_elem HO_11.out z23 (x55_2 : Int) p28 q28; obtain rfl := k23_openM hM28; have hx28_0 : World.cell? _ ⟨go28, (x55_2 : Int).toNat * 2, none⟩ = some (.int .i64 ((rd_T23 x11_2 x55_2).f0)) := hcc28 0 _ rfl; have hx28_1 : World.cell? _ ⟨go28, (x55_2 : Int).toNat * 2 + 1, none⟩ = some (.int .i64 ((rd_T23 x11_2 x55_2).f1)) := hcc28 1 _ rfl; have hf28_0 : World.frozen? _ ⟨go28, (x55_2 : Int).toNat * 2, none⟩ = false := hfr28 0; have hf28_1 : World.frozen? _ ⟨go28, (x55_2 : Int).toNat * 2 + 1, none⟩ = false := hfr28 1; clear hcl28 hcc28 hfr28; (try clear hM28); replace p28 := eq_true p28; replace q28 := eq_true q28; obtain ⟨ce31, hcl31, hM31, hcc31, hfr31⟩ := Kd.R_elem HO_11.out z23 (x55_2 : Int) (of_decide_eq_true (by first | (with_reducible assumption) | assumption)) (by have h_ : (x55_2 : Int) < ((x11_2.length : Int) : Int) := of_decide_eq_true (by first | (with_reducible assumption) | assumption); first | exact h_ | (have e_ := (Kd.R_reads' HO_11.out).1; omega) | simpa using h_); obtain rfl := k23_openM hM31; have HP31 := (Kd.R_seg HO_11.out (x55_2 : Int) (of_decide_eq_true (by first | (with_reducible assumption) | assumption)) (by have h_ : (x55_2 : Int) < ((x11_2.length : Int) : Int) := of_decide_eq_true (by first | (with_reducible assumption) | assumption); first | exact h_ | (have e_ := (Kd.R_reads' HO_11.out).1; omega) | simpa using h_) (seg := [.int .i64 t553, .int .i64 t554]) (j := 0) hcl31 hcc31 (show 2 ≤ 2 from by decide) (x' := (⟨t553, t554⟩ : S23)) (k23_mkM _ _ _ (⟨t553, t554⟩ : S23) ) (fun _ hk => hk)).1
              rw [← Ny555.out] at HP31; have HQ31 := Aside0.mk HP31; clear hcl31 hcc31 hfr31 HP31; (try clear hM31); refine hK.out _ _ ⟨HS0_, HS1_, HS2_, HS3_⟩ (fun hHeld => ?_); clear hK K; refine nm_ (some 108) ?_; refine pu_ 21 (some 109) (pf 22 23) HT_ ?_; refine last_ (i := 22) (N := none) (pf 23 23) rfl rfl (one_of HT_.out (by kernel_rfl)) (by decide) (fun K hK => ?_); refine skip_ (w1 := ?_) (by rfl) rfl ?_ ?_; rotate_left
              ·go_simp; rfl
              refine hK.out _ _ ?_; clear hK K; refine done_ (done_of HT_.out (by kernel_rfl)) ?_
              try go_wp2
              (try simp only [← hl11_2])
              go_roundg k2
              case measure => have := HJ7.out; have := HK2.out; omega
              case rel => exact ⟨(y555), (wrap64 (x55_2 + 1)), (by first | rfl | (simp; done) | (simp [*]; done)), H', ⟨by have := HJ7.out; have := HK2.out; omega⟩, ⟨by (try simp only [hl11_2]); (with_reducible repeat (first | apply Kd.R_alloc | apply Kd.R_drewN | apply Kd.R_drew)); exact HQ31.out⟩, ⟨by (try simp only [hl11_2]); (with_reducible repeat (first | refine blk_drewN ?_ _ | refine blk_drew ?_ | refine blk_alloc ?_ _)); refine blk_far ?_ (by have h_ := Kd.R_ne HO_11.out BK542.out (by decide); intro e_; exact h_ (by rw [e_]; rfl)) _; (with_reducible repeat (first | refine blk_drewN ?_ _ | refine blk_drew ?_ | refine blk_alloc ?_ _)); refine blk_far ?_ (by have h_ := Kd.R_ne HO_11.out BK542.out (by decide); intro e_; exact h_ (by rw [e_]; rfl)) _; (with_reducible repeat (first | refine blk_drewN ?_ _ | refine blk_drew ?_ | refine blk_alloc ?_ _)); exact BK542.out⟩, ⟨hb3 HB GB28 GB28 GE542⟩⟩
         ·rw [if_neg c22] at H; exact absurd H (by simp)
        ·rw [if_neg c21] at H; exact absurd H (by simp)
       ·rw [if_neg c20] at H; have c20b0 : decide (x55_2 < (t544.length : Int)) = false := decide_eq_false c20; have c20b2 : decide (x55_2 < (x11_2.length : Int)) = false := (by rw [← hl11_2]; exact c20b0); clear c20; replace H := Option.bind_eq_some_iff.mp H; obtain ⟨⟨t556, t557⟩, A320, H⟩ := H; (try dsimp only at H); have A32 := Aside0.mk A320; clear A320; replace H := Option.bind_eq_some_iff.mp H; obtain ⟨t560, A330, H⟩ := H; (try dsimp only at H)
        have A33 := Aside0.mk A330; clear A330; replace H := Option.bind_eq_some_iff.mp H; obtain ⟨⟨t563, t564, t565⟩, A340, H⟩ := H; (try dsimp only at H); have A34 := Aside0.mk A340; clear A340; replace H := Option.bind_eq_some_iff.mp H; obtain ⟨⟨t566, t567⟩, A350, H⟩ := H; (try dsimp only at H)
        have A35 := Aside0.mk A350; clear A350; replace H := Option.bind_eq_some_iff.mp H; obtain ⟨t570, A360, H⟩ := H; (try dsimp only at H); have A36 := Aside0.mk A360; clear A360; replace H := Option.bind_eq_some_iff.mp H; obtain ⟨⟨t573, t574, t575⟩, A370, H⟩ := H; (try dsimp only at H)
        have A37 := Aside0.mk A370; clear A370; replace H := Option.bind_eq_some_iff.mp H; obtain ⟨⟨t576, t577⟩, A380, H⟩ := H; (try dsimp only at H); have A38 := Aside0.mk A380; clear A380; replace H := Option.bind_eq_some_iff.mp H; obtain ⟨t580, A390, H⟩ := H; (try dsimp only at H)
        have A39 := Aside0.mk A390; clear A390; replace H := Option.bind_eq_some_iff.mp H; obtain ⟨⟨t583, t586⟩, A400, H⟩ := H; (try dsimp only at H); have A40 := Aside0.mk A400; clear A400; replace H := Option.bind_eq_some_iff.mp H; obtain ⟨⟨t587, t588⟩, A410, H⟩ := H; (try dsimp only at H)
        have A41 := Aside0.mk A410; clear A410; replace H := Option.bind_eq_some_iff.mp H; obtain ⟨t591, A420, H⟩ := H; (try dsimp only at H); have A42 := Aside0.mk A420; clear A420; replace H := Option.bind_eq_some_iff.mp H; obtain ⟨⟨t594, t597⟩, A430, H⟩ := H; (try dsimp only at H); have A43 := Aside0.mk A430; clear A430; replace H := Option.bind_eq_some_iff.mp H; obtain ⟨t598, A440, H⟩ := H; (try dsimp only at H)
        have A44 := Aside0.mk A440; clear A440; replace H := Option.bind_eq_some_iff.mp H; obtain ⟨⟨t601, t602⟩, A450, H⟩ := H; (try dsimp only at H); have A45 := Aside0.mk A450; clear A450; replace H := Option.bind_eq_some_iff.mp H; obtain ⟨⟨t603, t604⟩, A460, H⟩ := H; (try dsimp only at H); have A46 := Aside0.mk A460; clear A460; have HH_ := Aside0.mk H; clear H; have hcz54_0 : wr.cell? ⟨gb542, 0, none⟩ = some (.int .i64 a0_0) := bc BK542 0; have hcz54_1 : wr.cell? ⟨gb542, 1, none⟩ = some (.slice A0_1 l0_1.length c0_1) := bc BK542 1; have hfz54_0 := blk_frozen BK542.out 0; have hfz54_1 := blk_frozen BK542.out 1
        go_wp2_with (first | ((with_reducible refine gate_callee (f := 19) rfl ?_); refine gl_ (some 113) Try.func19 #[.agg #[.int .i64 a0_0, .slice A0_1 l0_1.length c0_1]] ?_; (with_reducible refine (tangramlaw26_graph.calls a0_0 _ _ l0_1 t556 t557 _ ?side1 ?side2 A32.out).mono ?_); (case side1 => repeat (first | exact (Kd.C_below HR0_1.out HB.out) | (with_reducible refine Kd.C_alloc ?_ _) | (with_reducible refine Kd.C_drewN ?_ _) | (with_reducible refine Kd.C_drew ?_))); (case side2 => exact HC0_1.out); rintro e w55 ⟨v558, rfl, ho0, hb⟩; refine ⟨_, rfl, ?_⟩; replace HO_11 := ry HO_11 hb; have HO559 := Aside0.mk (Kd.R_lower ho0 (below_size (hb1 HB GE542))); replace BK542 := kx BK542 hb; replace HB := hs (hb1 HB GE542) hb; (try clear hb); (try clear hb2); (try clear hk); (try clear hi); (try clear ho0)) | ((with_reducible refine gate_callee (f := 20) rfl ?_); refine gl_ (some 115) Try.func20 #[.slice A1 l1.length c1] ?_; (with_reducible refine (tangramlaw26_points.calls _ _ l1 t560 _ ?side1 ?side2 A33.out).mono ?_); (case side1 => repeat (first | exact (Kd.C_below HR1.out HB.out) | (with_reducible refine Kd.C_alloc ?_ _) | (with_reducible refine Kd.C_drewN ?_ _) | (with_reducible refine Kd.C_drew ?_))); (case side2 => exact HC1.out); rintro e w56 ⟨v561, rfl, ho0, hb⟩; refine ⟨_, rfl, ?_⟩; replace HO559 := ry HO559 hb; have HO562 := Aside0.mk (Kd.R_lower (Kd.R_new' ho0 (Kd.R_lt (rx HO_11))) (below_size (hb1 HB GE542))); replace HO_11 := el (rx HO_11) ho0 hb; replace BK542 := kx BK542 hb; replace HB := hs (hb1 HB GE542) hb; (try clear hb); (try clear hb2); (try clear hk); (try clear hi); (try clear ho0); obtain ⟨Ao57, co57, eo57⟩ := Kd.R_slice HO559.out; subst eo57; obtain ⟨Ao58, co58, eo58⟩ := Kd.R_slice HO562.out; subst eo58) | ((with_reducible refine gate_callee (f := 21) rfl ?_); refine gl_ (some 116) Try.func21 #[.agg #[.int .i64 t556, .slice Ao57 t557.length co57], .slice Ao58 t560.length co58] ?_; (with_reducible refine (cross_First.calls k2 t556 _ _ t557 _ _ t560 t563 t564 t565 _ ?side1 ?side2 ?side3 ?side4 A34.out).mono ?_); (case side1 => exact cr HO559); (case side2 => exact (Kd.R_reads' HO559.out).2.1); (case side3 => exact cr HO562); (case side4 => exact (Kd.R_reads' HO562.out).2.1); rintro e w59 ⟨rfl, hb⟩; refine ⟨_, rfl, ?_⟩; replace HO_11 := ry HO_11 hb; replace HO559 := ry HO559 hb; replace HO562 := ry HO562 hb; replace BK542 := kx BK542 hb; replace HB := hs (hb1 HB GE542) hb; (try clear hb); (try clear hb2); (try clear hk); (try clear hi); have hcz60_0 : w59.cell? ⟨gb542, 0, none⟩ = some (.int .i64 a0_0) := bc BK542 0; have hcz60_1 : w59.cell? ⟨gb542, 1, none⟩ = some (.slice A0_1 l0_1.length c0_1) := bc BK542 1; have hfz60_0 := blk_frozen BK542.out 0; have hfz60_1 := blk_frozen BK542.out 1) | ((with_reducible refine gate_callee (f := 19) rfl ?_); refine gl_ (some 122) Try.func19 #[.agg #[.int .i64 a0_0, .slice A0_1 l0_1.length c0_1]] ?_; (with_reducible refine (tangramlaw26_graph.calls a0_0 _ _ l0_1 t566 t567 _ ?side1 ?side2 A35.out).mono ?_); (case side1 => repeat (first | exact (Kd.C_below HR0_1.out HB.out) | (with_reducible refine Kd.C_alloc ?_ _) | (with_reducible refine Kd.C_drewN ?_ _) | (with_reducible refine Kd.C_drew ?_))); (case side2 => exact HC0_1.out); rintro e w61 ⟨v568, rfl, ho0, hb⟩; refine ⟨_, rfl, ?_⟩; replace HO_11 := ry HO_11 hb; replace HO562 := ry HO562 hb; have HO569 := Aside0.mk (Kd.R_lower (Kd.R_new' ho0 (Kd.R_lt (rx HO559))) (below_size (hb1 HB GE542))); replace HO559 := el (rx HO559) ho0 hb; replace BK542 := kx BK542 hb; replace HB := hs (hb1 HB GE542) hb; (try clear hb); (try clear hb2); (try clear hk); (try clear hi); (try clear ho0)) | ((with_reducible refine gate_callee (f := 20) rfl ?_); refine gl_ (some 124) Try.func20 #[.slice Ao19 x11_2.length co19] ?_; (with_reducible refine (tangramlaw26_points.calls _ _ x11_2 t570 _ ?side1 ?side2 A36.out).mono ?_); (case side1 => exact cr HO_11); (case side2 => exact (Kd.R_reads' HO_11.out).2.1); rintro e w62 ⟨v571, rfl, ho0, hb⟩; refine ⟨_, rfl, ?_⟩; replace HO559 := ry HO559 hb; replace HO569 := ry HO569 hb; have HO572 := Aside0.mk (Kd.R_lower (Kd.R_new' (Kd.R_new' ho0 (Kd.R_lt (rx HO_11))) (Kd.R_lt (rx HO562))) (below_size (hb1 HB GE542))); replace HO_11 := el (rx HO_11) ho0 hb; replace HO562 := el (rx HO562) ho0 hb; replace BK542 := kx BK542 hb; replace HB := hs (hb1 HB GE542) hb; (try clear hb); (try clear hb2); (try clear hk); (try clear hi); (try clear ho0); obtain ⟨Ao63, co63, eo63⟩ := Kd.R_slice HO569.out; subst eo63; obtain ⟨Ao64, co64, eo64⟩ := Kd.R_slice HO572.out; subst eo64) | ((with_reducible refine gate_callee (f := 21) rfl ?_); refine gl_ (some 125) Try.func21 #[.agg #[.int .i64 t566, .slice Ao63 t567.length co63], .slice Ao64 t570.length co64] ?_; (with_reducible refine (cross_First.calls k2 t566 _ _ t567 _ _ t570 t573 t574 t575 _ ?side1 ?side2 ?side3 ?side4 A37.out).mono ?_); (case side1 => exact cr HO569); (case side2 => exact (Kd.R_reads' HO569.out).2.1); (case side3 => exact cr HO572); (case side4 => exact (Kd.R_reads' HO572.out).2.1); rintro e w65 ⟨rfl, hb⟩; refine ⟨_, rfl, ?_⟩; replace HO_11 := ry HO_11 hb; replace HO559 := ry HO559 hb; replace HO562 := ry HO562 hb; replace HO569 := ry HO569 hb; replace HO572 := ry HO572 hb; replace BK542 := kx BK542 hb; replace HB := hs (hb1 HB GE542) hb; (try clear hb); (try clear hb2); (try clear hk); (try clear hi); have hcz66_0 : w65.cell? ⟨gb542, 0, none⟩ = some (.int .i64 a0_0) := bc BK542 0; have hcz66_1 : w65.cell? ⟨gb542, 1, none⟩ = some (.slice A0_1 l0_1.length c0_1) := bc BK542 1; have hfz66_0 := blk_frozen BK542.out 0; have hfz66_1 := blk_frozen BK542.out 1) | ((with_reducible refine gate_callee (f := 19) rfl ?_); refine gl_ (some 131) Try.func19 #[.agg #[.int .i64 a0_0, .slice A0_1 l0_1.length c0_1]] ?_; (with_reducible refine (tangramlaw26_graph.calls a0_0 _ _ l0_1 t576 t577 _ ?side1 ?side2 A38.out).mono ?_); (case side1 => repeat (first | exact (Kd.C_below HR0_1.out HB.out) | (with_reducible refine Kd.C_alloc ?_ _) | (with_reducible refine Kd.C_drewN ?_ _) | (with_reducible refine Kd.C_drew ?_))); (case side2 => exact HC0_1.out); rintro e w67 ⟨v578, rfl, ho0, hb⟩; refine ⟨_, rfl, ?_⟩; replace HO_11 := ry HO_11 hb; replace HO562 := ry HO562 hb; replace HO572 := ry HO572 hb; have HO579 := Aside0.mk (Kd.R_lower (Kd.R_new' (Kd.R_new' ho0 (Kd.R_lt (rx HO559))) (Kd.R_lt (rx HO569))) (below_size (hb1 HB GE542))); replace HO559 := el (rx HO559) ho0 hb; replace HO569 := el (rx HO569) ho0 hb; replace BK542 := kx BK542 hb; replace HB := hs (hb1 HB GE542) hb; (try clear hb); (try clear hb2); (try clear hk); (try clear hi); (try clear ho0)) | ((with_reducible refine gate_callee (f := 20) rfl ?_); refine gl_ (some 133) Try.func20 #[.slice A1 l1.length c1] ?_; (with_reducible refine (tangramlaw26_points.calls _ _ l1 t580 _ ?side1 ?side2 A39.out).mono ?_); (case side1 => repeat (first | exact (Kd.C_below HR1.out HB.out) | (with_reducible refine Kd.C_alloc ?_ _) | (with_reducible refine Kd.C_drewN ?_ _) | (with_reducible refine Kd.C_drew ?_))); (case side2 => exact HC1.out); rintro e w68 ⟨v581, rfl, ho0, hb⟩; refine ⟨_, rfl, ?_⟩; replace HO559 := ry HO559 hb; replace HO569 := ry HO569 hb; replace HO579 := ry HO579 hb; have HO582 := Aside0.mk (Kd.R_lower (Kd.R_new' (Kd.R_new' (Kd.R_new' ho0 (Kd.R_lt (rx HO_11))) (Kd.R_lt (rx HO562))) (Kd.R_lt (rx HO572))) (below_size (hb1 HB GE542))); replace HO_11 := el (rx HO_11) ho0 hb; replace HO562 := el (rx HO562) ho0 hb; replace HO572 := el (rx HO572) ho0 hb; replace BK542 := kx BK542 hb; replace HB := hs (hb1 HB GE542) hb; (try clear hb); (try clear hb2); (try clear hk); (try clear hi); (try clear ho0); obtain ⟨Ao69, co69, eo69⟩ := Kd.R_slice HO579.out; subst eo69; obtain ⟨Ao70, co70, eo70⟩ := Kd.R_slice HO582.out; subst eo70) | ((with_reducible refine gate_callee (f := 26) rfl ?_); refine gl_ (some 134) Try.func26 #[.agg #[.int .i64 t576, .slice Ao69 t577.length co69], .slice Ao70 t580.length co70] ?_; (with_reducible refine (cross_Rotation.calls k2 t576 _ _ t577 _ _ t580 t583 t586 _ ?side1 ?side2 ?side3 ?side4 A40.out).mono ?_); (case side1 => exact cr HO579); (case side2 => exact (Kd.R_reads' HO579.out).2.1); (case side3 => exact cr HO582); (case side4 => exact (Kd.R_reads' HO582.out).2.1); rintro e w71 ⟨v584, rfl, ho0, hb⟩; refine ⟨_, rfl, ?_⟩; replace HO_11 := ry HO_11 hb; replace HO559 := ry HO559 hb; replace HO562 := ry HO562 hb; replace HO569 := ry HO569 hb; replace HO572 := ry HO572 hb; replace HO579 := ry HO579 hb; replace HO582 := ry HO582 hb; have HO585 := Aside0.mk (Kd.S_lower ho0 (below_size (hb1 HB GE542))); replace BK542 := kx BK542 hb; replace HB := hs (hb1 HB GE542) hb; (try clear hb); (try clear hb2); (try clear hk); (try clear hi); (try clear ho0); have hcz72_0 : w71.cell? ⟨gb542, 0, none⟩ = some (.int .i64 a0_0) := bc BK542 0; have hcz72_1 : w71.cell? ⟨gb542, 1, none⟩ = some (.slice A0_1 l0_1.length c0_1) := bc BK542 1; have hfz72_0 := blk_frozen BK542.out 0; have hfz72_1 := blk_frozen BK542.out 1) | ((with_reducible refine gate_callee (f := 19) rfl ?_); refine gl_ (some 139) Try.func19 #[.agg #[.int .i64 a0_0, .slice A0_1 l0_1.length c0_1]] ?_; (with_reducible refine (tangramlaw26_graph.calls a0_0 _ _ l0_1 t587 t588 _ ?side1 ?side2 A41.out).mono ?_); (case side1 => repeat (first | exact (Kd.C_below HR0_1.out HB.out) | (with_reducible refine Kd.C_alloc ?_ _) | (with_reducible refine Kd.C_drewN ?_ _) | (with_reducible refine Kd.C_drew ?_))); (case side2 => exact HC0_1.out); rintro e w73 ⟨v589, rfl, ho0, hb⟩; refine ⟨_, rfl, ?_⟩; replace HO_11 := ry HO_11 hb; replace HO562 := ry HO562 hb; replace HO572 := ry HO572 hb; replace HO582 := ry HO582 hb; replace HO585 := Aside0.mk (Kd.S_below (by (with_reducible repeat (first | apply Kd.S_alloc | apply Kd.S_drewN | apply Kd.S_drew)); exact HO585.out) hb); have HO590 := Aside0.mk (Kd.R_lower (Kd.R_new' (Kd.R_new' (Kd.R_new' ho0 (Kd.R_lt (rx HO559))) (Kd.R_lt (rx HO569))) (Kd.R_lt (rx HO579))) (below_size (hb1 HB GE542))); replace HO559 := el (rx HO559) ho0 hb; replace HO569 := el (rx HO569) ho0 hb; replace HO579 := el (rx HO579) ho0 hb; replace BK542 := kx BK542 hb; replace HB := hs (hb1 HB GE542) hb; (try clear hb); (try clear hb2); (try clear hk); (try clear hi); (try clear ho0)) | ((with_reducible refine gate_callee (f := 20) rfl ?_); refine gl_ (some 141) Try.func20 #[.slice Ao19 x11_2.length co19] ?_; (with_reducible refine (tangramlaw26_points.calls _ _ x11_2 t591 _ ?side1 ?side2 A42.out).mono ?_); (case side1 => exact cr HO_11); (case side2 => exact (Kd.R_reads' HO_11.out).2.1); rintro e w74 ⟨v592, rfl, ho0, hb⟩; refine ⟨_, rfl, ?_⟩; replace HO559 := ry HO559 hb; replace HO569 := ry HO569 hb; replace HO579 := ry HO579 hb; replace HO585 := Aside0.mk (Kd.S_below (by (with_reducible repeat (first | apply Kd.S_alloc | apply Kd.S_drewN | apply Kd.S_drew)); exact HO585.out) hb); replace HO590 := ry HO590 hb; have HO593 := Aside0.mk (Kd.R_lower (Kd.R_new' (Kd.R_new' (Kd.R_new' (Kd.R_new' ho0 (Kd.R_lt (rx HO_11))) (Kd.R_lt (rx HO562))) (Kd.R_lt (rx HO572))) (Kd.R_lt (rx HO582))) (below_size (hb1 HB GE542))); replace HO_11 := el (rx HO_11) ho0 hb; replace HO562 := el (rx HO562) ho0 hb; replace HO572 := el (rx HO572) ho0 hb; replace HO582 := el (rx HO582) ho0 hb; replace BK542 := kx BK542 hb; replace HB := hs (hb1 HB GE542) hb; (try clear hb); (try clear hb2); (try clear hk); (try clear hi); (try clear ho0); obtain ⟨Ao75, co75, eo75⟩ := Kd.R_slice HO590.out; subst eo75; obtain ⟨Ao76, co76, eo76⟩ := Kd.R_slice HO593.out; subst eo76) | ((with_reducible refine gate_callee (f := 26) rfl ?_); refine gl_ (some 142) Try.func26 #[.agg #[.int .i64 t587, .slice Ao75 t588.length co75], .slice Ao76 t591.length co76] ?_; (with_reducible refine (cross_Rotation.calls k2 t587 _ _ t588 _ _ t591 t594 t597 _ ?side1 ?side2 ?side3 ?side4 A43.out).mono ?_); (case side1 => exact cr HO590); (case side2 => exact (Kd.R_reads' HO590.out).2.1); (case side3 => exact cr HO593); (case side4 => exact (Kd.R_reads' HO593.out).2.1); rintro e w77 ⟨v595, rfl, ho0, hb⟩; refine ⟨_, rfl, ?_⟩; replace HO_11 := ry HO_11 hb; replace HO559 := ry HO559 hb; replace HO562 := ry HO562 hb; replace HO569 := ry HO569 hb; replace HO572 := ry HO572 hb; replace HO579 := ry HO579 hb; replace HO582 := ry HO582 hb; replace HO590 := ry HO590 hb; replace HO593 := ry HO593 hb; have HO596 := Aside0.mk (Kd.S_lower (Kd.S_new' ho0 (Kd.S_lt (by (with_reducible repeat (first | apply Kd.S_alloc | apply Kd.S_drewN | apply Kd.S_drew)); exact HO585.out))) (below_size (hb1 HB GE542))); replace HO585 := Aside0.mk (Kd.S_elder' (by (with_reducible repeat (first | apply Kd.S_alloc | apply Kd.S_drewN | apply Kd.S_drew)); exact HO585.out) (Kd.S_base ho0) hb); replace BK542 := kx BK542 hb; replace HB := hs (hb1 HB GE542) hb; (try clear hb); (try clear hb2); (try clear hk); (try clear hi); (try clear ho0)) | ((with_reducible refine gate_callee (f := 20) rfl ?_); refine gl_ (some 147) Try.func20 #[.slice A1 l1.length c1] ?_; (with_reducible refine (tangramlaw26_points.calls _ _ l1 t598 _ ?side1 ?side2 A44.out).mono ?_); (case side1 => repeat (first | exact (Kd.C_below HR1.out HB.out) | (with_reducible refine Kd.C_alloc ?_ _) | (with_reducible refine Kd.C_drewN ?_ _) | (with_reducible refine Kd.C_drew ?_))); (case side2 => exact HC1.out); rintro e w78 ⟨v599, rfl, ho0, hb⟩; refine ⟨_, rfl, ?_⟩; replace HO559 := ry HO559 hb; replace HO569 := ry HO569 hb; replace HO579 := ry HO579 hb; replace HO585 := Aside0.mk (Kd.S_below (by (with_reducible repeat (first | apply Kd.S_alloc | apply Kd.S_drewN | apply Kd.S_drew)); exact HO585.out) hb); replace HO590 := ry HO590 hb; replace HO596 := Aside0.mk (Kd.S_below (by (with_reducible repeat (first | apply Kd.S_alloc | apply Kd.S_drewN | apply Kd.S_drew)); exact HO596.out) hb); have HO600 := Aside0.mk (Kd.R_lower (Kd.R_new' (Kd.R_new' (Kd.R_new' (Kd.R_new' (Kd.R_new' ho0 (Kd.R_lt (rx HO_11))) (Kd.R_lt (rx HO562))) (Kd.R_lt (rx HO572))) (Kd.R_lt (rx HO582))) (Kd.R_lt (rx HO593))) (below_size (hb1 HB GE542))); replace HO_11 := el (rx HO_11) ho0 hb; replace HO562 := el (rx HO562) ho0 hb; replace HO572 := el (rx HO572) ho0 hb; replace HO582 := el (rx HO582) ho0 hb; replace HO593 := el (rx HO593) ho0 hb; replace BK542 := kx BK542 hb; replace HB := hs (hb1 HB GE542) hb; (try clear hb); (try clear hb2); (try clear hk); (try clear hi); (try clear ho0); obtain ⟨Ao79, co79, eo79⟩ := Kd.R_slice HO600.out; subst eo79) | ((with_reducible refine gate_callee (f := 29) rfl ?_); refine gl_ (some 148) Try.func29 #[.slice Ao79 t598.length co79] ?_; (with_reducible refine (cross_Area.calls k2 _ _ t598 t601 t602 _ ?side1 ?side2 A45.out).mono ?_); (case side1 => exact cr HO600); (case side2 => exact (Kd.R_reads' HO600.out).2.1); rintro e w80 ⟨rfl, hb⟩; refine ⟨_, rfl, ?_⟩; replace HO_11 := ry HO_11 hb; replace HO559 := ry HO559 hb; replace HO562 := ry HO562 hb; replace HO569 := ry HO569 hb; replace HO572 := ry HO572 hb; replace HO579 := ry HO579 hb; replace HO582 := ry HO582 hb; replace HO585 := Aside0.mk (Kd.S_below (by (with_reducible repeat (first | apply Kd.S_alloc | apply Kd.S_drewN | apply Kd.S_drew)); exact HO585.out) hb); replace HO590 := ry HO590 hb; replace HO593 := ry HO593 hb; replace HO596 := Aside0.mk (Kd.S_below (by (with_reducible repeat (first | apply Kd.S_alloc | apply Kd.S_drewN | apply Kd.S_drew)); exact HO596.out) hb); replace HO600 := ry HO600 hb; replace BK542 := kx BK542 hb; replace HB := hs (hb1 HB GE542) hb; (try clear hb); (try clear hb2); (try clear hk); (try clear hi)) | ((with_reducible refine gate_callee (f := 29) rfl ?_); refine gl_ (some 153) Try.func29 #[.slice Ao19 x11_2.length co19] ?_; (with_reducible refine (cross_Area.calls k2 _ _ x11_2 t603 t604 _ ?side1 ?side2 A46.out).mono ?_); (case side1 => exact cr HO_11); (case side2 => exact (Kd.R_reads' HO_11.out).2.1); rintro e w81 ⟨rfl, hb⟩; refine ⟨_, rfl, ?_⟩; replace HO_11 := ry HO_11 hb; replace HO559 := ry HO559 hb; replace HO562 := ry HO562 hb; replace HO569 := ry HO569 hb; replace HO572 := ry HO572 hb; replace HO579 := ry HO579 hb; replace HO582 := ry HO582 hb; replace HO585 := Aside0.mk (Kd.S_below (by (with_reducible repeat (first | apply Kd.S_alloc | apply Kd.S_drewN | apply Kd.S_drew)); exact HO585.out) hb); replace HO590 := ry HO590 hb; replace HO593 := ry HO593 hb; replace HO596 := Aside0.mk (Kd.S_below (by (with_reducible repeat (first | apply Kd.S_alloc | apply Kd.S_drewN | apply Kd.S_drew)); exact HO596.out) hb); replace HO600 := ry HO600 hb; replace BK542 := kx BK542 hb; replace HB := hs (hb1 HB GE542) hb; (try clear hb); (try clear hb2); (try clear hk); (try clear hi); obtain ⟨Ao82, co82, eo82⟩ := Kd.S_slice HO585.out; subst eo82; obtain ⟨Ao83, co83, eo83⟩ := Kd.S_slice HO596.out; subst eo83; (have H := HH_.out; clear HH_; by_cases c47 : t563 = t573 <;> first | (rw [if_pos c47] at H; have c47b0 : (t563 == t573) = true := beq_iff_eq.mpr c47; have c47b1 : (t563 != t573) = false := bne_eq_false_iff_eq.mpr c47; clear c47; (by_cases c48 : t564 = t574 <;> first | (rw [if_pos c48] at H; have c48b0 : (t564 == t574) = true := beq_iff_eq.mpr c48; have c48b1 : (t564 != t574) = false := bne_eq_false_iff_eq.mpr c48; clear c48; (by_cases c49 : t565 = t575 <;> first | (rw [if_pos c49] at H; have c49b0 : (t565 == t575) = true := beq_iff_eq.mpr c49; have c49b1 : (t565 != t575) = false := bne_eq_false_iff_eq.mpr c49; clear c49; (by_cases c50 : t586 = t597 <;> first | (rw [if_pos c50] at H; have c50b0 : (t586 == t597) = true := beq_iff_eq.mpr c50; have c50b1 : (t586 != t597) = false := bne_eq_false_iff_eq.mpr c50; clear c50; replace H := Option.bind_eq_some_iff.mp H; obtain ⟨t605, A510, H⟩ := H; (try dsimp only at H); have A51 := Aside0.mk A510; clear A510; have HH_ := Aside0.mk H; clear H) | (rw [if_neg c50] at H; have c50b0 : (t586 == t597) = false := beq_eq_false_iff_ne.mpr c50; have c50b1 : (t586 != t597) = true := bne_iff_ne.mpr c50; obtain rfl := Option.some.inj H))) | (rw [if_neg c49] at H; have c49b0 : (t565 == t575) = false := beq_eq_false_iff_ne.mpr c49; have c49b1 : (t565 != t575) = true := bne_iff_ne.mpr c49; obtain rfl := Option.some.inj H))) | (rw [if_neg c48] at H; have c48b0 : (t564 == t574) = false := beq_eq_false_iff_ne.mpr c48; have c48b1 : (t564 != t574) = true := bne_iff_ne.mpr c48; obtain rfl := Option.some.inj H))) | (rw [if_neg c47] at H; have c47b0 : (t563 == t573) = false := beq_eq_false_iff_ne.mpr c47; have c47b1 : (t563 != t573) = true := bne_iff_ne.mpr c47; obtain rfl := Option.some.inj H))) | (go_at_call 28; (with_reducible refine (tangramlaw26_SameRotation.calls k2 _ _ t583 _ _ t594 t605 _ ?side1 ?side2 ?side3 ?side4 A51.out).mono ?_); (case side1 => repeat (first | exact (Kd.S_reads' HO585.out).2.2 | (with_reducible refine Kd.C_alloc ?_ _) | (with_reducible refine Kd.C_drewN ?_ _) | (with_reducible refine Kd.C_drew ?_))); (case side2 => exact (Kd.S_reads' HO585.out).2.1); (case side3 => repeat (first | exact (Kd.S_reads' HO596.out).2.2 | (with_reducible refine Kd.C_alloc ?_ _) | (with_reducible refine Kd.C_drewN ?_ _) | (with_reducible refine Kd.C_drew ?_))); (case side4 => exact (Kd.S_reads' HO596.out).2.1); rintro e w' ⟨rfl, ⟨nd, rfl⟩⟩; (have H := HH_.out; clear HH_; by_cases c52 : t605 = true <;> first | (subst c52; rw [if_pos rfl] at H; (by_cases c53 : t602 = t604 <;> first | (rw [if_pos c53] at H; have c53b0 : (t602 == t604) = true := beq_iff_eq.mpr c53; have c53b1 : (t602 != t604) = false := bne_eq_false_iff_eq.mpr c53; clear c53; obtain rfl := Option.some.inj H) | (rw [if_neg c53] at H; have c53b0 : (t602 == t604) = false := beq_eq_false_iff_ne.mpr c53; have c53b1 : (t602 != t604) = true := bne_iff_ne.mpr c53; obtain rfl := Option.some.inj H))) | (replace c52 := Bool.eq_false_iff.mpr c52; subst c52; rw [if_neg (show ¬ (false = true) by decide)] at H; obtain rfl := Option.some.inj H))))
        all_goals
         go_ret
         exact ⟨by rfl, hb1 HB GE542⟩
 ·replace c7 := Bool.eq_false_iff.mpr c7; subst c7; rw [if_neg (show ¬ (false = true) by decide)] at H; obtain rfl := Option.some.inj H
  go_enter Try.func8, Try.ntmps8
  go_wp2_with (first | ((with_reducible refine gate_dst (N := 5) rfl ?_); refine be_ 5 #[.int .i64 a0_0, .slice A0_1 l0_1.length c0_1] 31 ?_; intro gb542 hg w256 hbox hb; have BK542 := Aside0.mk (hbox); have GW542 := wq (hb0 HB) hg; have GE542 := wq (hb0 HB) hg; replace HB := hs (hb0 HB) hb; clear hb hbox hg) | ((with_reducible refine gate_callee (f := 11) rfl ?_); refine gl_ (some 27) Try.func11 #[] ?_; (with_reducible refine (tangramlaw26_awake.calls k  false _ A6.out).mono ?_); rintro e w257 ⟨rfl, hb⟩; refine ⟨_, rfl, ?_⟩; replace BK542 := kx BK542 hb; replace HB := hs (hb1 HB GE542) hb; (try clear hb); (try clear hb2); (try clear hk); (try clear hi)))
  go_ret
  exact ⟨by rfl, hb1 HB GE542⟩

end Go.Proofs.Ythfoliejhdpbaaa.PCroA
