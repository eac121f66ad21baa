import Derived.Test.YthfoliejhdpbaaaZPCroAx0
import Derived.Test.YthfoliejhdpbaaaZPCroAx1
import Derived.Test.YthfoliejhdpbaaaZPCroAx31
import Derived.Test.YthfoliejhdpbaaaZPCroAx47
namespace Go.Proofs.Ythfoliejhdpbaaa.PCroA
open Go.RowKit Go.Proofs.YthfoliejhdpbaaaW.PrintWords Go.Proofs.YthfoliejhdpbaaaW.PrintLast Go.Proofs.YthfoliejhdpbaaaW.PrintMore
open Go.Proofs.YthfoliejhdpbaaaX
attribute [local go_sem] max2_int min2_int max_two min_two max_three min_three max_four min_four
set_option linter.unusedVariables false
set_option linter.unusedSimpArgs false

attribute [local go_sem high] eqA23
/-! ### tangramref26_Proper: function 24 -/
mutual
def tangramref26_Proper.j0 : Nat → List (S23) → Bool → Int → List (S62) → Option (Bool)
 | 0, _, _, _, _ => none
 | k + 1, x1, x24, x503000, x503001 => if x24 = true then (some false) else (tangramref26_Proper.l0 k x1 0 x503000 x503001)
def tangramref26_Proper.l0 : Nat → List (S23) → Int → Int → List (S62) → Option (Bool)
 | 0, _, _, _, _ => none
 | k + 1, x1, x8, x503000, x503001 => if x8 < x503000 then (tangramref26_Proper.l1 k x1 x8 0 x503000 x503001) else (some true)
def tangramref26_Proper.l1 : Nat → List (S23) → Int → Int → Int → List (S62) → Option (Bool)
 | 0, _, _, _, _, _ => none
 | k + 1, x1, x8, x9, x503000, x503001 => if x9 < x8 then (if 0 ≤ x8 then (if x8 < (x1.length : Int) then (if 0 ≤ x9 then (if x9 < (x1.length : Int) then (if (((rd_T23 x1 x8).f0) == ((rd_T23 x1 x9).f0) && (((rd_T23 x1 x8).f1) == ((rd_T23 x1 x9).f1))) = true then (some false) else (tangramref26_Proper.l1 k x1 x8 (wrap64 (x9 + 1)) x503000 x503001)) else (none)) else (none)) else (none)) else (none)) else (tangramref26_Proper.l2 k x1 x8 0 x503000 x503001)
def tangramref26_Proper.l2 : Nat → List (S23) → Int → Int → Int → List (S62) → Option (Bool)
 | 0, _, _, _, _, _ => none
 | k + 1, x1, x8, x10, x503000, x503001 => if x10 < (x503001.length : Int) then (if 0 ≤ x10 then (if ((rd_T62 x503001 x10).f0) = x8 then (tangramref26_Proper.l2 k x1 x8 (wrap64 (x10 + 1)) x503000 x503001) else (if ((rd_T62 x503001 x10).f1) = x8 then (tangramref26_Proper.l2 k x1 x8 (wrap64 (x10 + 1)) x503000 x503001) else (if 0 ≤ ((rd_T62 x503001 x10).f0) then (if ((rd_T62 x503001 x10).f0) < (x1.length : Int) then (if 0 ≤ ((rd_T62 x503001 x10).f1) then (if ((rd_T62 x503001 x10).f1) < (x1.length : Int) then (if 0 ≤ x8 then (if x8 < (x1.length : Int) then ((tangramref26_On.f k ((rd_T23 x1 ((rd_T62 x503001 x10).f0)).f0) ((rd_T23 x1 ((rd_T62 x503001 x10).f0)).f1) ((rd_T23 x1 ((rd_T62 x503001 x10).f1)).f0) ((rd_T23 x1 ((rd_T62 x503001 x10).f1)).f1) ((rd_T23 x1 x8).f0) ((rd_T23 x1 x8).f1)).bind fun t513 => (if t513 = true then (some false) else (tangramref26_Proper.l2 k x1 x8 (wrap64 (x10 + 1)) x503000 x503001))) else (none)) else (none)) else (none)) else (none)) else (none)) else (none)))) else (none)) else (tangramref26_Proper.l0 k x1 (wrap64 (x8 + 1)) x503000 x503001)
end
def tangramref26_Proper.f (k : Nat) (a0_0 : Int) (l0_1 : List (S62)) (l1 : List (S23)) : Option (Bool) := (tangramref26_First.f k a0_0 l0_1 l1).bind fun bt503 => (if bt503.2.2 = 0 then (tangramref26_Proper.j0 k l1 (decide (bt503.1 ≥ 0)) a0_0 l0_1) else (tangramref26_Proper.j0 k l1 true a0_0 l0_1))
theorem tangramref26_Proper.mono_l : ∀ k, (∀ y0 y1 y2 y3, LeO (tangramref26_Proper.j0 k y0 y1 y2 y3) (tangramref26_Proper.j0 (k + 1) y0 y1 y2 y3)) ∧ (∀ y0 y1 y2 y3, LeO (tangramref26_Proper.l0 k y0 y1 y2 y3) (tangramref26_Proper.l0 (k + 1) y0 y1 y2 y3)) ∧ (∀ y0 y1 y2 y3 y4, LeO (tangramref26_Proper.l1 k y0 y1 y2 y3 y4) (tangramref26_Proper.l1 (k + 1) y0 y1 y2 y3 y4)) ∧ (∀ y0 y1 y2 y3 y4, LeO (tangramref26_Proper.l2 k y0 y1 y2 y3 y4) (tangramref26_Proper.l2 (k + 1) y0 y1 y2 y3 y4))
 | 0 => ⟨fun _ _ _ _ r h => by simp [tangramref26_Proper.j0] at h, fun _ _ _ _ r h => by simp [tangramref26_Proper.l0] at h, fun _ _ _ _ _ r h => by simp [tangramref26_Proper.l1] at h, fun _ _ _ _ _ r h => by simp [tangramref26_Proper.l2] at h⟩
 | k + 1 => by
  obtain ⟨ih0, ih1, ih2, ih3⟩ := tangramref26_Proper.mono_l k; refine ⟨?_, ?_, ?_, ?_⟩
  ·intro y0 y1 y2 y3
   unfold tangramref26_Proper.j0
   repeat' first
   | (with_reducible exact ih0 _ _ _ _)
   | (with_reducible exact ih1 _ _ _ _)
   | (with_reducible exact ih2 _ _ _ _ _)
   | (with_reducible exact ih3 _ _ _ _ _)
   | (with_reducible exact tangramref26_First.mono _ _ _ _)
   | (with_reducible exact tangramref26_On.mono _ _ _ _ _ _ _)
   | (with_reducible exact LeO.refl _)
   | (with_reducible exact LeO.none _)
   | (with_reducible refine LeO.ite ?_ ?_)
   | (with_reducible refine LeO.bind ?_ (fun _ => ?_))
   | exact LeO.none _
   | refine LeO.ite ?_ ?_
   | refine LeO.bind ?_ (fun _ => ?_)
  ·intro y0 y1 y2 y3
   unfold tangramref26_Proper.l0
   repeat' first
   | (with_reducible exact ih0 _ _ _ _)
   | (with_reducible exact ih1 _ _ _ _)
   | (with_reducible exact ih2 _ _ _ _ _)
   | (with_reducible exact ih3 _ _ _ _ _)
   | (with_reducible exact tangramref26_First.mono _ _ _ _)
   | (with_reducible exact tangramref26_On.mono _ _ _ _ _ _ _)
   | (with_reducible exact LeO.refl _)
   | (with_reducible exact LeO.none _)
   | (with_reducible refine LeO.ite ?_ ?_)
   | (with_reducible refine LeO.bind ?_ (fun _ => ?_))
   | exact LeO.none _
   | refine LeO.ite ?_ ?_
   | refine LeO.bind ?_ (fun _ => ?_)
  ·intro y0 y1 y2 y3 y4
   unfold tangramref26_Proper.l1
   repeat' first
   | (with_reducible exact ih0 _ _ _ _)
   | (with_reducible exact ih1 _ _ _ _)
   | (with_reducible exact ih2 _ _ _ _ _)
   | (with_reducible exact ih3 _ _ _ _ _)
   | (with_reducible exact tangramref26_First.mono _ _ _ _)
   | (with_reducible exact tangramref26_On.mono _ _ _ _ _ _ _)
   | (with_reducible exact LeO.refl _)
   | (with_reducible exact LeO.none _)
   | (with_reducible refine LeO.ite ?_ ?_)
   | (with_reducible refine LeO.bind ?_ (fun _ => ?_))
   | exact LeO.none _
   | refine LeO.ite ?_ ?_
   | refine LeO.bind ?_ (fun _ => ?_)
  ·intro y0 y1 y2 y3 y4
   unfold tangramref26_Proper.l2
   repeat' first
   | (with_reducible exact ih0 _ _ _ _)
   | (with_reducible exact ih1 _ _ _ _)
   | (with_reducible exact ih2 _ _ _ _ _)
   | (with_reducible exact ih3 _ _ _ _ _)
   | (with_reducible exact tangramref26_First.mono _ _ _ _)
   | (with_reducible exact tangramref26_On.mono _ _ _ _ _ _ _)
   | (with_reducible exact LeO.refl _)
   | (with_reducible exact LeO.none _)
   | (with_reducible refine LeO.ite ?_ ?_)
   | (with_reducible refine LeO.bind ?_ (fun _ => ?_))
   | exact LeO.none _
   | refine LeO.ite ?_ ?_
   | refine LeO.bind ?_ (fun _ => ?_)
theorem tangramref26_Proper.mono : ∀ a0 a1 a2 k, LeO (tangramref26_Proper.f k a0 a1 a2) (tangramref26_Proper.f (k + 1) a0 a1 a2) := by
 intro a0 a1 a2 k; obtain ⟨ih0, ih1, ih2, ih3⟩ := tangramref26_Proper.mono_l k
 unfold tangramref26_Proper.f
 repeat' first
   | (with_reducible exact ih0 _ _ _ _)
   | (with_reducible exact ih1 _ _ _ _)
   | (with_reducible exact ih2 _ _ _ _ _)
   | (with_reducible exact ih3 _ _ _ _ _)
   | (with_reducible exact tangramref26_First.mono _ _ _ _)
   | (with_reducible exact tangramref26_On.mono _ _ _ _ _ _ _)
   | (with_reducible exact LeO.refl _)
   | (with_reducible exact LeO.none _)
   | (with_reducible refine LeO.ite ?_ ?_)
   | (with_reducible refine LeO.bind ?_ (fun _ => ?_))
   | exact LeO.none _
   | refine LeO.ite ?_ ?_
   | refine LeO.bind ?_ (fun _ => ?_)
def tangramref26_Proper.T10 : Bool × List (List Nat × List Nat) := (true, [([], []), ([], []), ([0, 1], [0, 1]), ([2], [2]), ([], []), ([], []), ([4, 5], [4, 5]), ([6], [6]), ([3, 7], [3, 7])])
def tangramref26_Proper.B10 : List Nat := [0, 0, 3, 7, 0, 0, 48, 112, 255]
theorem tangramref26_Proper.tab10 : rtab .any (opsOf Try.f24 10) = tangramref26_Proper.T10 := by kernel_rfl
theorem tangramref26_Proper.bits10 : waitsOk tangramref26_Proper.T10.2 tangramref26_Proper.B10 = true := by kernel_rfl
def tangramref26_Proper.T16 : Bool × List (List Nat × List Nat) := (true, [([], []), ([0], [0]), ([], []), ([1, 2], [1, 2]), ([3], [3]), ([4], [4]), ([5, 4], [4, 5]), ([4], [4]), ([6, 7, 4], [4, 6, 7]), ([4, 8], [4, 8]), ([9, 4], [9]), ([10], [10]), ([10], [10]), ([12, 10], [10, 12]), ([11, 13, 10], [10, 11, 13]), ([14, 10], [10, 14]), ([10], [10]), ([10], [10]), ([17, 10], [10, 17]), ([16, 18, 10], [10, 16, 18]), ([19, 10], [10, 19]), ([10], [10]), ([10], [10]), ([21, 22, 10], [10, 21, 22]), ([23, 10], [10, 23]), ([15, 20, 24, 10, 10], [10, 15, 20, 24]), ([10, 25], [10, 25])])
def tangramref26_Proper.B16 : List Nat := [0, 1, 0, 7, 15, 31, 63, 31, 255, 511, 1023, 2047, 2047, 6143, 16383, 32767, 2047, 2047, 133119, 460799, 985087, 2047, 2047, 6293503, 14682111, 33554431, 67108863]
theorem tangramref26_Proper.tab16 : rtab .any (opsOf Try.f24 16) = tangramref26_Proper.T16 := by kernel_rfl
theorem tangramref26_Proper.bits16 : waitsOk tangramref26_Proper.T16.2 tangramref26_Proper.B16 = true := by kernel_rfl
set_option maxHeartbeats 8000000 in
set_option maxRecDepth 100000 in
theorem tangramref26_Proper.calls (k : Nat) (a0_0 : Int) (A0_1 : Option Addr) (c0_1 : Nat) (l0_1 : List (S62)) (A1 : Option Addr) (c1 : Nat) (l1 : List (S23)) (r : Bool) (w : World) (hr0_1 : Kd.C k62 w A0_1 l0_1.length l0_1) (hc0_1 : l0_1.length ≤ c0_1) (hr1 : Kd.C k23 w A1 l1.length l1) (hc1 : l1.length ≤ c1) (h : tangramref26_Proper.f k a0_0 l0_1 l1 = some r) :
  Calls Try.prog 24 #[.agg #[.int .i64 a0_0, .slice A0_1 l0_1.length c0_1], .slice A1 l1.length c1] w fun e w' => e = .returned (.bool r) ∧ Below w.heap.size w w' := by
 have hu31 := Try.underlying31; have hu23 := Try.underlying23; have hu62 := Try.underlying62; have HR0_1 := Aside0.mk hr0_1; have HC0_1 := Aside0.mk hc0_1; clear hr0_1 hc0_1; have HR1 := Aside0.mk hr1; have HC1 := Aside0.mk hc1; clear hr1 hc1; have HB := Aside0.mk (Below.refl w.heap.size w); have H : ((tangramref26_First.f k a0_0 l0_1 l1).bind fun bt503 => (if bt503.2.2 = 0 then (tangramref26_Proper.j0 k l1 (decide (bt503.1 ≥ 0)) a0_0 l0_1) else (tangramref26_Proper.j0 k l1 true a0_0 l0_1))) = some r := h; clear h; replace H := Option.bind_eq_some_iff.mp H; obtain ⟨⟨t503, t504, t505⟩, A30, H⟩ := H; (try dsimp only at H); have A3 := Aside0.mk A30; clear A30; have HC4 := Aside0.mk H; clear H
 go_enter Try.func24, Try.ntmps24
 go_upto_region 2 with (first | ((with_reducible refine gate_dst (N := 2) rfl ?_); refine be_ 2 #[.int .i64 a0_0, .slice A0_1 l0_1.length c0_1] 31 ?_; intro gb502 hg w5 hbox hb; have BK502 := Aside0.mk (hbox); have GW502 := wq (hb0 HB) hg; have GE502 := wq (hb0 HB) hg; replace HB := hs (hb0 HB) hb; clear hb hbox hg; have hcz6_0 : w5.cell? ⟨gb502, 0, none⟩ = some (.int .i64 a0_0) := bc BK502 0; have hcz6_1 : w5.cell? ⟨gb502, 1, none⟩ = some (.slice A0_1 l0_1.length c0_1) := bc BK502 1; have hfz6_0 := blk_frozen BK502.out 0; have hfz6_1 := blk_frozen BK502.out 1) | ((with_reducible refine gate_callee (f := 22) rfl ?_); refine gl_ (some 15) Try.func22 #[.agg #[.int .i64 a0_0, .slice A0_1 l0_1.length c0_1], .slice A1 l1.length c1] ?_; (with_reducible refine (tangramref26_First.calls k a0_0 _ _ l0_1 _ _ l1 t503 t504 t505 _ ?side1 ?side2 ?side3 ?side4 A3.out).mono ?_); (case side1 => repeat (first | exact (Kd.C_below HR0_1.out HB.out) | (with_reducible refine Kd.C_alloc ?_ _) | (with_reducible refine Kd.C_drewN ?_ _) | (with_reducible refine Kd.C_drew ?_))); (case side2 => exact HC0_1.out); (case side3 => repeat (first | exact (Kd.C_below HR1.out HB.out) | (with_reducible refine Kd.C_alloc ?_ _) | (with_reducible refine Kd.C_drewN ?_ _) | (with_reducible refine Kd.C_drew ?_))); (case side4 => exact HC1.out); rintro e w7 ⟨rfl, hb⟩; refine ⟨_, rfl, ?_⟩; replace BK502 := kx BK502 hb; replace HB := hs (hb1 HB GE502) hb; (try clear hb); (try clear hb2); (try clear hk); (try clear hi)))
 (try simp only [Act.put, List.setIfInBounds_toArray, List.set_cons_zero, List.set_cons_succ])
 go_cut [24] (fun v24 wc => ∃ (kq : Nat) (x24_3 : Bool), v24 = .bool x24_3 ∧ Aside0 (tangramref26_Proper.j0 kq l1 x24_3 a0_0 l0_1 = some r) ∧ Aside0 (kq ≤ k) ∧ Aside0 (wc.heap[gb502]? = some (.cells #[.int .i64 a0_0, (.slice A0_1 l0_1.length c0_1)] 31 (0, 0))) ∧ Aside0 (Below w.heap.size w wc))
 case first => as_aux_lemma =>
  have H := HC4.out; clear HC4
  by_cases c8 : t505 = 0
  ·rw [if_pos c8] at H; have c8b0 : (t505 == 0) = true := beq_iff_eq.mpr c8; have c8b1 : (t505 != 0) = false := bne_eq_false_iff_eq.mpr c8; clear c8
   (first | rw [c8b0] | (simp only [i64_w, i32_w]; rw [c8b0]) | skip)
   have H' := Aside0.mk H; clear H
   go_wp2
   go_meet
   case rel => exact ⟨_, (decide (t503 ≥ 0)), (by first | rfl | (simp; done) | (simp [*]; done)), H', ⟨by first | omega | exact Nat.le_refl _⟩, ⟨bx BK502⟩, ⟨hb1 HB GE502⟩⟩
  ·rw [if_neg c8] at H; have c8b0 : (t505 == 0) = false := beq_eq_false_iff_ne.mpr c8; have c8b1 : (t505 != 0) = true := bne_iff_ne.mpr c8
   (first | rw [c8b0] | (simp only [i64_w, i32_w]; rw [c8b0]) | skip)
   have H' := Aside0.mk H; clear H
   go_wp2
   go_meet
   case rel => exact ⟨_, (true), (by first | rfl | (simp; done) | (simp [*]; done)), H', ⟨by first | omega | exact Nat.le_refl _⟩, ⟨bx BK502⟩, ⟨hb1 HB GE502⟩⟩
 case rest => as_aux_lemma =>
  clear HC4
  try clear c1
  try clear c2
  try clear p2
  try clear c8
  try clear c8b0
  try clear c8b1
  try clear hcz6_0
  try clear hcz6_1
  try clear hfz6_0
  try clear hfz6_1
  obtain ⟨kq, x24_3, rfl, HA, HJ3, BK502, HB⟩ := hcut
  cases kq with
  | zero => exact absurd HA.out (by simp [tangramref26_Proper.j0])
  | succ kj3 =>
   have H := HA.out; clear HA; simp only [tangramref26_Proper.j0] at H
   by_cases c9 : x24_3 = true
   ·subst c9; rw [if_pos rfl] at H; obtain rfl := Option.some.inj H
    go_wp2
    go_ret
    exact ⟨by rfl, hb1 HB GE502⟩
   ·replace c9 := Bool.eq_false_iff.mpr c9; subst c9; rw [if_neg (show ¬ (false = true) by decide)] at H; have H' := Aside0.mk H; clear H
    go_wp2
    go_loopg [8] kj3 (fun kq v8 w' => ∃ (x8_2 : Int), v8 = .int .i64 x8_2 ∧ Aside0 (tangramref26_Proper.l0 kq l1 x8_2 a0_0 l0_1 = some r) ∧ Aside0 (kq ≤ kj3) ∧ Aside0 (w'.heap[gb502]? = some (.cells #[.int .i64 a0_0, (.slice A0_1 l0_1.length c0_1)] 31 (0, 0))) ∧ Aside0 (Below w.heap.size w w'))
    case atStart => exact ⟨(0), (by first | rfl | (simp; done) | (simp [*]; done)), H', ⟨Nat.le_refl _⟩, ⟨bx BK502⟩, ⟨hb1 HB GE502⟩⟩
    case round =>
     clear H'
     try clear c1
     try clear c2
     try clear p2
     try clear c8
     try clear c8b0
     try clear c8b1
     try clear c9
     try clear hcz6_0
     try clear hcz6_1
     try clear hfz6_0
     try clear hfz6_1
     try clear p2
     obtain ⟨x8_2, rfl, HA, HK2, BK502, HB⟩ := hrel
     cases gk with
     | zero => exact absurd HA.out (by simp [tangramref26_Proper.l0])
     | succ k2 =>
      have H := HA.out; clear HA; simp only [tangramref26_Proper.l0] at H
      by_cases c10 : x8_2 < a0_0
      ·rw [if_pos c10] at H; have c10b0 : decide (x8_2 < a0_0) = true := decide_eq_true c10; clear c10; have H' := Aside0.mk H; clear H; have hcz11_0 : wr.cell? ⟨gb502, 0, none⟩ = some (.int .i64 a0_0) := bc BK502 0; have hcz11_1 : wr.cell? ⟨gb502, 1, none⟩ = some (.slice A0_1 l0_1.length c0_1) := bc BK502 1; have hfz11_0 := blk_frozen BK502.out 0; have hfz11_1 := blk_frozen BK502.out 1
       go_wp2
       go_loopg [9] k2 (fun kq v9 w' => ∃ (x9_3 : Int), v9 = .int .i64 x9_3 ∧ Aside0 (tangramref26_Proper.l1 kq l1 x8_2 x9_3 a0_0 l0_1 = some r) ∧ Aside0 (kq ≤ k2) ∧ Aside0 (w'.heap[gb502]? = some (.cells #[.int .i64 a0_0, (.slice A0_1 l0_1.length c0_1)] 31 (0, 0))) ∧ Aside0 (Below w.heap.size w w'))
       case atStart => exact ⟨(0), (by first | rfl | (simp; done) | (simp [*]; done)), H', ⟨Nat.le_refl _⟩, ⟨bx BK502⟩, ⟨hb1 HB GE502⟩⟩
       case round =>
        clear H'
        try clear c1
        try clear c2
        try clear p2
        try clear c8
        try clear c8b0
        try clear c8b1
        try clear c9
        try clear c10
        try clear c10b0
        try clear hcz11_0
        try clear hcz11_1
        try clear hcz6_0
        try clear hcz6_1
        try clear hfz11_0
        try clear hfz11_1
        try clear hfz6_0
        try clear hfz6_1
        try clear p2
        obtain ⟨x9_3, rfl, HA, HK3, BK502, HB⟩ := hrel
        cases gk with
        | zero => exact absurd HA.out (by simp [tangramref26_Proper.l1])
        | succ k3 =>
         have H := HA.out; clear HA; simp only [tangramref26_Proper.l1] at H
         by_cases c12 : x9_3 < x8_2
         ·rw [if_pos c12] at H; have c12b0 : decide (x9_3 < x8_2) = true := decide_eq_true c12; clear c12
          by_cases c13 : 0 ≤ x8_2
          ·rw [if_pos c13] at H; have c13b0 : decide (0 ≤ x8_2) = true := decide_eq_true c13; clear c13
           by_cases c14 : x8_2 < (l1.length : Int)
           ·rw [if_pos c14] at H; have c14b0 : decide (x8_2 < (l1.length : Int)) = true := decide_eq_true c14; clear c14
            by_cases c15 : 0 ≤ x9_3
            ·rw [if_pos c15] at H; have c15b0 : decide (0 ≤ x9_3) = true := decide_eq_true c15; clear c15
             by_cases c16 : x9_3 < (l1.length : Int)
             ·rw [if_pos c16] at H; have c16b0 : decide (x9_3 < (l1.length : Int)) = true := decide_eq_true c16; clear c16
              by_cases c17 : (((rd_T23 l1 x8_2).f0) == ((rd_T23 l1 x9_3).f0) && (((rd_T23 l1 x8_2).f1) == ((rd_T23 l1 x9_3).f1))) = true
              ·rw [if_pos c17] at H; have c17b0 : (((rd_T23 l1 x8_2).f0) == ((rd_T23 l1 x9_3).f0) && (((rd_T23 l1 x8_2).f1) == ((rd_T23 l1 x9_3).f1))) = true := c17
               (try (have c17b1 : decide (((rd_T23 l1 x8_2).f0) = ((rd_T23 l1 x9_3).f0) && (((rd_T23 l1 x8_2).f1) == ((rd_T23 l1 x9_3).f1))) = true := by simpa using c17))
               (try (have c17b2 : (((rd_T23 l1 x8_2).f0) == ((rd_T23 l1 x9_3).f0) && (((rd_T23 l1 x8_2).f1) == ((rd_T23 l1 x9_3).f1))) = true := by simpa using c17))
               clear c17; obtain rfl := Option.some.inj H
               try go_wp2
               replace BK502 := bd BK502; replace HB := Aside0.mk (below_drew1 HB.out); have p506 : 0 ≤ (x8_2 : Int) := of_decide_eq_true (by first | (with_reducible assumption) | assumption); have q506 : x8_2 < (l1.length : Int) := of_decide_eq_true (by first | (with_reducible assumption) | assumption); obtain ⟨ad506, e506, hx506_0, hx506_1⟩ := at_T23 HR1.out x8_2 p506 q506; have hw506_1 := hx506_1; have hw506_0 := hx506_0
               cases e506
               replace hx506_0 := (HB.out.cell (World.block_lt_of_cell? w _ hx506_0)).trans hx506_0; replace hx506_1 := (HB.out.cell (World.block_lt_of_cell? w _ hx506_1)).trans hx506_1; replace p506 := eq_true p506; replace q506 := eq_true q506; have p507 : 0 ≤ (x9_3 : Int) := of_decide_eq_true (by first | (with_reducible assumption) | assumption); have q507 : x9_3 < (l1.length : Int) := of_decide_eq_true (by first | (with_reducible assumption) | assumption); obtain ⟨ad507, e507, hx507_0, hx507_1⟩ := at_T23 HR1.out x9_3 p507 q507; have hw507_1 := hx507_1; have hw507_0 := hx507_0; obtain rfl : ad506 = ad507 := (by injection e507); replace hx507_0 := (HB.out.cell (World.block_lt_of_cell? w _ hx507_0)).trans hx507_0; replace hx507_1 := (HB.out.cell (World.block_lt_of_cell? w _ hx507_1)).trans hx507_1; replace p507 := eq_true p507; replace q507 := eq_true q507; refine start_ (n := 9) (S := fun w' => w'.cell? (ad506.add ((x8_2).toNat * 2)) = some (.int .i64 ((rd_T23 l1 x8_2).f0)) ∧ w'.cell? ⟨(ad506.add ((x8_2).toNat * 2)).block, (ad506.add ((x8_2).toNat * 2)).off + 1, none⟩ = some (.int .i64 ((rd_T23 l1 x8_2).f1)) ∧ w'.cell? (ad506.add ((x9_3).toNat * 2)) = some (.int .i64 ((rd_T23 l1 x9_3).f0)) ∧ w'.cell? ⟨(ad506.add ((x9_3).toNat * 2)).block, (ad506.add ((x9_3).toNat * 2)).off + 1, none⟩ = some (.int .i64 ((rd_T23 l1 x9_3).f1))) (ds := []) (pf 0 9) (by kernel_rfl) rfl rfl ⟨((HB.out.cell (World.block_lt_of_cell? w _ hw506_0)).trans hw506_0), ((HB.out.cell (World.block_lt_of_cell? w _ hw506_1)).trans hw506_1), ((HB.out.cell (World.block_lt_of_cell? w _ hw507_0)).trans hw507_0), ((HB.out.cell (World.block_lt_of_cell? w _ hw507_1)).trans hw507_1)⟩ (fun hHeld => ?_); refine with_tabW tangramref26_Proper.tab10 tangramref26_Proper.bits10 (fun HT_ HW_ => ?_)
               generalize wr.drew = w18 at BK502 HB hx506_0 hx506_1 hx507_0 hx507_1 hHeld ⊢; refine pu_ 0 (some 36) (pf 1 9) HT_ ?_; refine pu_ 1 (some 37) (pf 2 9) HT_ ?_; refine pu_ 2 (some 38) (pf 3 9) HT_ ?_; refine pu_ 4 (some 40) #[T_,T_,T_,F_,T_,F_,F_,F_,F_] HT_ ?_; refine pu_ 5 (some 41) #[T_,T_,T_,F_,T_,T_,F_,F_,F_] HT_ ?_; refine pu_ 6 (some 42) #[T_,T_,T_,F_,T_,T_,T_,F_,F_] HT_ ?_; refine tk4_ 3 (some 39) (pf 7 9) HT_ HW_ hHeld ?_; refine tk4_ 7 (some 43) (pf 8 9) HT_ HW_ hHeld ?_; refine pu_ 8 (some 44) (pf 9 9) HT_ ?_; refine done_ (done_of HT_.out (by kernel_rfl)) ?_
               try go_wp2
               go_ret
               exact ⟨by rfl, hb1 HB GE502⟩
              ·rw [if_neg c17] at H; have c17b0 : (((rd_T23 l1 x8_2).f0) == ((rd_T23 l1 x9_3).f0) && (((rd_T23 l1 x8_2).f1) == ((rd_T23 l1 x9_3).f1))) = false := by simpa using c17
               (try (have c17b1 : decide (((rd_T23 l1 x8_2).f0) = ((rd_T23 l1 x9_3).f0) && (((rd_T23 l1 x8_2).f1) == ((rd_T23 l1 x9_3).f1))) = false := by simpa using c17))
               (try (have c17b2 : (((rd_T23 l1 x8_2).f0) == ((rd_T23 l1 x9_3).f0) && (((rd_T23 l1 x8_2).f1) == ((rd_T23 l1 x9_3).f1))) = false := by simpa using c17))
               (try (have c17b3 : ¬ (((rd_T23 l1 x8_2).f0) = ((rd_T23 l1 x9_3).f0) && (((rd_T23 l1 x8_2).f1) == ((rd_T23 l1 x9_3).f1))) := by simpa using c17))
               clear c17; have H' := Aside0.mk H; clear H
               try go_wp2
               replace BK502 := bd BK502; replace HB := Aside0.mk (below_drew1 HB.out); have p506 : 0 ≤ (x8_2 : Int) := of_decide_eq_true (by first | (with_reducible assumption) | assumption); have q506 : x8_2 < (l1.length : Int) := of_decide_eq_true (by first | (with_reducible assumption) | assumption); obtain ⟨ad506, e506, hx506_0, hx506_1⟩ := at_T23 HR1.out x8_2 p506 q506; have hw506_1 := hx506_1; have hw506_0 := hx506_0
               cases e506
               replace hx506_0 := (HB.out.cell (World.block_lt_of_cell? w _ hx506_0)).trans hx506_0; replace hx506_1 := (HB.out.cell (World.block_lt_of_cell? w _ hx506_1)).trans hx506_1; replace p506 := eq_true p506; replace q506 := eq_true q506; have p507 : 0 ≤ (x9_3 : Int) := of_decide_eq_true (by first | (with_reducible assumption) | assumption); have q507 : x9_3 < (l1.length : Int) := of_decide_eq_true (by first | (with_reducible assumption) | assumption); obtain ⟨ad507, e507, hx507_0, hx507_1⟩ := at_T23 HR1.out x9_3 p507 q507; have hw507_1 := hx507_1; have hw507_0 := hx507_0; obtain rfl : ad506 = ad507 := (by injection e507); replace hx507_0 := (HB.out.cell (World.block_lt_of_cell? w _ hx507_0)).trans hx507_0; replace hx507_1 := (HB.out.cell (World.block_lt_of_cell? w _ hx507_1)).trans hx507_1; replace p507 := eq_true p507; replace q507 := eq_true q507; refine start_ (n := 9) (S := fun w' => w'.cell? (ad506.add ((x8_2).toNat * 2)) = some (.int .i64 ((rd_T23 l1 x8_2).f0)) ∧ w'.cell? ⟨(ad506.add ((x8_2).toNat * 2)).block, (ad506.add ((x8_2).toNat * 2)).off + 1, none⟩ = some (.int .i64 ((rd_T23 l1 x8_2).f1)) ∧ w'.cell? (ad506.add ((x9_3).toNat * 2)) = some (.int .i64 ((rd_T23 l1 x9_3).f0)) ∧ w'.cell? ⟨(ad506.add ((x9_3).toNat * 2)).block, (ad506.add ((x9_3).toNat * 2)).off + 1, none⟩ = some (.int .i64 ((rd_T23 l1 x9_3).f1))) (ds := []) (pf 0 9) (by kernel_rfl) rfl rfl ⟨((HB.out.cell (World.block_lt_of_cell? w _ hw506_0)).trans hw506_0), ((HB.out.cell (World.block_lt_of_cell? w _ hw506_1)).trans hw506_1), ((HB.out.cell (World.block_lt_of_cell? w _ hw507_0)).trans hw507_0), ((HB.out.cell (World.block_lt_of_cell? w _ hw507_1)).trans hw507_1)⟩ (fun hHeld => ?_); refine with_tabW tangramref26_Proper.tab10 tangramref26_Proper.bits10 (fun HT_ HW_ => ?_)
               generalize wr.drew = w19 at BK502 HB hx506_0 hx506_1 hx507_0 hx507_1 hHeld ⊢; refine pu_ 0 (some 36) (pf 1 9) HT_ ?_; refine pu_ 1 (some 37) (pf 2 9) HT_ ?_; refine pu_ 2 (some 38) (pf 3 9) HT_ ?_; refine pu_ 4 (some 40) #[T_,T_,T_,F_,T_,F_,F_,F_,F_] HT_ ?_; refine pu_ 5 (some 41) #[T_,T_,T_,F_,T_,T_,F_,F_,F_] HT_ ?_; refine pu_ 6 (some 42) #[T_,T_,T_,F_,T_,T_,T_,F_,F_] HT_ ?_; refine tk4_ 3 (some 39) (pf 7 9) HT_ HW_ hHeld ?_; refine tk4_ 7 (some 43) (pf 8 9) HT_ HW_ hHeld ?_; refine pu_ 8 (some 44) (pf 9 9) HT_ ?_; refine done_ (done_of HT_.out (by kernel_rfl)) ?_
               try go_wp2
               go_roundg k3
               case measure => have := HJ3.out; have := HK2.out; have := HK3.out; omega
               case rel => exact ⟨(wrap64 (x9_3 + 1)), (by first | rfl | (simp; done) | (simp [*]; done)), H', ⟨by have := HJ3.out; have := HK2.out; have := HK3.out; omega⟩, ⟨bx BK502⟩, ⟨hb1 HB GE502⟩⟩
             ·rw [if_neg c16] at H; exact absurd H (by simp)
            ·rw [if_neg c15] at H; exact absurd H (by simp)
           ·rw [if_neg c14] at H; exact absurd H (by simp)
          ·rw [if_neg c13] at H; exact absurd H (by simp)
         ·rw [if_neg c12] at H; have c12b0 : decide (x9_3 < x8_2) = false := decide_eq_false c12; clear c12; have H' := Aside0.mk H; clear H
          go_wp2
          go_loopg [10] k3 (fun kq v10 w' => ∃ (x10_4 : Int), v10 = .int .i64 x10_4 ∧ Aside0 (tangramref26_Proper.l2 kq l1 x8_2 x10_4 a0_0 l0_1 = some r) ∧ Aside0 (kq ≤ k3) ∧ Aside0 (w'.heap[gb502]? = some (.cells #[.int .i64 a0_0, (.slice A0_1 l0_1.length c0_1)] 31 (0, 0))) ∧ Aside0 (Below w.heap.size w w'))
          case atStart => exact ⟨(0), (by first | rfl | (simp; done) | (simp [*]; done)), H', ⟨Nat.le_refl _⟩, ⟨bx BK502⟩, ⟨hb1 HB GE502⟩⟩
          case round =>
           clear H'
           try clear c1
           try clear c2
           try clear p2
           try clear p5
           try clear q5
           try clear hx5
           try clear p6
           try clear c8
           try clear c8b0
           try clear c8b1
           try clear c9
           try clear c10
           try clear c10b0
           try clear c12
           try clear c12b0
           try clear c13
           try clear c13b0
           try clear c14
           try clear c14b0
           try clear c15
           try clear c15b0
           try clear c16
           try clear c16b0
           try clear c17
           try clear c17b0
           try clear c17b1
           try clear c17b2
           try clear hcz11_0
           try clear hcz11_1
           try clear hcz6_0
           try clear hcz6_1
           try clear hfz11_0
           try clear hfz11_1
           try clear hfz6_0
           try clear hfz6_1
           try clear hx506_0
           try clear hx506_1
           try clear hx507_0
           try clear hx507_1
           try clear p2
           try clear p506
           try clear p507
           try clear q506
           try clear q507
           obtain ⟨x10_4, rfl, HA, HK4, BK502, HB⟩ := hrel
           cases gk with
           | zero => exact absurd HA.out (by simp [tangramref26_Proper.l2])
           | succ k4 =>
            have H := HA.out; clear HA; simp only [tangramref26_Proper.l2] at H
            by_cases c20 : x10_4 < (l0_1.length : Int)
            ·rw [if_pos c20] at H; have c20b0 : decide (x10_4 < (l0_1.length : Int)) = true := decide_eq_true c20; clear c20
             by_cases c21 : 0 ≤ x10_4
             ·rw [if_pos c21] at H; have c21b0 : decide (0 ≤ x10_4) = true := decide_eq_true c21; clear c21
              by_cases c22 : ((rd_T62 l0_1 x10_4).f0) = x8_2
              ·rw [if_pos c22] at H; have c22b0 : (((rd_T62 l0_1 x10_4).f0) == x8_2) = true := beq_iff_eq.mpr c22; have c22b1 : (((rd_T62 l0_1 x10_4).f0) != x8_2) = false := bne_eq_false_iff_eq.mpr c22; clear c22; have H' := Aside0.mk H; clear H; have hcz23_0 : wr.cell? ⟨gb502, 0, none⟩ = some (.int .i64 a0_0) := bc BK502 0; have hcz23_1 : wr.cell? ⟨gb502, 1, none⟩ = some (.slice A0_1 l0_1.length c0_1) := bc BK502 1; have hfz23_0 := blk_frozen BK502.out 0; have hfz23_1 := blk_frozen BK502.out 1; have p508 : 0 ≤ (x10_4 : Int) := of_decide_eq_true (by first | (with_reducible assumption) | assumption); have q508 : x10_4 < (l0_1.length : Int) := of_decide_eq_true (by first | (with_reducible assumption) | assumption); obtain ⟨ad508, e508, hx508_0, hx508_1⟩ := at_T62 HR0_1.out x10_4 p508 q508
               cases e508
               replace hx508_0 := (HB.out.cell (World.block_lt_of_cell? w _ hx508_0)).trans hx508_0; replace hx508_1 := (HB.out.cell (World.block_lt_of_cell? w _ hx508_1)).trans hx508_1; replace p508 := eq_true p508; replace q508 := eq_true q508
               try go_wp2_with (first | ((with_reducible refine gate_dst (N := 11) rfl ?_); refine be_ 11 #[.int .i64 0, .int .i64 0] 62 ?_; intro gb509 hg w24 hbox hb; have BK509 := Aside0.mk (hbox); have GW509 := wq (hb1 HB GE502) hg; have GE509 := wq (hb1 HB GE502) hg; replace HB := hs (hb1 HB GE502) hb; have NB502_509 := lx BK502 hg; have NB509_502 := gx BK502 hg; replace BK502 := kx BK502 hb; clear hb hbox hg; have hnb25 := NB509_502.out; have hnc25 := NB502_509.out; have hcz26_0 : w24.cell? ⟨gb509, 0, none⟩ = some (.int .i64 0) := bc BK509 0; have hcz26_1 : w24.cell? ⟨gb509, 1, none⟩ = some (.int .i64 0) := bc BK509 1; have hfz26_0 := blk_frozen BK509.out 0; have hfz26_1 := blk_frozen BK509.out 1))
               have n0_ : Aside0 (((w24.setCell ⟨gb509, 0, none⟩ (.int .i64 ((rd_T62 l0_1 x10_4).f0))).setCell ⟨gb509, 1, none⟩ (.int .i64 ((rd_T62 l0_1 x10_4).f1))).heap[gb502]? = some (.cells #[.int .i64 a0_0, .slice (some ad508) l0_1.length c0_1] 31 (0, 0))) := ⟨bx1 BK502 NB502_509⟩; have n1_ : Aside0 (((w24.setCell ⟨gb509, 0, none⟩ (.int .i64 ((rd_T62 l0_1 x10_4).f0))).setCell ⟨gb509, 1, none⟩ (.int .i64 ((rd_T62 l0_1 x10_4).f1))).heap[gb509]? = some (.cells #[.int .i64 ((rd_T62 l0_1 x10_4).f0), .int .i64 ((rd_T62 l0_1 x10_4).f1)] 62 (0, 0))) := ⟨bp BK509⟩; have n2_ : Aside0 (Below w.heap.size w ((w24.setCell ⟨gb509, 0, none⟩ (.int .i64 ((rd_T62 l0_1 x10_4).f0))).setCell ⟨gb509, 1, none⟩ (.int .i64 ((rd_T62 l0_1 x10_4).f1)))) := ⟨hb2 HB GE502 GE509⟩
               (try clear BK502)
               (try clear BK509)
               (try clear HB)
               generalize ((w24.setCell ⟨gb509, 0, none⟩ (.int .i64 ((rd_T62 l0_1 x10_4).f0))).setCell ⟨gb509, 1, none⟩ (.int .i64 ((rd_T62 l0_1 x10_4).f1))) = w27 at n0_ n1_ n2_ ⊢; have BK502 := n0_; have BK509 := n1_; have HB := n2_; clear n0_ n1_ n2_; replace BK502 := bd BK502; replace BK509 := bd BK509; replace HB := Aside0.mk (below_drew1 HB.out); refine start_ (n := 27) (S := fun w' => w'.cell? ⟨gb509, 0, none⟩ = some (.int .i64 ((rd_T62 l0_1 x10_4).f0)) ∧ w'.cell? ⟨gb509, 1, none⟩ = some (.int .i64 ((rd_T62 l0_1 x10_4).f1))) (ds := []) (pf 0 27) (by kernel_rfl) rfl rfl ⟨bc BK509 0, bc BK509 1⟩ (fun hHeld => ?_); refine with_tabW tangramref26_Proper.tab16 tangramref26_Proper.bits16 (fun HT_ HW_ => ?_); generalize w27.drew = w28 at BK502 BK509 HB hHeld ⊢; refine pu_ 0 (some 57) (pf 1 27) HT_ ?_; refine pu_ 2 (some 59) #[T_,F_,T_,F_,F_,F_,F_,F_,F_,F_,F_,F_,F_,F_,F_,F_,F_,F_,F_,F_,F_,F_,F_,F_,F_,F_,F_] HT_ ?_; refine tk2_ 1 (some 58) (pf 3 27) HT_ HW_ hHeld ?_; refine pu_ 3 (some 60) (pf 4 27) HT_ ?_; refine pu_ 4 (some 61) (pf 5 27) HT_ ?_; refine pn_ 5 (some 62) (pf 6 27) HT_ ?_
               refine pn_ 6 (some 63) (pf 7 27) HT_ ?_; refine pn_ 7 (some 64) (pf 8 27) HT_ ?_; refine pn_ 8 (some 65) (pf 9 27) HT_ ?_; refine pu_ 9 (some 66) (pf 10 27) HT_ ?_; refine pu_ 10 (some 67) (pf 11 27) HT_ ?_; refine pn_ 11 (some 68) (pf 12 27) HT_ ?_; refine pn_ 12 (some 69) (pf 13 27) HT_ ?_; refine pn_ 13 (some 70) (pf 14 27) HT_ ?_; refine pn_ 14 (some 71) (pf 15 27) HT_ ?_; refine pn_ 15 (some 72) (pf 16 27) HT_ ?_; refine pn_ 16 (some 73) (pf 17 27) HT_ ?_; refine pn_ 17 (some 74) (pf 18 27) HT_ ?_; refine pn_ 18 (some 75) (pf 19 27) HT_ ?_
               refine pn_ 19 (some 76) (pf 20 27) HT_ ?_; refine pn_ 20 (some 77) (pf 21 27) HT_ ?_; refine pn_ 21 (some 78) (pf 22 27) HT_ ?_; refine pn_ 22 (some 79) (pf 23 27) HT_ ?_; refine pn_ 23 (some 80) (pf 24 27) HT_ ?_; refine pn_ 24 (some 81) (pf 25 27) HT_ ?_; refine pn_ 25 (some 82) (pf 26 27) HT_ ?_; refine pu_ 26 (some 83) (pf 27 27) HT_ ?_; refine done_ (done_of HT_.out (by kernel_rfl)) ?_
               try go_wp2
               go_roundg k4
               case measure => have := HJ3.out; have := HK2.out; have := HK3.out; have := HK4.out; omega
               case rel => exact ⟨(wrap64 (x10_4 + 1)), (by first | rfl | (simp; done) | (simp [*]; done)), H', ⟨by have := HJ3.out; have := HK2.out; have := HK3.out; have := HK4.out; omega⟩, ⟨bx BK502⟩, ⟨hb2 HB GE502 GE509⟩⟩
              ·rw [if_neg c22] at H; have c22b0 : (((rd_T62 l0_1 x10_4).f0) == x8_2) = false := beq_eq_false_iff_ne.mpr c22; have c22b1 : (((rd_T62 l0_1 x10_4).f0) != x8_2) = true := bne_iff_ne.mpr c22
               by_cases c29 : ((rd_T62 l0_1 x10_4).f1) = x8_2
               ·rw [if_pos c29] at H; have c29b0 : (((rd_T62 l0_1 x10_4).f1) == x8_2) = true := beq_iff_eq.mpr c29; have c29b1 : (((rd_T62 l0_1 x10_4).f1) != x8_2) = false := bne_eq_false_iff_eq.mpr c29; clear c29; have H' := Aside0.mk H; clear H; have hcz30_0 : wr.cell? ⟨gb502, 0, none⟩ = some (.int .i64 a0_0) := bc BK502 0; have hcz30_1 : wr.cell? ⟨gb502, 1, none⟩ = some (.slice A0_1 l0_1.length c0_1) := bc BK502 1; have hfz30_0 := blk_frozen BK502.out 0; have hfz30_1 := blk_frozen BK502.out 1; have p508 : 0 ≤ (x10_4 : Int) := of_decide_eq_true (by first | (with_reducible assumption) | assumption); have q508 : x10_4 < (l0_1.length : Int) := of_decide_eq_true (by first | (with_reducible assumption) | assumption); obtain ⟨ad508, e508, hx508_0, hx508_1⟩ := at_T62 HR0_1.out x10_4 p508 q508
                cases e508
                replace hx508_0 := (HB.out.cell (World.block_lt_of_cell? w _ hx508_0)).trans hx508_0; replace hx508_1 := (HB.out.cell (World.block_lt_of_cell? w _ hx508_1)).trans hx508_1; replace p508 := eq_true p508; replace q508 := eq_true q508
                try go_wp2_with (first | ((with_reducible refine gate_dst (N := 11) rfl ?_); refine be_ 11 #[.int .i64 0, .int .i64 0] 62 ?_; intro gb509 hg w31 hbox hb; have BK509 := Aside0.mk (hbox); have GW509 := wq (hb1 HB GE502) hg; have GE509 := wq (hb1 HB GE502) hg; replace HB := hs (hb1 HB GE502) hb; have NB502_509 := lx BK502 hg; have NB509_502 := gx BK502 hg; replace BK502 := kx BK502 hb; clear hb hbox hg; have hnb32 := NB509_502.out; have hnc32 := NB502_509.out; have hcz33_0 : w31.cell? ⟨gb509, 0, none⟩ = some (.int .i64 0) := bc BK509 0; have hcz33_1 : w31.cell? ⟨gb509, 1, none⟩ = some (.int .i64 0) := bc BK509 1; have hfz33_0 := blk_frozen BK509.out 0; have hfz33_1 := blk_frozen BK509.out 1))
                have n0_ : Aside0 (((w31.setCell ⟨gb509, 0, none⟩ (.int .i64 ((rd_T62 l0_1 x10_4).f0))).setCell ⟨gb509, 1, none⟩ (.int .i64 ((rd_T62 l0_1 x10_4).f1))).heap[gb502]? = some (.cells #[.int .i64 a0_0, .slice (some ad508) l0_1.length c0_1] 31 (0, 0))) := ⟨bx1 BK502 NB502_509⟩; have n1_ : Aside0 (((w31.setCell ⟨gb509, 0, none⟩ (.int .i64 ((rd_T62 l0_1 x10_4).f0))).setCell ⟨gb509, 1, none⟩ (.int .i64 ((rd_T62 l0_1 x10_4).f1))).heap[gb509]? = some (.cells #[.int .i64 ((rd_T62 l0_1 x10_4).f0), .int .i64 ((rd_T62 l0_1 x10_4).f1)] 62 (0, 0))) := ⟨bp BK509⟩; have n2_ : Aside0 (Below w.heap.size w ((w31.setCell ⟨gb509, 0, none⟩ (.int .i64 ((rd_T62 l0_1 x10_4).f0))).setCell ⟨gb509, 1, none⟩ (.int .i64 ((rd_T62 l0_1 x10_4).f1)))) := ⟨hb2 HB GE502 GE509⟩
                (try clear BK502)
                (try clear BK509)
                (try clear HB)
                generalize ((w31.setCell ⟨gb509, 0, none⟩ (.int .i64 ((rd_T62 l0_1 x10_4).f0))).setCell ⟨gb509, 1, none⟩ (.int .i64 ((rd_T62 l0_1 x10_4).f1))) = w34 at n0_ n1_ n2_ ⊢; have BK502 := n0_; have BK509 := n1_; have HB := n2_; clear n0_ n1_ n2_; replace BK502 := bd BK502; replace BK509 := bd BK509; replace HB := Aside0.mk (below_drew1 HB.out); refine start_ (n := 27) (S := fun w' => w'.cell? ⟨gb509, 0, none⟩ = some (.int .i64 ((rd_T62 l0_1 x10_4).f0)) ∧ w'.cell? ⟨gb509, 1, none⟩ = some (.int .i64 ((rd_T62 l0_1 x10_4).f1))) (ds := []) (pf 0 27) (by kernel_rfl) rfl rfl ⟨bc BK509 0, bc BK509 1⟩ (fun hHeld => ?_); refine with_tabW tangramref26_Proper.tab16 tangramref26_Proper.bits16 (fun HT_ HW_ => ?_); generalize w34.drew = w35 at BK502 BK509 HB hHeld ⊢; refine pu_ 0 (some 57) (pf 1 27) HT_ ?_; refine pu_ 2 (some 59) #[T_,F_,T_,F_,F_,F_,F_,F_,F_,F_,F_,F_,F_,F_,F_,F_,F_,F_,F_,F_,F_,F_,F_,F_,F_,F_,F_] HT_ ?_; refine tk2_ 1 (some 58) (pf 3 27) HT_ HW_ hHeld ?_; refine pu_ 3 (some 60) (pf 4 27) HT_ ?_; refine pu_ 4 (some 61) (pf 5 27) HT_ ?_; refine pu_ 5 (some 62) (pf 6 27) HT_ ?_
                refine pu_ 7 (some 64) #[T_,T_,T_,T_,T_,T_,F_,T_,F_,F_,F_,F_,F_,F_,F_,F_,F_,F_,F_,F_,F_,F_,F_,F_,F_,F_,F_] HT_ ?_; refine tk2_ 6 (some 63) (pf 8 27) HT_ HW_ hHeld ?_; refine pu_ 8 (some 65) (pf 9 27) HT_ ?_; refine pu_ 9 (some 66) (pf 10 27) HT_ ?_; refine pu_ 10 (some 67) (pf 11 27) HT_ ?_; refine pn_ 11 (some 68) (pf 12 27) HT_ ?_; refine pn_ 12 (some 69) (pf 13 27) HT_ ?_; refine pn_ 13 (some 70) (pf 14 27) HT_ ?_; refine pn_ 14 (some 71) (pf 15 27) HT_ ?_; refine pn_ 15 (some 72) (pf 16 27) HT_ ?_; refine pn_ 16 (some 73) (pf 17 27) HT_ ?_; refine pn_ 17 (some 74) (pf 18 27) HT_ ?_; refine pn_ 18 (some 75) (pf 19 27) HT_ ?_
                refine pn_ 19 (some 76) (pf 20 27) HT_ ?_; refine pn_ 20 (some 77) (pf 21 27) HT_ ?_; refine pn_ 21 (some 78) (pf 22 27) HT_ ?_; refine pn_ 22 (some 79) (pf 23 27) HT_ ?_; refine pn_ 23 (some 80) (pf 24 27) HT_ ?_; refine pn_ 24 (some 81) (pf 25 27) HT_ ?_; refine pn_ 25 (some 82) (pf 26 27) HT_ ?_; refine pu_ 26 (some 83) (pf 27 27) HT_ ?_; refine done_ (done_of HT_.out (by kernel_rfl)) ?_
                try go_wp2
                go_roundg k4
                case measure => have := HJ3.out; have := HK2.out; have := HK3.out; have := HK4.out; omega
                case rel => exact ⟨(wrap64 (x10_4 + 1)), (by first | rfl | (simp; done) | (simp [*]; done)), H', ⟨by have := HJ3.out; have := HK2.out; have := HK3.out; have := HK4.out; omega⟩, ⟨bx BK502⟩, ⟨hb2 HB GE502 GE509⟩⟩
               ·rw [if_neg c29] at H; have c29b0 : (((rd_T62 l0_1 x10_4).f1) == x8_2) = false := beq_eq_false_iff_ne.mpr c29; have c29b1 : (((rd_T62 l0_1 x10_4).f1) != x8_2) = true := bne_iff_ne.mpr c29
                by_cases c36 : 0 ≤ ((rd_T62 l0_1 x10_4).f0)
                ·rw [if_pos c36] at H; have c36b0 : decide (0 ≤ ((rd_T62 l0_1 x10_4).f0)) = true := decide_eq_true c36; clear c36
                 by_cases c37 : ((rd_T62 l0_1 x10_4).f0) < (l1.length : Int)
                 ·rw [if_pos c37] at H; have c37b0 : decide (((rd_T62 l0_1 x10_4).f0) < (l1.length : Int)) = true := decide_eq_true c37; clear c37
                  by_cases c38 : 0 ≤ ((rd_T62 l0_1 x10_4).f1)
                  ·rw [if_pos c38] at H; have c38b0 : decide (0 ≤ ((rd_T62 l0_1 x10_4).f1)) = true := decide_eq_true c38; clear c38
                   by_cases c39 : ((rd_T62 l0_1 x10_4).f1) < (l1.length : Int)
                   ·rw [if_pos c39] at H; have c39b0 : decide (((rd_T62 l0_1 x10_4).f1) < (l1.length : Int)) = true := decide_eq_true c39; clear c39
                    by_cases c40 : 0 ≤ x8_2
                    ·rw [if_pos c40] at H; have c40b0 : decide (0 ≤ x8_2) = true := decide_eq_true c40; clear c40
                     by_cases c41 : x8_2 < (l1.length : Int)
                     ·rw [if_pos c41] at H; have c41b0 : decide (x8_2 < (l1.length : Int)) = true := decide_eq_true c41; clear c41; replace H := Option.bind_eq_some_iff.mp H; obtain ⟨t513, A420, H⟩ := H; (try dsimp only at H); have A42 := Aside0.mk A420; clear A420
                      by_cases c43 : t513 = true
                      ·subst c43; rw [if_pos rfl] at H; obtain rfl := Option.some.inj H; have hcz44_0 : wr.cell? ⟨gb502, 0, none⟩ = some (.int .i64 a0_0) := bc BK502 0; have hcz44_1 : wr.cell? ⟨gb502, 1, none⟩ = some (.slice A0_1 l0_1.length c0_1) := bc BK502 1; have hfz44_0 := blk_frozen BK502.out 0; have hfz44_1 := blk_frozen BK502.out 1; have p508 : 0 ≤ (x10_4 : Int) := of_decide_eq_true (by first | (with_reducible assumption) | assumption); have q508 : x10_4 < (l0_1.length : Int) := of_decide_eq_true (by first | (with_reducible assumption) | assumption); obtain ⟨ad508, e508, hx508_0, hx508_1⟩ := at_T62 HR0_1.out x10_4 p508 q508
                       cases e508
                       replace hx508_0 := (HB.out.cell (World.block_lt_of_cell? w _ hx508_0)).trans hx508_0; replace hx508_1 := (HB.out.cell (World.block_lt_of_cell? w _ hx508_1)).trans hx508_1; replace p508 := eq_true p508; replace q508 := eq_true q508
                       try go_wp2_with (first | ((with_reducible refine gate_dst (N := 11) rfl ?_); refine be_ 11 #[.int .i64 0, .int .i64 0] 62 ?_; intro gb509 hg w45 hbox hb; have BK509 := Aside0.mk (hbox); have GW509 := wq (hb1 HB GE502) hg; have GE509 := wq (hb1 HB GE502) hg; replace HB := hs (hb1 HB GE502) hb; have NB502_509 := lx BK502 hg; have NB509_502 := gx BK502 hg; replace BK502 := kx BK502 hb; clear hb hbox hg; have hnb46 := NB509_502.out; have hnc46 := NB502_509.out; have hcz47_0 : w45.cell? ⟨gb509, 0, none⟩ = some (.int .i64 0) := bc BK509 0; have hcz47_1 : w45.cell? ⟨gb509, 1, none⟩ = some (.int .i64 0) := bc BK509 1; have hfz47_0 := blk_frozen BK509.out 0; have hfz47_1 := blk_frozen BK509.out 1))
                       have n0_ : Aside0 (((w45.setCell ⟨gb509, 0, none⟩ (.int .i64 ((rd_T62 l0_1 x10_4).f0))).setCell ⟨gb509, 1, none⟩ (.int .i64 ((rd_T62 l0_1 x10_4).f1))).heap[gb502]? = some (.cells #[.int .i64 a0_0, .slice (some ad508) l0_1.length c0_1] 31 (0, 0))) := ⟨bx1 BK502 NB502_509⟩; have n1_ : Aside0 (((w45.setCell ⟨gb509, 0, none⟩ (.int .i64 ((rd_T62 l0_1 x10_4).f0))).setCell ⟨gb509, 1, none⟩ (.int .i64 ((rd_T62 l0_1 x10_4).f1))).heap[gb509]? = some (.cells #[.int .i64 ((rd_T62 l0_1 x10_4).f0), .int .i64 ((rd_T62 l0_1 x10_4).f1)] 62 (0, 0))) := ⟨bp BK509⟩; have n2_ : Aside0 (Below w.heap.size w ((w45.setCell ⟨gb509, 0, none⟩ (.int .i64 ((rd_T62 l0_1 x10_4).f0))).setCell ⟨gb509, 1, none⟩ (.int .i64 ((rd_T62 l0_1 x10_4).f1)))) := ⟨hb2 HB GE502 GE509⟩
                       (try clear BK502)
                       (try clear BK509)
                       (try clear HB)
                       generalize ((w45.setCell ⟨gb509, 0, none⟩ (.int .i64 ((rd_T62 l0_1 x10_4).f0))).setCell ⟨gb509, 1, none⟩ (.int .i64 ((rd_T62 l0_1 x10_4).f1))) = w48 at n0_ n1_ n2_ ⊢; have BK502 := n0_; have BK509 := n1_; have HB := n2_; clear n0_ n1_ n2_; replace BK502 := bd BK502; replace BK509 := bd BK509; replace HB := Aside0.mk (below_drew1 HB.out); have p510 : 0 ≤ (((rd_T62 l0_1 x10_4).f0) : Int) := of_decide_eq_true (by first | (with_reducible assumption) | assumption); have q510 : ((rd_T62 l0_1 x10_4).f0) < (l1.length : Int) := of_decide_eq_true (by first | (with_reducible assumption) | assumption); obtain ⟨ad510, e510, hx510_0, hx510_1⟩ := at_T23 HR1.out ((rd_T62 l0_1 x10_4).f0) p510 q510; have hw510_1 := hx510_1; have hw510_0 := hx510_0
                       cases e510
                       replace hx510_0 := (HB.out.cell (World.block_lt_of_cell? w _ hx510_0)).trans hx510_0; replace hx510_1 := (HB.out.cell (World.block_lt_of_cell? w _ hx510_1)).trans hx510_1; replace p510 := eq_true p510; replace q510 := eq_true q510; have p511 : 0 ≤ (((rd_T62 l0_1 x10_4).f1) : Int) := of_decide_eq_true (by first | (with_reducible assumption) | assumption); have q511 : ((rd_T62 l0_1 x10_4).f1) < (l1.length : Int) := of_decide_eq_true (by first | (with_reducible assumption) | assumption); obtain ⟨ad511, e511, hx511_0, hx511_1⟩ := at_T23 HR1.out ((rd_T62 l0_1 x10_4).f1) p511 q511; have hw511_1 := hx511_1; have hw511_0 := hx511_0; obtain rfl : ad510 = ad511 := (by injection e511); replace hx511_0 := (HB.out.cell (World.block_lt_of_cell? w _ hx511_0)).trans hx511_0; replace hx511_1 := (HB.out.cell (World.block_lt_of_cell? w _ hx511_1)).trans hx511_1; replace p511 := eq_true p511; replace q511 := eq_true q511; have p512 : 0 ≤ (x8_2 : Int) := of_decide_eq_true (by first | (with_reducible assumption) | assumption); have q512 : x8_2 < (l1.length : Int) := of_decide_eq_true (by first | (with_reducible assumption) | assumption); obtain ⟨ad512, e512, hx512_0, hx512_1⟩ := at_T23 HR1.out x8_2 p512 q512; have hw512_1 := hx512_1; have hw512_0 := hx512_0; obtain rfl : ad510 = ad512 := (by injection e512); replace hx512_0 := (HB.out.cell (World.block_lt_of_cell? w _ hx512_0)).trans hx512_0; replace hx512_1 := (HB.out.cell (World.block_lt_of_cell? w _ hx512_1)).trans hx512_1
                       replace p512 := eq_true p512; replace q512 := eq_true q512; refine start_ (n := 27) (S := fun w' => w'.cell? ⟨gb509, 0, none⟩ = some (.int .i64 ((rd_T62 l0_1 x10_4).f0)) ∧ w'.cell? ⟨gb509, 1, none⟩ = some (.int .i64 ((rd_T62 l0_1 x10_4).f1)) ∧ w'.cell? (ad510.add ((((rd_T62 l0_1 x10_4).f0)).toNat * 2)) = some (.int .i64 ((rd_T23 l1 ((rd_T62 l0_1 x10_4).f0)).f0)) ∧ w'.cell? ⟨(ad510.add ((((rd_T62 l0_1 x10_4).f0)).toNat * 2)).block, (ad510.add ((((rd_T62 l0_1 x10_4).f0)).toNat * 2)).off + 1, none⟩ = some (.int .i64 ((rd_T23 l1 ((rd_T62 l0_1 x10_4).f0)).f1)) ∧ w'.cell? (ad510.add ((((rd_T62 l0_1 x10_4).f1)).toNat * 2)) = some (.int .i64 ((rd_T23 l1 ((rd_T62 l0_1 x10_4).f1)).f0)) ∧ w'.cell? ⟨(ad510.add ((((rd_T62 l0_1 x10_4).f1)).toNat * 2)).block, (ad510.add ((((rd_T62 l0_1 x10_4).f1)).toNat * 2)).off + 1, none⟩ = some (.int .i64 ((rd_T23 l1 ((rd_T62 l0_1 x10_4).f1)).f1)) ∧ w'.cell? (ad510.add ((x8_2).toNat * 2)) = some (.int .i64 ((rd_T23 l1 x8_2).f0)) ∧ w'.cell? ⟨(ad510.add ((x8_2).toNat * 2)).block, (ad510.add ((x8_2).toNat * 2)).off + 1, none⟩ = some (.int .i64 ((rd_T23 l1 x8_2).f1))) (ds := []) (pf 0 27) (by kernel_rfl) rfl rfl ⟨bc BK509 0, bc BK509 1, ((HB.out.cell (World.block_lt_of_cell? w _ hw510_0)).trans hw510_0), ((HB.out.cell (World.block_lt_of_cell? w _ hw510_1)).trans hw510_1), ((HB.out.cell (World.block_lt_of_cell? w _ hw511_0)).trans hw511_0), ((HB.out.cell (World.block_lt_of_cell? w _ hw511_1)).trans hw511_1), ((HB.out.cell (World.block_lt_of_cell? w _ hw512_0)).trans hw512_0), ((HB.out.cell (World.block_lt_of_cell? w _ hw512_1)).trans hw512_1)⟩ (fun hHeld => ?_); refine with_tabW tangramref26_Proper.tab16 tangramref26_Proper.bits16 (fun HT_ HW_ => ?_)
                       generalize w48.drew = w49 at BK502 BK509 HB hx510_0 hx510_1 hx511_0 hx511_1 hx512_0 hx512_1 hHeld ⊢; refine pu_ 0 (some 57) (pf 1 27) HT_ ?_; refine pu_ 2 (some 59) #[T_,F_,T_,F_,F_,F_,F_,F_,F_,F_,F_,F_,F_,F_,F_,F_,F_,F_,F_,F_,F_,F_,F_,F_,F_,F_,F_] HT_ ?_; refine tk8_ 1 (some 58) (pf 3 27) HT_ HW_ hHeld ?_; refine pu_ 3 (some 60) (pf 4 27) HT_ ?_; refine pu_ 4 (some 61) (pf 5 27) HT_ ?_; refine pu_ 5 (some 62) (pf 6 27) HT_ ?_; refine pu_ 7 (some 64) #[T_,T_,T_,T_,T_,T_,F_,T_,F_,F_,F_,F_,F_,F_,F_,F_,F_,F_,F_,F_,F_,F_,F_,F_,F_,F_,F_] HT_ ?_; refine tk8_ 6 (some 63) (pf 8 27) HT_ HW_ hHeld ?_; refine pu_ 8 (some 65) (pf 9 27) HT_ ?_; refine pu_ 9 (some 66) (pf 10 27) HT_ ?_; refine pu_ 10 (some 67) (pf 11 27) HT_ ?_; refine pu_ 11 (some 68) (pf 12 27) HT_ ?_
                       refine pu_ 12 (some 69) (pf 13 27) HT_ ?_; refine pu_ 16 (some 73) #[T_,T_,T_,T_,T_,T_,T_,T_,T_,T_,T_,T_,T_,F_,F_,F_,T_,F_,F_,F_,F_,F_,F_,F_,F_,F_,F_] HT_ ?_; refine pu_ 17 (some 74) #[T_,T_,T_,T_,T_,T_,T_,T_,T_,T_,T_,T_,T_,F_,F_,F_,T_,T_,F_,F_,F_,F_,F_,F_,F_,F_,F_] HT_ ?_; refine pu_ 21 (some 78) #[T_,T_,T_,T_,T_,T_,T_,T_,T_,T_,T_,T_,T_,F_,F_,F_,T_,T_,F_,F_,F_,T_,F_,F_,F_,F_,F_] HT_ ?_; refine pu_ 22 (some 79) #[T_,T_,T_,T_,T_,T_,T_,T_,T_,T_,T_,T_,T_,F_,F_,F_,T_,T_,F_,F_,F_,T_,T_,F_,F_,F_,F_] HT_ ?_; refine pu_ 23 (some 80) #[T_,T_,T_,T_,T_,T_,T_,T_,T_,T_,T_,T_,T_,F_,F_,F_,T_,T_,F_,F_,F_,T_,T_,T_,F_,F_,F_] HT_ ?_; refine tk8_ 13 (some 70) #[T_,T_,T_,T_,T_,T_,T_,T_,T_,T_,T_,T_,T_,T_,F_,F_,T_,T_,F_,F_,F_,T_,T_,T_,F_,F_,F_] HT_ HW_ hHeld ?_; refine pu_ 14 (some 71) #[T_,T_,T_,T_,T_,T_,T_,T_,T_,T_,T_,T_,T_,T_,T_,F_,T_,T_,F_,F_,F_,T_,T_,T_,F_,F_,F_] HT_ ?_; refine tk8_ 15 (some 72) #[T_,T_,T_,T_,T_,T_,T_,T_,T_,T_,T_,T_,T_,T_,T_,T_,T_,T_,F_,F_,F_,T_,T_,T_,F_,F_,F_] HT_ HW_ hHeld ?_; refine tk8_ 18 (some 75) #[T_,T_,T_,T_,T_,T_,T_,T_,T_,T_,T_,T_,T_,T_,T_,T_,T_,T_,T_,F_,F_,T_,T_,T_,F_,F_,F_] HT_ HW_ hHeld ?_; refine pu_ 19 (some 76) #[T_,T_,T_,T_,T_,T_,T_,T_,T_,T_,T_,T_,T_,T_,T_,T_,T_,T_,T_,T_,F_,T_,T_,T_,F_,F_,F_] HT_ ?_; refine tk8_ 20 (some 77) (pf 24 27) HT_ HW_ hHeld ?_; refine tk8_ 24 (some 81) (pf 25 27) HT_ HW_ hHeld ?_
                       refine on_ 25 (some 82) (pf 26 27) HT_ (fun K hK => ?_); refine gs_ Try.func15 #[.agg #[.int .i64 ((rd_T23 l1 ((rd_T62 l0_1 x10_4).f0)).f0), .int .i64 ((rd_T23 l1 ((rd_T62 l0_1 x10_4).f0)).f1)], .agg #[.int .i64 ((rd_T23 l1 ((rd_T62 l0_1 x10_4).f1)).f0), .int .i64 ((rd_T23 l1 ((rd_T62 l0_1 x10_4).f1)).f1)], .agg #[.int .i64 ((rd_T23 l1 x8_2).f0), .int .i64 ((rd_T23 l1 x8_2).f1)]] ?_
                       with_reducible refine (tangramref26_On.calls k4 ((rd_T23 l1 ((rd_T62 l0_1 x10_4).f0)).f0) ((rd_T23 l1 ((rd_T62 l0_1 x10_4).f0)).f1) ((rd_T23 l1 ((rd_T62 l0_1 x10_4).f1)).f0) ((rd_T23 l1 ((rd_T62 l0_1 x10_4).f1)).f1) ((rd_T23 l1 x8_2).f0) ((rd_T23 l1 x8_2).f1) true _ A42.out).mono ?_
                       rintro e w50 ⟨rfl, hb⟩; refine ⟨_, rfl, ?_⟩; replace BK502 := kx BK502 hb; replace BK509 := kx BK509 hb; replace HB := hs (hb2 HB GE502 GE509) hb
                       (try clear hb)
                       (try clear hk)
                       (try clear hi)
                       refine hK.out _ _ ⟨bc BK509 0, bc BK509 1, ((HB.out.cell (World.block_lt_of_cell? w _ hw510_0)).trans hw510_0), ((HB.out.cell (World.block_lt_of_cell? w _ hw510_1)).trans hw510_1), ((HB.out.cell (World.block_lt_of_cell? w _ hw511_0)).trans hw511_0), ((HB.out.cell (World.block_lt_of_cell? w _ hw511_1)).trans hw511_1), ((HB.out.cell (World.block_lt_of_cell? w _ hw512_0)).trans hw512_0), ((HB.out.cell (World.block_lt_of_cell? w _ hw512_1)).trans hw512_1)⟩ (fun hHeld => ?_); clear hK K; refine nm_ (some 82) ?_; refine pu_ 26 (some 83) (pf 27 27) HT_ ?_; refine done_ (done_of HT_.out (by kernel_rfl)) ?_
                       try go_wp2
                       go_ret
                       exact ⟨by rfl, hb2 HB GE502 GE509⟩
                      ·replace c43 := Bool.eq_false_iff.mpr c43; subst c43; rw [if_neg (show ¬ (false = true) by decide)] at H; have H' := Aside0.mk H; clear H; have hcz51_0 : wr.cell? ⟨gb502, 0, none⟩ = some (.int .i64 a0_0) := bc BK502 0; have hcz51_1 : wr.cell? ⟨gb502, 1, none⟩ = some (.slice A0_1 l0_1.length c0_1) := bc BK502 1; have hfz51_0 := blk_frozen BK502.out 0; have hfz51_1 := blk_frozen BK502.out 1; have p508 : 0 ≤ (x10_4 : Int) := of_decide_eq_true (by first | (with_reducible assumption) | assumption); have q508 : x10_4 < (l0_1.length : Int) := of_decide_eq_true (by first | (with_reducible assumption) | assumption); obtain ⟨ad508, e508, hx508_0, hx508_1⟩ := at_T62 HR0_1.out x10_4 p508 q508
                       cases e508
                       replace hx508_0 := (HB.out.cell (World.block_lt_of_cell? w _ hx508_0)).trans hx508_0; replace hx508_1 := (HB.out.cell (World.block_lt_of_cell? w _ hx508_1)).trans hx508_1; replace p508 := eq_true p508; replace q508 := eq_true q508
                       try go_wp2_with (first | ((with_reducible refine gate_dst (N := 11) rfl ?_); refine be_ 11 #[.int .i64 0, .int .i64 0] 62 ?_; intro gb509 hg w52 hbox hb; have BK509 := Aside0.mk (hbox); have GW509 := wq (hb1 HB GE502) hg; have GE509 := wq (hb1 HB GE502) hg; replace HB := hs (hb1 HB GE502) hb; have NB502_509 := lx BK502 hg; have NB509_502 := gx BK502 hg; replace BK502 := kx BK502 hb; clear hb hbox hg; have hnb53 := NB509_502.out; have hnc53 := NB502_509.out; have hcz54_0 : w52.cell? ⟨gb509, 0, none⟩ = some (.int .i64 0) := bc BK509 0; have hcz54_1 : w52.cell? ⟨gb509, 1, none⟩ = some (.int .i64 0) := bc BK509 1; have hfz54_0 := blk_frozen BK509.out 0; have hfz54_1 := blk_frozen BK509.out 1))
                       have n0_ : Aside0 (((w52.setCell ⟨gb509, 0, none⟩ (.int .i64 ((rd_T62 l0_1 x10_4).f0))).setCell ⟨gb509, 1, none⟩ (.int .i64 ((rd_T62 l0_1 x10_4).f1))).heap[gb502]? = some (.cells #[.int .i64 a0_0, .slice (some ad508) l0_1.length c0_1] 31 (0, 0))) := ⟨bx1 BK502 NB502_509⟩; have n1_ : Aside0 (((w52.setCell ⟨gb509, 0, none⟩ (.int .i64 ((rd_T62 l0_1 x10_4).f0))).setCell ⟨gb509, 1, none⟩ (.int .i64 ((rd_T62 l0_1 x10_4).f1))).heap[gb509]? = some (.cells #[.int .i64 ((rd_T62 l0_1 x10_4).f0), .int .i64 ((rd_T62 l0_1 x10_4).f1)] 62 (0, 0))) := ⟨bp BK509⟩; have n2_ : Aside0 (Below w.heap.size w ((w52.setCell ⟨gb509, 0, none⟩ (.int .i64 ((rd_T62 l0_1 x10_4).f0))).setCell ⟨gb509, 1, none⟩ (.int .i64 ((rd_T62 l0_1 x10_4).f1)))) := ⟨hb2 HB GE502 GE509⟩
                       (try clear BK502)
                       (try clear BK509)
                       (try clear HB)
                       generalize ((w52.setCell ⟨gb509, 0, none⟩ (.int .i64 ((rd_T62 l0_1 x10_4).f0))).setCell ⟨gb509, 1, none⟩ (.int .i64 ((rd_T62 l0_1 x10_4).f1))) = w55 at n0_ n1_ n2_ ⊢; have BK502 := n0_; have BK509 := n1_; have HB := n2_; clear n0_ n1_ n2_; replace BK502 := bd BK502; replace BK509 := bd BK509; replace HB := Aside0.mk (below_drew1 HB.out); have p510 : 0 ≤ (((rd_T62 l0_1 x10_4).f0) : Int) := of_decide_eq_true (by first | (with_reducible assumption) | assumption); have q510 : ((rd_T62 l0_1 x10_4).f0) < (l1.length : Int) := of_decide_eq_true (by first | (with_reducible assumption) | assumption); obtain ⟨ad510, e510, hx510_0, hx510_1⟩ := at_T23 HR1.out ((rd_T62 l0_1 x10_4).f0) p510 q510; have hw510_1 := hx510_1; have hw510_0 := hx510_0
                       cases e510
                       replace hx510_0 := (HB.out.cell (World.block_lt_of_cell? w _ hx510_0)).trans hx510_0; replace hx510_1 := (HB.out.cell (World.block_lt_of_cell? w _ hx510_1)).trans hx510_1; replace p510 := eq_true p510; replace q510 := eq_true q510; have p511 : 0 ≤ (((rd_T62 l0_1 x10_4).f1) : Int) := of_decide_eq_true (by first | (with_reducible assumption) | assumption); have q511 : ((rd_T62 l0_1 x10_4).f1) < (l1.length : Int) := of_decide_eq_true (by first | (with_reducible assumption) | assumption); obtain ⟨ad511, e511, hx511_0, hx511_1⟩ := at_T23 HR1.out ((rd_T62 l0_1 x10_4).f1) p511 q511; have hw511_1 := hx511_1; have hw511_0 := hx511_0; obtain rfl : ad510 = ad511 := (by injection e511); replace hx511_0 := (HB.out.cell (World.block_lt_of_cell? w _ hx511_0)).trans hx511_0; replace hx511_1 := (HB.out.cell (World.block_lt_of_cell? w _ hx511_1)).trans hx511_1; replace p511 := eq_true p511; replace q511 := eq_true q511; have p512 : 0 ≤ (x8_2 : Int) := of_decide_eq_true (by first | (with_reducible assumption) | assumption); have q512 : x8_2 < (l1.length : Int) := of_decide_eq_true (by first | (with_reducible assumption) | assumption); obtain ⟨ad512, e512, hx512_0, hx512_1⟩ := at_T23 HR1.out x8_2 p512 q512; have hw512_1 := hx512_1; have hw512_0 := hx512_0; obtain rfl : ad510 = ad512 := (by injection e512); replace hx512_0 := (HB.out.cell (World.block_lt_of_cell? w _ hx512_0)).trans hx512_0; replace hx512_1 := (HB.out.cell (World.block_lt_of_cell? w _ hx512_1)).trans hx512_1
                       replace p512 := eq_true p512; replace q512 := eq_true q512; refine start_ (n := 27) (S := fun w' => w'.cell? ⟨gb509, 0, none⟩ = some (.int .i64 ((rd_T62 l0_1 x10_4).f0)) ∧ w'.cell? ⟨gb509, 1, none⟩ = some (.int .i64 ((rd_T62 l0_1 x10_4).f1)) ∧ w'.cell? (ad510.add ((((rd_T62 l0_1 x10_4).f0)).toNat * 2)) = some (.int .i64 ((rd_T23 l1 ((rd_T62 l0_1 x10_4).f0)).f0)) ∧ w'.cell? ⟨(ad510.add ((((rd_T62 l0_1 x10_4).f0)).toNat * 2)).block, (ad510.add ((((rd_T62 l0_1 x10_4).f0)).toNat * 2)).off + 1, none⟩ = some (.int .i64 ((rd_T23 l1 ((rd_T62 l0_1 x10_4).f0)).f1)) ∧ w'.cell? (ad510.add ((((rd_T62 l0_1 x10_4).f1)).toNat * 2)) = some (.int .i64 ((rd_T23 l1 ((rd_T62 l0_1 x10_4).f1)).f0)) ∧ w'.cell? ⟨(ad510.add ((((rd_T62 l0_1 x10_4).f1)).toNat * 2)).block, (ad510.add ((((rd_T62 l0_1 x10_4).f1)).toNat * 2)).off + 1, none⟩ = some (.int .i64 ((rd_T23 l1 ((rd_T62 l0_1 x10_4).f1)).f1)) ∧ w'.cell? (ad510.add ((x8_2).toNat * 2)) = some (.int .i64 ((rd_T23 l1 x8_2).f0)) ∧ w'.cell? ⟨(ad510.add ((x8_2).toNat * 2)).block, (ad510.add ((x8_2).toNat * 2)).off + 1, none⟩ = some (.int .i64 ((rd_T23 l1 x8_2).f1))) (ds := []) (pf 0 27) (by kernel_rfl) rfl rfl ⟨bc BK509 0, bc BK509 1, ((HB.out.cell (World.block_lt_of_cell? w _ hw510_0)).trans hw510_0), ((HB.out.cell (World.block_lt_of_cell? w _ hw510_1)).trans hw510_1), ((HB.out.cell (World.block_lt_of_cell? w _ hw511_0)).trans hw511_0), ((HB.out.cell (World.block_lt_of_cell? w _ hw511_1)).trans hw511_1), ((HB.out.cell (World.block_lt_of_cell? w _ hw512_0)).trans hw512_0), ((HB.out.cell (World.block_lt_of_cell? w _ hw512_1)).trans hw512_1)⟩ (fun hHeld => ?_); refine with_tabW tangramref26_Proper.tab16 tangramref26_Proper.bits16 (fun HT_ HW_ => ?_)
                       generalize w55.drew = w56 at BK502 BK509 HB hx510_0 hx510_1 hx511_0 hx511_1 hx512_0 hx512_1 hHeld ⊢; refine pu_ 0 (some 57) (pf 1 27) HT_ ?_; refine pu_ 2 (some 59) #[T_,F_,T_,F_,F_,F_,F_,F_,F_,F_,F_,F_,F_,F_,F_,F_,F_,F_,F_,F_,F_,F_,F_,F_,F_,F_,F_] HT_ ?_; refine tk8_ 1 (some 58) (pf 3 27) HT_ HW_ hHeld ?_; refine pu_ 3 (some 60) (pf 4 27) HT_ ?_; refine pu_ 4 (some 61) (pf 5 27) HT_ ?_; refine pu_ 5 (some 62) (pf 6 27) HT_ ?_; refine pu_ 7 (some 64) #[T_,T_,T_,T_,T_,T_,F_,T_,F_,F_,F_,F_,F_,F_,F_,F_,F_,F_,F_,F_,F_,F_,F_,F_,F_,F_,F_] HT_ ?_; refine tk8_ 6 (some 63) (pf 8 27) HT_ HW_ hHeld ?_; refine pu_ 8 (some 65) (pf 9 27) HT_ ?_; refine pu_ 9 (some 66) (pf 10 27) HT_ ?_; refine pu_ 10 (some 67) (pf 11 27) HT_ ?_; refine pu_ 11 (some 68) (pf 12 27) HT_ ?_
                       refine pu_ 12 (some 69) (pf 13 27) HT_ ?_; refine pu_ 16 (some 73) #[T_,T_,T_,T_,T_,T_,T_,T_,T_,T_,T_,T_,T_,F_,F_,F_,T_,F_,F_,F_,F_,F_,F_,F_,F_,F_,F_] HT_ ?_; refine pu_ 17 (some 74) #[T_,T_,T_,T_,T_,T_,T_,T_,T_,T_,T_,T_,T_,F_,F_,F_,T_,T_,F_,F_,F_,F_,F_,F_,F_,F_,F_] HT_ ?_; refine pu_ 21 (some 78) #[T_,T_,T_,T_,T_,T_,T_,T_,T_,T_,T_,T_,T_,F_,F_,F_,T_,T_,F_,F_,F_,T_,F_,F_,F_,F_,F_] HT_ ?_; refine pu_ 22 (some 79) #[T_,T_,T_,T_,T_,T_,T_,T_,T_,T_,T_,T_,T_,F_,F_,F_,T_,T_,F_,F_,F_,T_,T_,F_,F_,F_,F_] HT_ ?_; refine pu_ 23 (some 80) #[T_,T_,T_,T_,T_,T_,T_,T_,T_,T_,T_,T_,T_,F_,F_,F_,T_,T_,F_,F_,F_,T_,T_,T_,F_,F_,F_] HT_ ?_; refine tk8_ 13 (some 70) #[T_,T_,T_,T_,T_,T_,T_,T_,T_,T_,T_,T_,T_,T_,F_,F_,T_,T_,F_,F_,F_,T_,T_,T_,F_,F_,F_] HT_ HW_ hHeld ?_; refine pu_ 14 (some 71) #[T_,T_,T_,T_,T_,T_,T_,T_,T_,T_,T_,T_,T_,T_,T_,F_,T_,T_,F_,F_,F_,T_,T_,T_,F_,F_,F_] HT_ ?_; refine tk8_ 15 (some 72) #[T_,T_,T_,T_,T_,T_,T_,T_,T_,T_,T_,T_,T_,T_,T_,T_,T_,T_,F_,F_,F_,T_,T_,T_,F_,F_,F_] HT_ HW_ hHeld ?_; refine tk8_ 18 (some 75) #[T_,T_,T_,T_,T_,T_,T_,T_,T_,T_,T_,T_,T_,T_,T_,T_,T_,T_,T_,F_,F_,T_,T_,T_,F_,F_,F_] HT_ HW_ hHeld ?_; refine pu_ 19 (some 76) #[T_,T_,T_,T_,T_,T_,T_,T_,T_,T_,T_,T_,T_,T_,T_,T_,T_,T_,T_,T_,F_,T_,T_,T_,F_,F_,F_] HT_ ?_; refine tk8_ 20 (some 77) (pf 24 27) HT_ HW_ hHeld ?_; refine tk8_ 24 (some 81) (pf 25 27) HT_ HW_ hHeld ?_
                       refine on_ 25 (some 82) (pf 26 27) HT_ (fun K hK => ?_); refine gs_ Try.func15 #[.agg #[.int .i64 ((rd_T23 l1 ((rd_T62 l0_1 x10_4).f0)).f0), .int .i64 ((rd_T23 l1 ((rd_T62 l0_1 x10_4).f0)).f1)], .agg #[.int .i64 ((rd_T23 l1 ((rd_T62 l0_1 x10_4).f1)).f0), .int .i64 ((rd_T23 l1 ((rd_T62 l0_1 x10_4).f1)).f1)], .agg #[.int .i64 ((rd_T23 l1 x8_2).f0), .int .i64 ((rd_T23 l1 x8_2).f1)]] ?_
                       with_reducible refine (tangramref26_On.calls k4 ((rd_T23 l1 ((rd_T62 l0_1 x10_4).f0)).f0) ((rd_T23 l1 ((rd_T62 l0_1 x10_4).f0)).f1) ((rd_T23 l1 ((rd_T62 l0_1 x10_4).f1)).f0) ((rd_T23 l1 ((rd_T62 l0_1 x10_4).f1)).f1) ((rd_T23 l1 x8_2).f0) ((rd_T23 l1 x8_2).f1) false _ A42.out).mono ?_
                       rintro e w57 ⟨rfl, hb⟩; refine ⟨_, rfl, ?_⟩; replace BK502 := kx BK502 hb; replace BK509 := kx BK509 hb; replace HB := hs (hb2 HB GE502 GE509) hb
                       (try clear hb)
                       (try clear hk)
                       (try clear hi)
                       refine hK.out _ _ ⟨bc BK509 0, bc BK509 1, ((HB.out.cell (World.block_lt_of_cell? w _ hw510_0)).trans hw510_0), ((HB.out.cell (World.block_lt_of_cell? w _ hw510_1)).trans hw510_1), ((HB.out.cell (World.block_lt_of_cell? w _ hw511_0)).trans hw511_0), ((HB.out.cell (World.block_lt_of_cell? w _ hw511_1)).trans hw511_1), ((HB.out.cell (World.block_lt_of_cell? w _ hw512_0)).trans hw512_0), ((HB.out.cell (World.block_lt_of_cell? w _ hw512_1)).trans hw512_1)⟩ (fun hHeld => ?_); clear hK K; refine nm_ (some 82) ?_; refine pu_ 26 (some 83) (pf 27 27) HT_ ?_; refine done_ (done_of HT_.out (by kernel_rfl)) ?_
                       try go_wp2
                       go_roundg k4
                       case measure => have := HJ3.out; have := HK2.out; have := HK3.out; have := HK4.out; omega
                       case rel => exact ⟨(wrap64 (x10_4 + 1)), (by first | rfl | (simp; done) | (simp [*]; done)), H', ⟨by have := HJ3.out; have := HK2.out; have := HK3.out; have := HK4.out; omega⟩, ⟨bx BK502⟩, ⟨hb2 HB GE502 GE509⟩⟩
                     ·rw [if_neg c41] at H; exact absurd H (by simp)
                    ·rw [if_neg c40] at H; exact absurd H (by simp)
                   ·rw [if_neg c39] at H; exact absurd H (by simp)
                  ·rw [if_neg c38] at H; exact absurd H (by simp)
                 ·rw [if_neg c37] at H; exact absurd H (by simp)
                ·rw [if_neg c36] at H; exact absurd H (by simp)
             ·rw [if_neg c21] at H; exact absurd H (by simp)
            ·rw [if_neg c20] at H; have c20b0 : decide (x10_4 < (l0_1.length : Int)) = false := decide_eq_false c20; clear c20; have H' := Aside0.mk H; clear H; have hcz58_0 : wr.cell? ⟨gb502, 0, none⟩ = some (.int .i64 a0_0) := bc BK502 0; have hcz58_1 : wr.cell? ⟨gb502, 1, none⟩ = some (.slice A0_1 l0_1.length c0_1) := bc BK502 1; have hfz58_0 := blk_frozen BK502.out 0; have hfz58_1 := blk_frozen BK502.out 1
             go_wp2
             go_roundg k4
             case measure => have := HJ3.out; have := HK2.out; have := HK3.out; have := HK4.out; omega
             case rel => exact ⟨(wrap64 (x8_2 + 1)), (by first | rfl | (simp; done) | (simp [*]; done)), H', ⟨by have := HJ3.out; have := HK2.out; have := HK3.out; have := HK4.out; omega⟩, ⟨bx BK502⟩, ⟨hb1 HB GE502⟩⟩
      ·rw [if_neg c10] at H; have c10b0 : decide (x8_2 < a0_0) = false := decide_eq_false c10; clear c10; obtain rfl := Option.some.inj H; have hcz59_0 : wr.cell? ⟨gb502, 0, none⟩ = some (.int .i64 a0_0) := bc BK502 0; have hcz59_1 : wr.cell? ⟨gb502, 1, none⟩ = some (.slice A0_1 l0_1.length c0_1) := bc BK502 1; have hfz59_0 := blk_frozen BK502.out 0; have hfz59_1 := blk_frozen BK502.out 1
       go_wp2
       go_ret
       exact ⟨by rfl, hb1 HB GE502⟩

end Go.Proofs.Ythfoliejhdpbaaa.PCroA
