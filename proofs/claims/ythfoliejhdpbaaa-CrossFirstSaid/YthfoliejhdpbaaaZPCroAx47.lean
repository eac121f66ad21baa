import Derived.Test.YthfoliejhdpbaaaZPCroAx0
import Derived.Test.YthfoliejhdpbaaaZPCroAx31
import Derived.Test.YthfoliejhdpbaaaZPCroAx37
import Derived.Test.YthfoliejhdpbaaaZPCroAx40
import Derived.Test.YthfoliejhdpbaaaZPCroAx45
namespace Go.Proofs.Ythfoliejhdpbaaa.PCroA
open Go.RowKit Go.Proofs.YthfoliejhdpbaaaW.PrintWords Go.Proofs.YthfoliejhdpbaaaW.PrintLast Go.Proofs.YthfoliejhdpbaaaW.PrintMore
open Go.Proofs.YthfoliejhdpbaaaX
attribute [local go_sem] max2_int min2_int max_two min_two max_three min_three max_four min_four
set_option linter.unusedVariables false
set_option linter.unusedSimpArgs false

/-! ### tangramref26_Wrong: function 48 -/
mutual
def tangramref26_Wrong.j0 : Nat → List (S23) → Int → Int → Int → Int → Int → Int → Int → Option (Bool)
 | 0, _, _, _, _, _, _, _, _ => none
 | k + 1, x0, x7, x8, x9, x482000, x482001, x483000, x483001 => if x482000 = x483001 then (tangramref26_Wrong.j1 k x0 x482000 x482001 x483000 x482000 x482001 x483000 x483001) else (tangramref26_Wrong.j1 k x0 x7 x8 x9 x482000 x482001 x483000 x483001)
def tangramref26_Wrong.j1 : Nat → List (S23) → Int → Int → Int → Int → Int → Int → Int → Option (Bool)
 | 0, _, _, _, _, _, _, _, _ => none
 | k + 1, x0, x7, x8, x9, x482000, x482001, x483000, x483001 => if x482001 = x483000 then (tangramref26_Wrong.j2 k x0 x482001 x482000 x483001 x482000 x482001 x483000 x483001) else (tangramref26_Wrong.j2 k x0 x7 x8 x9 x482000 x482001 x483000 x483001)
def tangramref26_Wrong.j2 : Nat → List (S23) → Int → Int → Int → Int → Int → Int → Int → Option (Bool)
 | 0, _, _, _, _, _, _, _, _ => none
 | k + 1, x0, x7, x8, x9, x482000, x482001, x483000, x483001 => if x482001 = x483001 then (tangramref26_Wrong.j3 k x0 x482001 x482000 x483000 x482000 x482001 x483000 x483001) else (tangramref26_Wrong.j3 k x0 x7 x8 x9 x482000 x482001 x483000 x483001)
def tangramref26_Wrong.j3 : Nat → List (S23) → Int → Int → Int → Int → Int → Int → Int → Option (Bool)
 | 0, _, _, _, _, _, _, _, _ => none
 | k + 1, x0, x7, x8, x9, x482000, x482001, x483000, x483001 => if x7 < 0 then (if 0 ≤ x482000 then (if x482000 < (x0.length : Int) then (if 0 ≤ x482001 then (if x482001 < (x0.length : Int) then (if 0 ≤ x483000 then (if x483000 < (x0.length : Int) then (if 0 ≤ x483001 then (if x483001 < (x0.length : Int) then ((tangramref26_Meet.f k ((rd_T23 x0 x482000).f0) ((rd_T23 x0 x482000).f1) ((rd_T23 x0 x482001).f0) ((rd_T23 x0 x482001).f1) ((rd_T23 x0 x483000).f0) ((rd_T23 x0 x483000).f1) ((rd_T23 x0 x483001).f0) ((rd_T23 x0 x483001).f1)).bind fun t487 => (some t487)) else (none)) else (none)) else (none)) else (none)) else (none)) else (none)) else (none)) else (none)) else (if 0 ≤ x7 then (if x7 < (x0.length : Int) then (if 0 ≤ x8 then (if x8 < (x0.length : Int) then (if 0 ≤ x9 then (if x9 < (x0.length : Int) then ((tangramref26_On.f k ((rd_T23 x0 x7).f0) ((rd_T23 x0 x7).f1) ((rd_T23 x0 x8).f0) ((rd_T23 x0 x8).f1) ((rd_T23 x0 x9).f0) ((rd_T23 x0 x9).f1)).bind fun t491 => (if t491 = true then (some true) else ((tangramref26_On.f k ((rd_T23 x0 x7).f0) ((rd_T23 x0 x7).f1) ((rd_T23 x0 x9).f0) ((rd_T23 x0 x9).f1) ((rd_T23 x0 x8).f0) ((rd_T23 x0 x8).f1)).bind fun t495 => (some t495)))) else (none)) else (none)) else (none)) else (none)) else (none)) else (none))
end
def tangramref26_Wrong.f (k : Nat) (l0 : List (S23)) (a1_0 : Int) (a1_1 : Int) (a2_0 : Int) (a2_1 : Int) : Option (Bool) := if a1_0 = a2_0 then (tangramref26_Wrong.j0 k l0 a1_0 a1_1 a2_1 a1_0 a1_1 a2_0 a2_1) else (tangramref26_Wrong.j0 k l0 (-1) (-1) (-1) a1_0 a1_1 a2_0 a2_1)
theorem tangramref26_Wrong.mono_l : ∀ k, (∀ y0 y1 y2 y3 y4 y5 y6 y7, LeO (tangramref26_Wrong.j0 k y0 y1 y2 y3 y4 y5 y6 y7) (tangramref26_Wrong.j0 (k + 1) y0 y1 y2 y3 y4 y5 y6 y7)) ∧ (∀ y0 y1 y2 y3 y4 y5 y6 y7, LeO (tangramref26_Wrong.j1 k y0 y1 y2 y3 y4 y5 y6 y7) (tangramref26_Wrong.j1 (k + 1) y0 y1 y2 y3 y4 y5 y6 y7)) ∧ (∀ y0 y1 y2 y3 y4 y5 y6 y7, LeO (tangramref26_Wrong.j2 k y0 y1 y2 y3 y4 y5 y6 y7) (tangramref26_Wrong.j2 (k + 1) y0 y1 y2 y3 y4 y5 y6 y7)) ∧ (∀ y0 y1 y2 y3 y4 y5 y6 y7, LeO (tangramref26_Wrong.j3 k y0 y1 y2 y3 y4 y5 y6 y7) (tangramref26_Wrong.j3 (k + 1) y0 y1 y2 y3 y4 y5 y6 y7))
 | 0 => ⟨fun _ _ _ _ _ _ _ _ r h => by simp [tangramref26_Wrong.j0] at h, fun _ _ _ _ _ _ _ _ r h => by simp [tangramref26_Wrong.j1] at h, fun _ _ _ _ _ _ _ _ r h => by simp [tangramref26_Wrong.j2] at h, fun _ _ _ _ _ _ _ _ r h => by simp [tangramref26_Wrong.j3] at h⟩
 | k + 1 => by
  obtain ⟨ih0, ih1, ih2, ih3⟩ := tangramref26_Wrong.mono_l k; refine ⟨?_, ?_, ?_, ?_⟩
  ·intro y0 y1 y2 y3 y4 y5 y6 y7
   unfold tangramref26_Wrong.j0
   repeat' first
   | (with_reducible exact ih0 _ _ _ _ _ _ _ _)
   | (with_reducible exact ih1 _ _ _ _ _ _ _ _)
   | (with_reducible exact ih2 _ _ _ _ _ _ _ _)
   | (with_reducible exact ih3 _ _ _ _ _ _ _ _)
   | (with_reducible exact tangramref26_Meet.mono _ _ _ _ _ _ _ _ _)
   | (with_reducible exact tangramref26_On.mono _ _ _ _ _ _ _)
   | (with_reducible exact LeO.refl _)
   | (with_reducible exact LeO.none _)
   | (with_reducible refine LeO.ite ?_ ?_)
   | (with_reducible refine LeO.bind ?_ (fun _ => ?_))
   | exact LeO.none _
   | refine LeO.ite ?_ ?_
   | refine LeO.bind ?_ (fun _ => ?_)
  ·intro y0 y1 y2 y3 y4 y5 y6 y7
   unfold tangramref26_Wrong.j1
   repeat' first
   | (with_reducible exact ih0 _ _ _ _ _ _ _ _)
   | (with_reducible exact ih1 _ _ _ _ _ _ _ _)
   | (with_reducible exact ih2 _ _ _ _ _ _ _ _)
   | (with_reducible exact ih3 _ _ _ _ _ _ _ _)
   | (with_reducible exact tangramref26_Meet.mono _ _ _ _ _ _ _ _ _)
   | (with_reducible exact tangramref26_On.mono _ _ _ _ _ _ _)
   | (with_reducible exact LeO.refl _)
   | (with_reducible exact LeO.none _)
   | (with_reducible refine LeO.ite ?_ ?_)
   | (with_reducible refine LeO.bind ?_ (fun _ => ?_))
   | exact LeO.none _
   | refine LeO.ite ?_ ?_
   | refine LeO.bind ?_ (fun _ => ?_)
  ·intro y0 y1 y2 y3 y4 y5 y6 y7
   unfold tangramref26_Wrong.j2
   repeat' first
   | (with_reducible exact ih0 _ _ _ _ _ _ _ _)
   | (with_reducible exact ih1 _ _ _ _ _ _ _ _)
   | (with_reducible exact ih2 _ _ _ _ _ _ _ _)
   | (with_reducible exact ih3 _ _ _ _ _ _ _ _)
   | (with_reducible exact tangramref26_Meet.mono _ _ _ _ _ _ _ _ _)
   | (with_reducible exact tangramref26_On.mono _ _ _ _ _ _ _)
   | (with_reducible exact LeO.refl _)
   | (with_reducible exact LeO.none _)
   | (with_reducible refine LeO.ite ?_ ?_)
   | (with_reducible refine LeO.bind ?_ (fun _ => ?_))
   | exact LeO.none _
   | refine LeO.ite ?_ ?_
   | refine LeO.bind ?_ (fun _ => ?_)
  ·intro y0 y1 y2 y3 y4 y5 y6 y7
   unfold tangramref26_Wrong.j3
   repeat' first
   | (with_reducible exact ih0 _ _ _ _ _ _ _ _)
   | (with_reducible exact ih1 _ _ _ _ _ _ _ _)
   | (with_reducible exact ih2 _ _ _ _ _ _ _ _)
   | (with_reducible exact ih3 _ _ _ _ _ _ _ _)
   | (with_reducible exact tangramref26_Meet.mono _ _ _ _ _ _ _ _ _)
   | (with_reducible exact tangramref26_On.mono _ _ _ _ _ _ _)
   | (with_reducible exact LeO.refl _)
   | (with_reducible exact LeO.none _)
   | (with_reducible refine LeO.ite ?_ ?_)
   | (with_reducible refine LeO.bind ?_ (fun _ => ?_))
   | exact LeO.none _
   | refine LeO.ite ?_ ?_
   | refine LeO.bind ?_ (fun _ => ?_)
theorem tangramref26_Wrong.mono : ∀ a0 a1 a2 a3 a4 k, LeO (tangramref26_Wrong.f k a0 a1 a2 a3 a4) (tangramref26_Wrong.f (k + 1) a0 a1 a2 a3 a4) := by
 intro a0 a1 a2 a3 a4 k; obtain ⟨ih0, ih1, ih2, ih3⟩ := tangramref26_Wrong.mono_l k
 unfold tangramref26_Wrong.f
 repeat' first
   | (with_reducible exact ih0 _ _ _ _ _ _ _ _)
   | (with_reducible exact ih1 _ _ _ _ _ _ _ _)
   | (with_reducible exact ih2 _ _ _ _ _ _ _ _)
   | (with_reducible exact ih3 _ _ _ _ _ _ _ _)
   | (with_reducible exact tangramref26_Meet.mono _ _ _ _ _ _ _ _ _)
   | (with_reducible exact tangramref26_On.mono _ _ _ _ _ _ _)
   | (with_reducible exact LeO.refl _)
   | (with_reducible exact LeO.none _)
   | (with_reducible refine LeO.ite ?_ ?_)
   | (with_reducible refine LeO.bind ?_ (fun _ => ?_))
   | exact LeO.none _
   | refine LeO.ite ?_ ?_
   | refine LeO.bind ?_ (fun _ => ?_)
def tangramref26_Wrong.T21 : Bool × List (List Nat × List Nat) := (true, [([], []), ([], []), ([1], [1]), ([0, 2], [0, 2]), ([3], [3]), ([], []), ([], []), ([6], [6]), ([5, 7], [5, 7]), ([8], [8]), ([], []), ([], []), ([11], [11]), ([10, 12], [10, 12]), ([13], [13]), ([], []), ([], []), ([16], [16]), ([15, 17], [15, 17]), ([18], [18]), ([4, 9, 14, 19], [4, 9, 14, 19]), ([20, 20, 0, 1, 2, 3, 4, 5, 6, 7, 8, 9, 10, 11, 12, 13, 14, 15, 16, 17, 18, 19, 20], [20])])
def tangramref26_Wrong.B21 : List Nat := [0, 0, 2, 7, 15, 0, 0, 64, 224, 480, 0, 0, 2048, 7168, 15360, 0, 0, 65536, 229376, 491520, 1048575, 2097151]
theorem tangramref26_Wrong.tab21 : rtab .any (opsOf Try.f48 21) = tangramref26_Wrong.T21 := by kernel_rfl
theorem tangramref26_Wrong.bits21 : waitsOk tangramref26_Wrong.T21.2 tangramref26_Wrong.B21 = true := by kernel_rfl
def tangramref26_Wrong.T22 : Bool × List (List Nat × List Nat) := (true, [([], []), ([], []), ([0, 1], [0, 1]), ([2], [2]), ([], []), ([], []), ([4, 5], [4, 5]), ([6], [6]), ([], []), ([], []), ([8, 9], [8, 9]), ([10], [10]), ([3, 7, 11], [3, 7, 11]), ([12, 12], [12]), ([13], [13]), ([13], [13]), ([14, 15, 13], [13, 14, 15]), ([16, 13], [13, 16]), ([13], [13]), ([13], [13]), ([18, 19, 13], [13, 18, 19]), ([20, 13], [13, 20]), ([13], [13]), ([13], [13]), ([22, 23, 13], [13, 22, 23]), ([24, 13], [13, 24]), ([17, 21, 25, 13, 13], [13, 17, 21, 25]), ([13, 26], [13, 26]), ([27, 26, 0, 1, 2, 3, 4, 5, 6, 7, 8, 9, 10, 11, 12, 13, 14, 15, 16, 17, 18, 19, 20, 21, 22, 23, 24, 25, 26, 27], [27])])
def tangramref26_Wrong.B22 : List Nat := [0, 0, 3, 7, 0, 0, 48, 112, 0, 0, 768, 1792, 4095, 8191, 16383, 16383, 65535, 131071, 16383, 16383, 802815, 1851391, 16383, 16383, 12599295, 29376511, 67108863, 134217727, 268435455]
theorem tangramref26_Wrong.tab22 : rtab .any (opsOf Try.f48 22) = tangramref26_Wrong.T22 := by kernel_rfl
theorem tangramref26_Wrong.bits22 : waitsOk tangramref26_Wrong.T22.2 tangramref26_Wrong.B22 = true := by kernel_rfl
set_option maxHeartbeats 8000000 in
set_option maxRecDepth 100000 in
theorem tangramref26_Wrong.calls (k : Nat) (A0 : Option Addr) (c0 : Nat) (l0 : List (S23)) (a1_0 : Int) (a1_1 : Int) (a2_0 : Int) (a2_1 : Int) (r : Bool) (w : World) (hr0 : Kd.C k23 w A0 l0.length l0) (hc0 : l0.length ≤ c0) (h : tangramref26_Wrong.f k l0 a1_0 a1_1 a2_0 a2_1 = some r) :
  Calls Try.prog 48 #[.slice A0 l0.length c0, .agg #[.int .i64 a1_0, .int .i64 a1_1], .agg #[.int .i64 a2_0, .int .i64 a2_1]] w fun e w' => e = .returned (.bool r) ∧ Below w.heap.size w w' := by
 have hu62 := Try.underlying62; have hu23 := Try.underlying23; have HR0 := Aside0.mk hr0; have HC0 := Aside0.mk hc0; clear hr0 hc0; have HB := Aside0.mk (Below.refl w.heap.size w); have H : (if a1_0 = a2_0 then (tangramref26_Wrong.j0 k l0 a1_0 a1_1 a2_1 a1_0 a1_1 a2_0 a2_1) else (tangramref26_Wrong.j0 k l0 (-1) (-1) (-1) a1_0 a1_1 a2_0 a2_1)) = some r := h; clear h; have HC4 := Aside0.mk H; clear H
 go_enter Try.func48, Try.ntmps48
 go_upto_if 14 with (first | ((with_reducible refine gate_dst (N := 4) rfl ?_); refine be_ 4 #[.int .i64 a1_0, .int .i64 a1_1] 62 ?_; intro gb481 hg w5 hbox hb; have BK481 := Aside0.mk (hbox); have GW481 := wq (hb0 HB) hg; have GE481 := wq (hb0 HB) hg; replace HB := hs (hb0 HB) hb; clear hb hbox hg) | ((with_reducible refine gate_dst (N := 5) rfl ?_); refine be_ 5 #[.int .i64 a2_0, .int .i64 a2_1] 62 ?_; intro gb482 hg w6 hbox hb; have BK482 := Aside0.mk (hbox); have GW482 := wq (hb1 HB GE481) hg; have GE482 := wq (hb1 HB GE481) hg; replace HB := hs (hb1 HB GE481) hb; have NB481_482 := lx BK481 hg; have NB482_481 := gx BK481 hg; replace BK481 := kx BK481 hb; clear hb hbox hg; have hnb7 := NB481_482.out; have hnc7 := NB482_481.out; have hcz8_0 : w6.cell? ⟨gb481, 0, none⟩ = some (.int .i64 a1_0) := bc BK481 0; have hcz8_1 : w6.cell? ⟨gb481, 1, none⟩ = some (.int .i64 a1_1) := bc BK481 1; have hfz8_0 := blk_frozen BK481.out 0; have hfz8_1 := blk_frozen BK481.out 1; have hcz9_0 : w6.cell? ⟨gb482, 0, none⟩ = some (.int .i64 a2_0) := bc BK482 0; have hcz9_1 : w6.cell? ⟨gb482, 1, none⟩ = some (.int .i64 a2_1) := bc BK482 1; have hfz9_0 := blk_frozen BK482.out 0; have hfz9_1 := blk_frozen BK482.out 1))
 (try simp only [Act.put, List.setIfInBounds_toArray, List.set_cons_zero, List.set_cons_succ])
 go_cut [7, 8, 9] (fun v7 v8 v9 wc => ∃ (kq : Nat) (x7_3 : Int) (x8_3 : Int) (x9_3 : Int), v7 = .int .i64 x7_3 ∧ v8 = .int .i64 x8_3 ∧ v9 = .int .i64 x9_3 ∧ Aside0 (tangramref26_Wrong.j0 kq l0 x7_3 x8_3 x9_3 a1_0 a1_1 a2_0 a2_1 = some r) ∧ Aside0 (kq ≤ k) ∧ Aside0 (wc.heap[gb481]? = some (.cells #[.int .i64 a1_0, .int .i64 a1_1] 62 (0, 0))) ∧ Aside0 (wc.heap[gb482]? = some (.cells #[.int .i64 a2_0, .int .i64 a2_1] 62 (0, 0))) ∧ Aside0 (Below w.heap.size w wc))
 case first => as_aux_lemma =>
  have H := HC4.out; clear HC4
  by_cases c10 : a1_0 = a2_0
  ·rw [if_pos c10] at H; have c10b0 : (a1_0 == a2_0) = true := beq_iff_eq.mpr c10; have c10b1 : (a1_0 != a2_0) = false := bne_eq_false_iff_eq.mpr c10; clear c10
   (first | rw [c10b0] | (simp only [i64_w, i32_w]; rw [c10b0]) | skip)
   have H' := Aside0.mk H; clear H; have hnb11 := NB481_482.out; have hnc11 := NB482_481.out; have hcz12_0 : w6.cell? ⟨gb481, 0, none⟩ = some (.int .i64 a1_0) := bc BK481 0; have hcz12_1 : w6.cell? ⟨gb481, 1, none⟩ = some (.int .i64 a1_1) := bc BK481 1; have hfz12_0 := blk_frozen BK481.out 0; have hfz12_1 := blk_frozen BK481.out 1; have hcz13_0 : w6.cell? ⟨gb482, 0, none⟩ = some (.int .i64 a2_0) := bc BK482 0; have hcz13_1 : w6.cell? ⟨gb482, 1, none⟩ = some (.int .i64 a2_1) := bc BK482 1; have hfz13_0 := blk_frozen BK482.out 0; have hfz13_1 := blk_frozen BK482.out 1
   go_wp2
   go_meet
   case rel => exact ⟨_, (a1_0), (a1_1), (a2_1), (by first | rfl | (simp; done) | (simp [*]; done)), (by first | rfl | (simp; done) | (simp [*]; done)), (by first | rfl | (simp; done) | (simp [*]; done)), H', ⟨by first | omega | exact Nat.le_refl _⟩, ⟨bx BK481⟩, ⟨bx BK482⟩, ⟨hb2 HB GE481 GE482⟩⟩
  ·rw [if_neg c10] at H; have c10b0 : (a1_0 == a2_0) = false := beq_eq_false_iff_ne.mpr c10; have c10b1 : (a1_0 != a2_0) = true := bne_iff_ne.mpr c10
   (first | rw [c10b0] | (simp only [i64_w, i32_w]; rw [c10b0]) | skip)
   have H' := Aside0.mk H; clear H
   go_wp2
   go_meet
   case rel => exact ⟨_, ((-1)), ((-1)), ((-1)), (by first | rfl | (simp; done) | (simp [*]; done)), (by first | rfl | (simp; done) | (simp [*]; done)), (by first | rfl | (simp; done) | (simp [*]; done)), H', ⟨by first | omega | exact Nat.le_refl _⟩, ⟨bx BK481⟩, ⟨bx BK482⟩, ⟨hb2 HB GE481 GE482⟩⟩
 case rest => as_aux_lemma =>
  clear HC4
  try clear c1
  try clear p2
  try clear c4
  try clear c7
  try clear c10
  try clear c10b0
  try clear c10b1
  try clear c11
  try clear hcz12_0
  try clear hcz12_1
  try clear hcz13_0
  try clear hcz13_1
  try clear hcz8_0
  try clear hcz8_1
  try clear hcz9_0
  try clear hcz9_1
  try clear hfz12_0
  try clear hfz12_1
  try clear hfz13_0
  try clear hfz13_1
  try clear hfz8_0
  try clear hfz8_1
  try clear hfz9_0
  try clear hfz9_1
  obtain ⟨kq, x7_3, x8_3, x9_3, rfl, rfl, rfl, HA, HJ3, BK481, BK482, HB⟩ := hcut
  cases kq with
  | zero => exact absurd HA.out (by simp [tangramref26_Wrong.j0])
  | succ kj3 =>
   have H := HA.out; clear HA; simp only [tangramref26_Wrong.j0] at H; have HC14 := Aside0.mk H; clear H; have hnb15 := NB481_482.out; have hnc15 := NB482_481.out; have hcz16_0 : wc.cell? ⟨gb481, 0, none⟩ = some (.int .i64 a1_0) := bc BK481 0; have hcz16_1 : wc.cell? ⟨gb481, 1, none⟩ = some (.int .i64 a1_1) := bc BK481 1; have hfz16_0 := blk_frozen BK481.out 0; have hfz16_1 := blk_frozen BK481.out 1; have hcz17_0 : wc.cell? ⟨gb482, 0, none⟩ = some (.int .i64 a2_0) := bc BK482 0; have hcz17_1 : wc.cell? ⟨gb482, 1, none⟩ = some (.int .i64 a2_1) := bc BK482 1; have hfz17_0 := blk_frozen BK482.out 0; have hfz17_1 := blk_frozen BK482.out 1
   go_upto_if 25 with (fail)
   go_cut [7, 8, 9] (fun v7 v8 v9 wc => ∃ (kq : Nat) (x7_13 : Int) (x8_13 : Int) (x9_13 : Int), v7 = .int .i64 x7_13 ∧ v8 = .int .i64 x8_13 ∧ v9 = .int .i64 x9_13 ∧ Aside0 (tangramref26_Wrong.j1 kq l0 x7_13 x8_13 x9_13 a1_0 a1_1 a2_0 a2_1 = some r) ∧ Aside0 (kq ≤ kj3) ∧ Aside0 (wc.heap[gb481]? = some (.cells #[.int .i64 a1_0, .int .i64 a1_1] 62 (0, 0))) ∧ Aside0 (wc.heap[gb482]? = some (.cells #[.int .i64 a2_0, .int .i64 a2_1] 62 (0, 0))) ∧ Aside0 (Below w.heap.size w wc))
   case first => as_aux_lemma =>
    have H := HC14.out; clear HC14
    by_cases c18 : a1_0 = a2_1
    ·rw [if_pos c18] at H; have c18b0 : (a1_0 == a2_1) = true := beq_iff_eq.mpr c18; have c18b1 : (a1_0 != a2_1) = false := bne_eq_false_iff_eq.mpr c18; clear c18
     (first | rw [c18b0] | (simp only [i64_w, i32_w]; rw [c18b0]) | skip)
     have H' := Aside0.mk H; clear H; have hnb19 := NB481_482.out; have hnc19 := NB482_481.out; have hcz20_0 : wc.cell? ⟨gb481, 0, none⟩ = some (.int .i64 a1_0) := bc BK481 0; have hcz20_1 : wc.cell? ⟨gb481, 1, none⟩ = some (.int .i64 a1_1) := bc BK481 1; have hfz20_0 := blk_frozen BK481.out 0; have hfz20_1 := blk_frozen BK481.out 1; have hcz21_0 : wc.cell? ⟨gb482, 0, none⟩ = some (.int .i64 a2_0) := bc BK482 0; have hcz21_1 : wc.cell? ⟨gb482, 1, none⟩ = some (.int .i64 a2_1) := bc BK482 1; have hfz21_0 := blk_frozen BK482.out 0; have hfz21_1 := blk_frozen BK482.out 1
     go_wp2
     go_meet
     case rel => exact ⟨_, (a1_0), (a1_1), (a2_0), (by first | rfl | (simp; done) | (simp [*]; done)), (by first | rfl | (simp; done) | (simp [*]; done)), (by first | rfl | (simp; done) | (simp [*]; done)), H', ⟨by have := HJ3.out; first | omega | exact Nat.le_refl _⟩, ⟨bx BK481⟩, ⟨bx BK482⟩, ⟨hb2 HB GE481 GE482⟩⟩
    ·rw [if_neg c18] at H; have c18b0 : (a1_0 == a2_1) = false := beq_eq_false_iff_ne.mpr c18; have c18b1 : (a1_0 != a2_1) = true := bne_iff_ne.mpr c18
     (first | rw [c18b0] | (simp only [i64_w, i32_w]; rw [c18b0]) | skip)
     have H' := Aside0.mk H; clear H
     go_wp2
     go_meet
     case rel => exact ⟨_, (x7_3), (x8_3), (x9_3), (by first | rfl | (simp; done) | (simp [*]; done)), (by first | rfl | (simp; done) | (simp [*]; done)), (by first | rfl | (simp; done) | (simp [*]; done)), H', ⟨by have := HJ3.out; first | omega | exact Nat.le_refl _⟩, ⟨bx BK481⟩, ⟨bx BK482⟩, ⟨hb2 HB GE481 GE482⟩⟩
   case rest => as_aux_lemma =>
    clear HC14
    try clear c1
    try clear p2
    try clear c4
    try clear c7
    try clear c10
    try clear c10b0
    try clear c10b1
    try clear c11
    try clear c15
    try clear c18
    try clear c18b0
    try clear c18b1
    try clear c19
    try clear hcz12_0
    try clear hcz12_1
    try clear hcz13_0
    try clear hcz13_1
    try clear hcz16_0
    try clear hcz16_1
    try clear hcz17_0
    try clear hcz17_1
    try clear hcz20_0
    try clear hcz20_1
    try clear hcz21_0
    try clear hcz21_1
    try clear hcz8_0
    try clear hcz8_1
    try clear hcz9_0
    try clear hcz9_1
    try clear hfz12_0
    try clear hfz12_1
    try clear hfz13_0
    try clear hfz13_1
    try clear hfz16_0
    try clear hfz16_1
    try clear hfz17_0
    try clear hfz17_1
    try clear hfz20_0
    try clear hfz20_1
    try clear hfz21_0
    try clear hfz21_1
    try clear hfz8_0
    try clear hfz8_1
    try clear hfz9_0
    try clear hfz9_1
    try clear p2
    obtain ⟨kq, x7_13, x8_13, x9_13, rfl, rfl, rfl, HA, HJ13, BK481, BK482, HB⟩ := hcut
    cases kq with
    | zero => exact absurd HA.out (by simp [tangramref26_Wrong.j1])
    | succ kj13 =>
     have H := HA.out; clear HA; simp only [tangramref26_Wrong.j1] at H; have HC22 := Aside0.mk H; clear H; have hnb23 := NB481_482.out; have hnc23 := NB482_481.out; have hcz24_0 : wc.cell? ⟨gb481, 0, none⟩ = some (.int .i64 a1_0) := bc BK481 0; have hcz24_1 : wc.cell? ⟨gb481, 1, none⟩ = some (.int .i64 a1_1) := bc BK481 1; have hfz24_0 := blk_frozen BK481.out 0; have hfz24_1 := blk_frozen BK481.out 1; have hcz25_0 : wc.cell? ⟨gb482, 0, none⟩ = some (.int .i64 a2_0) := bc BK482 0; have hcz25_1 : wc.cell? ⟨gb482, 1, none⟩ = some (.int .i64 a2_1) := bc BK482 1; have hfz25_0 := blk_frozen BK482.out 0; have hfz25_1 := blk_frozen BK482.out 1
     go_upto_if 36 with (fail)
     go_cut [7, 8, 9] (fun v7 v8 v9 wc => ∃ (kq : Nat) (x7_21 : Int) (x8_21 : Int) (x9_21 : Int), v7 = .int .i64 x7_21 ∧ v8 = .int .i64 x8_21 ∧ v9 = .int .i64 x9_21 ∧ Aside0 (tangramref26_Wrong.j2 kq l0 x7_21 x8_21 x9_21 a1_0 a1_1 a2_0 a2_1 = some r) ∧ Aside0 (kq ≤ kj13) ∧ Aside0 (wc.heap[gb481]? = some (.cells #[.int .i64 a1_0, .int .i64 a1_1] 62 (0, 0))) ∧ Aside0 (wc.heap[gb482]? = some (.cells #[.int .i64 a2_0, .int .i64 a2_1] 62 (0, 0))) ∧ Aside0 (Below w.heap.size w wc))
     case first => as_aux_lemma =>
      have H := HC22.out; clear HC22
      by_cases c26 : a1_1 = a2_0
      ·rw [if_pos c26] at H; have c26b0 : (a1_1 == a2_0) = true := beq_iff_eq.mpr c26; have c26b1 : (a1_1 != a2_0) = false := bne_eq_false_iff_eq.mpr c26; clear c26
       (first | rw [c26b0] | (simp only [i64_w, i32_w]; rw [c26b0]) | skip)
       have H' := Aside0.mk H; clear H; have hnb27 := NB481_482.out; have hnc27 := NB482_481.out; have hcz28_0 : wc.cell? ⟨gb481, 0, none⟩ = some (.int .i64 a1_0) := bc BK481 0; have hcz28_1 : wc.cell? ⟨gb481, 1, none⟩ = some (.int .i64 a1_1) := bc BK481 1; have hfz28_0 := blk_frozen BK481.out 0; have hfz28_1 := blk_frozen BK481.out 1; have hcz29_0 : wc.cell? ⟨gb482, 0, none⟩ = some (.int .i64 a2_0) := bc BK482 0; have hcz29_1 : wc.cell? ⟨gb482, 1, none⟩ = some (.int .i64 a2_1) := bc BK482 1; have hfz29_0 := blk_frozen BK482.out 0; have hfz29_1 := blk_frozen BK482.out 1
       go_wp2
       go_meet
       case rel => exact ⟨_, (a1_1), (a1_0), (a2_1), (by first | rfl | (simp; done) | (simp [*]; done)), (by first | rfl | (simp; done) | (simp [*]; done)), (by first | rfl | (simp; done) | (simp [*]; done)), H', ⟨by have := HJ3.out; have := HJ13.out; first | omega | exact Nat.le_refl _⟩, ⟨bx BK481⟩, ⟨bx BK482⟩, ⟨hb2 HB GE481 GE482⟩⟩
      ·rw [if_neg c26] at H; have c26b0 : (a1_1 == a2_0) = false := beq_eq_false_iff_ne.mpr c26; have c26b1 : (a1_1 != a2_0) = true := bne_iff_ne.mpr c26
       (first | rw [c26b0] | (simp only [i64_w, i32_w]; rw [c26b0]) | skip)
       have H' := Aside0.mk H; clear H
       go_wp2
       go_meet
       case rel => exact ⟨_, (x7_13), (x8_13), (x9_13), (by first | rfl | (simp; done) | (simp [*]; done)), (by first | rfl | (simp; done) | (simp [*]; done)), (by first | rfl | (simp; done) | (simp [*]; done)), H', ⟨by have := HJ3.out; have := HJ13.out; first | omega | exact Nat.le_refl _⟩, ⟨bx BK481⟩, ⟨bx BK482⟩, ⟨hb2 HB GE481 GE482⟩⟩
     case rest => as_aux_lemma =>
      clear HC22
      try clear c1
      try clear c2
      try clear p2
      try clear c4
      try clear c7
      try clear c10
      try clear c10b0
      try clear c10b1
      try clear c11
      try clear c15
      try clear c18
      try clear c18b0
      try clear c18b1
      try clear c19
      try clear c23
      try clear c26
      try clear c26b0
      try clear c26b1
      try clear c27
      try clear hcz12_0
      try clear hcz12_1
      try clear hcz13_0
      try clear hcz13_1
      try clear hcz16_0
      try clear hcz16_1
      try clear hcz17_0
      try clear hcz17_1
      try clear hcz20_0
      try clear hcz20_1
      try clear hcz21_0
      try clear hcz21_1
      try clear hcz24_0
      try clear hcz24_1
      try clear hcz25_0
      try clear hcz25_1
      try clear hcz28_0
      try clear hcz28_1
      try clear hcz29_0
      try clear hcz29_1
      try clear hcz8_0
      try clear hcz8_1
      try clear hcz9_0
      try clear hcz9_1
      try clear hfz12_0
      try clear hfz12_1
      try clear hfz13_0
      try clear hfz13_1
      try clear hfz16_0
      try clear hfz16_1
      try clear hfz17_0
      try clear hfz17_1
      try clear hfz20_0
      try clear hfz20_1
      try clear hfz21_0
      try clear hfz21_1
      try clear hfz24_0
      try clear hfz24_1
      try clear hfz25_0
      try clear hfz25_1
      try clear hfz28_0
      try clear hfz28_1
      try clear hfz29_0
      try clear hfz29_1
      try clear hfz8_0
      try clear hfz8_1
      try clear hfz9_0
      try clear hfz9_1
      try clear p2
      obtain ⟨kq, x7_21, x8_21, x9_21, rfl, rfl, rfl, HA, HJ21, BK481, BK482, HB⟩ := hcut
      cases kq with
      | zero => exact absurd HA.out (by simp [tangramref26_Wrong.j2])
      | succ kj21 =>
       have H := HA.out; clear HA; simp only [tangramref26_Wrong.j2] at H; have HC30 := Aside0.mk H; clear H; have hnb31 := NB481_482.out; have hnc31 := NB482_481.out; have hcz32_0 : wc.cell? ⟨gb481, 0, none⟩ = some (.int .i64 a1_0) := bc BK481 0; have hcz32_1 : wc.cell? ⟨gb481, 1, none⟩ = some (.int .i64 a1_1) := bc BK481 1; have hfz32_0 := blk_frozen BK481.out 0; have hfz32_1 := blk_frozen BK481.out 1; have hcz33_0 : wc.cell? ⟨gb482, 0, none⟩ = some (.int .i64 a2_0) := bc BK482 0; have hcz33_1 : wc.cell? ⟨gb482, 1, none⟩ = some (.int .i64 a2_1) := bc BK482 1; have hfz33_0 := blk_frozen BK482.out 0; have hfz33_1 := blk_frozen BK482.out 1
       go_upto_if 47 with (fail)
       go_cut [7, 8, 9] (fun v7 v8 v9 wc => ∃ (kq : Nat) (x7_29 : Int) (x8_29 : Int) (x9_29 : Int), v7 = .int .i64 x7_29 ∧ v8 = .int .i64 x8_29 ∧ v9 = .int .i64 x9_29 ∧ Aside0 (tangramref26_Wrong.j3 kq l0 x7_29 x8_29 x9_29 a1_0 a1_1 a2_0 a2_1 = some r) ∧ Aside0 (kq ≤ kj21) ∧ Aside0 (wc.heap[gb481]? = some (.cells #[.int .i64 a1_0, .int .i64 a1_1] 62 (0, 0))) ∧ Aside0 (wc.heap[gb482]? = some (.cells #[.int .i64 a2_0, .int .i64 a2_1] 62 (0, 0))) ∧ Aside0 (Below w.heap.size w wc))
       case first => as_aux_lemma =>
        have H := HC30.out; clear HC30
        by_cases c34 : a1_1 = a2_1
        ·rw [if_pos c34] at H; have c34b0 : (a1_1 == a2_1) = true := beq_iff_eq.mpr c34; have c34b1 : (a1_1 != a2_1) = false := bne_eq_false_iff_eq.mpr c34; clear c34
         (first | rw [c34b0] | (simp only [i64_w, i32_w]; rw [c34b0]) | skip)
         have H' := Aside0.mk H; clear H; have hnb35 := NB481_482.out; have hnc35 := NB482_481.out; have hcz36_0 : wc.cell? ⟨gb481, 0, none⟩ = some (.int .i64 a1_0) := bc BK481 0; have hcz36_1 : wc.cell? ⟨gb481, 1, none⟩ = some (.int .i64 a1_1) := bc BK481 1; have hfz36_0 := blk_frozen BK481.out 0; have hfz36_1 := blk_frozen BK481.out 1; have hcz37_0 : wc.cell? ⟨gb482, 0, none⟩ = some (.int .i64 a2_0) := bc BK482 0; have hcz37_1 : wc.cell? ⟨gb482, 1, none⟩ = some (.int .i64 a2_1) := bc BK482 1; have hfz37_0 := blk_frozen BK482.out 0; have hfz37_1 := blk_frozen BK482.out 1
         go_wp2
         go_meet
         case rel => exact ⟨_, (a1_1), (a1_0), (a2_0), (by first | rfl | (simp; done) | (simp [*]; done)), (by first | rfl | (simp; done) | (simp [*]; done)), (by first | rfl | (simp; done) | (simp [*]; done)), H', ⟨by have := HJ3.out; have := HJ13.out; have := HJ21.out; first | omega | exact Nat.le_refl _⟩, ⟨bx BK481⟩, ⟨bx BK482⟩, ⟨hb2 HB GE481 GE482⟩⟩
        ·rw [if_neg c34] at H; have c34b0 : (a1_1 == a2_1) = false := beq_eq_false_iff_ne.mpr c34; have c34b1 : (a1_1 != a2_1) = true := bne_iff_ne.mpr c34
         (first | rw [c34b0] | (simp only [i64_w, i32_w]; rw [c34b0]) | skip)
         have H' := Aside0.mk H; clear H
         go_wp2
         go_meet
         case rel => exact ⟨_, (x7_21), (x8_21), (x9_21), (by first | rfl | (simp; done) | (simp [*]; done)), (by first | rfl | (simp; done) | (simp [*]; done)), (by first | rfl | (simp; done) | (simp [*]; done)), H', ⟨by have := HJ3.out; have := HJ13.out; have := HJ21.out; first | omega | exact Nat.le_refl _⟩, ⟨bx BK481⟩, ⟨bx BK482⟩, ⟨hb2 HB GE481 GE482⟩⟩
       case rest => as_aux_lemma =>
        clear HC30
        try clear c1
        try clear c2
        try clear p2
        try clear c3
        try clear c4
        try clear c7
        try clear c10
        try clear c10b0
        try clear c10b1
        try clear c11
        try clear c15
        try clear c18
        try clear c18b0
        try clear c18b1
        try clear c19
        try clear c23
        try clear c26
        try clear c26b0
        try clear c26b1
        try clear c27
        try clear c31
        try clear c34
        try clear c34b0
        try clear c34b1
        try clear c35
        try clear hcz12_0
        try clear hcz12_1
        try clear hcz13_0
        try clear hcz13_1
        try clear hcz16_0
        try clear hcz16_1
        try clear hcz17_0
        try clear hcz17_1
        try clear hcz20_0
        try clear hcz20_1
        try clear hcz21_0
        try clear hcz21_1
        try clear hcz24_0
        try clear hcz24_1
        try clear hcz25_0
        try clear hcz25_1
        try clear hcz28_0
        try clear hcz28_1
        try clear hcz29_0
        try clear hcz29_1
        try clear hcz32_0
        try clear hcz32_1
        try clear hcz33_0
        try clear hcz33_1
        try clear hcz36_0
        try clear hcz36_1
        try clear hcz37_0
        try clear hcz37_1
        try clear hcz8_0
        try clear hcz8_1
        try clear hcz9_0
        try clear hcz9_1
        try clear hfz12_0
        try clear hfz12_1
        try clear hfz13_0
        try clear hfz13_1
        try clear hfz16_0
        try clear hfz16_1
        try clear hfz17_0
        try clear hfz17_1
        try clear hfz20_0
        try clear hfz20_1
        try clear hfz21_0
        try clear hfz21_1
        try clear hfz24_0
        try clear hfz24_1
        try clear hfz25_0
        try clear hfz25_1
        try clear hfz28_0
        try clear hfz28_1
        try clear hfz29_0
        try clear hfz29_1
        try clear hfz32_0
        try clear hfz32_1
        try clear hfz33_0
        try clear hfz33_1
        try clear hfz36_0
        try clear hfz36_1
        try clear hfz37_0
        try clear hfz37_1
        try clear hfz8_0
        try clear hfz8_1
        try clear hfz9_0
        try clear hfz9_1
        try clear p2
        obtain ⟨kq, x7_29, x8_29, x9_29, rfl, rfl, rfl, HA, HJ29, BK481, BK482, HB⟩ := hcut
        cases kq with
        | zero => exact absurd HA.out (by simp [tangramref26_Wrong.j3])
        | succ kj29 =>
         have H := HA.out; clear HA; simp only [tangramref26_Wrong.j3] at H
         by_cases c38 : x7_29 < 0
         ·rw [if_pos c38] at H; have c38b0 : decide (x7_29 < 0) = true := decide_eq_true c38; clear c38
          by_cases c39 : 0 ≤ a1_0
          ·rw [if_pos c39] at H; have c39b0 : decide (0 ≤ a1_0) = true := decide_eq_true c39; clear c39
           by_cases c40 : a1_0 < (l0.length : Int)
           ·rw [if_pos c40] at H; have c40b0 : decide (a1_0 < (l0.length : Int)) = true := decide_eq_true c40; clear c40
            by_cases c41 : 0 ≤ a1_1
            ·rw [if_pos c41] at H; have c41b0 : decide (0 ≤ a1_1) = true := decide_eq_true c41; clear c41
             by_cases c42 : a1_1 < (l0.length : Int)
             ·rw [if_pos c42] at H; have c42b0 : decide (a1_1 < (l0.length : Int)) = true := decide_eq_true c42; clear c42
              by_cases c43 : 0 ≤ a2_0
              ·rw [if_pos c43] at H; have c43b0 : decide (0 ≤ a2_0) = true := decide_eq_true c43; clear c43
               by_cases c44 : a2_0 < (l0.length : Int)
               ·rw [if_pos c44] at H; have c44b0 : decide (a2_0 < (l0.length : Int)) = true := decide_eq_true c44; clear c44
                by_cases c45 : 0 ≤ a2_1
                ·rw [if_pos c45] at H; have c45b0 : decide (0 ≤ a2_1) = true := decide_eq_true c45; clear c45
                 by_cases c46 : a2_1 < (l0.length : Int)
                 ·rw [if_pos c46] at H; have c46b0 : decide (a2_1 < (l0.length : Int)) = true := decide_eq_true c46; clear c46; replace H := Option.bind_eq_some_iff.mp H; obtain ⟨t487, A470, H⟩ := H; (try dsimp only at H); have A47 := Aside0.mk A470; clear A470; obtain rfl := Option.some.inj H
                  try go_wp2
                  replace BK481 := bd BK481; replace BK482 := bd BK482; replace HB := Aside0.mk (below_drew1 HB.out); have p483 : 0 ≤ (a1_0 : Int) := of_decide_eq_true (by first | (with_reducible assumption) | assumption); have q483 : a1_0 < (l0.length : Int) := of_decide_eq_true (by first | (with_reducible assumption) | assumption); obtain ⟨ad483, e483, hx483_0, hx483_1⟩ := at_T23 HR0.out a1_0 p483 q483; have hw483_1 := hx483_1; have hw483_0 := hx483_0
                  cases e483
                  replace hx483_0 := (HB.out.cell (World.block_lt_of_cell? w _ hx483_0)).trans hx483_0; replace hx483_1 := (HB.out.cell (World.block_lt_of_cell? w _ hx483_1)).trans hx483_1; replace p483 := eq_true p483; replace q483 := eq_true q483; have p484 : 0 ≤ (a1_1 : Int) := of_decide_eq_true (by first | (with_reducible assumption) | assumption); have q484 : a1_1 < (l0.length : Int) := of_decide_eq_true (by first | (with_reducible assumption) | assumption); obtain ⟨ad484, e484, hx484_0, hx484_1⟩ := at_T23 HR0.out a1_1 p484 q484; have hw484_1 := hx484_1; have hw484_0 := hx484_0; obtain rfl : ad483 = ad484 := (by injection e484); replace hx484_0 := (HB.out.cell (World.block_lt_of_cell? w _ hx484_0)).trans hx484_0; replace hx484_1 := (HB.out.cell (World.block_lt_of_cell? w _ hx484_1)).trans hx484_1; replace p484 := eq_true p484; replace q484 := eq_true q484; have p485 : 0 ≤ (a2_0 : Int) := of_decide_eq_true (by first | (with_reducible assumption) | assumption); have q485 : a2_0 < (l0.length : Int) := of_decide_eq_true (by first | (with_reducible assumption) | assumption); obtain ⟨ad485, e485, hx485_0, hx485_1⟩ := at_T23 HR0.out a2_0 p485 q485; have hw485_1 := hx485_1; have hw485_0 := hx485_0; obtain rfl : ad483 = ad485 := (by injection e485); replace hx485_0 := (HB.out.cell (World.block_lt_of_cell? w _ hx485_0)).trans hx485_0; replace hx485_1 := (HB.out.cell (World.block_lt_of_cell? w _ hx485_1)).trans hx485_1; replace p485 := eq_true p485; replace q485 := eq_true q485; have p486 : 0 ≤ (a2_1 : Int) := of_decide_eq_true (by first | (with_reducible assumption) | assumption)
                  have q486 : a2_1 < (l0.length : Int) := of_decide_eq_true (by first | (with_reducible assumption) | assumption); obtain ⟨ad486, e486, hx486_0, hx486_1⟩ := at_T23 HR0.out a2_1 p486 q486; have hw486_1 := hx486_1; have hw486_0 := hx486_0; obtain rfl : ad483 = ad486 := (by injection e486); replace hx486_0 := (HB.out.cell (World.block_lt_of_cell? w _ hx486_0)).trans hx486_0; replace hx486_1 := (HB.out.cell (World.block_lt_of_cell? w _ hx486_1)).trans hx486_1; replace p486 := eq_true p486; replace q486 := eq_true q486; refine start_ (n := 22) (S := fun w' => w'.cell? ⟨gb481, 0, none⟩ = some (.int .i64 a1_0) ∧ w'.cell? ⟨gb481, 1, none⟩ = some (.int .i64 a1_1) ∧ w'.cell? ⟨gb482, 0, none⟩ = some (.int .i64 a2_0) ∧ w'.cell? ⟨gb482, 1, none⟩ = some (.int .i64 a2_1) ∧ w'.cell? (ad483.add ((a1_0).toNat * 2)) = some (.int .i64 ((rd_T23 l0 a1_0).f0)) ∧ w'.cell? ⟨(ad483.add ((a1_0).toNat * 2)).block, (ad483.add ((a1_0).toNat * 2)).off + 1, none⟩ = some (.int .i64 ((rd_T23 l0 a1_0).f1)) ∧ w'.cell? (ad483.add ((a1_1).toNat * 2)) = some (.int .i64 ((rd_T23 l0 a1_1).f0)) ∧ w'.cell? ⟨(ad483.add ((a1_1).toNat * 2)).block, (ad483.add ((a1_1).toNat * 2)).off + 1, none⟩ = some (.int .i64 ((rd_T23 l0 a1_1).f1)) ∧ w'.cell? (ad483.add ((a2_0).toNat * 2)) = some (.int .i64 ((rd_T23 l0 a2_0).f0)) ∧ w'.cell? ⟨(ad483.add ((a2_0).toNat * 2)).block, (ad483.add ((a2_0).toNat * 2)).off + 1, none⟩ = some (.int .i64 ((rd_T23 l0 a2_0).f1)) ∧ w'.cell? (ad483.add ((a2_1).toNat * 2)) = some (.int .i64 ((rd_T23 l0 a2_1).f0)) ∧ w'.cell? ⟨(ad483.add ((a2_1).toNat * 2)).block, (ad483.add ((a2_1).toNat * 2)).off + 1, none⟩ = some (.int .i64 ((rd_T23 l0 a2_1).f1))) (ds := []) (pf 0 22) (by kernel_rfl) rfl rfl ⟨bc BK481 0, bc BK481 1, bc BK482 0, bc BK482 1, ((HB.out.cell (World.block_lt_of_cell? w _ hw483_0)).trans hw483_0), ((HB.out.cell (World.block_lt_of_cell? w _ hw483_1)).trans hw483_1), ((HB.out.cell (World.block_lt_of_cell? w _ hw484_0)).trans hw484_0), ((HB.out.cell (World.block_lt_of_cell? w _ hw484_1)).trans hw484_1), ((HB.out.cell (World.block_lt_of_cell? w _ hw485_0)).trans hw485_0), ((HB.out.cell (World.block_lt_of_cell? w _ hw485_1)).trans hw485_1), ((HB.out.cell (World.block_lt_of_cell? w _ hw486_0)).trans hw486_0), ((HB.out.cell (World.block_lt_of_cell? w _ hw486_1)).trans hw486_1)⟩ (fun hHeld => ?_); refine with_tabW tangramref26_Wrong.tab21 tangramref26_Wrong.bits21 (fun HT_ HW_ => ?_)
                  generalize wc.drew = w48 at BK481 BK482 HB hx483_0 hx483_1 hx484_0 hx484_1 hx485_0 hx485_1 hx486_0 hx486_1 hHeld ⊢; refine pu_ 0 (some 56) (pf 1 22) HT_ ?_; refine pu_ 1 (some 57) (pf 2 22) HT_ ?_; refine pu_ 5 (some 61) #[T_,T_,F_,F_,F_,T_,F_,F_,F_,F_,F_,F_,F_,F_,F_,F_,F_,F_,F_,F_,F_,F_] HT_ ?_; refine pu_ 6 (some 62) #[T_,T_,F_,F_,F_,T_,T_,F_,F_,F_,F_,F_,F_,F_,F_,F_,F_,F_,F_,F_,F_,F_] HT_ ?_; refine pu_ 10 (some 66) #[T_,T_,F_,F_,F_,T_,T_,F_,F_,F_,T_,F_,F_,F_,F_,F_,F_,F_,F_,F_,F_,F_] HT_ ?_; refine pu_ 11 (some 67) #[T_,T_,F_,F_,F_,T_,T_,F_,F_,F_,T_,T_,F_,F_,F_,F_,F_,F_,F_,F_,F_,F_] HT_ ?_; refine pu_ 15 (some 71) #[T_,T_,F_,F_,F_,T_,T_,F_,F_,F_,T_,T_,F_,F_,F_,T_,F_,F_,F_,F_,F_,F_] HT_ ?_; refine pu_ 16 (some 72) #[T_,T_,F_,F_,F_,T_,T_,F_,F_,F_,T_,T_,F_,F_,F_,T_,T_,F_,F_,F_,F_,F_] HT_ ?_; refine tk12_ 2 (some 58) #[T_,T_,T_,F_,F_,T_,T_,F_,F_,F_,T_,T_,F_,F_,F_,T_,T_,F_,F_,F_,F_,F_] HT_ HW_ hHeld ?_; refine pu_ 3 (some 59) #[T_,T_,T_,T_,F_,T_,T_,F_,F_,F_,T_,T_,F_,F_,F_,T_,T_,F_,F_,F_,F_,F_] HT_ ?_; refine tk12_ 4 (some 60) #[T_,T_,T_,T_,T_,T_,T_,F_,F_,F_,T_,T_,F_,F_,F_,T_,T_,F_,F_,F_,F_,F_] HT_ HW_ hHeld ?_; refine tk12_ 7 (some 63) #[T_,T_,T_,T_,T_,T_,T_,T_,F_,F_,T_,T_,F_,F_,F_,T_,T_,F_,F_,F_,F_,F_] HT_ HW_ hHeld ?_; refine pu_ 8 (some 64) #[T_,T_,T_,T_,T_,T_,T_,T_,T_,F_,T_,T_,F_,F_,F_,T_,T_,F_,F_,F_,F_,F_] HT_ ?_; refine tk12_ 9 (some 65) #[T_,T_,T_,T_,T_,T_,T_,T_,T_,T_,T_,T_,F_,F_,F_,T_,T_,F_,F_,F_,F_,F_] HT_ HW_ hHeld ?_
                  refine tk12_ 12 (some 68) #[T_,T_,T_,T_,T_,T_,T_,T_,T_,T_,T_,T_,T_,F_,F_,T_,T_,F_,F_,F_,F_,F_] HT_ HW_ hHeld ?_; refine pu_ 13 (some 69) #[T_,T_,T_,T_,T_,T_,T_,T_,T_,T_,T_,T_,T_,T_,F_,T_,T_,F_,F_,F_,F_,F_] HT_ ?_; refine tk12_ 14 (some 70) (pf 17 22) HT_ HW_ hHeld ?_; refine tk12_ 17 (some 73) (pf 18 22) HT_ HW_ hHeld ?_; refine pu_ 18 (some 74) (pf 19 22) HT_ ?_; refine tk12_ 19 (some 75) (pf 20 22) HT_ HW_ hHeld ?_; refine on_ 20 (some 76) (pf 21 22) HT_ (fun K hK => ?_); refine gs_ Try.func17 #[.agg #[.int .i64 ((rd_T23 l0 a1_0).f0), .int .i64 ((rd_T23 l0 a1_0).f1)], .agg #[.int .i64 ((rd_T23 l0 a1_1).f0), .int .i64 ((rd_T23 l0 a1_1).f1)], .agg #[.int .i64 ((rd_T23 l0 a2_0).f0), .int .i64 ((rd_T23 l0 a2_0).f1)], .agg #[.int .i64 ((rd_T23 l0 a2_1).f0), .int .i64 ((rd_T23 l0 a2_1).f1)]] ?_
                  with_reducible refine (tangramref26_Meet.calls kj29 ((rd_T23 l0 a1_0).f0) ((rd_T23 l0 a1_0).f1) ((rd_T23 l0 a1_1).f0) ((rd_T23 l0 a1_1).f1) ((rd_T23 l0 a2_0).f0) ((rd_T23 l0 a2_0).f1) ((rd_T23 l0 a2_1).f0) ((rd_T23 l0 a2_1).f1) t487 _ A47.out).mono ?_
                  rintro e w49 ⟨rfl, hb⟩; refine ⟨_, rfl, ?_⟩; replace BK481 := kx BK481 hb; replace BK482 := kx BK482 hb; replace HB := hs (hb2 HB GE481 GE482) hb
                  (try clear hb)
                  (try clear hk)
                  (try clear hi)
                  refine hK.out _ _ ⟨bc BK481 0, bc BK481 1, bc BK482 0, bc BK482 1, ((HB.out.cell (World.block_lt_of_cell? w _ hw483_0)).trans hw483_0), ((HB.out.cell (World.block_lt_of_cell? w _ hw483_1)).trans hw483_1), ((HB.out.cell (World.block_lt_of_cell? w _ hw484_0)).trans hw484_0), ((HB.out.cell (World.block_lt_of_cell? w _ hw484_1)).trans hw484_1), ((HB.out.cell (World.block_lt_of_cell? w _ hw485_0)).trans hw485_0), ((HB.out.cell (World.block_lt_of_cell? w _ hw485_1)).trans hw485_1), ((HB.out.cell (World.block_lt_of_cell? w _ hw486_0)).trans hw486_0), ((HB.out.cell (World.block_lt_of_cell? w _ hw486_1)).trans hw486_1)⟩ (fun hHeld => ?_); clear hK K; refine nm_ (some 76) ?_; refine pu_ 21 (some 6) (pf 22 22) HT_ ?_; refine done_ (done_of HT_.out (by kernel_rfl)) ?_
                  try go_wp2
                  go_ret
                  exact ⟨by rfl, hb2 HB GE481 GE482⟩
                 ·rw [if_neg c46] at H; exact absurd H (by simp)
                ·rw [if_neg c45] at H; exact absurd H (by simp)
               ·rw [if_neg c44] at H; exact absurd H (by simp)
              ·rw [if_neg c43] at H; exact absurd H (by simp)
             ·rw [if_neg c42] at H; exact absurd H (by simp)
            ·rw [if_neg c41] at H; exact absurd H (by simp)
           ·rw [if_neg c40] at H; exact absurd H (by simp)
          ·rw [if_neg c39] at H; exact absurd H (by simp)
         ·rw [if_neg c38] at H; have c38b0 : decide (x7_29 < 0) = false := decide_eq_false c38; clear c38
          by_cases c50 : 0 ≤ x7_29
          ·rw [if_pos c50] at H; have c50b0 : decide (0 ≤ x7_29) = true := decide_eq_true c50; clear c50
           by_cases c51 : x7_29 < (l0.length : Int)
           ·rw [if_pos c51] at H; have c51b0 : decide (x7_29 < (l0.length : Int)) = true := decide_eq_true c51; clear c51
            by_cases c52 : 0 ≤ x8_29
            ·rw [if_pos c52] at H; have c52b0 : decide (0 ≤ x8_29) = true := decide_eq_true c52; clear c52
             by_cases c53 : x8_29 < (l0.length : Int)
             ·rw [if_pos c53] at H; have c53b0 : decide (x8_29 < (l0.length : Int)) = true := decide_eq_true c53; clear c53
              by_cases c54 : 0 ≤ x9_29
              ·rw [if_pos c54] at H; have c54b0 : decide (0 ≤ x9_29) = true := decide_eq_true c54; clear c54
               by_cases c55 : x9_29 < (l0.length : Int)
               ·rw [if_pos c55] at H; have c55b0 : decide (x9_29 < (l0.length : Int)) = true := decide_eq_true c55; clear c55; replace H := Option.bind_eq_some_iff.mp H; obtain ⟨t491, A560, H⟩ := H; (try dsimp only at H); have A56 := Aside0.mk A560; clear A560
                by_cases c57 : t491 = true
                ·subst c57; rw [if_pos rfl] at H; obtain rfl := Option.some.inj H
                 try go_wp2
                 replace BK481 := bd BK481; replace BK482 := bd BK482; replace HB := Aside0.mk (below_drew1 HB.out); have p488 : 0 ≤ (x7_29 : Int) := of_decide_eq_true (by first | (with_reducible assumption) | assumption); have q488 : x7_29 < (l0.length : Int) := of_decide_eq_true (by first | (with_reducible assumption) | assumption); obtain ⟨ad488, e488, hx488_0, hx488_1⟩ := at_T23 HR0.out x7_29 p488 q488; have hw488_1 := hx488_1; have hw488_0 := hx488_0
                 cases e488
                 replace hx488_0 := (HB.out.cell (World.block_lt_of_cell? w _ hx488_0)).trans hx488_0; replace hx488_1 := (HB.out.cell (World.block_lt_of_cell? w _ hx488_1)).trans hx488_1; replace p488 := eq_true p488; replace q488 := eq_true q488; have p489 : 0 ≤ (x8_29 : Int) := of_decide_eq_true (by first | (with_reducible assumption) | assumption); have q489 : x8_29 < (l0.length : Int) := of_decide_eq_true (by first | (with_reducible assumption) | assumption); obtain ⟨ad489, e489, hx489_0, hx489_1⟩ := at_T23 HR0.out x8_29 p489 q489; have hw489_1 := hx489_1; have hw489_0 := hx489_0; obtain rfl : ad488 = ad489 := (by injection e489); replace hx489_0 := (HB.out.cell (World.block_lt_of_cell? w _ hx489_0)).trans hx489_0; replace hx489_1 := (HB.out.cell (World.block_lt_of_cell? w _ hx489_1)).trans hx489_1; replace p489 := eq_true p489; replace q489 := eq_true q489; have p490 : 0 ≤ (x9_29 : Int) := of_decide_eq_true (by first | (with_reducible assumption) | assumption); have q490 : x9_29 < (l0.length : Int) := of_decide_eq_true (by first | (with_reducible assumption) | assumption); obtain ⟨ad490, e490, hx490_0, hx490_1⟩ := at_T23 HR0.out x9_29 p490 q490; have hw490_1 := hx490_1; have hw490_0 := hx490_0; obtain rfl : ad488 = ad490 := (by injection e490); replace hx490_0 := (HB.out.cell (World.block_lt_of_cell? w _ hx490_0)).trans hx490_0; replace hx490_1 := (HB.out.cell (World.block_lt_of_cell? w _ hx490_1)).trans hx490_1; replace p490 := eq_true p490; replace q490 := eq_true q490
                 refine start_ (n := 29) (S := fun w' => w'.cell? (ad488.add ((x7_29).toNat * 2)) = some (.int .i64 ((rd_T23 l0 x7_29).f0)) ∧ w'.cell? ⟨(ad488.add ((x7_29).toNat * 2)).block, (ad488.add ((x7_29).toNat * 2)).off + 1, none⟩ = some (.int .i64 ((rd_T23 l0 x7_29).f1)) ∧ w'.cell? (ad488.add ((x8_29).toNat * 2)) = some (.int .i64 ((rd_T23 l0 x8_29).f0)) ∧ w'.cell? ⟨(ad488.add ((x8_29).toNat * 2)).block, (ad488.add ((x8_29).toNat * 2)).off + 1, none⟩ = some (.int .i64 ((rd_T23 l0 x8_29).f1)) ∧ w'.cell? (ad488.add ((x9_29).toNat * 2)) = some (.int .i64 ((rd_T23 l0 x9_29).f0)) ∧ w'.cell? ⟨(ad488.add ((x9_29).toNat * 2)).block, (ad488.add ((x9_29).toNat * 2)).off + 1, none⟩ = some (.int .i64 ((rd_T23 l0 x9_29).f1))) (ds := []) (pf 0 29) (by kernel_rfl) rfl rfl ⟨((HB.out.cell (World.block_lt_of_cell? w _ hw488_0)).trans hw488_0), ((HB.out.cell (World.block_lt_of_cell? w _ hw488_1)).trans hw488_1), ((HB.out.cell (World.block_lt_of_cell? w _ hw489_0)).trans hw489_0), ((HB.out.cell (World.block_lt_of_cell? w _ hw489_1)).trans hw489_1), ((HB.out.cell (World.block_lt_of_cell? w _ hw490_0)).trans hw490_0), ((HB.out.cell (World.block_lt_of_cell? w _ hw490_1)).trans hw490_1)⟩ (fun hHeld => ?_); refine with_tabW tangramref26_Wrong.tab22 tangramref26_Wrong.bits22 (fun HT_ HW_ => ?_); generalize wc.drew = w58 at BK481 BK482 HB hx488_0 hx488_1 hx489_0 hx489_1 hx490_0 hx490_1 hHeld ⊢; refine pu_ 0 (some 77) (pf 1 29) HT_ ?_
                 refine pu_ 1 (some 78) (pf 2 29) HT_ ?_; refine pu_ 2 (some 79) (pf 3 29) HT_ ?_; refine pu_ 4 (some 81) #[T_,T_,T_,F_,T_,F_,F_,F_,F_,F_,F_,F_,F_,F_,F_,F_,F_,F_,F_,F_,F_,F_,F_,F_,F_,F_,F_,F_,F_] HT_ ?_; refine pu_ 5 (some 82) #[T_,T_,T_,F_,T_,T_,F_,F_,F_,F_,F_,F_,F_,F_,F_,F_,F_,F_,F_,F_,F_,F_,F_,F_,F_,F_,F_,F_,F_] HT_ ?_; refine pu_ 6 (some 83) #[T_,T_,T_,F_,T_,T_,T_,F_,F_,F_,F_,F_,F_,F_,F_,F_,F_,F_,F_,F_,F_,F_,F_,F_,F_,F_,F_,F_,F_] HT_ ?_; refine pu_ 8 (some 85) #[T_,T_,T_,F_,T_,T_,T_,F_,T_,F_,F_,F_,F_,F_,F_,F_,F_,F_,F_,F_,F_,F_,F_,F_,F_,F_,F_,F_,F_] HT_ ?_; refine pu_ 9 (some 86) #[T_,T_,T_,F_,T_,T_,T_,F_,T_,T_,F_,F_,F_,F_,F_,F_,F_,F_,F_,F_,F_,F_,F_,F_,F_,F_,F_,F_,F_] HT_ ?_; refine pu_ 10 (some 87) #[T_,T_,T_,F_,T_,T_,T_,F_,T_,T_,T_,F_,F_,F_,F_,F_,F_,F_,F_,F_,F_,F_,F_,F_,F_,F_,F_,F_,F_] HT_ ?_; refine tk6_ 3 (some 80) #[T_,T_,T_,T_,T_,T_,T_,F_,T_,T_,T_,F_,F_,F_,F_,F_,F_,F_,F_,F_,F_,F_,F_,F_,F_,F_,F_,F_,F_] HT_ HW_ hHeld ?_; refine tk6_ 7 (some 84) (pf 11 29) HT_ HW_ hHeld ?_; refine tk6_ 11 (some 88) (pf 12 29) HT_ HW_ hHeld ?_; refine on_ 12 (some 89) (pf 13 29) HT_ (fun K hK => ?_)
                 refine gs_ Try.func15 #[.agg #[.int .i64 ((rd_T23 l0 x7_29).f0), .int .i64 ((rd_T23 l0 x7_29).f1)], .agg #[.int .i64 ((rd_T23 l0 x8_29).f0), .int .i64 ((rd_T23 l0 x8_29).f1)], .agg #[.int .i64 ((rd_T23 l0 x9_29).f0), .int .i64 ((rd_T23 l0 x9_29).f1)]] ?_
                 with_reducible refine (tangramref26_On.calls kj29 ((rd_T23 l0 x7_29).f0) ((rd_T23 l0 x7_29).f1) ((rd_T23 l0 x8_29).f0) ((rd_T23 l0 x8_29).f1) ((rd_T23 l0 x9_29).f0) ((rd_T23 l0 x9_29).f1) true _ A56.out).mono ?_
                 rintro e w59 ⟨rfl, hb⟩; refine ⟨_, rfl, ?_⟩; replace BK481 := kx BK481 hb; replace BK482 := kx BK482 hb; replace HB := hs (hb2 HB GE481 GE482) hb
                 (try clear hb)
                 (try clear hk)
                 (try clear hi)
                 refine hK.out _ _ ⟨((HB.out.cell (World.block_lt_of_cell? w _ hw488_0)).trans hw488_0), ((HB.out.cell (World.block_lt_of_cell? w _ hw488_1)).trans hw488_1), ((HB.out.cell (World.block_lt_of_cell? w _ hw489_0)).trans hw489_0), ((HB.out.cell (World.block_lt_of_cell? w _ hw489_1)).trans hw489_1), ((HB.out.cell (World.block_lt_of_cell? w _ hw490_0)).trans hw490_0), ((HB.out.cell (World.block_lt_of_cell? w _ hw490_1)).trans hw490_1)⟩ (fun hHeld => ?_); clear hK K; refine nm_ (some 89) ?_; refine pu_ 13 (some 90) (pf 14 29) HT_ ?_; refine pn_ 14 (some 91) (pf 15 29) HT_ ?_; refine pn_ 15 (some 92) (pf 16 29) HT_ ?_; refine pn_ 16 (some 93) (pf 17 29) HT_ ?_; refine pn_ 17 (some 94) (pf 18 29) HT_ ?_; refine pn_ 18 (some 95) (pf 19 29) HT_ ?_; refine pn_ 19 (some 96) (pf 20 29) HT_ ?_; refine pn_ 20 (some 97) (pf 21 29) HT_ ?_; refine pn_ 21 (some 98) (pf 22 29) HT_ ?_
                 refine pn_ 22 (some 99) (pf 23 29) HT_ ?_; refine pn_ 23 (some 100) (pf 24 29) HT_ ?_; refine pn_ 24 (some 101) (pf 25 29) HT_ ?_; refine pn_ 25 (some 102) (pf 26 29) HT_ ?_; refine pn_ 26 (some 103) (pf 27 29) HT_ ?_; refine pu_ 27 (some 104) (pf 28 29) HT_ ?_; refine pu_ 28 (some 6) (pf 29 29) HT_ ?_; refine done_ (done_of HT_.out (by kernel_rfl)) ?_
                 try go_wp2
                 go_ret
                 exact ⟨by rfl, hb2 HB GE481 GE482⟩
                ·replace c57 := Bool.eq_false_iff.mpr c57; subst c57; rw [if_neg (show ¬ (false = true) by decide)] at H; replace H := Option.bind_eq_some_iff.mp H; obtain ⟨t495, A600, H⟩ := H; (try dsimp only at H); have A60 := Aside0.mk A600; clear A600; obtain rfl := Option.some.inj H
                 try go_wp2
                 replace BK481 := bd BK481; replace BK482 := bd BK482; replace HB := Aside0.mk (below_drew1 HB.out); have p488 : 0 ≤ (x7_29 : Int) := of_decide_eq_true (by first | (with_reducible assumption) | assumption); have q488 : x7_29 < (l0.length : Int) := of_decide_eq_true (by first | (with_reducible assumption) | assumption); obtain ⟨ad488, e488, hx488_0, hx488_1⟩ := at_T23 HR0.out x7_29 p488 q488; have hw488_1 := hx488_1; have hw488_0 := hx488_0
                 cases e488
                 replace hx488_0 := (HB.out.cell (World.block_lt_of_cell? w _ hx488_0)).trans hx488_0; replace hx488_1 := (HB.out.cell (World.block_lt_of_cell? w _ hx488_1)).trans hx488_1; replace p488 := eq_true p488; replace q488 := eq_true q488; have p489 : 0 ≤ (x8_29 : Int) := of_decide_eq_true (by first | (with_reducible assumption) | assumption); have q489 : x8_29 < (l0.length : Int) := of_decide_eq_true (by first | (with_reducible assumption) | assumption); obtain ⟨ad489, e489, hx489_0, hx489_1⟩ := at_T23 HR0.out x8_29 p489 q489; have hw489_1 := hx489_1; have hw489_0 := hx489_0; obtain rfl : ad488 = ad489 := (by injection e489); replace hx489_0 := (HB.out.cell (World.block_lt_of_cell? w _ hx489_0)).trans hx489_0; replace hx489_1 := (HB.out.cell (World.block_lt_of_cell? w _ hx489_1)).trans hx489_1; replace p489 := eq_true p489; replace q489 := eq_true q489; have p490 : 0 ≤ (x9_29 : Int) := of_decide_eq_true (by first | (with_reducible assumption) | assumption); have q490 : x9_29 < (l0.length : Int) := of_decide_eq_true (by first | (with_reducible assumption) | assumption); obtain ⟨ad490, e490, hx490_0, hx490_1⟩ := at_T23 HR0.out x9_29 p490 q490; have hw490_1 := hx490_1; have hw490_0 := hx490_0; obtain rfl : ad488 = ad490 := (by injection e490); replace hx490_0 := (HB.out.cell (World.block_lt_of_cell? w _ hx490_0)).trans hx490_0; replace hx490_1 := (HB.out.cell (World.block_lt_of_cell? w _ hx490_1)).trans hx490_1; replace p490 := eq_true p490; replace q490 := eq_true q490
                 have p492 : 0 ≤ (x7_29 : Int) := of_decide_eq_true (by first | (with_reducible assumption) | assumption); have q492 : x7_29 < (l0.length : Int) := of_decide_eq_true (by first | (with_reducible assumption) | assumption); obtain ⟨ad492, e492, hx492_0, hx492_1⟩ := at_T23 HR0.out x7_29 p492 q492; have hw492_1 := hx492_1; have hw492_0 := hx492_0; obtain rfl : ad488 = ad492 := (by injection e492); replace hx492_0 := (HB.out.cell (World.block_lt_of_cell? w _ hx492_0)).trans hx492_0; replace hx492_1 := (HB.out.cell (World.block_lt_of_cell? w _ hx492_1)).trans hx492_1; replace p492 := eq_true p492; replace q492 := eq_true q492; have p493 : 0 ≤ (x9_29 : Int) := of_decide_eq_true (by first | (with_reducible assumption) | assumption); have q493 : x9_29 < (l0.length : Int) := of_decide_eq_true (by first | (with_reducible assumption) | assumption); obtain ⟨ad493, e493, hx493_0, hx493_1⟩ := at_T23 HR0.out x9_29 p493 q493; have hw493_1 := hx493_1; have hw493_0 := hx493_0; obtain rfl : ad488 = ad493 := (by injection e493); replace hx493_0 := (HB.out.cell (World.block_lt_of_cell? w _ hx493_0)).trans hx493_0; replace hx493_1 := (HB.out.cell (World.block_lt_of_cell? w _ hx493_1)).trans hx493_1; replace p493 := eq_true p493; replace q493 := eq_true q493; have p494 : 0 ≤ (x8_29 : Int) := of_decide_eq_true (by first | (with_reducible assumption) | assumption); have q494 : x8_29 < (l0.length : Int) := of_decide_eq_true (by first | (with_reducible assumption) | assumption); obtain ⟨ad494, e494, hx494_0, hx494_1⟩ := at_T23 HR0.out x8_29 p494 q494
                 have hw494_1 := hx494_1; have hw494_0 := hx494_0; obtain rfl : ad488 = ad494 := (by injection e494); replace hx494_0 := (HB.out.cell (World.block_lt_of_cell? w _ hx494_0)).trans hx494_0; replace hx494_1 := (HB.out.cell (World.block_lt_of_cell? w _ hx494_1)).trans hx494_1; replace p494 := eq_true p494; replace q494 := eq_true q494; refine start_ (n := 29) (S := fun w' => w'.cell? (ad488.add ((x7_29).toNat * 2)) = some (.int .i64 ((rd_T23 l0 x7_29).f0)) ∧ w'.cell? ⟨(ad488.add ((x7_29).toNat * 2)).block, (ad488.add ((x7_29).toNat * 2)).off + 1, none⟩ = some (.int .i64 ((rd_T23 l0 x7_29).f1)) ∧ w'.cell? (ad488.add ((x8_29).toNat * 2)) = some (.int .i64 ((rd_T23 l0 x8_29).f0)) ∧ w'.cell? ⟨(ad488.add ((x8_29).toNat * 2)).block, (ad488.add ((x8_29).toNat * 2)).off + 1, none⟩ = some (.int .i64 ((rd_T23 l0 x8_29).f1)) ∧ w'.cell? (ad488.add ((x9_29).toNat * 2)) = some (.int .i64 ((rd_T23 l0 x9_29).f0)) ∧ w'.cell? ⟨(ad488.add ((x9_29).toNat * 2)).block, (ad488.add ((x9_29).toNat * 2)).off + 1, none⟩ = some (.int .i64 ((rd_T23 l0 x9_29).f1)) ∧ w'.cell? (ad488.add ((x7_29).toNat * 2)) = some (.int .i64 ((rd_T23 l0 x7_29).f0)) ∧ w'.cell? ⟨(ad488.add ((x7_29).toNat * 2)).block, (ad488.add ((x7_29).toNat * 2)).off + 1, none⟩ = some (.int .i64 ((rd_T23 l0 x7_29).f1)) ∧ w'.cell? (ad488.add ((x9_29).toNat * 2)) = some (.int .i64 ((rd_T23 l0 x9_29).f0)) ∧ w'.cell? ⟨(ad488.add ((x9_29).toNat * 2)).block, (ad488.add ((x9_29).toNat * 2)).off + 1, none⟩ = some (.int .i64 ((rd_T23 l0 x9_29).f1)) ∧ w'.cell? (ad488.add ((x8_29).toNat * 2)) = some (.int .i64 ((rd_T23 l0 x8_29).f0)) ∧ w'.cell? ⟨(ad488.add ((x8_29).toNat * 2)).block, (ad488.add ((x8_29).toNat * 2)).off + 1, none⟩ = some (.int .i64 ((rd_T23 l0 x8_29).f1))) (ds := []) (pf 0 29) (by kernel_rfl) rfl rfl ⟨((HB.out.cell (World.block_lt_of_cell? w _ hw488_0)).trans hw488_0), ((HB.out.cell (World.block_lt_of_cell? w _ hw488_1)).trans hw488_1), ((HB.out.cell (World.block_lt_of_cell? w _ hw489_0)).trans hw489_0), ((HB.out.cell (World.block_lt_of_cell? w _ hw489_1)).trans hw489_1), ((HB.out.cell (World.block_lt_of_cell? w _ hw490_0)).trans hw490_0), ((HB.out.cell (World.block_lt_of_cell? w _ hw490_1)).trans hw490_1), ((HB.out.cell (World.block_lt_of_cell? w _ hw492_0)).trans hw492_0), ((HB.out.cell (World.block_lt_of_cell? w _ hw492_1)).trans hw492_1), ((HB.out.cell (World.block_lt_of_cell? w _ hw493_0)).trans hw493_0), ((HB.out.cell (World.block_lt_of_cell? w _ hw493_1)).trans hw493_1), ((HB.out.cell (World.block_lt_of_cell? w _ hw494_0)).trans hw494_0), ((HB.out.cell (World.block_lt_of_cell? w _ hw494_1)).trans hw494_1)⟩ (fun hHeld => ?_); refine with_tabW tangramref26_Wrong.tab22 tangramref26_Wrong.bits22 (fun HT_ HW_ => ?_)
                 generalize wc.drew = w61 at BK481 BK482 HB hx488_0 hx488_1 hx489_0 hx489_1 hx490_0 hx490_1 hx492_0 hx492_1 hx493_0 hx493_1 hx494_0 hx494_1 hHeld ⊢; refine pu_ 0 (some 77) (pf 1 29) HT_ ?_; refine pu_ 1 (some 78) (pf 2 29) HT_ ?_; refine pu_ 2 (some 79) (pf 3 29) HT_ ?_; refine pu_ 4 (some 81) #[T_,T_,T_,F_,T_,F_,F_,F_,F_,F_,F_,F_,F_,F_,F_,F_,F_,F_,F_,F_,F_,F_,F_,F_,F_,F_,F_,F_,F_] HT_ ?_; refine pu_ 5 (some 82) #[T_,T_,T_,F_,T_,T_,F_,F_,F_,F_,F_,F_,F_,F_,F_,F_,F_,F_,F_,F_,F_,F_,F_,F_,F_,F_,F_,F_,F_] HT_ ?_; refine pu_ 6 (some 83) #[T_,T_,T_,F_,T_,T_,T_,F_,F_,F_,F_,F_,F_,F_,F_,F_,F_,F_,F_,F_,F_,F_,F_,F_,F_,F_,F_,F_,F_] HT_ ?_; refine pu_ 8 (some 85) #[T_,T_,T_,F_,T_,T_,T_,F_,T_,F_,F_,F_,F_,F_,F_,F_,F_,F_,F_,F_,F_,F_,F_,F_,F_,F_,F_,F_,F_] HT_ ?_; refine pu_ 9 (some 86) #[T_,T_,T_,F_,T_,T_,T_,F_,T_,T_,F_,F_,F_,F_,F_,F_,F_,F_,F_,F_,F_,F_,F_,F_,F_,F_,F_,F_,F_] HT_ ?_; refine pu_ 10 (some 87) #[T_,T_,T_,F_,T_,T_,T_,F_,T_,T_,T_,F_,F_,F_,F_,F_,F_,F_,F_,F_,F_,F_,F_,F_,F_,F_,F_,F_,F_] HT_ ?_; refine tk12_ 3 (some 80) #[T_,T_,T_,T_,T_,T_,T_,F_,T_,T_,T_,F_,F_,F_,F_,F_,F_,F_,F_,F_,F_,F_,F_,F_,F_,F_,F_,F_,F_] HT_ HW_ hHeld ?_; refine tk12_ 7 (some 84) (pf 11 29) HT_ HW_ hHeld ?_
                 refine tk12_ 11 (some 88) (pf 12 29) HT_ HW_ hHeld ?_; refine on_ 12 (some 89) (pf 13 29) HT_ (fun K hK => ?_); refine gs_ Try.func15 #[.agg #[.int .i64 ((rd_T23 l0 x7_29).f0), .int .i64 ((rd_T23 l0 x7_29).f1)], .agg #[.int .i64 ((rd_T23 l0 x8_29).f0), .int .i64 ((rd_T23 l0 x8_29).f1)], .agg #[.int .i64 ((rd_T23 l0 x9_29).f0), .int .i64 ((rd_T23 l0 x9_29).f1)]] ?_
                 with_reducible refine (tangramref26_On.calls kj29 ((rd_T23 l0 x7_29).f0) ((rd_T23 l0 x7_29).f1) ((rd_T23 l0 x8_29).f0) ((rd_T23 l0 x8_29).f1) ((rd_T23 l0 x9_29).f0) ((rd_T23 l0 x9_29).f1) false _ A56.out).mono ?_
                 rintro e w62 ⟨rfl, hb⟩; refine ⟨_, rfl, ?_⟩; replace BK481 := kx BK481 hb; replace BK482 := kx BK482 hb; replace HB := hs (hb2 HB GE481 GE482) hb
                 (try clear hb)
                 (try clear hk)
                 (try clear hi)
                 refine hK.out _ _ ⟨((HB.out.cell (World.block_lt_of_cell? w _ hw488_0)).trans hw488_0), ((HB.out.cell (World.block_lt_of_cell? w _ hw488_1)).trans hw488_1), ((HB.out.cell (World.block_lt_of_cell? w _ hw489_0)).trans hw489_0), ((HB.out.cell (World.block_lt_of_cell? w _ hw489_1)).trans hw489_1), ((HB.out.cell (World.block_lt_of_cell? w _ hw490_0)).trans hw490_0), ((HB.out.cell (World.block_lt_of_cell? w _ hw490_1)).trans hw490_1), ((HB.out.cell (World.block_lt_of_cell? w _ hw492_0)).trans hw492_0), ((HB.out.cell (World.block_lt_of_cell? w _ hw492_1)).trans hw492_1), ((HB.out.cell (World.block_lt_of_cell? w _ hw493_0)).trans hw493_0), ((HB.out.cell (World.block_lt_of_cell? w _ hw493_1)).trans hw493_1), ((HB.out.cell (World.block_lt_of_cell? w _ hw494_0)).trans hw494_0), ((HB.out.cell (World.block_lt_of_cell? w _ hw494_1)).trans hw494_1)⟩ (fun hHeld => ?_); clear hK K; refine nm_ (some 89) ?_; refine pu_ 13 (some 90) (pf 14 29) HT_ ?_; refine pu_ 14 (some 91) (pf 15 29) HT_ ?_; refine pu_ 15 (some 92) (pf 16 29) HT_ ?_; refine pu_ 16 (some 93) (pf 17 29) HT_ ?_; refine pu_ 18 (some 95) #[T_,T_,T_,T_,T_,T_,T_,T_,T_,T_,T_,T_,T_,T_,T_,T_,T_,F_,T_,F_,F_,F_,F_,F_,F_,F_,F_,F_,F_] HT_ ?_
                 refine pu_ 19 (some 96) #[T_,T_,T_,T_,T_,T_,T_,T_,T_,T_,T_,T_,T_,T_,T_,T_,T_,F_,T_,T_,F_,F_,F_,F_,F_,F_,F_,F_,F_] HT_ ?_; refine pu_ 20 (some 97) #[T_,T_,T_,T_,T_,T_,T_,T_,T_,T_,T_,T_,T_,T_,T_,T_,T_,F_,T_,T_,T_,F_,F_,F_,F_,F_,F_,F_,F_] HT_ ?_; refine pu_ 22 (some 99) #[T_,T_,T_,T_,T_,T_,T_,T_,T_,T_,T_,T_,T_,T_,T_,T_,T_,F_,T_,T_,T_,F_,T_,F_,F_,F_,F_,F_,F_] HT_ ?_; refine pu_ 23 (some 100) #[T_,T_,T_,T_,T_,T_,T_,T_,T_,T_,T_,T_,T_,T_,T_,T_,T_,F_,T_,T_,T_,F_,T_,T_,F_,F_,F_,F_,F_] HT_ ?_; refine pu_ 24 (some 101) #[T_,T_,T_,T_,T_,T_,T_,T_,T_,T_,T_,T_,T_,T_,T_,T_,T_,F_,T_,T_,T_,F_,T_,T_,T_,F_,F_,F_,F_] HT_ ?_; refine tk12_ 17 (some 94) #[T_,T_,T_,T_,T_,T_,T_,T_,T_,T_,T_,T_,T_,T_,T_,T_,T_,T_,T_,T_,T_,F_,T_,T_,T_,F_,F_,F_,F_] HT_ HW_ hHeld ?_; refine tk12_ 21 (some 98) (pf 25 29) HT_ HW_ hHeld ?_; refine tk12_ 25 (some 102) (pf 26 29) HT_ HW_ hHeld ?_; refine on_ 26 (some 103) (pf 27 29) HT_ (fun K hK => ?_); refine gs_ Try.func15 #[.agg #[.int .i64 ((rd_T23 l0 x7_29).f0), .int .i64 ((rd_T23 l0 x7_29).f1)], .agg #[.int .i64 ((rd_T23 l0 x9_29).f0), .int .i64 ((rd_T23 l0 x9_29).f1)], .agg #[.int .i64 ((rd_T23 l0 x8_29).f0), .int .i64 ((rd_T23 l0 x8_29).f1)]] ?_
                 with_reducible refine (tangramref26_On.calls kj29 ((rd_T23 l0 x7_29).f0) ((rd_T23 l0 x7_29).f1) ((rd_T23 l0 x9_29).f0) ((rd_T23 l0 x9_29).f1) ((rd_T23 l0 x8_29).f0) ((rd_T23 l0 x8_29).f1) t495 _ A60.out).mono ?_
                 rintro e w63 ⟨rfl, hb⟩; refine ⟨_, rfl, ?_⟩; replace BK481 := kx BK481 hb; replace BK482 := kx BK482 hb; replace HB := hs (hb2 HB GE481 GE482) hb
                 (try clear hb)
                 (try clear hk)
                 (try clear hi)
                 refine hK.out _ _ ⟨((HB.out.cell (World.block_lt_of_cell? w _ hw488_0)).trans hw488_0), ((HB.out.cell (World.block_lt_of_cell? w _ hw488_1)).trans hw488_1), ((HB.out.cell (World.block_lt_of_cell? w _ hw489_0)).trans hw489_0), ((HB.out.cell (World.block_lt_of_cell? w _ hw489_1)).trans hw489_1), ((HB.out.cell (World.block_lt_of_cell? w _ hw490_0)).trans hw490_0), ((HB.out.cell (World.block_lt_of_cell? w _ hw490_1)).trans hw490_1), ((HB.out.cell (World.block_lt_of_cell? w _ hw492_0)).trans hw492_0), ((HB.out.cell (World.block_lt_of_cell? w _ hw492_1)).trans hw492_1), ((HB.out.cell (World.block_lt_of_cell? w _ hw493_0)).trans hw493_0), ((HB.out.cell (World.block_lt_of_cell? w _ hw493_1)).trans hw493_1), ((HB.out.cell (World.block_lt_of_cell? w _ hw494_0)).trans hw494_0), ((HB.out.cell (World.block_lt_of_cell? w _ hw494_1)).trans hw494_1)⟩ (fun hHeld => ?_); clear hK K; refine nm_ (some 103) ?_; refine pu_ 27 (some 104) (pf 28 29) HT_ ?_; refine pu_ 28 (some 6) (pf 29 29) HT_ ?_; refine done_ (done_of HT_.out (by kernel_rfl)) ?_
                 try go_wp2
                 go_ret
                 exact ⟨by rfl, hb2 HB GE481 GE482⟩
               ·rw [if_neg c55] at H; exact absurd H (by simp)
              ·rw [if_neg c54] at H; exact absurd H (by simp)
             ·rw [if_neg c53] at H; exact absurd H (by simp)
            ·rw [if_neg c52] at H; exact absurd H (by simp)
           ·rw [if_neg c51] at H; exact absurd H (by simp)
          ·rw [if_neg c50] at H; exact absurd H (by simp)

open Go.RowKit Go.Proofs.YthfoliejhdpbaaaW.PrintWords Go.Proofs.YthfoliejhdpbaaaW.PrintLast Go.Proofs.YthfoliejhdpbaaaW.PrintMore
open Go.Proofs.YthfoliejhdpbaaaX
attribute [local go_sem] max2_int min2_int max_two min_two max_three min_three max_four min_four
set_option linter.unusedVariables false
set_option linter.unusedSimpArgs false

/-! ### tangramref26_First: function 22 -/
mutual
def tangramref26_First.l0 : Nat → List (S23) → Int → Int → List (S62) → Option (Int × Int × Int)
 | 0, _, _, _, _ => none
 | k + 1, x1, x7, x497000, x497001 => if x7 < (x497001.length : Int) then (tangramref26_First.l1 k x1 x7 (wrap64 (x7 + 1)) x497000 x497001) else (some ((-1), (-1), 0))
def tangramref26_First.l1 : Nat → List (S23) → Int → Int → Int → List (S62) → Option (Int × Int × Int)
 | 0, _, _, _, _, _ => none
 | k + 1, x1, x7, x8, x497000, x497001 => if x8 < (x497001.length : Int) then (if 0 ≤ x7 then (if x7 < (x497001.length : Int) then (if 0 ≤ x8 then ((tangramref26_Wrong.f k x1 ((rd_T62 x497001 x7).f0) ((rd_T62 x497001 x7).f1) ((rd_T62 x497001 x8).f0) ((rd_T62 x497001 x8).f1)).bind fun t501 => (if t501 = true then (some (x7, x8, 0)) else (tangramref26_First.l1 k x1 x7 (wrap64 (x8 + 1)) x497000 x497001))) else (none)) else (none)) else (none)) else (tangramref26_First.l0 k x1 (wrap64 (x7 + 1)) x497000 x497001)
end
def tangramref26_First.f (k : Nat) (a0_0 : Int) (l0_1 : List (S62)) (l1 : List (S23)) : Option (Int × Int × Int) := (tangramref03_Valid.f k a0_0 l0_1).bind fun t497 => (if t497 = true then ((tangramref26_Drawing.f k a0_0 l1).bind fun t498 => (if t498 = true then (tangramref26_First.l0 k l1 0 a0_0 l0_1) else (some (0, 0, 260)))) else (some (0, 0, 1)))
theorem tangramref26_First.mono_l : ∀ k, (∀ y0 y1 y2 y3, LeO (tangramref26_First.l0 k y0 y1 y2 y3) (tangramref26_First.l0 (k + 1) y0 y1 y2 y3)) ∧ (∀ y0 y1 y2 y3 y4, LeO (tangramref26_First.l1 k y0 y1 y2 y3 y4) (tangramref26_First.l1 (k + 1) y0 y1 y2 y3 y4))
 | 0 => ⟨fun _ _ _ _ r h => by simp [tangramref26_First.l0] at h, fun _ _ _ _ _ r h => by simp [tangramref26_First.l1] at h⟩
 | k + 1 => by
  obtain ⟨ih0, ih1⟩ := tangramref26_First.mono_l k; refine ⟨?_, ?_⟩
  ·intro y0 y1 y2 y3
   unfold tangramref26_First.l0
   repeat' first
   | (with_reducible exact ih0 _ _ _ _)
   | (with_reducible exact ih1 _ _ _ _ _)
   | (with_reducible exact tangramref03_Valid.mono _ _ _)
   | (with_reducible exact tangramref26_Drawing.mono _ _ _)
   | (with_reducible exact tangramref26_Wrong.mono _ _ _ _ _ _)
   | (with_reducible exact LeO.refl _)
   | (with_reducible exact LeO.none _)
   | (with_reducible refine LeO.ite ?_ ?_)
   | (with_reducible refine LeO.bind ?_ (fun _ => ?_))
   | exact LeO.none _
   | refine LeO.ite ?_ ?_
   | refine LeO.bind ?_ (fun _ => ?_)
  ·intro y0 y1 y2 y3 y4
   unfold tangramref26_First.l1
   repeat' first
   | (with_reducible exact ih0 _ _ _ _)
   | (with_reducible exact ih1 _ _ _ _ _)
   | (with_reducible exact tangramref03_Valid.mono _ _ _)
   | (with_reducible exact tangramref26_Drawing.mono _ _ _)
   | (with_reducible exact tangramref26_Wrong.mono _ _ _ _ _ _)
   | (with_reducible exact LeO.refl _)
   | (with_reducible exact LeO.none _)
   | (with_reducible refine LeO.ite ?_ ?_)
   | (with_reducible refine LeO.bind ?_ (fun _ => ?_))
   | exact LeO.none _
   | refine LeO.ite ?_ ?_
   | refine LeO.bind ?_ (fun _ => ?_)
theorem tangramref26_First.mono : ∀ a0 a1 a2 k, LeO (tangramref26_First.f k a0 a1 a2) (tangramref26_First.f (k + 1) a0 a1 a2) := by
 intro a0 a1 a2 k; obtain ⟨ih0, ih1⟩ := tangramref26_First.mono_l k
 unfold tangramref26_First.f
 repeat' first
   | (with_reducible exact ih0 _ _ _ _)
   | (with_reducible exact ih1 _ _ _ _ _)
   | (with_reducible exact tangramref03_Valid.mono _ _ _)
   | (with_reducible exact tangramref26_Drawing.mono _ _ _)
   | (with_reducible exact tangramref26_Wrong.mono _ _ _ _ _ _)
   | (with_reducible exact LeO.refl _)
   | (with_reducible exact LeO.none _)
   | (with_reducible refine LeO.ite ?_ ?_)
   | (with_reducible refine LeO.bind ?_ (fun _ => ?_))
   | exact LeO.none _
   | refine LeO.ite ?_ ?_
   | refine LeO.bind ?_ (fun _ => ?_)
def tangramref26_First.T11 : Bool × List (List Nat × List Nat) := (true, [([], []), ([], []), ([1], [1]), ([], []), ([2, 3], [2, 3]), ([4], [4]), ([], []), ([6], [6]), ([], []), ([7, 8], [7, 8]), ([9], [9]), ([0, 5, 10], [0, 5, 10])])
def tangramref26_First.B11 : List Nat := [0, 0, 2, 0, 14, 30, 0, 64, 0, 448, 960, 2047]
theorem tangramref26_First.tab11 : rtab .any (opsOf Try.f22 11) = tangramref26_First.T11 := by kernel_rfl
theorem tangramref26_First.bits11 : waitsOk tangramref26_First.T11.2 tangramref26_First.B11 = true := by kernel_rfl
set_option maxHeartbeats 8000000 in
set_option maxRecDepth 100000 in
theorem tangramref26_First.calls (k : Nat) (a0_0 : Int) (A0_1 : Option Addr) (c0_1 : Nat) (l0_1 : List (S62)) (A1 : Option Addr) (c1 : Nat) (l1 : List (S23)) (r1 : Int) (r2 : Int) (r3 : Int) (w : World) (hr0_1 : Kd.C k62 w A0_1 l0_1.length l0_1) (hc0_1 : l0_1.length ≤ c0_1) (hr1 : Kd.C k23 w A1 l1.length l1) (hc1 : l1.length ≤ c1) (h : tangramref26_First.f k a0_0 l0_1 l1 = some (r1, r2, r3)) :
  Calls Try.prog 22 #[.agg #[.int .i64 a0_0, .slice A0_1 l0_1.length c0_1], .slice A1 l1.length c1] w fun e w' => e = .returned (.tuple #[.int .i64 r1, .int .i64 r2, .int .i64 r3]) ∧ Below w.heap.size w w' := by
 have hu31 := Try.underlying31; have hu62 := Try.underlying62; have HR0_1 := Aside0.mk hr0_1; have HC0_1 := Aside0.mk hc0_1; clear hr0_1 hc0_1; have HR1 := Aside0.mk hr1; have HC1 := Aside0.mk hc1; clear hr1 hc1; have HB := Aside0.mk (Below.refl w.heap.size w); have H : ((tangramref03_Valid.f k a0_0 l0_1).bind fun t497 => (if t497 = true then ((tangramref26_Drawing.f k a0_0 l1).bind fun t498 => (if t498 = true then (tangramref26_First.l0 k l1 0 a0_0 l0_1) else (some (0, 0, 260)))) else (some (0, 0, 1)))) = some (r1, r2, r3) := h; clear h; replace H := Option.bind_eq_some_iff.mp H; obtain ⟨t497, A30, H⟩ := H; replace H : (if t497 = true then ((tangramref26_Drawing.f k a0_0 l1).bind fun t498 => (if t498 = true then (tangramref26_First.l0 k l1 0 a0_0 l0_1) else (some (0, 0, 260)))) else (some (0, 0, 1))) = some (r1, r2, r3) := H; have A3 := Aside0.mk A30; clear A30
 by_cases c4 : t497 = true
 ·subst c4; have H1 : ((tangramref26_Drawing.f k a0_0 l1).bind fun t498 => (if t498 = true then (tangramref26_First.l0 k l1 0 a0_0 l0_1) else (some (0, 0, 260)))) = some (r1, r2, r3) := by rw [if_pos rfl] at H; exact H
  clear H; have H := H1; clear H1; replace H := Option.bind_eq_some_iff.mp H; obtain ⟨t498, A50, H⟩ := H; replace H : (if t498 = true then (tangramref26_First.l0 k l1 0 a0_0 l0_1) else (some (0, 0, 260))) = some (r1, r2, r3) := H; have A5 := Aside0.mk A50; clear A50
  by_cases c6 : t498 = true
  ·subst c6; have H1 : (tangramref26_First.l0 k l1 0 a0_0 l0_1) = some (r1, r2, r3) := by rw [if_pos rfl] at H; exact H
   clear H; have H := H1; clear H1; have H' := Aside0.mk H; clear H
   go_enter Try.func22, Try.ntmps22
   go_wp2_with (first | ((with_reducible refine gate_dst (N := 2) rfl ?_); refine be_ 2 #[.int .i64 a0_0, .slice A0_1 l0_1.length c0_1] 31 ?_; intro gb496 hg w7 hbox hb; have BK496 := Aside0.mk (hbox); have GW496 := wq (hb0 HB) hg; have GE496 := wq (hb0 HB) hg; replace HB := hs (hb0 HB) hb; clear hb hbox hg; have hcz8_0 : w7.cell? ⟨gb496, 0, none⟩ = some (.int .i64 a0_0) := bc BK496 0; have hcz8_1 : w7.cell? ⟨gb496, 1, none⟩ = some (.slice A0_1 l0_1.length c0_1) := bc BK496 1; have hfz8_0 := blk_frozen BK496.out 0; have hfz8_1 := blk_frozen BK496.out 1) | ((with_reducible refine gate_callee (f := 46) rfl ?_); refine gl_ (some 10) Try.func46 #[.agg #[.int .i64 a0_0, .slice A0_1 l0_1.length c0_1]] ?_; (with_reducible refine (tangramref03_Valid.calls k a0_0 _ _ l0_1 true _ ?side1 ?side2 A3.out).mono ?_); (case side1 => repeat (first | exact (Kd.C_below HR0_1.out HB.out) | (with_reducible refine Kd.C_alloc ?_ _) | (with_reducible refine Kd.C_drewN ?_ _) | (with_reducible refine Kd.C_drew ?_))); (case side2 => exact HC0_1.out); rintro e w9 ⟨rfl, hb⟩; refine ⟨_, rfl, ?_⟩; replace BK496 := kx BK496 hb; replace HB := hs (hb1 HB GE496) hb; (try clear hb); (try clear hb2); (try clear hk); (try clear hi); have hcz10_0 : w9.cell? ⟨gb496, 0, none⟩ = some (.int .i64 a0_0) := bc BK496 0; have hcz10_1 : w9.cell? ⟨gb496, 1, none⟩ = some (.slice A0_1 l0_1.length c0_1) := bc BK496 1; have hfz10_0 := blk_frozen BK496.out 0; have hfz10_1 := blk_frozen BK496.out 1) | ((with_reducible refine gate_callee (f := 47) rfl ?_); refine gl_ (some 15) Try.func47 #[.int .i64 a0_0, .slice A1 l1.length c1] ?_; (with_reducible refine (tangramref26_Drawing.calls k a0_0 _ _ l1 true _ ?side1 ?side2 A5.out).mono ?_); (case side1 => repeat (first | exact (Kd.C_below HR1.out HB.out) | (with_reducible refine Kd.C_alloc ?_ _) | (with_reducible refine Kd.C_drewN ?_ _) | (with_reducible refine Kd.C_drew ?_))); (case side2 => exact HC1.out); rintro e w11 ⟨rfl, hb⟩; refine ⟨_, rfl, ?_⟩; replace BK496 := kx BK496 hb; replace HB := hs (hb1 HB GE496) hb; (try clear hb); (try clear hb2); (try clear hk); (try clear hi)))
   go_loopg [7] k (fun kq v7 w' => ∃ (x7_1 : Int), v7 = .int .i64 x7_1 ∧ Aside0 (tangramref26_First.l0 kq l1 x7_1 a0_0 l0_1 = some (r1, r2, r3)) ∧ Aside0 (kq ≤ k) ∧ Aside0 (w'.heap[gb496]? = some (.cells #[.int .i64 a0_0, (.slice A0_1 l0_1.length c0_1)] 31 (0, 0))) ∧ Aside0 (Below w.heap.size w w'))
   case atStart => exact ⟨(0), (by first | rfl | (simp; done) | (simp [*]; done)), H', ⟨Nat.le_refl _⟩, ⟨bx BK496⟩, ⟨hb1 HB GE496⟩⟩
   case round =>
    clear H'
    try clear c1
    try clear c2
    try clear p2
    try clear c4
    try clear c6
    try clear hcz10_0
    try clear hcz10_1
    try clear hcz8_0
    try clear hcz8_1
    try clear hfz10_0
    try clear hfz10_1
    try clear hfz8_0
    try clear hfz8_1
    obtain ⟨x7_1, rfl, HA, HK1, BK496, HB⟩ := hrel
    cases gk with
    | zero => exact absurd HA.out (by simp [tangramref26_First.l0])
    | succ k1 =>
     have H := HA.out; clear HA; simp only [tangramref26_First.l0] at H
     by_cases c12 : x7_1 < (l0_1.length : Int)
     ·rw [if_pos c12] at H; have c12b0 : decide (x7_1 < (l0_1.length : Int)) = true := decide_eq_true c12; clear c12; have H' := Aside0.mk H; clear H; have hcz13_0 : wr.cell? ⟨gb496, 0, none⟩ = some (.int .i64 a0_0) := bc BK496 0; have hcz13_1 : wr.cell? ⟨gb496, 1, none⟩ = some (.slice A0_1 l0_1.length c0_1) := bc BK496 1; have hfz13_0 := blk_frozen BK496.out 0; have hfz13_1 := blk_frozen BK496.out 1
      go_wp2
      go_loopg [8] k1 (fun kq v8 w' => ∃ (x8_2 : Int), v8 = .int .i64 x8_2 ∧ Aside0 (tangramref26_First.l1 kq l1 x7_1 x8_2 a0_0 l0_1 = some (r1, r2, r3)) ∧ Aside0 (kq ≤ k1) ∧ Aside0 (w'.heap[gb496]? = some (.cells #[.int .i64 a0_0, (.slice A0_1 l0_1.length c0_1)] 31 (0, 0))) ∧ Aside0 (Below w.heap.size w w'))
      case atStart => exact ⟨(wrap64 (x7_1 + 1)), (by first | rfl | (simp; done) | (simp [*]; done)), H', ⟨Nat.le_refl _⟩, ⟨bx BK496⟩, ⟨hb1 HB GE496⟩⟩
      case round =>
       clear H'
       try clear c1
       try clear c2
       try clear p2
       try clear c4
       try clear c6
       try clear p6
       try clear c12
       try clear c12b0
       try clear hcz10_0
       try clear hcz10_1
       try clear hcz13_0
       try clear hcz13_1
       try clear hcz8_0
       try clear hcz8_1
       try clear hfz10_0
       try clear hfz10_1
       try clear hfz13_0
       try clear hfz13_1
       try clear hfz8_0
       try clear hfz8_1
       try clear p2
       obtain ⟨x8_2, rfl, HA, HK2, BK496, HB⟩ := hrel
       cases gk with
       | zero => exact absurd HA.out (by simp [tangramref26_First.l1])
       | succ k2 =>
        have H := HA.out; clear HA; simp only [tangramref26_First.l1] at H
        by_cases c14 : x8_2 < (l0_1.length : Int)
        ·rw [if_pos c14] at H; have c14b0 : decide (x8_2 < (l0_1.length : Int)) = true := decide_eq_true c14; clear c14
         by_cases c15 : 0 ≤ x7_1
         ·rw [if_pos c15] at H; have c15b0 : decide (0 ≤ x7_1) = true := decide_eq_true c15; clear c15
          by_cases c16 : x7_1 < (l0_1.length : Int)
          ·rw [if_pos c16] at H; have c16b0 : decide (x7_1 < (l0_1.length : Int)) = true := decide_eq_true c16; clear c16
           by_cases c17 : 0 ≤ x8_2
           ·rw [if_pos c17] at H; have c17b0 : decide (0 ≤ x8_2) = true := decide_eq_true c17; clear c17; replace H := Option.bind_eq_some_iff.mp H; obtain ⟨t501, A180, H⟩ := H; replace H : (if t501 = true then (some (x7_1, x8_2, 0)) else (tangramref26_First.l1 k2 l1 x7_1 (wrap64 (x8_2 + 1)) a0_0 l0_1)) = some (r1, r2, r3) := H; have A18 := Aside0.mk A180; clear A180
            by_cases c19 : t501 = true
            ·subst c19; have H1 : (some (x7_1, x8_2, 0)) = some (r1, r2, r3) := by rw [if_pos rfl] at H; exact H
             clear H; have H := H1; clear H1; simp only [Option.some.injEq, Prod.mk.injEq] at H; obtain ⟨rfl, rfl, rfl⟩ := H; have hcz20_0 : wr.cell? ⟨gb496, 0, none⟩ = some (.int .i64 a0_0) := bc BK496 0; have hcz20_1 : wr.cell? ⟨gb496, 1, none⟩ = some (.slice A0_1 l0_1.length c0_1) := bc BK496 1; have hfz20_0 := blk_frozen BK496.out 0; have hfz20_1 := blk_frozen BK496.out 1
             try go_wp2
             replace BK496 := bd BK496; replace HB := Aside0.mk (below_drew1 HB.out); have p499 : 0 ≤ (x7_1 : Int) := of_decide_eq_true (by first | (with_reducible assumption) | assumption); have q499 : x7_1 < (l0_1.length : Int) := of_decide_eq_true (by first | (with_reducible assumption) | assumption); obtain ⟨ad499, e499, hx499_0, hx499_1⟩ := at_T62 HR0_1.out x7_1 p499 q499; have hw499_1 := hx499_1; have hw499_0 := hx499_0
             cases e499
             replace hx499_0 := (HB.out.cell (World.block_lt_of_cell? w _ hx499_0)).trans hx499_0; replace hx499_1 := (HB.out.cell (World.block_lt_of_cell? w _ hx499_1)).trans hx499_1; replace p499 := eq_true p499; replace q499 := eq_true q499; have p500 : 0 ≤ (x8_2 : Int) := of_decide_eq_true (by first | (with_reducible assumption) | assumption); have q500 : x8_2 < (l0_1.length : Int) := of_decide_eq_true (by first | (with_reducible assumption) | assumption); obtain ⟨ad500, e500, hx500_0, hx500_1⟩ := at_T62 HR0_1.out x8_2 p500 q500; have hw500_1 := hx500_1; have hw500_0 := hx500_0; obtain rfl : ad499 = ad500 := (by injection e500); replace hx500_0 := (HB.out.cell (World.block_lt_of_cell? w _ hx500_0)).trans hx500_0; replace hx500_1 := (HB.out.cell (World.block_lt_of_cell? w _ hx500_1)).trans hx500_1; replace p500 := eq_true p500; replace q500 := eq_true q500; refine start_ (n := 12) (S := fun w' => w'.cell? ⟨gb496, 0, none⟩ = some (.int .i64 a0_0) ∧ w'.cell? ⟨gb496, 1, none⟩ = some (.slice (some ad499) l0_1.length c0_1) ∧ w'.cell? (ad499.add ((x7_1).toNat * 2)) = some (.int .i64 ((rd_T62 l0_1 x7_1).f0)) ∧ w'.cell? ⟨(ad499.add ((x7_1).toNat * 2)).block, (ad499.add ((x7_1).toNat * 2)).off + 1, none⟩ = some (.int .i64 ((rd_T62 l0_1 x7_1).f1)) ∧ w'.cell? (ad499.add ((x8_2).toNat * 2)) = some (.int .i64 ((rd_T62 l0_1 x8_2).f0)) ∧ w'.cell? ⟨(ad499.add ((x8_2).toNat * 2)).block, (ad499.add ((x8_2).toNat * 2)).off + 1, none⟩ = some (.int .i64 ((rd_T62 l0_1 x8_2).f1))) (ds := []) (pf 0 12) (by kernel_rfl) rfl rfl ⟨bc BK496 0, bc BK496 1, ((HB.out.cell (World.block_lt_of_cell? w _ hw499_0)).trans hw499_0), ((HB.out.cell (World.block_lt_of_cell? w _ hw499_1)).trans hw499_1), ((HB.out.cell (World.block_lt_of_cell? w _ hw500_0)).trans hw500_0), ((HB.out.cell (World.block_lt_of_cell? w _ hw500_1)).trans hw500_1)⟩ (fun hHeld => ?_); refine with_tabW tangramref26_First.tab11 tangramref26_First.bits11 (fun HT_ HW_ => ?_)
             generalize wr.drew = w21 at BK496 HB hx499_0 hx499_1 hx500_0 hx500_1 hHeld ⊢; refine pu_ 0 (some 33) (pf 1 12) HT_ ?_; refine pu_ 1 (some 34) (pf 2 12) HT_ ?_; refine pu_ 3 (some 36) #[T_,T_,F_,T_,F_,F_,F_,F_,F_,F_,F_,F_] HT_ ?_; refine pu_ 6 (some 39) #[T_,T_,F_,T_,F_,F_,T_,F_,F_,F_,F_,F_] HT_ ?_; refine pu_ 8 (some 41) #[T_,T_,F_,T_,F_,F_,T_,F_,T_,F_,F_,F_] HT_ ?_; refine tk6_ 2 (some 35) #[T_,T_,T_,T_,F_,F_,T_,F_,T_,F_,F_,F_] HT_ HW_ hHeld ?_; refine pu_ 4 (some 37) #[T_,T_,T_,T_,T_,F_,T_,F_,T_,F_,F_,F_] HT_ ?_; refine tk6_ 5 (some 38) #[T_,T_,T_,T_,T_,T_,T_,F_,T_,F_,F_,F_] HT_ HW_ hHeld ?_; refine tk6_ 7 (some 40) (pf 9 12) HT_ HW_ hHeld ?_; refine pu_ 9 (some 42) (pf 10 12) HT_ ?_; refine tk6_ 10 (some 43) (pf 11 12) HT_ HW_ hHeld ?_; refine on_ 11 (some 44) (pf 12 12) HT_ (fun K hK => ?_); refine gs_ Try.func48 #[.slice A1 l1.length c1, .agg #[.int .i64 ((rd_T62 l0_1 x7_1).f0), .int .i64 ((rd_T62 l0_1 x7_1).f1)], .agg #[.int .i64 ((rd_T62 l0_1 x8_2).f0), .int .i64 ((rd_T62 l0_1 x8_2).f1)]] ?_
             with_reducible refine (tangramref26_Wrong.calls k2 _ _ l1 ((rd_T62 l0_1 x7_1).f0) ((rd_T62 l0_1 x7_1).f1) ((rd_T62 l0_1 x8_2).f0) ((rd_T62 l0_1 x8_2).f1) true _ ?side1 ?side2 A18.out).mono ?_
             (case side1 => repeat (first | exact (Kd.C_below HR1.out HB.out) | (with_reducible refine Kd.C_alloc ?_ _) | (with_reducible refine Kd.C_drewN ?_ _) | (with_reducible refine Kd.C_drew ?_)))
             (case side2 => exact HC1.out)
             rintro e w22 ⟨rfl, hb⟩; refine ⟨_, rfl, ?_⟩; replace BK496 := kx BK496 hb; replace HB := hs (hb1 HB GE496) hb
             (try clear hb)
             (try clear hk)
             (try clear hi)
             refine hK.out _ _ ⟨bc BK496 0, bc BK496 1, ((HB.out.cell (World.block_lt_of_cell? w _ hw499_0)).trans hw499_0), ((HB.out.cell (World.block_lt_of_cell? w _ hw499_1)).trans hw499_1), ((HB.out.cell (World.block_lt_of_cell? w _ hw500_0)).trans hw500_0), ((HB.out.cell (World.block_lt_of_cell? w _ hw500_1)).trans hw500_1)⟩ (fun hHeld => ?_); clear hK K; refine nm_ (some 44) ?_; refine done_ (done_of HT_.out (by kernel_rfl)) ?_
             try go_wp2
             go_ret3
             exact ⟨by rfl, hb1 HB GE496⟩
            ·replace c19 := Bool.eq_false_iff.mpr c19; subst c19; have H1 : (tangramref26_First.l1 k2 l1 x7_1 (wrap64 (x8_2 + 1)) a0_0 l0_1) = some (r1, r2, r3) := by rw [if_neg (show ¬ (false = true) by decide)] at H; exact H
             clear H; have H := H1; clear H1; have H' := Aside0.mk H; clear H; have hcz23_0 : wr.cell? ⟨gb496, 0, none⟩ = some (.int .i64 a0_0) := bc BK496 0; have hcz23_1 : wr.cell? ⟨gb496, 1, none⟩ = some (.slice A0_1 l0_1.length c0_1) := bc BK496 1; have hfz23_0 := blk_frozen BK496.out 0; have hfz23_1 := blk_frozen BK496.out 1
             try go_wp2
             replace BK496 := bd BK496; replace HB := Aside0.mk (below_drew1 HB.out); have p499 : 0 ≤ (x7_1 : Int) := of_decide_eq_true (by first | (with_reducible assumption) | assumption); have q499 : x7_1 < (l0_1.length : Int) := of_decide_eq_true (by first | (with_reducible assumption) | assumption); obtain ⟨ad499, e499, hx499_0, hx499_1⟩ := at_T62 HR0_1.out x7_1 p499 q499; have hw499_1 := hx499_1; have hw499_0 := hx499_0
             cases e499
             replace hx499_0 := (HB.out.cell (World.block_lt_of_cell? w _ hx499_0)).trans hx499_0; replace hx499_1 := (HB.out.cell (World.block_lt_of_cell? w _ hx499_1)).trans hx499_1; replace p499 := eq_true p499; replace q499 := eq_true q499; have p500 : 0 ≤ (x8_2 : Int) := of_decide_eq_true (by first | (with_reducible assumption) | assumption); have q500 : x8_2 < (l0_1.length : Int) := of_decide_eq_true (by first | (with_reducible assumption) | assumption); obtain ⟨ad500, e500, hx500_0, hx500_1⟩ := at_T62 HR0_1.out x8_2 p500 q500; have hw500_1 := hx500_1; have hw500_0 := hx500_0; obtain rfl : ad499 = ad500 := (by injection e500); replace hx500_0 := (HB.out.cell (World.block_lt_of_cell? w _ hx500_0)).trans hx500_0; replace hx500_1 := (HB.out.cell (World.block_lt_of_cell? w _ hx500_1)).trans hx500_1; replace p500 := eq_true p500; replace q500 := eq_true q500; refine start_ (n := 12) (S := fun w' => w'.cell? ⟨gb496, 0, none⟩ = some (.int .i64 a0_0) ∧ w'.cell? ⟨gb496, 1, none⟩ = some (.slice (some ad499) l0_1.length c0_1) ∧ w'.cell? (ad499.add ((x7_1).toNat * 2)) = some (.int .i64 ((rd_T62 l0_1 x7_1).f0)) ∧ w'.cell? ⟨(ad499.add ((x7_1).toNat * 2)).block, (ad499.add ((x7_1).toNat * 2)).off + 1, none⟩ = some (.int .i64 ((rd_T62 l0_1 x7_1).f1)) ∧ w'.cell? (ad499.add ((x8_2).toNat * 2)) = some (.int .i64 ((rd_T62 l0_1 x8_2).f0)) ∧ w'.cell? ⟨(ad499.add ((x8_2).toNat * 2)).block, (ad499.add ((x8_2).toNat * 2)).off + 1, none⟩ = some (.int .i64 ((rd_T62 l0_1 x8_2).f1))) (ds := []) (pf 0 12) (by kernel_rfl) rfl rfl ⟨bc BK496 0, bc BK496 1, ((HB.out.cell (World.block_lt_of_cell? w _ hw499_0)).trans hw499_0), ((HB.out.cell (World.block_lt_of_cell? w _ hw499_1)).trans hw499_1), ((HB.out.cell (World.block_lt_of_cell? w _ hw500_0)).trans hw500_0), ((HB.out.cell (World.block_lt_of_cell? w _ hw500_1)).trans hw500_1)⟩ (fun hHeld => ?_); refine with_tabW tangramref26_First.tab11 tangramref26_First.bits11 (fun HT_ HW_ => ?_)
             generalize wr.drew = w24 at BK496 HB hx499_0 hx499_1 hx500_0 hx500_1 hHeld ⊢; refine pu_ 0 (some 33) (pf 1 12) HT_ ?_; refine pu_ 1 (some 34) (pf 2 12) HT_ ?_; refine pu_ 3 (some 36) #[T_,T_,F_,T_,F_,F_,F_,F_,F_,F_,F_,F_] HT_ ?_; refine pu_ 6 (some 39) #[T_,T_,F_,T_,F_,F_,T_,F_,F_,F_,F_,F_] HT_ ?_; refine pu_ 8 (some 41) #[T_,T_,F_,T_,F_,F_,T_,F_,T_,F_,F_,F_] HT_ ?_; refine tk6_ 2 (some 35) #[T_,T_,T_,T_,F_,F_,T_,F_,T_,F_,F_,F_] HT_ HW_ hHeld ?_; refine pu_ 4 (some 37) #[T_,T_,T_,T_,T_,F_,T_,F_,T_,F_,F_,F_] HT_ ?_; refine tk6_ 5 (some 38) #[T_,T_,T_,T_,T_,T_,T_,F_,T_,F_,F_,F_] HT_ HW_ hHeld ?_; refine tk6_ 7 (some 40) (pf 9 12) HT_ HW_ hHeld ?_; refine pu_ 9 (some 42) (pf 10 12) HT_ ?_; refine tk6_ 10 (some 43) (pf 11 12) HT_ HW_ hHeld ?_; refine on_ 11 (some 44) (pf 12 12) HT_ (fun K hK => ?_); refine gs_ Try.func48 #[.slice A1 l1.length c1, .agg #[.int .i64 ((rd_T62 l0_1 x7_1).f0), .int .i64 ((rd_T62 l0_1 x7_1).f1)], .agg #[.int .i64 ((rd_T62 l0_1 x8_2).f0), .int .i64 ((rd_T62 l0_1 x8_2).f1)]] ?_
             with_reducible refine (tangramref26_Wrong.calls k2 _ _ l1 ((rd_T62 l0_1 x7_1).f0) ((rd_T62 l0_1 x7_1).f1) ((rd_T62 l0_1 x8_2).f0) ((rd_T62 l0_1 x8_2).f1) false _ ?side1 ?side2 A18.out).mono ?_
             (case side1 => repeat (first | exact (Kd.C_below HR1.out HB.out) | (with_reducible refine Kd.C_alloc ?_ _) | (with_reducible refine Kd.C_drewN ?_ _) | (with_reducible refine Kd.C_drew ?_)))
             (case side2 => exact HC1.out)
             rintro e w25 ⟨rfl, hb⟩; refine ⟨_, rfl, ?_⟩; replace BK496 := kx BK496 hb; replace HB := hs (hb1 HB GE496) hb
             (try clear hb)
             (try clear hk)
             (try clear hi)
             refine hK.out _ _ ⟨bc BK496 0, bc BK496 1, ((HB.out.cell (World.block_lt_of_cell? w _ hw499_0)).trans hw499_0), ((HB.out.cell (World.block_lt_of_cell? w _ hw499_1)).trans hw499_1), ((HB.out.cell (World.block_lt_of_cell? w _ hw500_0)).trans hw500_0), ((HB.out.cell (World.block_lt_of_cell? w _ hw500_1)).trans hw500_1)⟩ (fun hHeld => ?_); clear hK K; refine nm_ (some 44) ?_; refine done_ (done_of HT_.out (by kernel_rfl)) ?_
             try go_wp2
             go_roundg k2
             case measure => have := HK1.out; have := HK2.out; omega
             case rel => exact ⟨(wrap64 (x8_2 + 1)), (by first | rfl | (simp; done) | (simp [*]; done)), H', ⟨by have := HK1.out; have := HK2.out; omega⟩, ⟨bx BK496⟩, ⟨hb1 HB GE496⟩⟩
           ·rw [if_neg c17] at H; exact absurd H (by simp)
          ·rw [if_neg c16] at H; exact absurd H (by simp)
         ·rw [if_neg c15] at H; exact absurd H (by simp)
        ·rw [if_neg c14] at H; have c14b0 : decide (x8_2 < (l0_1.length : Int)) = false := decide_eq_false c14; clear c14; have H' := Aside0.mk H; clear H; have hcz26_0 : wr.cell? ⟨gb496, 0, none⟩ = some (.int .i64 a0_0) := bc BK496 0; have hcz26_1 : wr.cell? ⟨gb496, 1, none⟩ = some (.slice A0_1 l0_1.length c0_1) := bc BK496 1; have hfz26_0 := blk_frozen BK496.out 0; have hfz26_1 := blk_frozen BK496.out 1
         go_wp2
         go_roundg k2
         case measure => have := HK1.out; have := HK2.out; omega
         case rel => exact ⟨(wrap64 (x7_1 + 1)), (by first | rfl | (simp; done) | (simp [*]; done)), H', ⟨by have := HK1.out; have := HK2.out; omega⟩, ⟨bx BK496⟩, ⟨hb1 HB GE496⟩⟩
     ·rw [if_neg c12] at H; have c12b0 : decide (x7_1 < (l0_1.length : Int)) = false := decide_eq_false c12; clear c12; simp only [Option.some.injEq, Prod.mk.injEq] at H; obtain ⟨rfl, rfl, rfl⟩ := H; have hcz27_0 : wr.cell? ⟨gb496, 0, none⟩ = some (.int .i64 a0_0) := bc BK496 0; have hcz27_1 : wr.cell? ⟨gb496, 1, none⟩ = some (.slice A0_1 l0_1.length c0_1) := bc BK496 1; have hfz27_0 := blk_frozen BK496.out 0; have hfz27_1 := blk_frozen BK496.out 1
      go_wp2
      go_ret3
      exact ⟨by rfl, hb1 HB GE496⟩
  ·replace c6 := Bool.eq_false_iff.mpr c6; subst c6; have H1 : (some (0, 0, 260)) = some (r1, r2, r3) := by rw [if_neg (show ¬ (false = true) by decide)] at H; exact H
   clear H; have H := H1; clear H1; simp only [Option.some.injEq, Prod.mk.injEq] at H; obtain ⟨rfl, rfl, rfl⟩ := H
   go_enter Try.func22, Try.ntmps22
   go_wp2_with (first | ((with_reducible refine gate_dst (N := 2) rfl ?_); refine be_ 2 #[.int .i64 a0_0, .slice A0_1 l0_1.length c0_1] 31 ?_; intro gb496 hg w28 hbox hb; have BK496 := Aside0.mk (hbox); have GW496 := wq (hb0 HB) hg; have GE496 := wq (hb0 HB) hg; replace HB := hs (hb0 HB) hb; clear hb hbox hg; have hcz29_0 : w28.cell? ⟨gb496, 0, none⟩ = some (.int .i64 a0_0) := bc BK496 0; have hcz29_1 : w28.cell? ⟨gb496, 1, none⟩ = some (.slice A0_1 l0_1.length c0_1) := bc BK496 1; have hfz29_0 := blk_frozen BK496.out 0; have hfz29_1 := blk_frozen BK496.out 1) | ((with_reducible refine gate_callee (f := 46) rfl ?_); refine gl_ (some 10) Try.func46 #[.agg #[.int .i64 a0_0, .slice A0_1 l0_1.length c0_1]] ?_; (with_reducible refine (tangramref03_Valid.calls k a0_0 _ _ l0_1 true _ ?side1 ?side2 A3.out).mono ?_); (case side1 => repeat (first | exact (Kd.C_below HR0_1.out HB.out) | (with_reducible refine Kd.C_alloc ?_ _) | (with_reducible refine Kd.C_drewN ?_ _) | (with_reducible refine Kd.C_drew ?_))); (case side2 => exact HC0_1.out); rintro e w30 ⟨rfl, hb⟩; refine ⟨_, rfl, ?_⟩; replace BK496 := kx BK496 hb; replace HB := hs (hb1 HB GE496) hb; (try clear hb); (try clear hb2); (try clear hk); (try clear hi); have hcz31_0 : w30.cell? ⟨gb496, 0, none⟩ = some (.int .i64 a0_0) := bc BK496 0; have hcz31_1 : w30.cell? ⟨gb496, 1, none⟩ = some (.slice A0_1 l0_1.length c0_1) := bc BK496 1; have hfz31_0 := blk_frozen BK496.out 0; have hfz31_1 := blk_frozen BK496.out 1) | ((with_reducible refine gate_callee (f := 47) rfl ?_); refine gl_ (some 15) Try.func47 #[.int .i64 a0_0, .slice A1 l1.length c1] ?_; (with_reducible refine (tangramref26_Drawing.calls k a0_0 _ _ l1 false _ ?side1 ?side2 A5.out).mono ?_); (case side1 => repeat (first | exact (Kd.C_below HR1.out HB.out) | (with_reducible refine Kd.C_alloc ?_ _) | (with_reducible refine Kd.C_drewN ?_ _) | (with_reducible refine Kd.C_drew ?_))); (case side2 => exact HC1.out); rintro e w32 ⟨rfl, hb⟩; refine ⟨_, rfl, ?_⟩; replace BK496 := kx BK496 hb; replace HB := hs (hb1 HB GE496) hb; (try clear hb); (try clear hb2); (try clear hk); (try clear hi)))
   go_ret3
   exact ⟨by rfl, hb1 HB GE496⟩
 ·replace c4 := Bool.eq_false_iff.mpr c4; subst c4; have H1 : (some (0, 0, 1)) = some (r1, r2, r3) := by rw [if_neg (show ¬ (false = true) by decide)] at H; exact H
  clear H; have H := H1; clear H1; simp only [Option.some.injEq, Prod.mk.injEq] at H; obtain ⟨rfl, rfl, rfl⟩ := H
  go_enter Try.func22, Try.ntmps22
  go_wp2_with (first | ((with_reducible refine gate_dst (N := 2) rfl ?_); refine be_ 2 #[.int .i64 a0_0, .slice A0_1 l0_1.length c0_1] 31 ?_; intro gb496 hg w33 hbox hb; have BK496 := Aside0.mk (hbox); have GW496 := wq (hb0 HB) hg; have GE496 := wq (hb0 HB) hg; replace HB := hs (hb0 HB) hb; clear hb hbox hg; have hcz34_0 : w33.cell? ⟨gb496, 0, none⟩ = some (.int .i64 a0_0) := bc BK496 0; have hcz34_1 : w33.cell? ⟨gb496, 1, none⟩ = some (.slice A0_1 l0_1.length c0_1) := bc BK496 1; have hfz34_0 := blk_frozen BK496.out 0; have hfz34_1 := blk_frozen BK496.out 1) | ((with_reducible refine gate_callee (f := 46) rfl ?_); refine gl_ (some 10) Try.func46 #[.agg #[.int .i64 a0_0, .slice A0_1 l0_1.length c0_1]] ?_; (with_reducible refine (tangramref03_Valid.calls k a0_0 _ _ l0_1 false _ ?side1 ?side2 A3.out).mono ?_); (case side1 => repeat (first | exact (Kd.C_below HR0_1.out HB.out) | (with_reducible refine Kd.C_alloc ?_ _) | (with_reducible refine Kd.C_drewN ?_ _) | (with_reducible refine Kd.C_drew ?_))); (case side2 => exact HC0_1.out); rintro e w35 ⟨rfl, hb⟩; refine ⟨_, rfl, ?_⟩; replace BK496 := kx BK496 hb; replace HB := hs (hb1 HB GE496) hb; (try clear hb); (try clear hb2); (try clear hk); (try clear hi)))
  go_ret3
  exact ⟨by rfl, hb1 HB GE496⟩

end Go.Proofs.Ythfoliejhdpbaaa.PCroA
