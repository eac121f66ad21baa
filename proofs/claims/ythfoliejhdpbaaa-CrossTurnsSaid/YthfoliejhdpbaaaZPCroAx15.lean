-- PRINTED by print.py (a twelfth state) out of the translation. Not trusted: Lean checks it.
import Derived.Test.YthfoliejhdpbaaaZPCroAx0
import Derived.Test.YthfoliejhdpbaaaZPCroAx3
import Derived.Test.YthfoliejhdpbaaaZPCroAx9
import Derived.Test.YthfoliejhdpbaaaZPCroAx14
namespace Go.Proofs.Ythfoliejhdpbaaa.PCroA
open Go.RowKit Go.Proofs.YthfoliejhdpbaaaW.PrintWords Go.Proofs.YthfoliejhdpbaaaW.PrintLast Go.Proofs.YthfoliejhdpbaaaW.PrintMore
open Go.Proofs.YthfoliejhdpbaaaX
attribute [local go_sem] max2_int min2_int max_two min_two max_three min_three max_four min_four   -- for this text's walks alone
set_option linter.unusedVariables false
set_option linter.unusedSimpArgs false

/-! ### cross_wrong: function 45 -/
mutual
def cross_wrong.l0 : Nat → List (S23) → Int → Int → Int → Int → Int → Int → Int → Int → Int → Int → Int → Int → Option (Bool)
 | 0, _, _, _, _, _, _, _, _, _, _, _, _, _ => none
 | k + 1, x2, x7, x8, x9, x15, x17, x20, x22, x25, x158000, x158001, x159000, x159001 => if x25 < 2 then ((comps_Sets_numbers.f x15 x17 x20 x22 x25).bind fun bt159 => (cross_wrong.l1 k x2 x7 x8 x9 x15 x17 x20 x22 x25 x159000 x159001 x159001 x159000 0 x158000 x158001 x159000 x159001 bt159.1 bt159.2)) else (if x7 < 0 then (if 0 ≤ x158000 then (if x158000 < (x2.length : Int) then (if 0 ≤ x158001 then (if x158001 < (x2.length : Int) then (if 0 ≤ x159000 then (if x159000 < (x2.length : Int) then (if 0 ≤ x159001 then (if x159001 < (x2.length : Int) then ((cross_meet.f k ((rd_T23 x2 x158000).f0) ((rd_T23 x2 x158000).f1) ((rd_T23 x2 x158001).f0) ((rd_T23 x2 x158001).f1) ((rd_T23 x2 x159000).f0) ((rd_T23 x2 x159000).f1) ((rd_T23 x2 x159001).f0) ((rd_T23 x2 x159001).f1)).bind fun t169 => (some t169)) else (none)) else (none)) else (none)) else (none)) else (none)) else (none)) else (none)) else (none)) else (if 0 ≤ x7 then (if x7 < (x2.length : Int) then (if 0 ≤ x8 then (if x8 < (x2.length : Int) then (if 0 ≤ x9 then (if x9 < (x2.length : Int) then ((cross_on.f ((rd_T23 x2 x7).f0) ((rd_T23 x2 x7).f1) ((rd_T23 x2 x8).f0) ((rd_T23 x2 x8).f1) ((rd_T23 x2 x9).f0) ((rd_T23 x2 x9).f1)).bind fun t173 => (if t173 = true then (some true) else ((cross_on.f ((rd_T23 x2 x7).f0) ((rd_T23 x2 x7).f1) ((rd_T23 x2 x9).f0) ((rd_T23 x2 x9).f1) ((rd_T23 x2 x8).f0) ((rd_T23 x2 x8).f1)).bind fun t177 => (some t177)))) else (none)) else (none)) else (none)) else (none)) else (none)) else (none)))
def cross_wrong.l1 : Nat → List (S23) → Int → Int → Int → Int → Int → Int → Int → Int → Int → Int → Int → Int → Int → Int → Int → Int → Int → Int → Int → Option (Bool)
 | 0, _, _, _, _, _, _, _, _, _, _, _, _, _, _, _, _, _, _, _, _ => none
 | k + 1, x2, x7, x8, x9, x15, x17, x20, x22, x25, x29, x31, x34, x36, x39, x158000, x158001, x159000, x159001, x162000, x162001 => if x39 < 2 then ((comps_Sets_numbers.f x29 x31 x34 x36 x39).bind fun bt162 => (if x162000 = bt162.1 then (cross_wrong.l1 k x2 x162000 x162001 bt162.2 x15 x17 x20 x22 x25 x29 x31 x34 x36 (wrap64 (x39 + 1)) x158000 x158001 x159000 x159001 x162000 x162001) else (cross_wrong.l1 k x2 x7 x8 x9 x15 x17 x20 x22 x25 x29 x31 x34 x36 (wrap64 (x39 + 1)) x158000 x158001 x159000 x159001 x162000 x162001))) else (cross_wrong.l0 k x2 x7 x8 x9 x15 x17 x20 x22 (wrap64 (x25 + 1)) x158000 x158001 x159000 x159001)
end
def cross_wrong.f (k : Nat) (a0_0 : Int) (a0_1 : Int) (a1_0 : Int) (a1_1 : Int) (l2 : List (S23)) : Option (Bool) := cross_wrong.l0 k l2 (-1) 0 0 a0_0 a0_1 a0_1 a0_0 0 a0_0 a0_1 a1_0 a1_1
theorem cross_wrong.mono_l : ∀ k, (∀ y0 y1 y2 y3 y4 y5 y6 y7 y8 y9 y10 y11 y12, LeO (cross_wrong.l0 k y0 y1 y2 y3 y4 y5 y6 y7 y8 y9 y10 y11 y12) (cross_wrong.l0 (k + 1) y0 y1 y2 y3 y4 y5 y6 y7 y8 y9 y10 y11 y12)) ∧ (∀ y0 y1 y2 y3 y4 y5 y6 y7 y8 y9 y10 y11 y12 y13 y14 y15 y16 y17 y18 y19, LeO (cross_wrong.l1 k y0 y1 y2 y3 y4 y5 y6 y7 y8 y9 y10 y11 y12 y13 y14 y15 y16 y17 y18 y19) (cross_wrong.l1 (k + 1) y0 y1 y2 y3 y4 y5 y6 y7 y8 y9 y10 y11 y12 y13 y14 y15 y16 y17 y18 y19))
 | 0 => ⟨fun _ _ _ _ _ _ _ _ _ _ _ _ _ r h => by simp [cross_wrong.l0] at h, fun _ _ _ _ _ _ _ _ _ _ _ _ _ _ _ _ _ _ _ _ r h => by simp [cross_wrong.l1] at h⟩
 | k + 1 => by
  obtain ⟨ih0, ih1⟩ := cross_wrong.mono_l k; refine ⟨?_, ?_⟩
  ·intro y0 y1 y2 y3 y4 y5 y6 y7 y8 y9 y10 y11 y12
   unfold cross_wrong.l0
   repeat' first
   | (with_reducible exact ih0 _ _ _ _ _ _ _ _ _ _ _ _ _)
   | (with_reducible exact ih1 _ _ _ _ _ _ _ _ _ _ _ _ _ _ _ _ _ _ _ _)
   | (with_reducible exact cross_meet.mono _ _ _ _ _ _ _ _ _)
   | (with_reducible exact LeO.refl _)
   | (with_reducible exact LeO.none _)
   | (with_reducible refine LeO.ite ?_ ?_)
   | (with_reducible refine LeO.bind ?_ (fun _ => ?_))
   | exact ih0 _ _ _ _ _ _ _ _ _ _ _ _ _
   | exact ih1 _ _ _ _ _ _ _ _ _ _ _ _ _ _ _ _ _ _ _ _
   | exact cross_meet.mono _ _ _ _ _ _ _ _ _
   | exact LeO.none _
   | refine LeO.ite ?_ ?_
   | refine LeO.bind ?_ (fun _ => ?_)
  ·intro y0 y1 y2 y3 y4 y5 y6 y7 y8 y9 y10 y11 y12 y13 y14 y15 y16 y17 y18 y19
   unfold cross_wrong.l1
   repeat' first
   | (with_reducible exact ih0 _ _ _ _ _ _ _ _ _ _ _ _ _)
   | (with_reducible exact ih1 _ _ _ _ _ _ _ _ _ _ _ _ _ _ _ _ _ _ _ _)
   | (with_reducible exact cross_meet.mono _ _ _ _ _ _ _ _ _)
   | (with_reducible exact LeO.refl _)
   | (with_reducible exact LeO.none _)
   | (with_reducible refine LeO.ite ?_ ?_)
   | (with_reducible refine LeO.bind ?_ (fun _ => ?_))
   | exact ih0 _ _ _ _ _ _ _ _ _ _ _ _ _
   | exact ih1 _ _ _ _ _ _ _ _ _ _ _ _ _ _ _ _ _ _ _ _
   | exact cross_meet.mono _ _ _ _ _ _ _ _ _
   | exact LeO.none _
   | refine LeO.ite ?_ ?_
   | refine LeO.bind ?_ (fun _ => ?_)
theorem cross_wrong.mono : ∀ a0 a1 a2 a3 a4 k, LeO (cross_wrong.f k a0 a1 a2 a3 a4) (cross_wrong.f (k + 1) a0 a1 a2 a3 a4) := by
 intro a0 a1 a2 a3 a4 k; obtain ⟨ih0, ih1⟩ := cross_wrong.mono_l k
 unfold cross_wrong.f
 repeat' first
   | (with_reducible exact ih0 _ _ _ _ _ _ _ _ _ _ _ _ _)
   | (with_reducible exact ih1 _ _ _ _ _ _ _ _ _ _ _ _ _ _ _ _ _ _ _ _)
   | (with_reducible exact cross_meet.mono _ _ _ _ _ _ _ _ _)
   | (with_reducible exact LeO.refl _)
   | (with_reducible exact LeO.none _)
   | (with_reducible refine LeO.ite ?_ ?_)
   | (with_reducible refine LeO.bind ?_ (fun _ => ?_))
   | exact ih0 _ _ _ _ _ _ _ _ _ _ _ _ _
   | exact ih1 _ _ _ _ _ _ _ _ _ _ _ _ _ _ _ _ _ _ _ _
   | exact cross_meet.mono _ _ _ _ _ _ _ _ _
   | exact LeO.none _
   | refine LeO.ite ?_ ?_
   | refine LeO.bind ?_ (fun _ => ?_)
def cross_wrong.T9 : Bool × List (List Nat × List Nat) := (true, [([], []), ([0], [0]), ([], []), ([2], [2]), ([], []), ([4], [4]), ([1, 0, 1], [1]), ([3, 6, 0, 1, 2, 3, 6], [3]), ([5, 7, 0, 1, 2, 3, 4, 5, 6, 7], [5])])
def cross_wrong.B9 : List Nat := [0, 1, 0, 4, 0, 16, 3, 79, 255]
theorem cross_wrong.tab9 : rtab .any (opsOf Try.f45 9) = cross_wrong.T9 := by kernel_rfl
theorem cross_wrong.bits9 : waitsOk cross_wrong.T9.2 cross_wrong.B9 = true := by kernel_rfl
def cross_wrong.T13 : Bool × List (List Nat × List Nat) := (true, [([], []), ([], []), ([1], [1]), ([0, 2], [0, 2]), ([3], [3]), ([], []), ([], []), ([6], [6]), ([5, 7], [5, 7]), ([8], [8]), ([], []), ([], []), ([11], [11]), ([10, 12], [10, 12]), ([13], [13]), ([], []), ([], []), ([16], [16]), ([15, 17], [15, 17]), ([18], [18]), ([4, 9, 14, 19], [4, 9, 14, 19]), ([20, 20, 0, 1, 2, 3, 4, 5, 6, 7, 8, 9, 10, 11, 12, 13, 14, 15, 16, 17, 18, 19, 20], [20])])
def cross_wrong.B13 : List Nat := [0, 0, 2, 7, 15, 0, 0, 64, 224, 480, 0, 0, 2048, 7168, 15360, 0, 0, 65536, 229376, 491520, 1048575, 2097151]
theorem cross_wrong.tab13 : rtab .any (opsOf Try.f45 13) = cross_wrong.T13 := by kernel_rfl
theorem cross_wrong.bits13 : waitsOk cross_wrong.T13.2 cross_wrong.B13 = true := by kernel_rfl
def cross_wrong.T14 : Bool × List (List Nat × List Nat) := (true, [([], []), ([], []), ([0, 1], [0, 1]), ([2], [2]), ([], []), ([], []), ([4, 5], [4, 5]), ([6], [6]), ([], []), ([], []), ([8, 9], [8, 9]), ([10], [10]), ([3, 7, 11], [3, 7, 11]), ([12, 12], [12]), ([13], [13]), ([13], [13]), ([14, 15, 13], [13, 14, 15]), ([16, 13], [13, 16]), ([13], [13]), ([13], [13]), ([18, 19, 13], [13, 18, 19]), ([20, 13], [13, 20]), ([13], [13]), ([13], [13]), ([22, 23, 13], [13, 22, 23]), ([24, 13], [13, 24]), ([17, 21, 25, 13, 13], [13, 17, 21, 25]), ([13, 26], [13, 26]), ([27, 26, 0, 1, 2, 3, 4, 5, 6, 7, 8, 9, 10, 11, 12, 13, 14, 15, 16, 17, 18, 19, 20, 21, 22, 23, 24, 25, 26, 27], [27])])
def cross_wrong.B14 : List Nat := [0, 0, 3, 7, 0, 0, 48, 112, 0, 0, 768, 1792, 4095, 8191, 16383, 16383, 65535, 131071, 16383, 16383, 802815, 1851391, 16383, 16383, 12599295, 29376511, 67108863, 134217727, 268435455]
theorem cross_wrong.tab14 : rtab .any (opsOf Try.f45 14) = cross_wrong.T14 := by kernel_rfl
theorem cross_wrong.bits14 : waitsOk cross_wrong.T14.2 cross_wrong.B14 = true := by kernel_rfl
set_option maxHeartbeats 8000000 in
set_option maxRecDepth 100000 in
theorem cross_wrong.calls (k : Nat) (a0_0 : Int) (a0_1 : Int) (a1_0 : Int) (a1_1 : Int) (A2 : Option Addr) (c2 : Nat) (l2 : List (S23)) (r : Bool) (w : World) (hr2 : Kd.C k23 w A2 l2.length l2) (hc2 : l2.length ≤ c2) (h : cross_wrong.f k a0_0 a0_1 a1_0 a1_1 l2 = some r) :
  Calls Try.prog 45 #[.agg #[.int .i64 a0_0, .int .i64 a0_1], .agg #[.int .i64 a1_0, .int .i64 a1_1], .slice A2 l2.length c2] w fun e w' => e = .returned (.bool r) ∧ Below w.heap.size w w' := by
 have hu62 := Try.underlying62; have hu91 := Try.underlying91; have hu23 := Try.underlying23; have HR2 := Aside0.mk hr2; have HC2 := Aside0.mk hc2; clear hr2 hc2; have HB := Aside0.mk (Below.refl w.heap.size w); have H : (cross_wrong.l0 k l2 (-1) 0 0 a0_0 a0_1 a0_1 a0_0 0 a0_0 a0_1 a1_0 a1_1) = some r := h; clear h; have H' := Aside0.mk H; clear H
 go_enter Try.func45, Try.ntmps45
 go_wp2_with (first | ((with_reducible refine gate_dst (N := 3) rfl ?_); refine be_ 3 #[.int .i64 a0_0, .int .i64 a0_1] 62 ?_; intro gb157 hg w4 hbox hb; have BK157 := Aside0.mk (hbox); have GW157 := wq (hb0 HB) hg; have GE157 := wq (hb0 HB) hg; replace HB := hs (hb0 HB) hb; clear hb hbox hg) | ((with_reducible refine gate_dst (N := 4) rfl ?_); refine be_ 4 #[.int .i64 a1_0, .int .i64 a1_1] 62 ?_; intro gb158 hg w5 hbox hb; have BK158 := Aside0.mk (hbox); have GW158 := wq (hb1 HB GE157) hg; have GE158 := wq (hb1 HB GE157) hg; replace HB := hs (hb1 HB GE157) hb; have NB157_158 := lx BK157 hg; have NB158_157 := gx BK157 hg; replace BK157 := kx BK157 hb; clear hb hbox hg; have hnb6 := NB157_158.out; have hnc6 := NB158_157.out; have hcz7_0 : w5.cell? ⟨gb157, 0, none⟩ = some (.int .i64 a0_0) := bc BK157 0; have hcz7_1 : w5.cell? ⟨gb157, 1, none⟩ = some (.int .i64 a0_1) := bc BK157 1; have hfz7_0 := blk_frozen BK157.out 0; have hfz7_1 := blk_frozen BK157.out 1))
 go_loopg [7, 8, 9, 25] k (fun kq v7 v8 v9 v25 w' => ∃ (x7_1 : Int) (x8_1 : Int) (x9_1 : Int) (x25_1 : Int), v7 = .int .i64 x7_1 ∧ v8 = .int .i64 x8_1 ∧ v9 = .int .i64 x9_1 ∧ v25 = .int .i64 x25_1 ∧ Aside0 (cross_wrong.l0 kq l2 x7_1 x8_1 x9_1 a0_0 a0_1 a0_1 a0_0 x25_1 a0_0 a0_1 a1_0 a1_1 = some r) ∧ Aside0 (kq ≤ k) ∧ Aside0 (w'.heap[gb157]? = some (.cells #[.int .i64 a0_0, .int .i64 a0_1] 62 (0, 0))) ∧ Aside0 (w'.heap[gb158]? = some (.cells #[.int .i64 a1_0, .int .i64 a1_1] 62 (0, 0))) ∧ Aside0 (Below w.heap.size w w'))
 case atStart => exact ⟨((-1)), (0), (0), (0), (by first | rfl | (simp; done) | (simp [*]; done)), (by first | rfl | (simp; done) | (simp [*]; done)), (by first | rfl | (simp; done) | (simp [*]; done)), (by first | rfl | (simp; done) | (simp [*]; done)), H', ⟨Nat.le_refl _⟩, ⟨bx BK157⟩, ⟨bx BK158⟩, ⟨hb2 HB GE157 GE158⟩⟩
 case round =>
  clear H'
  try clear c2
  try clear p2
  try clear c4
  try clear c6
  try clear hcz7_0
  try clear hcz7_1
  try clear hfz7_0
  try clear hfz7_1
  obtain ⟨x7_1, x8_1, x9_1, x25_1, rfl, rfl, rfl, rfl, HA, HK1, BK157, BK158, HB⟩ := hrel
  cases gk with
  | zero => exact absurd HA.out (by simp [cross_wrong.l0])
  | succ k1 =>
   have H := HA.out; clear HA; simp only [cross_wrong.l0] at H
   by_cases c8 : x25_1 < 2
   ·rw [if_pos c8] at H; have c8b0 : decide (x25_1 < 2) = true := decide_eq_true c8; clear c8; replace H := Option.bind_eq_some_iff.mp H; obtain ⟨⟨t159, t160⟩, A90, H⟩ := H; (try dsimp only at H); have A9 := Aside0.mk A90; clear A90; have hix9 := idx_run A9.out; have H' := Aside0.mk H; clear H
    go_wp2_with (first | ((with_reducible refine gate_callee (f := 58) rfl ?_); refine gl_ (some 27) Try.func58 #[.int .i64 a0_0, .int .i64 a0_1, .int .i64 a0_1, .int .i64 a0_0, .int .i64 x25_1] ?_; (with_reducible refine (comps_Sets_numbers.calls a0_0 a0_1 a0_1 a0_0 x25_1 t159 t160 _ A9.out).mono ?_); rintro e w10 ⟨rfl, hb⟩; refine ⟨_, rfl, ?_⟩; replace BK157 := kx BK157 hb; replace BK158 := kx BK158 hb; replace HB := hs (hb2 HB GE157 GE158) hb; (try clear hb); (try clear hb2); (try clear hk); (try clear hi)) | ((with_reducible refine gate_dst (N := 11) rfl ?_); refine be_ 11 #[.int .i64 0, .int .i64 0] 91 ?_; intro gb161 hg w11 hbox hb; have BK161 := Aside0.mk (hbox); have GW161 := wq (hb2 HB GE157 GE158) hg; have GE161 := wq (hb2 HB GE157 GE158) hg; replace HB := hs (hb2 HB GE157 GE158) hb; have NB157_161 := lx BK157 hg; have NB161_157 := gx BK157 hg; replace BK157 := kx BK157 hb; have NB158_161 := lx BK158 hg; have NB161_158 := gx BK158 hg; replace BK158 := kx BK158 hb; clear hb hbox hg; have hnb12 := NB161_157.out; have hnc12 := NB157_161.out; have hnb13 := NB161_158.out; have hnc13 := NB158_161.out; have hcz14_0 : w11.cell? ⟨gb161, 0, none⟩ = some (.int .i64 0) := bc BK161 0; have hcz14_1 : w11.cell? ⟨gb161, 1, none⟩ = some (.int .i64 0) := bc BK161 1; have hfz14_0 := blk_frozen BK161.out 0; have hfz14_1 := blk_frozen BK161.out 1; have hnb15 := NB158_157.out; have hnc15 := NB157_158.out; have hcz16_0 : w11.cell? ⟨gb158, 0, none⟩ = some (.int .i64 a1_0) := bc BK158 0; have hcz16_1 : w11.cell? ⟨gb158, 1, none⟩ = some (.int .i64 a1_1) := bc BK158 1; have hfz16_0 := blk_frozen BK158.out 0; have hfz16_1 := blk_frozen BK158.out 1))
    go_loopg [7, 8, 9, 39] k1 (fun kq v7 v8 v9 v39 w' => ∃ (x7_2 : Int) (x8_2 : Int) (x9_2 : Int) (x39_2 : Int), v7 = .int .i64 x7_2 ∧ v8 = .int .i64 x8_2 ∧ v9 = .int .i64 x9_2 ∧ v39 = .int .i64 x39_2 ∧ Aside0 (cross_wrong.l1 kq l2 x7_2 x8_2 x9_2 a0_0 a0_1 a0_1 a0_0 x25_1 a1_0 a1_1 a1_1 a1_0 x39_2 a0_0 a0_1 a1_0 a1_1 t159 t160 = some r) ∧ Aside0 (kq ≤ k1) ∧ Aside0 (w'.heap[gb157]? = some (.cells #[.int .i64 a0_0, .int .i64 a0_1] 62 (0, 0))) ∧ Aside0 (w'.heap[gb158]? = some (.cells #[.int .i64 a1_0, .int .i64 a1_1] 62 (0, 0))) ∧ Aside0 (w'.heap[gb161]? = some (.cells #[.int .i64 t159, .int .i64 t160] 91 (0, 0))) ∧ Aside0 (Below w.heap.size w w'))
    case atStart => exact ⟨(x7_1), (x8_1), (x9_1), (0), (by first | rfl | (simp; done) | (simp [*]; done)), (by first | rfl | (simp; done) | (simp [*]; done)), (by first | rfl | (simp; done) | (simp [*]; done)), (by first | rfl | (simp; done) | (simp [*]; done)), H', ⟨Nat.le_refl _⟩, ⟨bx1 BK157 NB157_161⟩, ⟨bx1 BK158 NB158_161⟩, ⟨bp BK161⟩, ⟨hb3 HB GE157 GE158 GE161⟩⟩
    case round =>
     clear H'
     try clear c1
     try clear c2
     try clear p2
     try clear c4
     try clear c5
     try clear c6
     try clear c8
     try clear c8b0
     try clear c12
     try clear c13
     try clear c15
     try clear hcz14_0
     try clear hcz14_1
     try clear hcz16_0
     try clear hcz16_1
     try clear hcz7_0
     try clear hcz7_1
     try clear hfz14_0
     try clear hfz14_1
     try clear hfz16_0
     try clear hfz16_1
     try clear hfz7_0
     try clear hfz7_1
     try clear p2
     obtain ⟨x7_2, x8_2, x9_2, x39_2, rfl, rfl, rfl, rfl, HA, HK2, BK157, BK158, BK161, HB⟩ := hrel
     cases gk with
     | zero => exact absurd HA.out (by simp [cross_wrong.l1])
     | succ k2 =>
      have H := HA.out; clear HA; simp only [cross_wrong.l1] at H
      by_cases c17 : x39_2 < 2
      ·rw [if_pos c17] at H; have c17b0 : decide (x39_2 < 2) = true := decide_eq_true c17; clear c17; replace H := Option.bind_eq_some_iff.mp H; obtain ⟨⟨t162, t163⟩, A180, H⟩ := H; (try dsimp only at H); have A18 := Aside0.mk A180; clear A180; have hix18 := idx_run A18.out
       by_cases c19 : t159 = t162
       ·rw [if_pos c19] at H; have c19b0 : (t159 == t162) = true := beq_iff_eq.mpr c19; have c19b1 : (t159 != t162) = false := bne_eq_false_iff_eq.mpr c19; clear c19; have H' := Aside0.mk H; clear H
        try go_wp2_with (first | ((with_reducible refine gate_callee (f := 58) rfl ?_); refine gl_ (some 41) Try.func58 #[.int .i64 a1_0, .int .i64 a1_1, .int .i64 a1_1, .int .i64 a1_0, .int .i64 x39_2] ?_; (with_reducible refine (comps_Sets_numbers.calls a1_0 a1_1 a1_1 a1_0 x39_2 t162 t163 _ A18.out).mono ?_); rintro e w20 ⟨rfl, hb⟩; refine ⟨_, rfl, ?_⟩; replace BK157 := kx BK157 hb; replace BK158 := kx BK158 hb; replace BK161 := kx BK161 hb; replace HB := hs (hb3 HB GE157 GE158 GE161) hb; (try clear hb); (try clear hb2); (try clear hk); (try clear hi)) | ((with_reducible refine gate_dst (N := 13) rfl ?_); refine be_ 13 #[.int .i64 0, .int .i64 0] 91 ?_; intro gb164 hg w21 hbox hb; have BK164 := Aside0.mk (hbox); have GW164 := wq (hb3 HB GE157 GE158 GE161) hg; have GE164 := wq (hb3 HB GE157 GE158 GE161) hg; replace HB := hs (hb3 HB GE157 GE158 GE161) hb; have NB157_164 := lx BK157 hg; have NB164_157 := gx BK157 hg; replace BK157 := kx BK157 hb; have NB158_164 := lx BK158 hg; have NB164_158 := gx BK158 hg; replace BK158 := kx BK158 hb; have NB161_164 := lx BK161 hg; have NB164_161 := gx BK161 hg; replace BK161 := kx BK161 hb; clear hb hbox hg; have hnb22 := NB164_157.out; have hnc22 := NB157_164.out; have hnb23 := NB164_158.out; have hnc23 := NB158_164.out; have hnb24 := NB164_161.out; have hnc24 := NB161_164.out; have hcz25_0 : w21.cell? ⟨gb164, 0, none⟩ = some (.int .i64 0) := bc BK164 0; have hcz25_1 : w21.cell? ⟨gb164, 1, none⟩ = some (.int .i64 0) := bc BK164 1; have hfz25_0 := blk_frozen BK164.out 0; have hfz25_1 := blk_frozen BK164.out 1; have hnb26 := NB161_157.out; have hnc26 := NB157_161.out; have hnb27 := NB161_158.out; have hnc27 := NB158_161.out; have hcz28_0 : w21.cell? ⟨gb161, 0, none⟩ = some (.int .i64 t159) := bc BK161 0; have hcz28_1 : w21.cell? ⟨gb161, 1, none⟩ = some (.int .i64 t160) := bc BK161 1; have hfz28_0 := blk_frozen BK161.out 0; have hfz28_1 := blk_frozen BK161.out 1))
        have n0_ : Aside0 (((w21.setCell ⟨gb164, 0, none⟩ (.int .i64 t162)).setCell ⟨gb164, 1, none⟩ (.int .i64 t163)).heap[gb157]? = some (.cells #[.int .i64 a0_0, .int .i64 a0_1] 62 (0, 0))) := ⟨bx1 BK157 NB157_164⟩; have n1_ : Aside0 (((w21.setCell ⟨gb164, 0, none⟩ (.int .i64 t162)).setCell ⟨gb164, 1, none⟩ (.int .i64 t163)).heap[gb158]? = some (.cells #[.int .i64 a1_0, .int .i64 a1_1] 62 (0, 0))) := ⟨bx1 BK158 NB158_164⟩; have n2_ : Aside0 (((w21.setCell ⟨gb164, 0, none⟩ (.int .i64 t162)).setCell ⟨gb164, 1, none⟩ (.int .i64 t163)).heap[gb161]? = some (.cells #[.int .i64 t159, .int .i64 t160] 91 (0, 0))) := ⟨bx1 BK161 NB161_164⟩; have n3_ : Aside0 (((w21.setCell ⟨gb164, 0, none⟩ (.int .i64 t162)).setCell ⟨gb164, 1, none⟩ (.int .i64 t163)).heap[gb164]? = some (.cells #[.int .i64 t162, .int .i64 t163] 91 (0, 0))) := ⟨bp BK164⟩; have n4_ : Aside0 (Below w.heap.size w ((w21.setCell ⟨gb164, 0, none⟩ (.int .i64 t162)).setCell ⟨gb164, 1, none⟩ (.int .i64 t163))) := ⟨hb4 HB GE157 GE158 GE161 GE164⟩
        (try clear BK157)
        (try clear BK158)
        (try clear BK161)
        (try clear BK164)
        (try clear HB)
        generalize ((w21.setCell ⟨gb164, 0, none⟩ (.int .i64 t162)).setCell ⟨gb164, 1, none⟩ (.int .i64 t163)) = w29 at n0_ n1_ n2_ n3_ n4_ ⊢; have BK157 := n0_; have BK158 := n1_; have BK161 := n2_; have BK164 := n3_; have HB := n4_; clear n0_ n1_ n2_ n3_ n4_; replace BK157 := bd BK157; replace BK158 := bd BK158; replace BK161 := bd BK161; replace BK164 := bd BK164; replace HB := Aside0.mk (below_drew1 HB.out); refine start_ (n := 9) (S := fun w' => w'.cell? ⟨gb161, 0, none⟩ = some (.int .i64 t159) ∧ w'.cell? ⟨gb161, 1, none⟩ = some (.int .i64 t160) ∧ w'.cell? ⟨gb164, 0, none⟩ = some (.int .i64 t162) ∧ w'.cell? ⟨gb164, 1, none⟩ = some (.int .i64 t163)) (ds := []) (pf 0 9) (by kernel_rfl) rfl rfl ⟨bc BK161 0, bc BK161 1, bc BK164 0, bc BK164 1⟩ (fun hHeld => ?_); refine with_tabW cross_wrong.tab9 cross_wrong.bits9 (fun HT_ HW_ => ?_); generalize w29.drew = w30 at BK157 BK158 BK161 BK164 HB hHeld ⊢; refine pu_ 0 (some 47) (pf 1 9) HT_ ?_; refine pu_ 2 (some 49) #[T_,F_,T_,F_,F_,F_,F_,F_,F_] HT_ ?_; refine pu_ 4 (some 51) #[T_,F_,T_,F_,T_,F_,F_,F_,F_] HT_ ?_; refine tk4_ 1 (some 48) #[T_,T_,T_,F_,T_,F_,F_,F_,F_] HT_ HW_ hHeld ?_; refine pu_ 6 (some 7) #[T_,T_,T_,F_,T_,F_,T_,F_,F_] HT_ ?_; refine tk4_ 3 (some 50) #[T_,T_,T_,T_,T_,F_,T_,F_,F_] HT_ HW_ hHeld ?_; refine pu_ 7 (some 8) #[T_,T_,T_,T_,T_,F_,T_,T_,F_] HT_ ?_; refine tk4_ 5 (some 52) (pf 8 9) HT_ HW_ hHeld ?_; refine pu_ 8 (some 9) (pf 9 9) HT_ ?_
        refine done_ (done_of HT_.out (by kernel_rfl)) ?_
        try go_wp2
        go_roundg k2
        case measure => have := HK1.out; have := HK2.out; omega
        case rel => exact ⟨(t159), (t160), (t163), (wrap64 (x39_2 + 1)), (by first | rfl | (simp; done) | (simp [*]; done)), (by first | rfl | (simp; done) | (simp [*]; done)), (by first | rfl | (simp; done) | (simp [*]; done)), (by first | rfl | (simp; done) | (simp [*]; done)), H', ⟨by have := HK1.out; have := HK2.out; omega⟩, ⟨bx BK157⟩, ⟨bx BK158⟩, ⟨bx BK161⟩, ⟨hb4 HB GE157 GE158 GE161 GE164⟩⟩
       ·rw [if_neg c19] at H; have c19b0 : (t159 == t162) = false := beq_eq_false_iff_ne.mpr c19; have c19b1 : (t159 != t162) = true := bne_iff_ne.mpr c19; have H' := Aside0.mk H; clear H
        go_wp2_with (first | ((with_reducible refine gate_callee (f := 58) rfl ?_); refine gl_ (some 41) Try.func58 #[.int .i64 a1_0, .int .i64 a1_1, .int .i64 a1_1, .int .i64 a1_0, .int .i64 x39_2] ?_; (with_reducible refine (comps_Sets_numbers.calls a1_0 a1_1 a1_1 a1_0 x39_2 t162 t163 _ A18.out).mono ?_); rintro e w31 ⟨rfl, hb⟩; refine ⟨_, rfl, ?_⟩; replace BK157 := kx BK157 hb; replace BK158 := kx BK158 hb; replace BK161 := kx BK161 hb; replace HB := hs (hb3 HB GE157 GE158 GE161) hb; (try clear hb); (try clear hb2); (try clear hk); (try clear hi)) | ((with_reducible refine gate_dst (N := 13) rfl ?_); refine be_ 13 #[.int .i64 0, .int .i64 0] 91 ?_; intro gb164 hg w32 hbox hb; have BK164 := Aside0.mk (hbox); have GW164 := wq (hb3 HB GE157 GE158 GE161) hg; have GE164 := wq (hb3 HB GE157 GE158 GE161) hg; replace HB := hs (hb3 HB GE157 GE158 GE161) hb; have NB157_164 := lx BK157 hg; have NB164_157 := gx BK157 hg; replace BK157 := kx BK157 hb; have NB158_164 := lx BK158 hg; have NB164_158 := gx BK158 hg; replace BK158 := kx BK158 hb; have NB161_164 := lx BK161 hg; have NB164_161 := gx BK161 hg; replace BK161 := kx BK161 hb; clear hb hbox hg; have hnb33 := NB164_157.out; have hnc33 := NB157_164.out; have hnb34 := NB164_158.out; have hnc34 := NB158_164.out; have hnb35 := NB164_161.out; have hnc35 := NB161_164.out; have hcz36_0 : w32.cell? ⟨gb164, 0, none⟩ = some (.int .i64 0) := bc BK164 0; have hcz36_1 : w32.cell? ⟨gb164, 1, none⟩ = some (.int .i64 0) := bc BK164 1; have hfz36_0 := blk_frozen BK164.out 0; have hfz36_1 := blk_frozen BK164.out 1; have hnb37 := NB161_157.out; have hnc37 := NB157_161.out; have hnb38 := NB161_158.out; have hnc38 := NB158_161.out; have hcz39_0 : w32.cell? ⟨gb161, 0, none⟩ = some (.int .i64 t159) := bc BK161 0; have hcz39_1 : w32.cell? ⟨gb161, 1, none⟩ = some (.int .i64 t160) := bc BK161 1; have hfz39_0 := blk_frozen BK161.out 0; have hfz39_1 := blk_frozen BK161.out 1))
        go_roundg k2
        case measure => have := HK1.out; have := HK2.out; omega
        case rel => exact ⟨(x7_2), (x8_2), (x9_2), (wrap64 (x39_2 + 1)), (by first | rfl | (simp; done) | (simp [*]; done)), (by first | rfl | (simp; done) | (simp [*]; done)), (by first | rfl | (simp; done) | (simp [*]; done)), (by first | rfl | (simp; done) | (simp [*]; done)), H', ⟨by have := HK1.out; have := HK2.out; omega⟩, ⟨bx1 BK157 NB157_164⟩, ⟨bx1 BK158 NB158_164⟩, ⟨bx1 BK161 NB161_164⟩, ⟨hb4 HB GE157 GE158 GE161 GE164⟩⟩
      ·rw [if_neg c17] at H; have c17b0 : decide (x39_2 < 2) = false := decide_eq_false c17; clear c17; have H' := Aside0.mk H; clear H
       go_wp2
       go_roundg k2
       case measure => have := HK1.out; have := HK2.out; omega
       case rel => exact ⟨(x7_2), (x8_2), (x9_2), (wrap64 (x25_1 + 1)), (by first | rfl | (simp; done) | (simp [*]; done)), (by first | rfl | (simp; done) | (simp [*]; done)), (by first | rfl | (simp; done) | (simp [*]; done)), (by first | rfl | (simp; done) | (simp [*]; done)), H', ⟨by have := HK1.out; have := HK2.out; omega⟩, ⟨bx BK157⟩, ⟨bx BK158⟩, ⟨hb3 HB GE157 GE158 GE161⟩⟩
   ·rw [if_neg c8] at H; have c8b0 : decide (x25_1 < 2) = false := decide_eq_false c8; clear c8
    by_cases c40 : x7_1 < 0
    ·rw [if_pos c40] at H; have c40b0 : decide (x7_1 < 0) = true := decide_eq_true c40; clear c40
     by_cases c41 : 0 ≤ a0_0
     ·rw [if_pos c41] at H; have c41b0 : decide (0 ≤ a0_0) = true := decide_eq_true c41; clear c41
      by_cases c42 : a0_0 < (l2.length : Int)
      ·rw [if_pos c42] at H; have c42b0 : decide (a0_0 < (l2.length : Int)) = true := decide_eq_true c42; clear c42
       by_cases c43 : 0 ≤ a0_1
       ·rw [if_pos c43] at H; have c43b0 : decide (0 ≤ a0_1) = true := decide_eq_true c43; clear c43
        by_cases c44 : a0_1 < (l2.length : Int)
        ·rw [if_pos c44] at H; have c44b0 : decide (a0_1 < (l2.length : Int)) = true := decide_eq_true c44; clear c44
         by_cases c45 : 0 ≤ a1_0
         ·rw [if_pos c45] at H; have c45b0 : decide (0 ≤ a1_0) = true := decide_eq_true c45; clear c45
          by_cases c46 : a1_0 < (l2.length : Int)
          ·rw [if_pos c46] at H; have c46b0 : decide (a1_0 < (l2.length : Int)) = true := decide_eq_true c46; clear c46
           by_cases c47 : 0 ≤ a1_1
           ·rw [if_pos c47] at H; have c47b0 : decide (0 ≤ a1_1) = true := decide_eq_true c47; clear c47
            by_cases c48 : a1_1 < (l2.length : Int)
            ·rw [if_pos c48] at H; have c48b0 : decide (a1_1 < (l2.length : Int)) = true := decide_eq_true c48; clear c48; replace H := Option.bind_eq_some_iff.mp H; obtain ⟨t169, A490, H⟩ := H; (try dsimp only at H); have A49 := Aside0.mk A490; clear A490; obtain rfl := Option.some.inj H
             try go_wp2
             replace BK157 := bd BK157; replace BK158 := bd BK158; replace HB := Aside0.mk (below_drew1 HB.out); have p165 : 0 ≤ (a0_0 : Int) := of_decide_eq_true (by first | (with_reducible assumption) | assumption); have q165 : a0_0 < (l2.length : Int) := of_decide_eq_true (by first | (with_reducible assumption) | assumption); obtain ⟨ad165, e165, hx165_0, hx165_1⟩ := at_T23 HR2.out a0_0 p165 q165; have hw165_1 := hx165_1; have hw165_0 := hx165_0
             cases e165
             replace hx165_0 := (HB.out.cell (World.block_lt_of_cell? w _ hx165_0)).trans hx165_0; replace hx165_1 := (HB.out.cell (World.block_lt_of_cell? w _ hx165_1)).trans hx165_1; replace p165 := eq_true p165; replace q165 := eq_true q165; have p166 : 0 ≤ (a0_1 : Int) := of_decide_eq_true (by first | (with_reducible assumption) | assumption); have q166 : a0_1 < (l2.length : Int) := of_decide_eq_true (by first | (with_reducible assumption) | assumption); obtain ⟨ad166, e166, hx166_0, hx166_1⟩ := at_T23 HR2.out a0_1 p166 q166; have hw166_1 := hx166_1; have hw166_0 := hx166_0; obtain rfl : ad165 = ad166 := (by injection e166); replace hx166_0 := (HB.out.cell (World.block_lt_of_cell? w _ hx166_0)).trans hx166_0; replace hx166_1 := (HB.out.cell (World.block_lt_of_cell? w _ hx166_1)).trans hx166_1; replace p166 := eq_true p166; replace q166 := eq_true q166; have p167 : 0 ≤ (a1_0 : Int) := of_decide_eq_true (by first | (with_reducible assumption) | assumption); have q167 : a1_0 < (l2.length : Int) := of_decide_eq_true (by first | (with_reducible assumption) | assumption); obtain ⟨ad167, e167, hx167_0, hx167_1⟩ := at_T23 HR2.out a1_0 p167 q167; have hw167_1 := hx167_1; have hw167_0 := hx167_0; obtain rfl : ad165 = ad167 := (by injection e167); replace hx167_0 := (HB.out.cell (World.block_lt_of_cell? w _ hx167_0)).trans hx167_0; replace hx167_1 := (HB.out.cell (World.block_lt_of_cell? w _ hx167_1)).trans hx167_1; replace p167 := eq_true p167; replace q167 := eq_true q167; have p168 : 0 ≤ (a1_1 : Int) := of_decide_eq_true (by first | (with_reducible assumption) | assumption)
             have q168 : a1_1 < (l2.length : Int) := of_decide_eq_true (by first | (with_reducible assumption) | assumption); obtain ⟨ad168, e168, hx168_0, hx168_1⟩ := at_T23 HR2.out a1_1 p168 q168; have hw168_1 := hx168_1; have hw168_0 := hx168_0; obtain rfl : ad165 = ad168 := (by injection e168); replace hx168_0 := (HB.out.cell (World.block_lt_of_cell? w _ hx168_0)).trans hx168_0; replace hx168_1 := (HB.out.cell (World.block_lt_of_cell? w _ hx168_1)).trans hx168_1; replace p168 := eq_true p168; replace q168 := eq_true q168; refine start_ (n := 22) (S := fun w' => w'.cell? ⟨gb157, 0, none⟩ = some (.int .i64 a0_0) ∧ w'.cell? ⟨gb157, 1, none⟩ = some (.int .i64 a0_1) ∧ w'.cell? ⟨gb158, 0, none⟩ = some (.int .i64 a1_0) ∧ w'.cell? ⟨gb158, 1, none⟩ = some (.int .i64 a1_1) ∧ w'.cell? (ad165.add ((a0_0).toNat * 2)) = some (.int .i64 ((rd_T23 l2 a0_0).f0)) ∧ w'.cell? ⟨(ad165.add ((a0_0).toNat * 2)).block, (ad165.add ((a0_0).toNat * 2)).off + 1, none⟩ = some (.int .i64 ((rd_T23 l2 a0_0).f1)) ∧ w'.cell? (ad165.add ((a0_1).toNat * 2)) = some (.int .i64 ((rd_T23 l2 a0_1).f0)) ∧ w'.cell? ⟨(ad165.add ((a0_1).toNat * 2)).block, (ad165.add ((a0_1).toNat * 2)).off + 1, none⟩ = some (.int .i64 ((rd_T23 l2 a0_1).f1)) ∧ w'.cell? (ad165.add ((a1_0).toNat * 2)) = some (.int .i64 ((rd_T23 l2 a1_0).f0)) ∧ w'.cell? ⟨(ad165.add ((a1_0).toNat * 2)).block, (ad165.add ((a1_0).toNat * 2)).off + 1, none⟩ = some (.int .i64 ((rd_T23 l2 a1_0).f1)) ∧ w'.cell? (ad165.add ((a1_1).toNat * 2)) = some (.int .i64 ((rd_T23 l2 a1_1).f0)) ∧ w'.cell? ⟨(ad165.add ((a1_1).toNat * 2)).block, (ad165.add ((a1_1).toNat * 2)).off + 1, none⟩ = some (.int .i64 ((rd_T23 l2 a1_1).f1))) (ds := []) (pf 0 22) (by kernel_rfl) rfl rfl ⟨bc BK157 0, bc BK157 1, bc BK158 0, bc BK158 1, ((HB.out.cell (World.block_lt_of_cell? w _ hw165_0)).trans hw165_0), ((HB.out.cell (World.block_lt_of_cell? w _ hw165_1)).trans hw165_1), ((HB.out.cell (World.block_lt_of_cell? w _ hw166_0)).trans hw166_0), ((HB.out.cell (World.block_lt_of_cell? w _ hw166_1)).trans hw166_1), ((HB.out.cell (World.block_lt_of_cell? w _ hw167_0)).trans hw167_0), ((HB.out.cell (World.block_lt_of_cell? w _ hw167_1)).trans hw167_1), ((HB.out.cell (World.block_lt_of_cell? w _ hw168_0)).trans hw168_0), ((HB.out.cell (World.block_lt_of_cell? w _ hw168_1)).trans hw168_1)⟩ (fun hHeld => ?_); refine with_tabW cross_wrong.tab13 cross_wrong.bits13 (fun HT_ HW_ => ?_)
             generalize wr.drew = w50 at BK157 BK158 HB hx165_0 hx165_1 hx166_0 hx166_1 hx167_0 hx167_1 hx168_0 hx168_1 hHeld ⊢; refine pu_ 0 (some 57) (pf 1 22) HT_ ?_; refine pu_ 1 (some 58) (pf 2 22) HT_ ?_; refine pu_ 5 (some 62) #[T_,T_,F_,F_,F_,T_,F_,F_,F_,F_,F_,F_,F_,F_,F_,F_,F_,F_,F_,F_,F_,F_] HT_ ?_; refine pu_ 6 (some 63) #[T_,T_,F_,F_,F_,T_,T_,F_,F_,F_,F_,F_,F_,F_,F_,F_,F_,F_,F_,F_,F_,F_] HT_ ?_; refine pu_ 10 (some 67) #[T_,T_,F_,F_,F_,T_,T_,F_,F_,F_,T_,F_,F_,F_,F_,F_,F_,F_,F_,F_,F_,F_] HT_ ?_; refine pu_ 11 (some 68) #[T_,T_,F_,F_,F_,T_,T_,F_,F_,F_,T_,T_,F_,F_,F_,F_,F_,F_,F_,F_,F_,F_] HT_ ?_; refine pu_ 15 (some 72) #[T_,T_,F_,F_,F_,T_,T_,F_,F_,F_,T_,T_,F_,F_,F_,T_,F_,F_,F_,F_,F_,F_] HT_ ?_; refine pu_ 16 (some 73) #[T_,T_,F_,F_,F_,T_,T_,F_,F_,F_,T_,T_,F_,F_,F_,T_,T_,F_,F_,F_,F_,F_] HT_ ?_; refine tk12_ 2 (some 59) #[T_,T_,T_,F_,F_,T_,T_,F_,F_,F_,T_,T_,F_,F_,F_,T_,T_,F_,F_,F_,F_,F_] HT_ HW_ hHeld ?_; refine pu_ 3 (some 60) #[T_,T_,T_,T_,F_,T_,T_,F_,F_,F_,T_,T_,F_,F_,F_,T_,T_,F_,F_,F_,F_,F_] HT_ ?_; refine tk12_ 4 (some 61) #[T_,T_,T_,T_,T_,T_,T_,F_,F_,F_,T_,T_,F_,F_,F_,T_,T_,F_,F_,F_,F_,F_] HT_ HW_ hHeld ?_; refine tk12_ 7 (some 64) #[T_,T_,T_,T_,T_,T_,T_,T_,F_,F_,T_,T_,F_,F_,F_,T_,T_,F_,F_,F_,F_,F_] HT_ HW_ hHeld ?_; refine pu_ 8 (some 65) #[T_,T_,T_,T_,T_,T_,T_,T_,T_,F_,T_,T_,F_,F_,F_,T_,T_,F_,F_,F_,F_,F_] HT_ ?_; refine tk12_ 9 (some 66) #[T_,T_,T_,T_,T_,T_,T_,T_,T_,T_,T_,T_,F_,F_,F_,T_,T_,F_,F_,F_,F_,F_] HT_ HW_ hHeld ?_
             refine tk12_ 12 (some 69) #[T_,T_,T_,T_,T_,T_,T_,T_,T_,T_,T_,T_,T_,F_,F_,T_,T_,F_,F_,F_,F_,F_] HT_ HW_ hHeld ?_; refine pu_ 13 (some 70) #[T_,T_,T_,T_,T_,T_,T_,T_,T_,T_,T_,T_,T_,T_,F_,T_,T_,F_,F_,F_,F_,F_] HT_ ?_; refine tk12_ 14 (some 71) (pf 17 22) HT_ HW_ hHeld ?_; refine tk12_ 17 (some 74) (pf 18 22) HT_ HW_ hHeld ?_; refine pu_ 18 (some 75) (pf 19 22) HT_ ?_; refine tk12_ 19 (some 76) (pf 20 22) HT_ HW_ hHeld ?_; refine on_ 20 (some 77) (pf 21 22) HT_ (fun K hK => ?_); refine gs_ Try.func43 #[.agg #[.int .i64 ((rd_T23 l2 a0_0).f0), .int .i64 ((rd_T23 l2 a0_0).f1)], .agg #[.int .i64 ((rd_T23 l2 a0_1).f0), .int .i64 ((rd_T23 l2 a0_1).f1)], .agg #[.int .i64 ((rd_T23 l2 a1_0).f0), .int .i64 ((rd_T23 l2 a1_0).f1)], .agg #[.int .i64 ((rd_T23 l2 a1_1).f0), .int .i64 ((rd_T23 l2 a1_1).f1)]] ?_
             with_reducible refine (cross_meet.calls k1 ((rd_T23 l2 a0_0).f0) ((rd_T23 l2 a0_0).f1) ((rd_T23 l2 a0_1).f0) ((rd_T23 l2 a0_1).f1) ((rd_T23 l2 a1_0).f0) ((rd_T23 l2 a1_0).f1) ((rd_T23 l2 a1_1).f0) ((rd_T23 l2 a1_1).f1) t169 _ A49.out).mono ?_
             rintro e w51 ⟨rfl, hb⟩; refine ⟨_, rfl, ?_⟩; replace BK157 := kx BK157 hb; replace BK158 := kx BK158 hb; replace HB := hs (hb2 HB GE157 GE158) hb
             (try clear hb)
             (try clear hb2)
             (try clear hk)
             (try clear hi)
             refine hK.out _ _ ⟨bc BK157 0, bc BK157 1, bc BK158 0, bc BK158 1, ((HB.out.cell (World.block_lt_of_cell? w _ hw165_0)).trans hw165_0), ((HB.out.cell (World.block_lt_of_cell? w _ hw165_1)).trans hw165_1), ((HB.out.cell (World.block_lt_of_cell? w _ hw166_0)).trans hw166_0), ((HB.out.cell (World.block_lt_of_cell? w _ hw166_1)).trans hw166_1), ((HB.out.cell (World.block_lt_of_cell? w _ hw167_0)).trans hw167_0), ((HB.out.cell (World.block_lt_of_cell? w _ hw167_1)).trans hw167_1), ((HB.out.cell (World.block_lt_of_cell? w _ hw168_0)).trans hw168_0), ((HB.out.cell (World.block_lt_of_cell? w _ hw168_1)).trans hw168_1)⟩ (fun hHeld => ?_); clear hK K; refine nm_ (some 77) ?_; refine pu_ 21 (some 6) (pf 22 22) HT_ ?_; refine done_ (done_of HT_.out (by kernel_rfl)) ?_
             try go_wp2
             go_ret
             exact ⟨by first | rfl | (simp [errW_none, errW_some] <;> rfl) | (simp [*, errW_none, errW_some] <;> rfl), hb2 HB GE157 GE158⟩
            ·rw [if_neg c48] at H; exact absurd H (by simp)
           ·rw [if_neg c47] at H; exact absurd H (by simp)
          ·rw [if_neg c46] at H; exact absurd H (by simp)
         ·rw [if_neg c45] at H; exact absurd H (by simp)
        ·rw [if_neg c44] at H; exact absurd H (by simp)
       ·rw [if_neg c43] at H; exact absurd H (by simp)
      ·rw [if_neg c42] at H; exact absurd H (by simp)
     ·rw [if_neg c41] at H; exact absurd H (by simp)
    ·rw [if_neg c40] at H; have c40b0 : decide (x7_1 < 0) = false := decide_eq_false c40; clear c40
     by_cases c52 : 0 ≤ x7_1
     ·rw [if_pos c52] at H; have c52b0 : decide (0 ≤ x7_1) = true := decide_eq_true c52; clear c52
      by_cases c53 : x7_1 < (l2.length : Int)
      ·rw [if_pos c53] at H; have c53b0 : decide (x7_1 < (l2.length : Int)) = true := decide_eq_true c53; clear c53
       by_cases c54 : 0 ≤ x8_1
       ·rw [if_pos c54] at H; have c54b0 : decide (0 ≤ x8_1) = true := decide_eq_true c54; clear c54
        by_cases c55 : x8_1 < (l2.length : Int)
        ·rw [if_pos c55] at H; have c55b0 : decide (x8_1 < (l2.length : Int)) = true := decide_eq_true c55; clear c55
         by_cases c56 : 0 ≤ x9_1
         ·rw [if_pos c56] at H; have c56b0 : decide (0 ≤ x9_1) = true := decide_eq_true c56; clear c56
          by_cases c57 : x9_1 < (l2.length : Int)
          ·rw [if_pos c57] at H; have c57b0 : decide (x9_1 < (l2.length : Int)) = true := decide_eq_true c57; clear c57; replace H := Option.bind_eq_some_iff.mp H; obtain ⟨t173, A580, H⟩ := H; (try dsimp only at H); have A58 := Aside0.mk A580; clear A580
           by_cases c59 : t173 = true
           ·subst c59; rw [if_pos rfl] at H; obtain rfl := Option.some.inj H
            try go_wp2
            replace BK157 := bd BK157; replace BK158 := bd BK158; replace HB := Aside0.mk (below_drew1 HB.out); have p170 : 0 ≤ (x7_1 : Int) := of_decide_eq_true (by first | (with_reducible assumption) | assumption); have q170 : x7_1 < (l2.length : Int) := of_decide_eq_true (by first | (with_reducible assumption) | assumption); obtain ⟨ad170, e170, hx170_0, hx170_1⟩ := at_T23 HR2.out x7_1 p170 q170; have hw170_1 := hx170_1; have hw170_0 := hx170_0
            cases e170
            replace hx170_0 := (HB.out.cell (World.block_lt_of_cell? w _ hx170_0)).trans hx170_0; replace hx170_1 := (HB.out.cell (World.block_lt_of_cell? w _ hx170_1)).trans hx170_1; replace p170 := eq_true p170; replace q170 := eq_true q170; have p171 : 0 ≤ (x8_1 : Int) := of_decide_eq_true (by first | (with_reducible assumption) | assumption); have q171 : x8_1 < (l2.length : Int) := of_decide_eq_true (by first | (with_reducible assumption) | assumption); obtain ⟨ad171, e171, hx171_0, hx171_1⟩ := at_T23 HR2.out x8_1 p171 q171; have hw171_1 := hx171_1; have hw171_0 := hx171_0; obtain rfl : ad170 = ad171 := (by injection e171); replace hx171_0 := (HB.out.cell (World.block_lt_of_cell? w _ hx171_0)).trans hx171_0; replace hx171_1 := (HB.out.cell (World.block_lt_of_cell? w _ hx171_1)).trans hx171_1; replace p171 := eq_true p171; replace q171 := eq_true q171; have p172 : 0 ≤ (x9_1 : Int) := of_decide_eq_true (by first | (with_reducible assumption) | assumption); have q172 : x9_1 < (l2.length : Int) := of_decide_eq_true (by first | (with_reducible assumption) | assumption); obtain ⟨ad172, e172, hx172_0, hx172_1⟩ := at_T23 HR2.out x9_1 p172 q172; have hw172_1 := hx172_1; have hw172_0 := hx172_0; obtain rfl : ad170 = ad172 := (by injection e172); replace hx172_0 := (HB.out.cell (World.block_lt_of_cell? w _ hx172_0)).trans hx172_0; replace hx172_1 := (HB.out.cell (World.block_lt_of_cell? w _ hx172_1)).trans hx172_1; replace p172 := eq_true p172; replace q172 := eq_true q172; refine start_ (n := 29) (S := fun w' => w'.cell? (ad170.add ((x7_1).toNat * 2)) = some (.int .i64 ((rd_T23 l2 x7_1).f0)) ∧ w'.cell? ⟨(ad170.add ((x7_1).toNat * 2)).block, (ad170.add ((x7_1).toNat * 2)).off + 1, none⟩ = some (.int .i64 ((rd_T23 l2 x7_1).f1)) ∧ w'.cell? (ad170.add ((x8_1).toNat * 2)) = some (.int .i64 ((rd_T23 l2 x8_1).f0)) ∧ w'.cell? ⟨(ad170.add ((x8_1).toNat * 2)).block, (ad170.add ((x8_1).toNat * 2)).off + 1, none⟩ = some (.int .i64 ((rd_T23 l2 x8_1).f1)) ∧ w'.cell? (ad170.add ((x9_1).toNat * 2)) = some (.int .i64 ((rd_T23 l2 x9_1).f0)) ∧ w'.cell? ⟨(ad170.add ((x9_1).toNat * 2)).block, (ad170.add ((x9_1).toNat * 2)).off + 1, none⟩ = some (.int .i64 ((rd_T23 l2 x9_1).f1))) (ds := []) (pf 0 29) (by kernel_rfl) rfl rfl ⟨((HB.out.cell (World.block_lt_of_cell? w _ hw170_0)).trans hw170_0), ((HB.out.cell (World.block_lt_of_cell? w _ hw170_1)).trans hw170_1), ((HB.out.cell (World.block_lt_of_cell? w _ hw171_0)).trans hw171_0), ((HB.out.cell (World.block_lt_of_cell? w _ hw171_1)).trans hw171_1), ((HB.out.cell (World.block_lt_of_cell? w _ hw172_0)).trans hw172_0), ((HB.out.cell (World.block_lt_of_cell? w _ hw172_1)).trans hw172_1)⟩ (fun hHeld => ?_); refine with_tabW cross_wrong.tab14 cross_wrong.bits14 (fun HT_ HW_ => ?_)
            generalize wr.drew = w60 at BK157 BK158 HB hx170_0 hx170_1 hx171_0 hx171_1 hx172_0 hx172_1 hHeld ⊢; refine pu_ 0 (some 78) (pf 1 29) HT_ ?_; refine pu_ 1 (some 79) (pf 2 29) HT_ ?_; refine pu_ 2 (some 80) (pf 3 29) HT_ ?_; refine pu_ 4 (some 82) #[T_,T_,T_,F_,T_,F_,F_,F_,F_,F_,F_,F_,F_,F_,F_,F_,F_,F_,F_,F_,F_,F_,F_,F_,F_,F_,F_,F_,F_] HT_ ?_; refine pu_ 5 (some 83) #[T_,T_,T_,F_,T_,T_,F_,F_,F_,F_,F_,F_,F_,F_,F_,F_,F_,F_,F_,F_,F_,F_,F_,F_,F_,F_,F_,F_,F_] HT_ ?_; refine pu_ 6 (some 84) #[T_,T_,T_,F_,T_,T_,T_,F_,F_,F_,F_,F_,F_,F_,F_,F_,F_,F_,F_,F_,F_,F_,F_,F_,F_,F_,F_,F_,F_] HT_ ?_; refine pu_ 8 (some 86) #[T_,T_,T_,F_,T_,T_,T_,F_,T_,F_,F_,F_,F_,F_,F_,F_,F_,F_,F_,F_,F_,F_,F_,F_,F_,F_,F_,F_,F_] HT_ ?_; refine pu_ 9 (some 87) #[T_,T_,T_,F_,T_,T_,T_,F_,T_,T_,F_,F_,F_,F_,F_,F_,F_,F_,F_,F_,F_,F_,F_,F_,F_,F_,F_,F_,F_] HT_ ?_; refine pu_ 10 (some 88) #[T_,T_,T_,F_,T_,T_,T_,F_,T_,T_,T_,F_,F_,F_,F_,F_,F_,F_,F_,F_,F_,F_,F_,F_,F_,F_,F_,F_,F_] HT_ ?_; refine tk6_ 3 (some 81) #[T_,T_,T_,T_,T_,T_,T_,F_,T_,T_,T_,F_,F_,F_,F_,F_,F_,F_,F_,F_,F_,F_,F_,F_,F_,F_,F_,F_,F_] HT_ HW_ hHeld ?_; refine tk6_ 7 (some 85) (pf 11 29) HT_ HW_ hHeld ?_; refine tk6_ 11 (some 89) (pf 12 29) HT_ HW_ hHeld ?_
            refine on_ 12 (some 90) (pf 13 29) HT_ (fun K hK => ?_); refine gs_ Try.func41 #[.agg #[.int .i64 ((rd_T23 l2 x7_1).f0), .int .i64 ((rd_T23 l2 x7_1).f1)], .agg #[.int .i64 ((rd_T23 l2 x8_1).f0), .int .i64 ((rd_T23 l2 x8_1).f1)], .agg #[.int .i64 ((rd_T23 l2 x9_1).f0), .int .i64 ((rd_T23 l2 x9_1).f1)]] ?_
            with_reducible refine (cross_on.calls ((rd_T23 l2 x7_1).f0) ((rd_T23 l2 x7_1).f1) ((rd_T23 l2 x8_1).f0) ((rd_T23 l2 x8_1).f1) ((rd_T23 l2 x9_1).f0) ((rd_T23 l2 x9_1).f1) true _ A58.out).mono ?_
            rintro e w61 ⟨rfl, hb⟩; refine ⟨_, rfl, ?_⟩; replace BK157 := kx BK157 hb; replace BK158 := kx BK158 hb; replace HB := hs (hb2 HB GE157 GE158) hb
            (try clear hb)
            (try clear hb2)
            (try clear hk)
            (try clear hi)
            refine hK.out _ _ ⟨((HB.out.cell (World.block_lt_of_cell? w _ hw170_0)).trans hw170_0), ((HB.out.cell (World.block_lt_of_cell? w _ hw170_1)).trans hw170_1), ((HB.out.cell (World.block_lt_of_cell? w _ hw171_0)).trans hw171_0), ((HB.out.cell (World.block_lt_of_cell? w _ hw171_1)).trans hw171_1), ((HB.out.cell (World.block_lt_of_cell? w _ hw172_0)).trans hw172_0), ((HB.out.cell (World.block_lt_of_cell? w _ hw172_1)).trans hw172_1)⟩ (fun hHeld => ?_); clear hK K; refine nm_ (some 90) ?_; refine pu_ 13 (some 91) (pf 14 29) HT_ ?_; refine pn_ 14 (some 92) (pf 15 29) HT_ ?_; refine pn_ 15 (some 93) (pf 16 29) HT_ ?_; refine pn_ 16 (some 94) (pf 17 29) HT_ ?_; refine pn_ 17 (some 95) (pf 18 29) HT_ ?_; refine pn_ 18 (some 96) (pf 19 29) HT_ ?_; refine pn_ 19 (some 97) (pf 20 29) HT_ ?_; refine pn_ 20 (some 98) (pf 21 29) HT_ ?_; refine pn_ 21 (some 99) (pf 22 29) HT_ ?_
            refine pn_ 22 (some 100) (pf 23 29) HT_ ?_; refine pn_ 23 (some 101) (pf 24 29) HT_ ?_; refine pn_ 24 (some 102) (pf 25 29) HT_ ?_; refine pn_ 25 (some 103) (pf 26 29) HT_ ?_; refine pn_ 26 (some 104) (pf 27 29) HT_ ?_; refine pu_ 27 (some 105) (pf 28 29) HT_ ?_; refine pu_ 28 (some 6) (pf 29 29) HT_ ?_; refine done_ (done_of HT_.out (by kernel_rfl)) ?_
            try go_wp2
            go_ret
            exact ⟨by first | rfl | (simp [errW_none, errW_some] <;> rfl) | (simp [*, errW_none, errW_some] <;> rfl), hb2 HB GE157 GE158⟩
           ·replace c59 := Bool.eq_false_iff.mpr c59; subst c59; rw [if_neg (show ¬ (false = true) by decide)] at H; replace H := Option.bind_eq_some_iff.mp H; obtain ⟨t177, A620, H⟩ := H; (try dsimp only at H); have A62 := Aside0.mk A620; clear A620; obtain rfl := Option.some.inj H
            try go_wp2
            replace BK157 := bd BK157; replace BK158 := bd BK158; replace HB := Aside0.mk (below_drew1 HB.out); have p170 : 0 ≤ (x7_1 : Int) := of_decide_eq_true (by first | (with_reducible assumption) | assumption); have q170 : x7_1 < (l2.length : Int) := of_decide_eq_true (by first | (with_reducible assumption) | assumption); obtain ⟨ad170, e170, hx170_0, hx170_1⟩ := at_T23 HR2.out x7_1 p170 q170; have hw170_1 := hx170_1; have hw170_0 := hx170_0
            cases e170
            replace hx170_0 := (HB.out.cell (World.block_lt_of_cell? w _ hx170_0)).trans hx170_0; replace hx170_1 := (HB.out.cell (World.block_lt_of_cell? w _ hx170_1)).trans hx170_1; replace p170 := eq_true p170; replace q170 := eq_true q170; have p171 : 0 ≤ (x8_1 : Int) := of_decide_eq_true (by first | (with_reducible assumption) | assumption); have q171 : x8_1 < (l2.length : Int) := of_decide_eq_true (by first | (with_reducible assumption) | assumption); obtain ⟨ad171, e171, hx171_0, hx171_1⟩ := at_T23 HR2.out x8_1 p171 q171; have hw171_1 := hx171_1; have hw171_0 := hx171_0; obtain rfl : ad170 = ad171 := (by injection e171); replace hx171_0 := (HB.out.cell (World.block_lt_of_cell? w _ hx171_0)).trans hx171_0; replace hx171_1 := (HB.out.cell (World.block_lt_of_cell? w _ hx171_1)).trans hx171_1; replace p171 := eq_true p171; replace q171 := eq_true q171; have p172 : 0 ≤ (x9_1 : Int) := of_decide_eq_true (by first | (with_reducible assumption) | assumption); have q172 : x9_1 < (l2.length : Int) := of_decide_eq_true (by first | (with_reducible assumption) | assumption); obtain ⟨ad172, e172, hx172_0, hx172_1⟩ := at_T23 HR2.out x9_1 p172 q172; have hw172_1 := hx172_1; have hw172_0 := hx172_0; obtain rfl : ad170 = ad172 := (by injection e172); replace hx172_0 := (HB.out.cell (World.block_lt_of_cell? w _ hx172_0)).trans hx172_0; replace hx172_1 := (HB.out.cell (World.block_lt_of_cell? w _ hx172_1)).trans hx172_1; replace p172 := eq_true p172; replace q172 := eq_true q172; have p174 : 0 ≤ (x7_1 : Int) := of_decide_eq_true (by first | (with_reducible assumption) | assumption)
            have q174 : x7_1 < (l2.length : Int) := of_decide_eq_true (by first | (with_reducible assumption) | assumption); obtain ⟨ad174, e174, hx174_0, hx174_1⟩ := at_T23 HR2.out x7_1 p174 q174; have hw174_1 := hx174_1; have hw174_0 := hx174_0; obtain rfl : ad170 = ad174 := (by injection e174); replace hx174_0 := (HB.out.cell (World.block_lt_of_cell? w _ hx174_0)).trans hx174_0; replace hx174_1 := (HB.out.cell (World.block_lt_of_cell? w _ hx174_1)).trans hx174_1; replace p174 := eq_true p174; replace q174 := eq_true q174; have p175 : 0 ≤ (x9_1 : Int) := of_decide_eq_true (by first | (with_reducible assumption) | assumption); have q175 : x9_1 < (l2.length : Int) := of_decide_eq_true (by first | (with_reducible assumption) | assumption); obtain ⟨ad175, e175, hx175_0, hx175_1⟩ := at_T23 HR2.out x9_1 p175 q175; have hw175_1 := hx175_1; have hw175_0 := hx175_0; obtain rfl : ad170 = ad175 := (by injection e175); replace hx175_0 := (HB.out.cell (World.block_lt_of_cell? w _ hx175_0)).trans hx175_0; replace hx175_1 := (HB.out.cell (World.block_lt_of_cell? w _ hx175_1)).trans hx175_1; replace p175 := eq_true p175; replace q175 := eq_true q175; have p176 : 0 ≤ (x8_1 : Int) := of_decide_eq_true (by first | (with_reducible assumption) | assumption); have q176 : x8_1 < (l2.length : Int) := of_decide_eq_true (by first | (with_reducible assumption) | assumption); obtain ⟨ad176, e176, hx176_0, hx176_1⟩ := at_T23 HR2.out x8_1 p176 q176; have hw176_1 := hx176_1; have hw176_0 := hx176_0; obtain rfl : ad170 = ad176 := (by injection e176)
            replace hx176_0 := (HB.out.cell (World.block_lt_of_cell? w _ hx176_0)).trans hx176_0; replace hx176_1 := (HB.out.cell (World.block_lt_of_cell? w _ hx176_1)).trans hx176_1; replace p176 := eq_true p176; replace q176 := eq_true q176; refine start_ (n := 29) (S := fun w' => w'.cell? (ad170.add ((x7_1).toNat * 2)) = some (.int .i64 ((rd_T23 l2 x7_1).f0)) ∧ w'.cell? ⟨(ad170.add ((x7_1).toNat * 2)).block, (ad170.add ((x7_1).toNat * 2)).off + 1, none⟩ = some (.int .i64 ((rd_T23 l2 x7_1).f1)) ∧ w'.cell? (ad170.add ((x8_1).toNat * 2)) = some (.int .i64 ((rd_T23 l2 x8_1).f0)) ∧ w'.cell? ⟨(ad170.add ((x8_1).toNat * 2)).block, (ad170.add ((x8_1).toNat * 2)).off + 1, none⟩ = some (.int .i64 ((rd_T23 l2 x8_1).f1)) ∧ w'.cell? (ad170.add ((x9_1).toNat * 2)) = some (.int .i64 ((rd_T23 l2 x9_1).f0)) ∧ w'.cell? ⟨(ad170.add ((x9_1).toNat * 2)).block, (ad170.add ((x9_1).toNat * 2)).off + 1, none⟩ = some (.int .i64 ((rd_T23 l2 x9_1).f1)) ∧ w'.cell? (ad170.add ((x7_1).toNat * 2)) = some (.int .i64 ((rd_T23 l2 x7_1).f0)) ∧ w'.cell? ⟨(ad170.add ((x7_1).toNat * 2)).block, (ad170.add ((x7_1).toNat * 2)).off + 1, none⟩ = some (.int .i64 ((rd_T23 l2 x7_1).f1)) ∧ w'.cell? (ad170.add ((x9_1).toNat * 2)) = some (.int .i64 ((rd_T23 l2 x9_1).f0)) ∧ w'.cell? ⟨(ad170.add ((x9_1).toNat * 2)).block, (ad170.add ((x9_1).toNat * 2)).off + 1, none⟩ = some (.int .i64 ((rd_T23 l2 x9_1).f1)) ∧ w'.cell? (ad170.add ((x8_1).toNat * 2)) = some (.int .i64 ((rd_T23 l2 x8_1).f0)) ∧ w'.cell? ⟨(ad170.add ((x8_1).toNat * 2)).block, (ad170.add ((x8_1).toNat * 2)).off + 1, none⟩ = some (.int .i64 ((rd_T23 l2 x8_1).f1))) (ds := []) (pf 0 29) (by kernel_rfl) rfl rfl ⟨((HB.out.cell (World.block_lt_of_cell? w _ hw170_0)).trans hw170_0), ((HB.out.cell (World.block_lt_of_cell? w _ hw170_1)).trans hw170_1), ((HB.out.cell (World.block_lt_of_cell? w _ hw171_0)).trans hw171_0), ((HB.out.cell (World.block_lt_of_cell? w _ hw171_1)).trans hw171_1), ((HB.out.cell (World.block_lt_of_cell? w _ hw172_0)).trans hw172_0), ((HB.out.cell (World.block_lt_of_cell? w _ hw172_1)).trans hw172_1), ((HB.out.cell (World.block_lt_of_cell? w _ hw174_0)).trans hw174_0), ((HB.out.cell (World.block_lt_of_cell? w _ hw174_1)).trans hw174_1), ((HB.out.cell (World.block_lt_of_cell? w _ hw175_0)).trans hw175_0), ((HB.out.cell (World.block_lt_of_cell? w _ hw175_1)).trans hw175_1), ((HB.out.cell (World.block_lt_of_cell? w _ hw176_0)).trans hw176_0), ((HB.out.cell (World.block_lt_of_cell? w _ hw176_1)).trans hw176_1)⟩ (fun hHeld => ?_); refine with_tabW cross_wrong.tab14 cross_wrong.bits14 (fun HT_ HW_ => ?_)
            generalize wr.drew = w63 at BK157 BK158 HB hx170_0 hx170_1 hx171_0 hx171_1 hx172_0 hx172_1 hx174_0 hx174_1 hx175_0 hx175_1 hx176_0 hx176_1 hHeld ⊢; refine pu_ 0 (some 78) (pf 1 29) HT_ ?_; refine pu_ 1 (some 79) (pf 2 29) HT_ ?_; refine pu_ 2 (some 80) (pf 3 29) HT_ ?_; refine pu_ 4 (some 82) #[T_,T_,T_,F_,T_,F_,F_,F_,F_,F_,F_,F_,F_,F_,F_,F_,F_,F_,F_,F_,F_,F_,F_,F_,F_,F_,F_,F_,F_] HT_ ?_; refine pu_ 5 (some 83) #[T_,T_,T_,F_,T_,T_,F_,F_,F_,F_,F_,F_,F_,F_,F_,F_,F_,F_,F_,F_,F_,F_,F_,F_,F_,F_,F_,F_,F_] HT_ ?_; refine pu_ 6 (some 84) #[T_,T_,T_,F_,T_,T_,T_,F_,F_,F_,F_,F_,F_,F_,F_,F_,F_,F_,F_,F_,F_,F_,F_,F_,F_,F_,F_,F_,F_] HT_ ?_; refine pu_ 8 (some 86) #[T_,T_,T_,F_,T_,T_,T_,F_,T_,F_,F_,F_,F_,F_,F_,F_,F_,F_,F_,F_,F_,F_,F_,F_,F_,F_,F_,F_,F_] HT_ ?_; refine pu_ 9 (some 87) #[T_,T_,T_,F_,T_,T_,T_,F_,T_,T_,F_,F_,F_,F_,F_,F_,F_,F_,F_,F_,F_,F_,F_,F_,F_,F_,F_,F_,F_] HT_ ?_; refine pu_ 10 (some 88) #[T_,T_,T_,F_,T_,T_,T_,F_,T_,T_,T_,F_,F_,F_,F_,F_,F_,F_,F_,F_,F_,F_,F_,F_,F_,F_,F_,F_,F_] HT_ ?_; refine tk12_ 3 (some 81) #[T_,T_,T_,T_,T_,T_,T_,F_,T_,T_,T_,F_,F_,F_,F_,F_,F_,F_,F_,F_,F_,F_,F_,F_,F_,F_,F_,F_,F_] HT_ HW_ hHeld ?_; refine tk12_ 7 (some 85) (pf 11 29) HT_ HW_ hHeld ?_
            refine tk12_ 11 (some 89) (pf 12 29) HT_ HW_ hHeld ?_; refine on_ 12 (some 90) (pf 13 29) HT_ (fun K hK => ?_); refine gs_ Try.func41 #[.agg #[.int .i64 ((rd_T23 l2 x7_1).f0), .int .i64 ((rd_T23 l2 x7_1).f1)], .agg #[.int .i64 ((rd_T23 l2 x8_1).f0), .int .i64 ((rd_T23 l2 x8_1).f1)], .agg #[.int .i64 ((rd_T23 l2 x9_1).f0), .int .i64 ((rd_T23 l2 x9_1).f1)]] ?_
            with_reducible refine (cross_on.calls ((rd_T23 l2 x7_1).f0) ((rd_T23 l2 x7_1).f1) ((rd_T23 l2 x8_1).f0) ((rd_T23 l2 x8_1).f1) ((rd_T23 l2 x9_1).f0) ((rd_T23 l2 x9_1).f1) false _ A58.out).mono ?_
            rintro e w64 ⟨rfl, hb⟩; refine ⟨_, rfl, ?_⟩; replace BK157 := kx BK157 hb; replace BK158 := kx BK158 hb; replace HB := hs (hb2 HB GE157 GE158) hb
            (try clear hb)
            (try clear hb2)
            (try clear hk)
            (try clear hi)
            refine hK.out _ _ ⟨((HB.out.cell (World.block_lt_of_cell? w _ hw170_0)).trans hw170_0), ((HB.out.cell (World.block_lt_of_cell? w _ hw170_1)).trans hw170_1), ((HB.out.cell (World.block_lt_of_cell? w _ hw171_0)).trans hw171_0), ((HB.out.cell (World.block_lt_of_cell? w _ hw171_1)).trans hw171_1), ((HB.out.cell (World.block_lt_of_cell? w _ hw172_0)).trans hw172_0), ((HB.out.cell (World.block_lt_of_cell? w _ hw172_1)).trans hw172_1), ((HB.out.cell (World.block_lt_of_cell? w _ hw174_0)).trans hw174_0), ((HB.out.cell (World.block_lt_of_cell? w _ hw174_1)).trans hw174_1), ((HB.out.cell (World.block_lt_of_cell? w _ hw175_0)).trans hw175_0), ((HB.out.cell (World.block_lt_of_cell? w _ hw175_1)).trans hw175_1), ((HB.out.cell (World.block_lt_of_cell? w _ hw176_0)).trans hw176_0), ((HB.out.cell (World.block_lt_of_cell? w _ hw176_1)).trans hw176_1)⟩ (fun hHeld => ?_); clear hK K; refine nm_ (some 90) ?_; refine pu_ 13 (some 91) (pf 14 29) HT_ ?_; refine pu_ 14 (some 92) (pf 15 29) HT_ ?_; refine pu_ 15 (some 93) (pf 16 29) HT_ ?_; refine pu_ 16 (some 94) (pf 17 29) HT_ ?_; refine pu_ 18 (some 96) #[T_,T_,T_,T_,T_,T_,T_,T_,T_,T_,T_,T_,T_,T_,T_,T_,T_,F_,T_,F_,F_,F_,F_,F_,F_,F_,F_,F_,F_] HT_ ?_
            refine pu_ 19 (some 97) #[T_,T_,T_,T_,T_,T_,T_,T_,T_,T_,T_,T_,T_,T_,T_,T_,T_,F_,T_,T_,F_,F_,F_,F_,F_,F_,F_,F_,F_] HT_ ?_; refine pu_ 20 (some 98) #[T_,T_,T_,T_,T_,T_,T_,T_,T_,T_,T_,T_,T_,T_,T_,T_,T_,F_,T_,T_,T_,F_,F_,F_,F_,F_,F_,F_,F_] HT_ ?_; refine pu_ 22 (some 100) #[T_,T_,T_,T_,T_,T_,T_,T_,T_,T_,T_,T_,T_,T_,T_,T_,T_,F_,T_,T_,T_,F_,T_,F_,F_,F_,F_,F_,F_] HT_ ?_; refine pu_ 23 (some 101) #[T_,T_,T_,T_,T_,T_,T_,T_,T_,T_,T_,T_,T_,T_,T_,T_,T_,F_,T_,T_,T_,F_,T_,T_,F_,F_,F_,F_,F_] HT_ ?_; refine pu_ 24 (some 102) #[T_,T_,T_,T_,T_,T_,T_,T_,T_,T_,T_,T_,T_,T_,T_,T_,T_,F_,T_,T_,T_,F_,T_,T_,T_,F_,F_,F_,F_] HT_ ?_; refine tk12_ 17 (some 95) #[T_,T_,T_,T_,T_,T_,T_,T_,T_,T_,T_,T_,T_,T_,T_,T_,T_,T_,T_,T_,T_,F_,T_,T_,T_,F_,F_,F_,F_] HT_ HW_ hHeld ?_; refine tk12_ 21 (some 99) (pf 25 29) HT_ HW_ hHeld ?_; refine tk12_ 25 (some 103) (pf 26 29) HT_ HW_ hHeld ?_; refine on_ 26 (some 104) (pf 27 29) HT_ (fun K hK => ?_); refine gs_ Try.func41 #[.agg #[.int .i64 ((rd_T23 l2 x7_1).f0), .int .i64 ((rd_T23 l2 x7_1).f1)], .agg #[.int .i64 ((rd_T23 l2 x9_1).f0), .int .i64 ((rd_T23 l2 x9_1).f1)], .agg #[.int .i64 ((rd_T23 l2 x8_1).f0), .int .i64 ((rd_T23 l2 x8_1).f1)]] ?_
            with_reducible refine (cross_on.calls ((rd_T23 l2 x7_1).f0) ((rd_T23 l2 x7_1).f1) ((rd_T23 l2 x9_1).f0) ((rd_T23 l2 x9_1).f1) ((rd_T23 l2 x8_1).f0) ((rd_T23 l2 x8_1).f1) t177 _ A62.out).mono ?_
            rintro e w65 ⟨rfl, hb⟩; refine ⟨_, rfl, ?_⟩; replace BK157 := kx BK157 hb; replace BK158 := kx BK158 hb; replace HB := hs (hb2 HB GE157 GE158) hb
            (try clear hb)
            (try clear hb2)
            (try clear hk)
            (try clear hi)
            refine hK.out _ _ ⟨((HB.out.cell (World.block_lt_of_cell? w _ hw170_0)).trans hw170_0), ((HB.out.cell (World.block_lt_of_cell? w _ hw170_1)).trans hw170_1), ((HB.out.cell (World.block_lt_of_cell? w _ hw171_0)).trans hw171_0), ((HB.out.cell (World.block_lt_of_cell? w _ hw171_1)).trans hw171_1), ((HB.out.cell (World.block_lt_of_cell? w _ hw172_0)).trans hw172_0), ((HB.out.cell (World.block_lt_of_cell? w _ hw172_1)).trans hw172_1), ((HB.out.cell (World.block_lt_of_cell? w _ hw174_0)).trans hw174_0), ((HB.out.cell (World.block_lt_of_cell? w _ hw174_1)).trans hw174_1), ((HB.out.cell (World.block_lt_of_cell? w _ hw175_0)).trans hw175_0), ((HB.out.cell (World.block_lt_of_cell? w _ hw175_1)).trans hw175_1), ((HB.out.cell (World.block_lt_of_cell? w _ hw176_0)).trans hw176_0), ((HB.out.cell (World.block_lt_of_cell? w _ hw176_1)).trans hw176_1)⟩ (fun hHeld => ?_); clear hK K; refine nm_ (some 104) ?_; refine pu_ 27 (some 105) (pf 28 29) HT_ ?_; refine pu_ 28 (some 6) (pf 29 29) HT_ ?_; refine done_ (done_of HT_.out (by kernel_rfl)) ?_
            try go_wp2
            go_ret
            exact ⟨by first | rfl | (simp [errW_none, errW_some] <;> rfl) | (simp [*, errW_none, errW_some] <;> rfl), hb2 HB GE157 GE158⟩
          ·rw [if_neg c57] at H; exact absurd H (by simp)
         ·rw [if_neg c56] at H; exact absurd H (by simp)
        ·rw [if_neg c55] at H; exact absurd H (by simp)
       ·rw [if_neg c54] at H; exact absurd H (by simp)
      ·rw [if_neg c53] at H; exact absurd H (by simp)
     ·rw [if_neg c52] at H; exact absurd H (by simp)

end Go.Proofs.Ythfoliejhdpbaaa.PCroA
