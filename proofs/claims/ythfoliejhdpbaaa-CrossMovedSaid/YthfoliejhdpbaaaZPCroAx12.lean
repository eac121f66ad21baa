import Derived.Test.YthfoliejhdpbaaaZPCroAx0
import Derived.Test.YthfoliejhdpbaaaZPCroAx11
namespace Go.Proofs.Ythfoliejhdpbaaa.PCroA
open Go.RowKit Go.Proofs.YthfoliejhdpbaaaW.PrintWords Go.Proofs.YthfoliejhdpbaaaW.PrintLast Go.Proofs.YthfoliejhdpbaaaW.PrintMore
open Go.Proofs.YthfoliejhdpbaaaX
attribute [local go_sem] max2_int min2_int max_two min_two max_three min_three max_four min_four
set_option linter.unusedVariables false
set_option linter.unusedSimpArgs false

/-! ### simple_Valid: function 55 -/
mutual
def simple_Valid.j0 : Nat → Bool → Int → List (S62) → Option (Bool)
 | 0, _, _, _ => none
 | k + 1, x18, x147000, x147001 => if x18 = true then (some false) else (simple_Valid.l0 k x147001 (x147001.length : Int) 0 x147000 x147001)
def simple_Valid.l0 : Nat → List (S62) → Int → Int → Int → List (S62) → Option (Bool)
 | 0, _, _, _, _, _ => none
 | k + 1, x20, x21, x22, x147000, x147001 => if x22 < x21 then (if 0 ≤ x22 then (if x22 < (x20.length : Int) then (if ((rd_T62 x20 x22).f0) < 0 then (some false) else (if ((rd_T62 x20 x22).f0) ≥ ((rd_T62 x20 x22).f1) then (some false) else (if ((rd_T62 x20 x22).f1) ≥ x147000 then (some false) else (if x22 > 0 then (if 0 ≤ (wrap64 (x22 - 1)) then (if (wrap64 (x22 - 1)) < (x147001.length : Int) then ((simple_compare.f ((rd_T62 x147001 (wrap64 (x22 - 1))).f0) ((rd_T62 x147001 (wrap64 (x22 - 1))).f1) ((rd_T62 x20 x22).f0) ((rd_T62 x20 x22).f1)).bind fun t150 => (if t150 ≥ 0 then (some false) else (simple_Valid.l0 k x20 x21 (wrap64 (x22 + 1)) x147000 x147001))) else (none)) else (none)) else (simple_Valid.l0 k x20 x21 (wrap64 (x22 + 1)) x147000 x147001))))) else (none)) else (none)) else (some true)
end
def simple_Valid.f (k : Nat) (a0_0 : Int) (l0_1 : List (S62)) : Option (Bool) := if a0_0 < 0 then (simple_Valid.j0 k true a0_0 l0_1) else (if a0_0 > 1048576 then (simple_Valid.j0 k true a0_0 l0_1) else (simple_Valid.j0 k (decide ((l0_1.length : Int) > 4194304)) a0_0 l0_1))
theorem simple_Valid.mono_l : ∀ k, (∀ y0 y1 y2, LeO (simple_Valid.j0 k y0 y1 y2) (simple_Valid.j0 (k + 1) y0 y1 y2)) ∧ (∀ y0 y1 y2 y3 y4, LeO (simple_Valid.l0 k y0 y1 y2 y3 y4) (simple_Valid.l0 (k + 1) y0 y1 y2 y3 y4))
 | 0 => ⟨fun _ _ _ r h => by simp [simple_Valid.j0] at h, fun _ _ _ _ _ r h => by simp [simple_Valid.l0] at h⟩
 | k + 1 => by
  obtain ⟨ih0, ih1⟩ := simple_Valid.mono_l k; refine ⟨?_, ?_⟩
  ·intro y0 y1 y2
   unfold simple_Valid.j0
   repeat' first
   | (with_reducible exact ih0 _ _ _)
   | (with_reducible exact ih1 _ _ _ _ _)
   | (with_reducible exact LeO.refl _)
   | (with_reducible exact LeO.none _)
   | (with_reducible refine LeO.ite ?_ ?_)
   | (with_reducible refine LeO.bind ?_ (fun _ => ?_))
   | exact LeO.none _
   | refine LeO.ite ?_ ?_
   | refine LeO.bind ?_ (fun _ => ?_)
  ·intro y0 y1 y2 y3 y4
   unfold simple_Valid.l0
   repeat' first
   | (with_reducible exact ih0 _ _ _)
   | (with_reducible exact ih1 _ _ _ _ _)
   | (with_reducible exact LeO.refl _)
   | (with_reducible exact LeO.none _)
   | (with_reducible refine LeO.ite ?_ ?_)
   | (with_reducible refine LeO.bind ?_ (fun _ => ?_))
   | exact LeO.none _
   | refine LeO.ite ?_ ?_
   | refine LeO.bind ?_ (fun _ => ?_)
theorem simple_Valid.mono : ∀ a0 a1 k, LeO (simple_Valid.f k a0 a1) (simple_Valid.f (k + 1) a0 a1) := by
 intro a0 a1 k; obtain ⟨ih0, ih1⟩ := simple_Valid.mono_l k
 unfold simple_Valid.f
 repeat' first
   | (with_reducible exact ih0 _ _ _)
   | (with_reducible exact ih1 _ _ _ _ _)
   | (with_reducible exact LeO.refl _)
   | (with_reducible exact LeO.none _)
   | (with_reducible refine LeO.ite ?_ ?_)
   | (with_reducible refine LeO.bind ?_ (fun _ => ?_))
   | exact LeO.none _
   | refine LeO.ite ?_ ?_
   | refine LeO.bind ?_ (fun _ => ?_)
def simple_Valid.T6 : Bool × List (List Nat × List Nat) := (true, [([], []), ([0], [0]), ([1], [1]), ([2], [2]), ([3], [3]), ([4, 3], [3, 4]), ([3], [3]), ([6, 3], [3, 6]), ([5, 7, 3], [3, 5, 7]), ([3, 8], [3, 8]), ([9, 3], [9]), ([10], [10]), ([11, 10], [10, 11]), ([10], [10]), ([13, 10], [10, 13]), ([12, 14, 10], [10, 12, 14]), ([10, 15], [10, 15]), ([16, 10], [16]), ([17], [17]), ([18, 17], [17, 18]), ([19, 17, 17], [17, 19]), ([20], [20]), ([21, 20], [20, 21]), ([20], [20]), ([23, 20], [20, 23]), ([22, 24, 20], [20, 22, 24]), ([25, 20], [20, 25]), ([20], [20]), ([26, 27, 20, 20], [20, 26, 27]), ([28, 20], [20, 28]), ([20, 29, 17], [17, 20, 29]), ([17, 30], [17, 30])])
def simple_Valid.B6 : List Nat := [0, 1, 3, 7, 15, 31, 15, 79, 255, 511, 1023, 2047, 4095, 2047, 10239, 32767, 65535, 131071, 262143, 524287, 1048575, 2097151, 4194303, 2097151, 10485759, 33554431, 67108863, 2097151, 268435455, 536870911, 1073741823, 2147483647]
theorem simple_Valid.tab6 : rtab .any (opsOf Try.f55 6) = simple_Valid.T6 := by kernel_rfl
theorem simple_Valid.bits6 : waitsOk simple_Valid.T6.2 simple_Valid.B6 = true := by kernel_rfl
set_option maxHeartbeats 8000000 in
set_option maxRecDepth 100000 in
theorem simple_Valid.calls (k : Nat) (a0_0 : Int) (A0_1 : Option Addr) (c0_1 : Nat) (l0_1 : List (S62)) (r : Bool) (w : World) (hr0_1 : Kd.C k62 w A0_1 l0_1.length l0_1) (hc0_1 : l0_1.length ≤ c0_1) (h : simple_Valid.f k a0_0 l0_1 = some r) :
  Calls Try.prog 55 #[.agg #[.int .i64 a0_0, .slice A0_1 l0_1.length c0_1]] w fun e w' => e = .returned (.bool r) ∧ Below w.heap.size w w' := by
 have hu31 := Try.underlying31; have hu62 := Try.underlying62; have HR0_1 := Aside0.mk hr0_1; have HC0_1 := Aside0.mk hc0_1; clear hr0_1 hc0_1; have HB := Aside0.mk (Below.refl w.heap.size w); have H : (if a0_0 < 0 then (simple_Valid.j0 k true a0_0 l0_1) else (if a0_0 > 1048576 then (simple_Valid.j0 k true a0_0 l0_1) else (simple_Valid.j0 k (decide ((l0_1.length : Int) > 4194304)) a0_0 l0_1))) = some r := h; clear h; have HC2 := Aside0.mk H; clear H
 go_enter Try.func55, Try.ntmps55
 go_upto_region 1 with (first | ((with_reducible refine gate_dst (N := 1) rfl ?_); (try (refine gate_guard (by rfl) ?_; dsimp only)); refine be_ 1 #[.int .i64 a0_0, .slice A0_1 l0_1.length c0_1] 31 ?_; intro gb146 hg w3 hbox hb; have BK146 := Aside0.mk (hbox); have GW146 := wq (hb0 HB) hg; have GE146 := wq (hb0 HB) hg; replace HB := hs (hb0 HB) hb; clear hb hbox hg))
 (try simp only [Act.put, List.setIfInBounds_toArray, List.set_cons_zero, List.set_cons_succ])
 go_cut [18] (fun v18 wc => ∃ (kq : Nat) (x18_1 : Bool), v18 = .bool x18_1 ∧ Aside0 (simple_Valid.j0 kq x18_1 a0_0 l0_1 = some r) ∧ Aside0 (kq ≤ k) ∧ Aside0 (wc.heap[gb146]? = some (.cells #[.int .i64 a0_0, (.slice A0_1 l0_1.length c0_1)] 31 (0, 0))) ∧ Aside0 (Below w.heap.size w wc))
 case first => as_aux_lemma =>
  have H := HC2.out; clear HC2
  by_cases c4 : a0_0 < 0
  ·rw [if_pos c4] at H; have c4b0 : decide (a0_0 < 0) = true := decide_eq_true c4; clear c4
   (first | rw [c4b0] | (simp only [i64_w, i32_w]; rw [c4b0]) | skip)
   have H' := Aside0.mk H; clear H; have hcz5_0 : w3.cell? ⟨gb146, 0, none⟩ = some (.int .i64 a0_0) := bc BK146 0; have hcz5_1 : w3.cell? ⟨gb146, 1, none⟩ = some (.slice A0_1 l0_1.length c0_1) := bc BK146 1; have hfz5_0 := blk_frozen BK146.out 0; have hfz5_1 := blk_frozen BK146.out 1
   go_wp2
   go_meet
   case rel => exact ⟨_, (true), (by first | rfl | (simp; done) | (simp [*]; done)), H', ⟨by first | omega | exact Nat.le_refl _⟩, ⟨bx BK146⟩, ⟨hb1 HB GE146⟩⟩
  ·rw [if_neg c4] at H; have c4b0 : decide (a0_0 < 0) = false := decide_eq_false c4; clear c4
   (first | rw [c4b0] | (simp only [i64_w, i32_w]; rw [c4b0]) | skip)
   by_cases c6 : a0_0 > 1048576
   ·rw [if_pos c6] at H; have c6b0 : decide (1048576 < a0_0) = true := decide_eq_true c6; clear c6; have H' := Aside0.mk H; clear H; have hcz7_0 : w3.cell? ⟨gb146, 0, none⟩ = some (.int .i64 a0_0) := bc BK146 0; have hcz7_1 : w3.cell? ⟨gb146, 1, none⟩ = some (.slice A0_1 l0_1.length c0_1) := bc BK146 1; have hfz7_0 := blk_frozen BK146.out 0; have hfz7_1 := blk_frozen BK146.out 1
    go_wp2
    go_meet
    case rel => exact ⟨_, (true), (by first | rfl | (simp; done) | (simp [*]; done)), H', ⟨by first | omega | exact Nat.le_refl _⟩, ⟨bx BK146⟩, ⟨hb1 HB GE146⟩⟩
   ·rw [if_neg c6] at H; have c6b0 : decide (1048576 < a0_0) = false := decide_eq_false c6; clear c6; have H' := Aside0.mk H; clear H; have hcz8_0 : w3.cell? ⟨gb146, 0, none⟩ = some (.int .i64 a0_0) := bc BK146 0; have hcz8_1 : w3.cell? ⟨gb146, 1, none⟩ = some (.slice A0_1 l0_1.length c0_1) := bc BK146 1; have hfz8_0 := blk_frozen BK146.out 0; have hfz8_1 := blk_frozen BK146.out 1
    go_wp2
    go_meet
    case rel => exact ⟨_, (decide ((l0_1.length : Int) > 4194304)), (by first | rfl | (simp; done) | (simp [*]; done)), H', ⟨by first | omega | exact Nat.le_refl _⟩, ⟨bx BK146⟩, ⟨hb1 HB GE146⟩⟩
 case rest => as_aux_lemma =>
  clear HC2
  try clear p2
  try clear c4
  try clear c4b0
  try clear c5
  try clear c6
  try clear c6b0
  try clear hcz5_0
  try clear hcz5_1
  try clear hcz7_0
  try clear hcz7_1
  try clear hcz8_0
  try clear hcz8_1
  try clear hfz5_0
  try clear hfz5_1
  try clear hfz7_0
  try clear hfz7_1
  try clear hfz8_0
  try clear hfz8_1
  obtain ⟨kq, x18_1, rfl, HA, HJ1, BK146, HB⟩ := hcut
  cases kq with
  | zero => exact absurd HA.out (by simp [simple_Valid.j0])
  | succ kj1 =>
   have H := HA.out; clear HA; simp only [simple_Valid.j0] at H
   by_cases c9 : x18_1 = true
   ·subst c9; rw [if_pos rfl] at H; obtain rfl := Option.some.inj H
    go_wp2
    go_ret
    exact ⟨by rfl, hb1 HB GE146⟩
   ·replace c9 := Bool.eq_false_iff.mpr c9; subst c9; rw [if_neg (show ¬ (false = true) by decide)] at H; have H' := Aside0.mk H; clear H; have hcz10_0 : wc.cell? ⟨gb146, 0, none⟩ = some (.int .i64 a0_0) := bc BK146 0; have hcz10_1 : wc.cell? ⟨gb146, 1, none⟩ = some (.slice A0_1 l0_1.length c0_1) := bc BK146 1; have hfz10_0 := blk_frozen BK146.out 0; have hfz10_1 := blk_frozen BK146.out 1
    go_wp2
    go_loopg [22] kj1 (fun kq v22 w' => ∃ (x22_2 : Int), v22 = .int .i64 x22_2 ∧ Aside0 (simple_Valid.l0 kq l0_1 (l0_1.length : Int) x22_2 a0_0 l0_1 = some r) ∧ Aside0 (kq ≤ kj1) ∧ Aside0 (w'.heap[gb146]? = some (.cells #[.int .i64 a0_0, (.slice A0_1 l0_1.length c0_1)] 31 (0, 0))) ∧ Aside0 (Below w.heap.size w w'))
    case atStart => exact ⟨(0), (by first | rfl | (simp; done) | (simp [*]; done)), H', ⟨Nat.le_refl _⟩, ⟨bx BK146⟩, ⟨hb1 HB GE146⟩⟩
    case round =>
     clear H'
     try clear p2
     try clear c4
     try clear c4b0
     try clear c5
     try clear c6
     try clear c6b0
     try clear c9
     try clear hcz10_0
     try clear hcz10_1
     try clear hcz5_0
     try clear hcz5_1
     try clear hcz7_0
     try clear hcz7_1
     try clear hcz8_0
     try clear hcz8_1
     try clear hfz10_0
     try clear hfz10_1
     try clear hfz5_0
     try clear hfz5_1
     try clear hfz7_0
     try clear hfz7_1
     try clear hfz8_0
     try clear hfz8_1
     try clear p2
     obtain ⟨x22_2, rfl, HA, HK2, BK146, HB⟩ := hrel
     cases gk with
     | zero => exact absurd HA.out (by simp [simple_Valid.l0])
     | succ k2 =>
      have H := HA.out; clear HA; simp only [simple_Valid.l0] at H
      by_cases c11 : x22_2 < (l0_1.length : Int)
      ·rw [if_pos c11] at H; have c11b0 : decide (x22_2 < (l0_1.length : Int)) = true := decide_eq_true c11; clear c11
       by_cases c12 : 0 ≤ x22_2
       ·rw [if_pos c12] at H; have c12b0 : decide (0 ≤ x22_2) = true := decide_eq_true c12; clear c12
        by_cases c13 : x22_2 < (l0_1.length : Int)
        ·rw [if_pos c13] at H; have c13b0 : decide (x22_2 < (l0_1.length : Int)) = true := decide_eq_true c13; clear c13
         by_cases c14 : ((rd_T62 l0_1 x22_2).f0) < 0
         ·rw [if_pos c14] at H; have c14b0 : decide (((rd_T62 l0_1 x22_2).f0) < 0) = true := decide_eq_true c14; clear c14; obtain rfl := Option.some.inj H; have p147 : 0 ≤ (x22_2 : Int) := of_decide_eq_true (by first | (with_reducible assumption) | assumption); have q147 : x22_2 < (l0_1.length : Int) := of_decide_eq_true (by first | (with_reducible assumption) | assumption); obtain ⟨ad147, e147, hx147_0, hx147_1⟩ := at_T62 HR0_1.out x22_2 p147 q147
          cases e147
          replace hx147_0 := (HB.out.cell (World.block_lt_of_cell? w _ hx147_0)).trans hx147_0; replace hx147_1 := (HB.out.cell (World.block_lt_of_cell? w _ hx147_1)).trans hx147_1; replace p147 := eq_true p147; replace q147 := eq_true q147
          try go_wp2_with (first | ((with_reducible refine gate_dst (N := 4) rfl ?_); (try (refine gate_guard (by rfl) ?_; dsimp only)); refine be_ 4 #[.int .i64 0, .int .i64 0] 62 ?_; intro gb148 hg w15 hbox hb; have BK148 := Aside0.mk (hbox); have GW148 := wq (hb1 HB GE146) hg; have GE148 := wq (hb1 HB GE146) hg; replace HB := hs (hb1 HB GE146) hb; have NB146_148 := lx BK146 hg; have NB148_146 := gx BK146 hg; replace BK146 := kx BK146 hb; clear hb hbox hg; have hnb16 := NB148_146.out; have hnc16 := NB146_148.out; have hcz17_0 : w15.cell? ⟨gb148, 0, none⟩ = some (.int .i64 0) := bc BK148 0; have hcz17_1 : w15.cell? ⟨gb148, 1, none⟩ = some (.int .i64 0) := bc BK148 1; have hfz17_0 := blk_frozen BK148.out 0; have hfz17_1 := blk_frozen BK148.out 1))
          have n0_ : Aside0 (((w15.setCell ⟨gb148, 0, none⟩ (.int .i64 ((rd_T62 l0_1 x22_2).f0))).setCell ⟨gb148, 1, none⟩ (.int .i64 ((rd_T62 l0_1 x22_2).f1))).heap[gb146]? = some (.cells #[.int .i64 a0_0, .slice (some ad147) l0_1.length c0_1] 31 (0, 0))) := ⟨bx1 BK146 NB146_148⟩; have n1_ : Aside0 (((w15.setCell ⟨gb148, 0, none⟩ (.int .i64 ((rd_T62 l0_1 x22_2).f0))).setCell ⟨gb148, 1, none⟩ (.int .i64 ((rd_T62 l0_1 x22_2).f1))).heap[gb148]? = some (.cells #[.int .i64 ((rd_T62 l0_1 x22_2).f0), .int .i64 ((rd_T62 l0_1 x22_2).f1)] 62 (0, 0))) := ⟨bp BK148⟩; have n2_ : Aside0 (Below w.heap.size w ((w15.setCell ⟨gb148, 0, none⟩ (.int .i64 ((rd_T62 l0_1 x22_2).f0))).setCell ⟨gb148, 1, none⟩ (.int .i64 ((rd_T62 l0_1 x22_2).f1)))) := ⟨hb2 HB GE146 GE148⟩
          (try clear BK146)
          (try clear BK148)
          (try clear HB)
          generalize ((w15.setCell ⟨gb148, 0, none⟩ (.int .i64 ((rd_T62 l0_1 x22_2).f0))).setCell ⟨gb148, 1, none⟩ (.int .i64 ((rd_T62 l0_1 x22_2).f1))) = w18 at n0_ n1_ n2_ ⊢; have BK146 := n0_; have BK148 := n1_; have HB := n2_; clear n0_ n1_ n2_; replace BK146 := bd BK146; replace BK148 := bd BK148; replace HB := Aside0.mk (below_drew1 HB.out); refine start_ (n := 32) (S := fun w' => w'.cell? ⟨gb148, 0, none⟩ = some (.int .i64 ((rd_T62 l0_1 x22_2).f0)) ∧ w'.cell? ⟨gb148, 1, none⟩ = some (.int .i64 ((rd_T62 l0_1 x22_2).f1))) (ds := []) (pf 0 32) (by kernel_rfl) rfl rfl ⟨bc BK148 0, bc BK148 1⟩ (fun hHeld => ?_); refine with_tabW simple_Valid.tab6 simple_Valid.bits6 (fun HT_ HW_ => ?_); generalize w18.drew = w19 at BK146 BK148 HB hHeld ⊢; refine pu_ 0 (some 27) (pf 1 32) HT_ ?_; refine tk2_ 1 (some 28) (pf 2 32) HT_ HW_ hHeld ?_; refine pu_ 2 (some 29) (pf 3 32) HT_ ?_; refine pu_ 3 (some 30) (pf 4 32) HT_ ?_; refine pn_ 4 (some 31) (pf 5 32) HT_ ?_; refine pn_ 5 (some 32) (pf 6 32) HT_ ?_
          refine pn_ 6 (some 33) (pf 7 32) HT_ ?_; refine pn_ 7 (some 34) (pf 8 32) HT_ ?_; refine pn_ 8 (some 35) (pf 9 32) HT_ ?_; refine pu_ 9 (some 36) (pf 10 32) HT_ ?_; refine pu_ 10 (some 37) (pf 11 32) HT_ ?_; refine pn_ 11 (some 38) (pf 12 32) HT_ ?_; refine pn_ 12 (some 39) (pf 13 32) HT_ ?_; refine pn_ 13 (some 40) (pf 14 32) HT_ ?_; refine pn_ 14 (some 41) (pf 15 32) HT_ ?_; refine pn_ 15 (some 42) (pf 16 32) HT_ ?_; refine pu_ 16 (some 43) (pf 17 32) HT_ ?_; refine pu_ 17 (some 44) (pf 18 32) HT_ ?_
          refine pn_ 18 (some 45) (pf 19 32) HT_ ?_; refine pn_ 19 (some 46) (pf 20 32) HT_ ?_; refine pn_ 20 (some 47) (pf 21 32) HT_ ?_; refine pn_ 21 (some 48) (pf 22 32) HT_ ?_; refine pn_ 22 (some 49) (pf 23 32) HT_ ?_; refine pn_ 23 (some 50) (pf 24 32) HT_ ?_; refine pn_ 24 (some 51) (pf 25 32) HT_ ?_; refine pn_ 25 (some 52) (pf 26 32) HT_ ?_; refine pn_ 26 (some 53) (pf 27 32) HT_ ?_; refine pn_ 27 (some 54) (pf 28 32) HT_ ?_; refine pn_ 28 (some 55) (pf 29 32) HT_ ?_; refine pn_ 29 (some 56) (pf 30 32) HT_ ?_
          refine pn_ 30 (some 57) (pf 31 32) HT_ ?_; refine pu_ 31 (some 58) (pf 32 32) HT_ ?_; refine done_ (done_of HT_.out (by kernel_rfl)) ?_
          try go_wp2
          go_ret
          exact ⟨by rfl, hb2 HB GE146 GE148⟩
         ·rw [if_neg c14] at H; have c14b0 : decide (((rd_T62 l0_1 x22_2).f0) < 0) = false := decide_eq_false c14; clear c14
          by_cases c20 : ((rd_T62 l0_1 x22_2).f0) ≥ ((rd_T62 l0_1 x22_2).f1)
          ·rw [if_pos c20] at H; have c20b0 : decide (((rd_T62 l0_1 x22_2).f1) ≤ ((rd_T62 l0_1 x22_2).f0)) = true := decide_eq_true c20; clear c20; obtain rfl := Option.some.inj H; have p147 : 0 ≤ (x22_2 : Int) := of_decide_eq_true (by first | (with_reducible assumption) | assumption); have q147 : x22_2 < (l0_1.length : Int) := of_decide_eq_true (by first | (with_reducible assumption) | assumption); obtain ⟨ad147, e147, hx147_0, hx147_1⟩ := at_T62 HR0_1.out x22_2 p147 q147
           cases e147
           replace hx147_0 := (HB.out.cell (World.block_lt_of_cell? w _ hx147_0)).trans hx147_0; replace hx147_1 := (HB.out.cell (World.block_lt_of_cell? w _ hx147_1)).trans hx147_1; replace p147 := eq_true p147; replace q147 := eq_true q147
           try go_wp2_with (first | ((with_reducible refine gate_dst (N := 4) rfl ?_); (try (refine gate_guard (by rfl) ?_; dsimp only)); refine be_ 4 #[.int .i64 0, .int .i64 0] 62 ?_; intro gb148 hg w21 hbox hb; have BK148 := Aside0.mk (hbox); have GW148 := wq (hb1 HB GE146) hg; have GE148 := wq (hb1 HB GE146) hg; replace HB := hs (hb1 HB GE146) hb; have NB146_148 := lx BK146 hg; have NB148_146 := gx BK146 hg; replace BK146 := kx BK146 hb; clear hb hbox hg; have hnb22 := NB148_146.out; have hnc22 := NB146_148.out; have hcz23_0 : w21.cell? ⟨gb148, 0, none⟩ = some (.int .i64 0) := bc BK148 0; have hcz23_1 : w21.cell? ⟨gb148, 1, none⟩ = some (.int .i64 0) := bc BK148 1; have hfz23_0 := blk_frozen BK148.out 0; have hfz23_1 := blk_frozen BK148.out 1))
           have n0_ : Aside0 (((w21.setCell ⟨gb148, 0, none⟩ (.int .i64 ((rd_T62 l0_1 x22_2).f0))).setCell ⟨gb148, 1, none⟩ (.int .i64 ((rd_T62 l0_1 x22_2).f1))).heap[gb146]? = some (.cells #[.int .i64 a0_0, .slice (some ad147) l0_1.length c0_1] 31 (0, 0))) := ⟨bx1 BK146 NB146_148⟩; have n1_ : Aside0 (((w21.setCell ⟨gb148, 0, none⟩ (.int .i64 ((rd_T62 l0_1 x22_2).f0))).setCell ⟨gb148, 1, none⟩ (.int .i64 ((rd_T62 l0_1 x22_2).f1))).heap[gb148]? = some (.cells #[.int .i64 ((rd_T62 l0_1 x22_2).f0), .int .i64 ((rd_T62 l0_1 x22_2).f1)] 62 (0, 0))) := ⟨bp BK148⟩; have n2_ : Aside0 (Below w.heap.size w ((w21.setCell ⟨gb148, 0, none⟩ (.int .i64 ((rd_T62 l0_1 x22_2).f0))).setCell ⟨gb148, 1, none⟩ (.int .i64 ((rd_T62 l0_1 x22_2).f1)))) := ⟨hb2 HB GE146 GE148⟩
           (try clear BK146)
           (try clear BK148)
           (try clear HB)
           generalize ((w21.setCell ⟨gb148, 0, none⟩ (.int .i64 ((rd_T62 l0_1 x22_2).f0))).setCell ⟨gb148, 1, none⟩ (.int .i64 ((rd_T62 l0_1 x22_2).f1))) = w24 at n0_ n1_ n2_ ⊢; have BK146 := n0_; have BK148 := n1_; have HB := n2_; clear n0_ n1_ n2_; replace BK146 := bd BK146; replace BK148 := bd BK148; replace HB := Aside0.mk (below_drew1 HB.out); refine start_ (n := 32) (S := fun w' => w'.cell? ⟨gb148, 0, none⟩ = some (.int .i64 ((rd_T62 l0_1 x22_2).f0)) ∧ w'.cell? ⟨gb148, 1, none⟩ = some (.int .i64 ((rd_T62 l0_1 x22_2).f1))) (ds := []) (pf 0 32) (by kernel_rfl) rfl rfl ⟨bc BK148 0, bc BK148 1⟩ (fun hHeld => ?_); refine with_tabW simple_Valid.tab6 simple_Valid.bits6 (fun HT_ HW_ => ?_); generalize w24.drew = w25 at BK146 BK148 HB hHeld ⊢; refine pu_ 0 (some 27) (pf 1 32) HT_ ?_; refine tk2_ 1 (some 28) (pf 2 32) HT_ HW_ hHeld ?_; refine pu_ 2 (some 29) (pf 3 32) HT_ ?_; refine pu_ 3 (some 30) (pf 4 32) HT_ ?_; refine pu_ 4 (some 31) (pf 5 32) HT_ ?_; refine pu_ 6 (some 33) #[T_,T_,T_,T_,T_,F_,T_,F_,F_,F_,F_,F_,F_,F_,F_,F_,F_,F_,F_,F_,F_,F_,F_,F_,F_,F_,F_,F_,F_,F_,F_,F_] HT_ ?_
           refine tk2_ 5 (some 32) (pf 7 32) HT_ HW_ hHeld ?_; refine tk2_ 7 (some 34) (pf 8 32) HT_ HW_ hHeld ?_; refine pu_ 8 (some 35) (pf 9 32) HT_ ?_; refine pu_ 9 (some 36) (pf 10 32) HT_ ?_; refine pu_ 10 (some 37) (pf 11 32) HT_ ?_; refine pn_ 11 (some 38) (pf 12 32) HT_ ?_; refine pn_ 12 (some 39) (pf 13 32) HT_ ?_; refine pn_ 13 (some 40) (pf 14 32) HT_ ?_; refine pn_ 14 (some 41) (pf 15 32) HT_ ?_; refine pn_ 15 (some 42) (pf 16 32) HT_ ?_; refine pu_ 16 (some 43) (pf 17 32) HT_ ?_; refine pu_ 17 (some 44) (pf 18 32) HT_ ?_
           refine pn_ 18 (some 45) (pf 19 32) HT_ ?_; refine pn_ 19 (some 46) (pf 20 32) HT_ ?_; refine pn_ 20 (some 47) (pf 21 32) HT_ ?_; refine pn_ 21 (some 48) (pf 22 32) HT_ ?_; refine pn_ 22 (some 49) (pf 23 32) HT_ ?_; refine pn_ 23 (some 50) (pf 24 32) HT_ ?_; refine pn_ 24 (some 51) (pf 25 32) HT_ ?_; refine pn_ 25 (some 52) (pf 26 32) HT_ ?_; refine pn_ 26 (some 53) (pf 27 32) HT_ ?_; refine pn_ 27 (some 54) (pf 28 32) HT_ ?_; refine pn_ 28 (some 55) (pf 29 32) HT_ ?_; refine pn_ 29 (some 56) (pf 30 32) HT_ ?_
           refine pn_ 30 (some 57) (pf 31 32) HT_ ?_; refine pu_ 31 (some 58) (pf 32 32) HT_ ?_; refine done_ (done_of HT_.out (by kernel_rfl)) ?_
           try go_wp2
           go_ret
           exact ⟨by rfl, hb2 HB GE146 GE148⟩
          ·rw [if_neg c20] at H; have c20b0 : decide (((rd_T62 l0_1 x22_2).f1) ≤ ((rd_T62 l0_1 x22_2).f0)) = false := decide_eq_false c20; clear c20
           by_cases c26 : ((rd_T62 l0_1 x22_2).f1) ≥ a0_0
           ·rw [if_pos c26] at H; have c26b0 : decide (a0_0 ≤ ((rd_T62 l0_1 x22_2).f1)) = true := decide_eq_true c26; clear c26; obtain rfl := Option.some.inj H; have p147 : 0 ≤ (x22_2 : Int) := of_decide_eq_true (by first | (with_reducible assumption) | assumption); have q147 : x22_2 < (l0_1.length : Int) := of_decide_eq_true (by first | (with_reducible assumption) | assumption); obtain ⟨ad147, e147, hx147_0, hx147_1⟩ := at_T62 HR0_1.out x22_2 p147 q147
            cases e147
            replace hx147_0 := (HB.out.cell (World.block_lt_of_cell? w _ hx147_0)).trans hx147_0; replace hx147_1 := (HB.out.cell (World.block_lt_of_cell? w _ hx147_1)).trans hx147_1; replace p147 := eq_true p147; replace q147 := eq_true q147
            try go_wp2_with (first | ((with_reducible refine gate_dst (N := 4) rfl ?_); (try (refine gate_guard (by rfl) ?_; dsimp only)); refine be_ 4 #[.int .i64 0, .int .i64 0] 62 ?_; intro gb148 hg w27 hbox hb; have BK148 := Aside0.mk (hbox); have GW148 := wq (hb1 HB GE146) hg; have GE148 := wq (hb1 HB GE146) hg; replace HB := hs (hb1 HB GE146) hb; have NB146_148 := lx BK146 hg; have NB148_146 := gx BK146 hg; replace BK146 := kx BK146 hb; clear hb hbox hg; have hnb28 := NB148_146.out; have hnc28 := NB146_148.out; have hcz29_0 : w27.cell? ⟨gb148, 0, none⟩ = some (.int .i64 0) := bc BK148 0; have hcz29_1 : w27.cell? ⟨gb148, 1, none⟩ = some (.int .i64 0) := bc BK148 1; have hfz29_0 := blk_frozen BK148.out 0; have hfz29_1 := blk_frozen BK148.out 1))
            have n0_ : Aside0 (((w27.setCell ⟨gb148, 0, none⟩ (.int .i64 ((rd_T62 l0_1 x22_2).f0))).setCell ⟨gb148, 1, none⟩ (.int .i64 ((rd_T62 l0_1 x22_2).f1))).heap[gb146]? = some (.cells #[.int .i64 a0_0, .slice (some ad147) l0_1.length c0_1] 31 (0, 0))) := ⟨bx1 BK146 NB146_148⟩; have n1_ : Aside0 (((w27.setCell ⟨gb148, 0, none⟩ (.int .i64 ((rd_T62 l0_1 x22_2).f0))).setCell ⟨gb148, 1, none⟩ (.int .i64 ((rd_T62 l0_1 x22_2).f1))).heap[gb148]? = some (.cells #[.int .i64 ((rd_T62 l0_1 x22_2).f0), .int .i64 ((rd_T62 l0_1 x22_2).f1)] 62 (0, 0))) := ⟨bp BK148⟩; have n2_ : Aside0 (Below w.heap.size w ((w27.setCell ⟨gb148, 0, none⟩ (.int .i64 ((rd_T62 l0_1 x22_2).f0))).setCell ⟨gb148, 1, none⟩ (.int .i64 ((rd_T62 l0_1 x22_2).f1)))) := ⟨hb2 HB GE146 GE148⟩
            (try clear BK146)
            (try clear BK148)
            (try clear HB)
            generalize ((w27.setCell ⟨gb148, 0, none⟩ (.int .i64 ((rd_T62 l0_1 x22_2).f0))).setCell ⟨gb148, 1, none⟩ (.int .i64 ((rd_T62 l0_1 x22_2).f1))) = w30 at n0_ n1_ n2_ ⊢; have BK146 := n0_; have BK148 := n1_; have HB := n2_; clear n0_ n1_ n2_; replace BK146 := bd BK146; replace BK148 := bd BK148; replace HB := Aside0.mk (below_drew1 HB.out); refine start_ (n := 32) (S := fun w' => w'.cell? ⟨gb148, 0, none⟩ = some (.int .i64 ((rd_T62 l0_1 x22_2).f0)) ∧ w'.cell? ⟨gb148, 1, none⟩ = some (.int .i64 ((rd_T62 l0_1 x22_2).f1)) ∧ w'.cell? ⟨gb146, 0, none⟩ = some (.int .i64 a0_0) ∧ w'.cell? ⟨gb146, 1, none⟩ = some (.slice (some ad147) l0_1.length c0_1)) (ds := []) (pf 0 32) (by kernel_rfl) rfl rfl ⟨bc BK148 0, bc BK148 1, bc BK146 0, bc BK146 1⟩ (fun hHeld => ?_); refine with_tabW simple_Valid.tab6 simple_Valid.bits6 (fun HT_ HW_ => ?_); generalize w30.drew = w31 at BK146 BK148 HB hHeld ⊢; refine pu_ 0 (some 27) (pf 1 32) HT_ ?_; refine tk4_ 1 (some 28) (pf 2 32) HT_ HW_ hHeld ?_; refine pu_ 2 (some 29) (pf 3 32) HT_ ?_; refine pu_ 3 (some 30) (pf 4 32) HT_ ?_
            refine pu_ 4 (some 31) (pf 5 32) HT_ ?_; refine pu_ 6 (some 33) #[T_,T_,T_,T_,T_,F_,T_,F_,F_,F_,F_,F_,F_,F_,F_,F_,F_,F_,F_,F_,F_,F_,F_,F_,F_,F_,F_,F_,F_,F_,F_,F_] HT_ ?_; refine tk4_ 5 (some 32) (pf 7 32) HT_ HW_ hHeld ?_; refine tk4_ 7 (some 34) (pf 8 32) HT_ HW_ hHeld ?_; refine pu_ 8 (some 35) (pf 9 32) HT_ ?_; refine pu_ 9 (some 36) (pf 10 32) HT_ ?_; refine pu_ 10 (some 37) (pf 11 32) HT_ ?_; refine pu_ 11 (some 38) (pf 12 32) HT_ ?_; refine pu_ 13 (some 40) #[T_,T_,T_,T_,T_,T_,T_,T_,T_,T_,T_,T_,F_,T_,F_,F_,F_,F_,F_,F_,F_,F_,F_,F_,F_,F_,F_,F_,F_,F_,F_,F_] HT_ ?_; refine tk4_ 12 (some 39) (pf 14 32) HT_ HW_ hHeld ?_; refine tk4_ 14 (some 41) (pf 15 32) HT_ HW_ hHeld ?_; refine pu_ 15 (some 42) (pf 16 32) HT_ ?_
            refine pu_ 16 (some 43) (pf 17 32) HT_ ?_; refine pu_ 17 (some 44) (pf 18 32) HT_ ?_; refine pn_ 18 (some 45) (pf 19 32) HT_ ?_; refine pn_ 19 (some 46) (pf 20 32) HT_ ?_; refine pn_ 20 (some 47) (pf 21 32) HT_ ?_; refine pn_ 21 (some 48) (pf 22 32) HT_ ?_; refine pn_ 22 (some 49) (pf 23 32) HT_ ?_; refine pn_ 23 (some 50) (pf 24 32) HT_ ?_; refine pn_ 24 (some 51) (pf 25 32) HT_ ?_; refine pn_ 25 (some 52) (pf 26 32) HT_ ?_; refine pn_ 26 (some 53) (pf 27 32) HT_ ?_; refine pn_ 27 (some 54) (pf 28 32) HT_ ?_
            refine pn_ 28 (some 55) (pf 29 32) HT_ ?_; refine pn_ 29 (some 56) (pf 30 32) HT_ ?_; refine pn_ 30 (some 57) (pf 31 32) HT_ ?_; refine pu_ 31 (some 58) (pf 32 32) HT_ ?_; refine done_ (done_of HT_.out (by kernel_rfl)) ?_
            try go_wp2
            go_ret
            exact ⟨by rfl, hb2 HB GE146 GE148⟩
           ·rw [if_neg c26] at H; have c26b0 : decide (a0_0 ≤ ((rd_T62 l0_1 x22_2).f1)) = false := decide_eq_false c26; clear c26
            by_cases c32 : x22_2 > 0
            ·rw [if_pos c32] at H; have c32b0 : decide (0 < x22_2) = true := decide_eq_true c32; clear c32; obtain ⟨ji33, hji33⟩ : ∃ j_ : Int, (wrap64 (x22_2 - 1)) = j_ := ⟨_, rfl⟩; replace H : (if 0 ≤ (ji33) then (if (ji33) < (l0_1.length : Int) then ((simple_compare.f ((rd_T62 l0_1 (ji33)).f0) ((rd_T62 l0_1 (ji33)).f1) ((rd_T62 l0_1 x22_2).f0) ((rd_T62 l0_1 x22_2).f1)).bind fun t150 => (if t150 ≥ 0 then (some false) else (simple_Valid.l0 k2 l0_1 (l0_1.length : Int) (wrap64 (x22_2 + 1)) a0_0 l0_1))) else (none)) else (none)) = some r := by first | (rw [hji33] at H; exact H) | (simp only [hji33] at H ⊢; exact H)
             have hji33w : (IntKind.i64.wrap (x22_2 - 1)) = ji33 := (i64_w _).trans hji33
             by_cases c34 : 0 ≤ (ji33)
             ·rw [if_pos c34] at H; have c34b0 : decide (0 ≤ (ji33)) = true := decide_eq_true c34; clear c34
              by_cases c35 : (ji33) < (l0_1.length : Int)
              ·rw [if_pos c35] at H; have c35b0 : decide ((ji33) < (l0_1.length : Int)) = true := decide_eq_true c35; clear c35; replace H := Option.bind_eq_some_iff.mp H; obtain ⟨t150, A360, H⟩ := H; (try dsimp only at H); have A36 := Aside0.mk A360; clear A360
               by_cases c37 : t150 ≥ 0
               ·rw [if_pos c37] at H; have c37b0 : decide (0 ≤ t150) = true := decide_eq_true c37; clear c37; obtain rfl := Option.some.inj H; have p147 : 0 ≤ (x22_2 : Int) := of_decide_eq_true (by first | (with_reducible assumption) | assumption); have q147 : x22_2 < (l0_1.length : Int) := of_decide_eq_true (by first | (with_reducible assumption) | assumption); obtain ⟨ad147, e147, hx147_0, hx147_1⟩ := at_T62 HR0_1.out x22_2 p147 q147
                cases e147
                replace hx147_0 := (HB.out.cell (World.block_lt_of_cell? w _ hx147_0)).trans hx147_0; replace hx147_1 := (HB.out.cell (World.block_lt_of_cell? w _ hx147_1)).trans hx147_1; replace p147 := eq_true p147; replace q147 := eq_true q147
                try go_wp2_with (first | ((with_reducible refine gate_dst (N := 4) rfl ?_); (try (refine gate_guard (by rfl) ?_; dsimp only)); refine be_ 4 #[.int .i64 0, .int .i64 0] 62 ?_; intro gb148 hg w38 hbox hb; have BK148 := Aside0.mk (hbox); have GW148 := wq (hb1 HB GE146) hg; have GE148 := wq (hb1 HB GE146) hg; replace HB := hs (hb1 HB GE146) hb; have NB146_148 := lx BK146 hg; have NB148_146 := gx BK146 hg; replace BK146 := kx BK146 hb; clear hb hbox hg; have hnb39 := NB148_146.out; have hnc39 := NB146_148.out; have hcz40_0 : w38.cell? ⟨gb148, 0, none⟩ = some (.int .i64 0) := bc BK148 0; have hcz40_1 : w38.cell? ⟨gb148, 1, none⟩ = some (.int .i64 0) := bc BK148 1; have hfz40_0 := blk_frozen BK148.out 0; have hfz40_1 := blk_frozen BK148.out 1))
                have n0_ : Aside0 (((w38.setCell ⟨gb148, 0, none⟩ (.int .i64 ((rd_T62 l0_1 x22_2).f0))).setCell ⟨gb148, 1, none⟩ (.int .i64 ((rd_T62 l0_1 x22_2).f1))).heap[gb146]? = some (.cells #[.int .i64 a0_0, .slice (some ad147) l0_1.length c0_1] 31 (0, 0))) := ⟨bx1 BK146 NB146_148⟩; have n1_ : Aside0 (((w38.setCell ⟨gb148, 0, none⟩ (.int .i64 ((rd_T62 l0_1 x22_2).f0))).setCell ⟨gb148, 1, none⟩ (.int .i64 ((rd_T62 l0_1 x22_2).f1))).heap[gb148]? = some (.cells #[.int .i64 ((rd_T62 l0_1 x22_2).f0), .int .i64 ((rd_T62 l0_1 x22_2).f1)] 62 (0, 0))) := ⟨bp BK148⟩; have n2_ : Aside0 (Below w.heap.size w ((w38.setCell ⟨gb148, 0, none⟩ (.int .i64 ((rd_T62 l0_1 x22_2).f0))).setCell ⟨gb148, 1, none⟩ (.int .i64 ((rd_T62 l0_1 x22_2).f1)))) := ⟨hb2 HB GE146 GE148⟩
                (try clear BK146)
                (try clear BK148)
                (try clear HB)
                generalize ((w38.setCell ⟨gb148, 0, none⟩ (.int .i64 ((rd_T62 l0_1 x22_2).f0))).setCell ⟨gb148, 1, none⟩ (.int .i64 ((rd_T62 l0_1 x22_2).f1))) = w41 at n0_ n1_ n2_ ⊢; have BK146 := n0_; have BK148 := n1_; have HB := n2_; clear n0_ n1_ n2_; replace BK146 := bd BK146; replace BK148 := bd BK148; replace HB := Aside0.mk (below_drew1 HB.out); have p149 : 0 ≤ ((ji33) : Int) := of_decide_eq_true (by first | (with_reducible assumption) | assumption); have q149 : (ji33) < (l0_1.length : Int) := of_decide_eq_true (by first | (with_reducible assumption) | assumption); obtain ⟨ad149, e149, hx149_0, hx149_1⟩ := at_T62 HR0_1.out (ji33) p149 q149; have hw149_1 := hx149_1; have hw149_0 := hx149_0; obtain rfl : ad147 = ad149 := (by injection e149); replace hx149_0 := (HB.out.cell (World.block_lt_of_cell? w _ hx149_0)).trans hx149_0; replace hx149_1 := (HB.out.cell (World.block_lt_of_cell? w _ hx149_1)).trans hx149_1; replace p149 := eq_true p149; replace q149 := eq_true q149; refine start_ (n := 32) (S := fun w' => w'.cell? ⟨gb148, 0, none⟩ = some (.int .i64 ((rd_T62 l0_1 x22_2).f0)) ∧ w'.cell? ⟨gb148, 1, none⟩ = some (.int .i64 ((rd_T62 l0_1 x22_2).f1)) ∧ w'.cell? ⟨gb146, 0, none⟩ = some (.int .i64 a0_0) ∧ w'.cell? ⟨gb146, 1, none⟩ = some (.slice (some ad147) l0_1.length c0_1) ∧ w'.cell? (ad147.add (((ji33)).toNat * 2)) = some (.int .i64 ((rd_T62 l0_1 (ji33)).f0)) ∧ w'.cell? ⟨(ad147.add (((ji33)).toNat * 2)).block, (ad147.add (((ji33)).toNat * 2)).off + 1, none⟩ = some (.int .i64 ((rd_T62 l0_1 (ji33)).f1))) (ds := []) (pf 0 32) (by kernel_rfl) rfl rfl ⟨bc BK148 0, bc BK148 1, bc BK146 0, bc BK146 1, ((HB.out.cell (World.block_lt_of_cell? w _ hw149_0)).trans hw149_0), ((HB.out.cell (World.block_lt_of_cell? w _ hw149_1)).trans hw149_1)⟩ (fun hHeld => ?_); refine with_tabW simple_Valid.tab6 simple_Valid.bits6 (fun HT_ HW_ => ?_)
                generalize w41.drew = w42 at BK146 BK148 HB hx149_0 hx149_1 hHeld ⊢; refine pu_ 0 (some 27) (pf 1 32) HT_ ?_; refine tk6_ 1 (some 28) (pf 2 32) HT_ HW_ hHeld ?_; refine pu_ 2 (some 29) (pf 3 32) HT_ ?_; refine pu_ 3 (some 30) (pf 4 32) HT_ ?_; refine pu_ 4 (some 31) (pf 5 32) HT_ ?_; refine pu_ 6 (some 33) #[T_,T_,T_,T_,T_,F_,T_,F_,F_,F_,F_,F_,F_,F_,F_,F_,F_,F_,F_,F_,F_,F_,F_,F_,F_,F_,F_,F_,F_,F_,F_,F_] HT_ ?_; refine tk6_ 5 (some 32) (pf 7 32) HT_ HW_ hHeld ?_; refine tk6_ 7 (some 34) (pf 8 32) HT_ HW_ hHeld ?_; refine pu_ 8 (some 35) (pf 9 32) HT_ ?_; refine pu_ 9 (some 36) (pf 10 32) HT_ ?_; refine pu_ 10 (some 37) (pf 11 32) HT_ ?_
                refine pu_ 11 (some 38) (pf 12 32) HT_ ?_; refine pu_ 13 (some 40) #[T_,T_,T_,T_,T_,T_,T_,T_,T_,T_,T_,T_,F_,T_,F_,F_,F_,F_,F_,F_,F_,F_,F_,F_,F_,F_,F_,F_,F_,F_,F_,F_] HT_ ?_; refine tk6_ 12 (some 39) (pf 14 32) HT_ HW_ hHeld ?_; refine tk6_ 14 (some 41) (pf 15 32) HT_ HW_ hHeld ?_; refine pu_ 15 (some 42) (pf 16 32) HT_ ?_; refine pu_ 16 (some 43) (pf 17 32) HT_ ?_; refine pu_ 17 (some 44) (pf 18 32) HT_ ?_; refine pu_ 18 (some 45) (pf 19 32) HT_ ?_; refine pu_ 19 (some 46) (pf 20 32) HT_ ?_; refine pu_ 20 (some 47) (pf 21 32) HT_ ?_; refine pu_ 21 (some 48) (pf 22 32) HT_ ?_; refine pu_ 23 (some 50) #[T_,T_,T_,T_,T_,T_,T_,T_,T_,T_,T_,T_,T_,T_,T_,T_,T_,T_,T_,T_,T_,T_,F_,T_,F_,F_,F_,F_,F_,F_,F_,F_] HT_ ?_
                refine pu_ 24 (some 51) #[T_,T_,T_,T_,T_,T_,T_,T_,T_,T_,T_,T_,T_,T_,T_,T_,T_,T_,T_,T_,T_,T_,F_,T_,T_,F_,F_,F_,F_,F_,F_,F_] HT_ ?_; refine tk6_ 22 (some 49) (pf 25 32) HT_ HW_ hHeld ?_; refine pu_ 25 (some 52) (pf 26 32) HT_ ?_; refine tk6_ 26 (some 53) (pf 27 32) HT_ HW_ hHeld ?_; refine tk6_ 27 (some 54) (pf 28 32) HT_ HW_ hHeld ?_; refine on_ 28 (some 55) (pf 29 32) HT_ (fun K hK => ?_); refine goes_ Try.func70 (by kernel_rfl) rfl #[.agg #[.int .i64 ((rd_T62 l0_1 (ji33)).f0), .int .i64 ((rd_T62 l0_1 (ji33)).f1)], .agg #[.int .i64 ((rd_T62 l0_1 x22_2).f0), .int .i64 ((rd_T62 l0_1 x22_2).f1)]] (by rfl) rfl rfl (by (try simp only [List.map_toArray, List.map_cons, List.map_nil]); first | done | (simp only [hji33]; rfl) | rfl | (simp only [List.length_drop, List.length_take]; rfl)) ?_
                with_reducible refine (simple_compare.calls ((rd_T62 l0_1 (ji33)).f0) ((rd_T62 l0_1 (ji33)).f1) ((rd_T62 l0_1 x22_2).f0) ((rd_T62 l0_1 x22_2).f1) t150 _ A36.out).mono ?_
                rintro e w43 ⟨rfl, hb⟩; refine ⟨_, rfl, ?_⟩; replace BK146 := kx BK146 hb; replace BK148 := kx BK148 hb; replace HB := hs (hb2 HB GE146 GE148) hb
                (try clear hb)
                (try clear hk)
                (try clear hi)
                refine hK.out _ _ ⟨bc BK148 0, bc BK148 1, bc BK146 0, bc BK146 1, ((HB.out.cell (World.block_lt_of_cell? w _ hw149_0)).trans hw149_0), ((HB.out.cell (World.block_lt_of_cell? w _ hw149_1)).trans hw149_1)⟩ (fun hHeld => ?_); clear hK K; refine nm_ (some 55) ?_; refine pu_ 29 (some 56) (pf 30 32) HT_ ?_; refine pu_ 30 (some 57) (pf 31 32) HT_ ?_; refine pu_ 31 (some 58) (pf 32 32) HT_ ?_; refine done_ (done_of HT_.out (by kernel_rfl)) ?_
                try go_wp2
                go_ret
                exact ⟨by first | rfl | (simp [errW_none, errW_some] <;> rfl) | (simp only [← hji33]; first | rfl | (simp [errW_none, errW_some] <;> rfl)) | (simp [*, errW_none, errW_some] <;> rfl), hb2 HB GE146 GE148⟩
               ·rw [if_neg c37] at H; have c37b0 : decide (0 ≤ t150) = false := decide_eq_false c37; clear c37; have H' := Aside0.mk H; clear H; have p147 : 0 ≤ (x22_2 : Int) := of_decide_eq_true (by first | (with_reducible assumption) | assumption); have q147 : x22_2 < (l0_1.length : Int) := of_decide_eq_true (by first | (with_reducible assumption) | assumption); obtain ⟨ad147, e147, hx147_0, hx147_1⟩ := at_T62 HR0_1.out x22_2 p147 q147
                cases e147
                replace hx147_0 := (HB.out.cell (World.block_lt_of_cell? w _ hx147_0)).trans hx147_0; replace hx147_1 := (HB.out.cell (World.block_lt_of_cell? w _ hx147_1)).trans hx147_1; replace p147 := eq_true p147; replace q147 := eq_true q147
                try go_wp2_with (first | ((with_reducible refine gate_dst (N := 4) rfl ?_); (try (refine gate_guard (by rfl) ?_; dsimp only)); refine be_ 4 #[.int .i64 0, .int .i64 0] 62 ?_; intro gb148 hg w44 hbox hb; have BK148 := Aside0.mk (hbox); have GW148 := wq (hb1 HB GE146) hg; have GE148 := wq (hb1 HB GE146) hg; replace HB := hs (hb1 HB GE146) hb; have NB146_148 := lx BK146 hg; have NB148_146 := gx BK146 hg; replace BK146 := kx BK146 hb; clear hb hbox hg; have hnb45 := NB148_146.out; have hnc45 := NB146_148.out; have hcz46_0 : w44.cell? ⟨gb148, 0, none⟩ = some (.int .i64 0) := bc BK148 0; have hcz46_1 : w44.cell? ⟨gb148, 1, none⟩ = some (.int .i64 0) := bc BK148 1; have hfz46_0 := blk_frozen BK148.out 0; have hfz46_1 := blk_frozen BK148.out 1))
                have n0_ : Aside0 (((w44.setCell ⟨gb148, 0, none⟩ (.int .i64 ((rd_T62 l0_1 x22_2).f0))).setCell ⟨gb148, 1, none⟩ (.int .i64 ((rd_T62 l0_1 x22_2).f1))).heap[gb146]? = some (.cells #[.int .i64 a0_0, .slice (some ad147) l0_1.length c0_1] 31 (0, 0))) := ⟨bx1 BK146 NB146_148⟩; have n1_ : Aside0 (((w44.setCell ⟨gb148, 0, none⟩ (.int .i64 ((rd_T62 l0_1 x22_2).f0))).setCell ⟨gb148, 1, none⟩ (.int .i64 ((rd_T62 l0_1 x22_2).f1))).heap[gb148]? = some (.cells #[.int .i64 ((rd_T62 l0_1 x22_2).f0), .int .i64 ((rd_T62 l0_1 x22_2).f1)] 62 (0, 0))) := ⟨bp BK148⟩; have n2_ : Aside0 (Below w.heap.size w ((w44.setCell ⟨gb148, 0, none⟩ (.int .i64 ((rd_T62 l0_1 x22_2).f0))).setCell ⟨gb148, 1, none⟩ (.int .i64 ((rd_T62 l0_1 x22_2).f1)))) := ⟨hb2 HB GE146 GE148⟩
                (try clear BK146)
                (try clear BK148)
                (try clear HB)
                generalize ((w44.setCell ⟨gb148, 0, none⟩ (.int .i64 ((rd_T62 l0_1 x22_2).f0))).setCell ⟨gb148, 1, none⟩ (.int .i64 ((rd_T62 l0_1 x22_2).f1))) = w47 at n0_ n1_ n2_ ⊢; have BK146 := n0_; have BK148 := n1_; have HB := n2_; clear n0_ n1_ n2_; replace BK146 := bd BK146; replace BK148 := bd BK148; replace HB := Aside0.mk (below_drew1 HB.out); have p149 : 0 ≤ ((ji33) : Int) := of_decide_eq_true (by first | (with_reducible assumption) | assumption); have q149 : (ji33) < (l0_1.length : Int) := of_decide_eq_true (by first | (with_reducible assumption) | assumption); obtain ⟨ad149, e149, hx149_0, hx149_1⟩ := at_T62 HR0_1.out (ji33) p149 q149; have hw149_1 := hx149_1; have hw149_0 := hx149_0; obtain rfl : ad147 = ad149 := (by injection e149); replace hx149_0 := (HB.out.cell (World.block_lt_of_cell? w _ hx149_0)).trans hx149_0; replace hx149_1 := (HB.out.cell (World.block_lt_of_cell? w _ hx149_1)).trans hx149_1; replace p149 := eq_true p149; replace q149 := eq_true q149; refine start_ (n := 32) (S := fun w' => w'.cell? ⟨gb148, 0, none⟩ = some (.int .i64 ((rd_T62 l0_1 x22_2).f0)) ∧ w'.cell? ⟨gb148, 1, none⟩ = some (.int .i64 ((rd_T62 l0_1 x22_2).f1)) ∧ w'.cell? ⟨gb146, 0, none⟩ = some (.int .i64 a0_0) ∧ w'.cell? ⟨gb146, 1, none⟩ = some (.slice (some ad147) l0_1.length c0_1) ∧ w'.cell? (ad147.add (((ji33)).toNat * 2)) = some (.int .i64 ((rd_T62 l0_1 (ji33)).f0)) ∧ w'.cell? ⟨(ad147.add (((ji33)).toNat * 2)).block, (ad147.add (((ji33)).toNat * 2)).off + 1, none⟩ = some (.int .i64 ((rd_T62 l0_1 (ji33)).f1))) (ds := []) (pf 0 32) (by kernel_rfl) rfl rfl ⟨bc BK148 0, bc BK148 1, bc BK146 0, bc BK146 1, ((HB.out.cell (World.block_lt_of_cell? w _ hw149_0)).trans hw149_0), ((HB.out.cell (World.block_lt_of_cell? w _ hw149_1)).trans hw149_1)⟩ (fun hHeld => ?_); refine with_tabW simple_Valid.tab6 simple_Valid.bits6 (fun HT_ HW_ => ?_)
                generalize w47.drew = w48 at BK146 BK148 HB hx149_0 hx149_1 hHeld ⊢; refine pu_ 0 (some 27) (pf 1 32) HT_ ?_; refine tk6_ 1 (some 28) (pf 2 32) HT_ HW_ hHeld ?_; refine pu_ 2 (some 29) (pf 3 32) HT_ ?_; refine pu_ 3 (some 30) (pf 4 32) HT_ ?_; refine pu_ 4 (some 31) (pf 5 32) HT_ ?_; refine pu_ 6 (some 33) #[T_,T_,T_,T_,T_,F_,T_,F_,F_,F_,F_,F_,F_,F_,F_,F_,F_,F_,F_,F_,F_,F_,F_,F_,F_,F_,F_,F_,F_,F_,F_,F_] HT_ ?_; refine tk6_ 5 (some 32) (pf 7 32) HT_ HW_ hHeld ?_; refine tk6_ 7 (some 34) (pf 8 32) HT_ HW_ hHeld ?_; refine pu_ 8 (some 35) (pf 9 32) HT_ ?_; refine pu_ 9 (some 36) (pf 10 32) HT_ ?_; refine pu_ 10 (some 37) (pf 11 32) HT_ ?_
                refine pu_ 11 (some 38) (pf 12 32) HT_ ?_; refine pu_ 13 (some 40) #[T_,T_,T_,T_,T_,T_,T_,T_,T_,T_,T_,T_,F_,T_,F_,F_,F_,F_,F_,F_,F_,F_,F_,F_,F_,F_,F_,F_,F_,F_,F_,F_] HT_ ?_; refine tk6_ 12 (some 39) (pf 14 32) HT_ HW_ hHeld ?_; refine tk6_ 14 (some 41) (pf 15 32) HT_ HW_ hHeld ?_; refine pu_ 15 (some 42) (pf 16 32) HT_ ?_; refine pu_ 16 (some 43) (pf 17 32) HT_ ?_; refine pu_ 17 (some 44) (pf 18 32) HT_ ?_; refine pu_ 18 (some 45) (pf 19 32) HT_ ?_; refine pu_ 19 (some 46) (pf 20 32) HT_ ?_; refine pu_ 20 (some 47) (pf 21 32) HT_ ?_; refine pu_ 21 (some 48) (pf 22 32) HT_ ?_; refine pu_ 23 (some 50) #[T_,T_,T_,T_,T_,T_,T_,T_,T_,T_,T_,T_,T_,T_,T_,T_,T_,T_,T_,T_,T_,T_,F_,T_,F_,F_,F_,F_,F_,F_,F_,F_] HT_ ?_
                refine pu_ 24 (some 51) #[T_,T_,T_,T_,T_,T_,T_,T_,T_,T_,T_,T_,T_,T_,T_,T_,T_,T_,T_,T_,T_,T_,F_,T_,T_,F_,F_,F_,F_,F_,F_,F_] HT_ ?_; refine tk6_ 22 (some 49) (pf 25 32) HT_ HW_ hHeld ?_; refine pu_ 25 (some 52) (pf 26 32) HT_ ?_; refine tk6_ 26 (some 53) (pf 27 32) HT_ HW_ hHeld ?_; refine tk6_ 27 (some 54) (pf 28 32) HT_ HW_ hHeld ?_; refine on_ 28 (some 55) (pf 29 32) HT_ (fun K hK => ?_); refine goes_ Try.func70 (by kernel_rfl) rfl #[.agg #[.int .i64 ((rd_T62 l0_1 (ji33)).f0), .int .i64 ((rd_T62 l0_1 (ji33)).f1)], .agg #[.int .i64 ((rd_T62 l0_1 x22_2).f0), .int .i64 ((rd_T62 l0_1 x22_2).f1)]] (by rfl) rfl rfl (by (try simp only [List.map_toArray, List.map_cons, List.map_nil]); first | done | (simp only [hji33]; rfl) | rfl | (simp only [List.length_drop, List.length_take]; rfl)) ?_
                with_reducible refine (simple_compare.calls ((rd_T62 l0_1 (ji33)).f0) ((rd_T62 l0_1 (ji33)).f1) ((rd_T62 l0_1 x22_2).f0) ((rd_T62 l0_1 x22_2).f1) t150 _ A36.out).mono ?_
                rintro e w49 ⟨rfl, hb⟩; refine ⟨_, rfl, ?_⟩; replace BK146 := kx BK146 hb; replace BK148 := kx BK148 hb; replace HB := hs (hb2 HB GE146 GE148) hb
                (try clear hb)
                (try clear hk)
                (try clear hi)
                refine hK.out _ _ ⟨bc BK148 0, bc BK148 1, bc BK146 0, bc BK146 1, ((HB.out.cell (World.block_lt_of_cell? w _ hw149_0)).trans hw149_0), ((HB.out.cell (World.block_lt_of_cell? w _ hw149_1)).trans hw149_1)⟩ (fun hHeld => ?_); clear hK K; refine nm_ (some 55) ?_; refine pu_ 29 (some 56) (pf 30 32) HT_ ?_; refine pu_ 30 (some 57) (pf 31 32) HT_ ?_; refine pu_ 31 (some 58) (pf 32 32) HT_ ?_; refine done_ (done_of HT_.out (by kernel_rfl)) ?_
                try go_wp2
                go_roundg k2
                case measure => have := HJ1.out; have := HK2.out; omega
                case rel => exact ⟨(wrap64 (x22_2 + 1)), (by first | rfl | (simp; done) | (simp [*]; done)), H', ⟨by have := HJ1.out; have := HK2.out; omega⟩, ⟨bx BK146⟩, ⟨hb2 HB GE146 GE148⟩⟩
              ·rw [if_neg c35] at H; exact absurd H (by simp)
             ·rw [if_neg c34] at H; exact absurd H (by simp)
            ·rw [if_neg c32] at H; have c32b0 : decide (0 < x22_2) = false := decide_eq_false c32; clear c32; have H' := Aside0.mk H; clear H; have p147 : 0 ≤ (x22_2 : Int) := of_decide_eq_true (by first | (with_reducible assumption) | assumption); have q147 : x22_2 < (l0_1.length : Int) := of_decide_eq_true (by first | (with_reducible assumption) | assumption); obtain ⟨ad147, e147, hx147_0, hx147_1⟩ := at_T62 HR0_1.out x22_2 p147 q147
             cases e147
             replace hx147_0 := (HB.out.cell (World.block_lt_of_cell? w _ hx147_0)).trans hx147_0; replace hx147_1 := (HB.out.cell (World.block_lt_of_cell? w _ hx147_1)).trans hx147_1; replace p147 := eq_true p147; replace q147 := eq_true q147
             try go_wp2_with (first | ((with_reducible refine gate_dst (N := 4) rfl ?_); (try (refine gate_guard (by rfl) ?_; dsimp only)); refine be_ 4 #[.int .i64 0, .int .i64 0] 62 ?_; intro gb148 hg w50 hbox hb; have BK148 := Aside0.mk (hbox); have GW148 := wq (hb1 HB GE146) hg; have GE148 := wq (hb1 HB GE146) hg; replace HB := hs (hb1 HB GE146) hb; have NB146_148 := lx BK146 hg; have NB148_146 := gx BK146 hg; replace BK146 := kx BK146 hb; clear hb hbox hg; have hnb51 := NB148_146.out; have hnc51 := NB146_148.out; have hcz52_0 : w50.cell? ⟨gb148, 0, none⟩ = some (.int .i64 0) := bc BK148 0; have hcz52_1 : w50.cell? ⟨gb148, 1, none⟩ = some (.int .i64 0) := bc BK148 1; have hfz52_0 := blk_frozen BK148.out 0; have hfz52_1 := blk_frozen BK148.out 1))
             have n0_ : Aside0 (((w50.setCell ⟨gb148, 0, none⟩ (.int .i64 ((rd_T62 l0_1 x22_2).f0))).setCell ⟨gb148, 1, none⟩ (.int .i64 ((rd_T62 l0_1 x22_2).f1))).heap[gb146]? = some (.cells #[.int .i64 a0_0, .slice (some ad147) l0_1.length c0_1] 31 (0, 0))) := ⟨bx1 BK146 NB146_148⟩; have n1_ : Aside0 (((w50.setCell ⟨gb148, 0, none⟩ (.int .i64 ((rd_T62 l0_1 x22_2).f0))).setCell ⟨gb148, 1, none⟩ (.int .i64 ((rd_T62 l0_1 x22_2).f1))).heap[gb148]? = some (.cells #[.int .i64 ((rd_T62 l0_1 x22_2).f0), .int .i64 ((rd_T62 l0_1 x22_2).f1)] 62 (0, 0))) := ⟨bp BK148⟩; have n2_ : Aside0 (Below w.heap.size w ((w50.setCell ⟨gb148, 0, none⟩ (.int .i64 ((rd_T62 l0_1 x22_2).f0))).setCell ⟨gb148, 1, none⟩ (.int .i64 ((rd_T62 l0_1 x22_2).f1)))) := ⟨hb2 HB GE146 GE148⟩
             (try clear BK146)
             (try clear BK148)
             (try clear HB)
             generalize ((w50.setCell ⟨gb148, 0, none⟩ (.int .i64 ((rd_T62 l0_1 x22_2).f0))).setCell ⟨gb148, 1, none⟩ (.int .i64 ((rd_T62 l0_1 x22_2).f1))) = w53 at n0_ n1_ n2_ ⊢; have BK146 := n0_; have BK148 := n1_; have HB := n2_; clear n0_ n1_ n2_; replace BK146 := bd BK146; replace BK148 := bd BK148; replace HB := Aside0.mk (below_drew1 HB.out); refine start_ (n := 32) (S := fun w' => w'.cell? ⟨gb148, 0, none⟩ = some (.int .i64 ((rd_T62 l0_1 x22_2).f0)) ∧ w'.cell? ⟨gb148, 1, none⟩ = some (.int .i64 ((rd_T62 l0_1 x22_2).f1)) ∧ w'.cell? ⟨gb146, 0, none⟩ = some (.int .i64 a0_0) ∧ w'.cell? ⟨gb146, 1, none⟩ = some (.slice (some ad147) l0_1.length c0_1)) (ds := []) (pf 0 32) (by kernel_rfl) rfl rfl ⟨bc BK148 0, bc BK148 1, bc BK146 0, bc BK146 1⟩ (fun hHeld => ?_); refine with_tabW simple_Valid.tab6 simple_Valid.bits6 (fun HT_ HW_ => ?_); generalize w53.drew = w54 at BK146 BK148 HB hHeld ⊢; refine pu_ 0 (some 27) (pf 1 32) HT_ ?_; refine tk4_ 1 (some 28) (pf 2 32) HT_ HW_ hHeld ?_; refine pu_ 2 (some 29) (pf 3 32) HT_ ?_; refine pu_ 3 (some 30) (pf 4 32) HT_ ?_
             refine pu_ 4 (some 31) (pf 5 32) HT_ ?_; refine pu_ 6 (some 33) #[T_,T_,T_,T_,T_,F_,T_,F_,F_,F_,F_,F_,F_,F_,F_,F_,F_,F_,F_,F_,F_,F_,F_,F_,F_,F_,F_,F_,F_,F_,F_,F_] HT_ ?_; refine tk4_ 5 (some 32) (pf 7 32) HT_ HW_ hHeld ?_; refine tk4_ 7 (some 34) (pf 8 32) HT_ HW_ hHeld ?_; refine pu_ 8 (some 35) (pf 9 32) HT_ ?_; refine pu_ 9 (some 36) (pf 10 32) HT_ ?_; refine pu_ 10 (some 37) (pf 11 32) HT_ ?_; refine pu_ 11 (some 38) (pf 12 32) HT_ ?_; refine pu_ 13 (some 40) #[T_,T_,T_,T_,T_,T_,T_,T_,T_,T_,T_,T_,F_,T_,F_,F_,F_,F_,F_,F_,F_,F_,F_,F_,F_,F_,F_,F_,F_,F_,F_,F_] HT_ ?_; refine tk4_ 12 (some 39) (pf 14 32) HT_ HW_ hHeld ?_; refine tk4_ 14 (some 41) (pf 15 32) HT_ HW_ hHeld ?_; refine pu_ 15 (some 42) (pf 16 32) HT_ ?_
             refine pu_ 16 (some 43) (pf 17 32) HT_ ?_; refine pu_ 17 (some 44) (pf 18 32) HT_ ?_; refine pu_ 18 (some 45) (pf 19 32) HT_ ?_; refine pu_ 19 (some 46) (pf 20 32) HT_ ?_; refine pu_ 20 (some 47) (pf 21 32) HT_ ?_; refine pn_ 21 (some 48) (pf 22 32) HT_ ?_; refine pn_ 22 (some 49) (pf 23 32) HT_ ?_; refine pn_ 23 (some 50) (pf 24 32) HT_ ?_; refine pn_ 24 (some 51) (pf 25 32) HT_ ?_; refine pn_ 25 (some 52) (pf 26 32) HT_ ?_; refine pn_ 26 (some 53) (pf 27 32) HT_ ?_; refine pn_ 27 (some 54) (pf 28 32) HT_ ?_
             refine pn_ 28 (some 55) (pf 29 32) HT_ ?_; refine pn_ 29 (some 56) (pf 30 32) HT_ ?_; refine pu_ 30 (some 57) (pf 31 32) HT_ ?_; refine pu_ 31 (some 58) (pf 32 32) HT_ ?_; refine done_ (done_of HT_.out (by kernel_rfl)) ?_
             try go_wp2
             go_roundg k2
             case measure => have := HJ1.out; have := HK2.out; omega
             case rel => exact ⟨(wrap64 (x22_2 + 1)), (by first | rfl | (simp; done) | (simp [*]; done)), H', ⟨by have := HJ1.out; have := HK2.out; omega⟩, ⟨bx BK146⟩, ⟨hb2 HB GE146 GE148⟩⟩
        ·rw [if_neg c13] at H; exact absurd H (by simp)
       ·rw [if_neg c12] at H; exact absurd H (by simp)
      ·rw [if_neg c11] at H; have c11b0 : decide (x22_2 < (l0_1.length : Int)) = false := decide_eq_false c11; clear c11; obtain rfl := Option.some.inj H
       go_wp2
       go_ret
       exact ⟨by rfl, hb1 HB GE146⟩

end Go.Proofs.Ythfoliejhdpbaaa.PCroA
