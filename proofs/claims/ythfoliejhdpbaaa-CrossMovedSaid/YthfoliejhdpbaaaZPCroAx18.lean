import Derived.Test.YthfoliejhdpbaaaZPCroAx0
import Derived.Test.YthfoliejhdpbaaaZPCroAx3
import Derived.Test.YthfoliejhdpbaaaZPCroAx13
import Derived.Test.YthfoliejhdpbaaaZPCroAx16
import Derived.Test.YthfoliejhdpbaaaZPCroAx17
namespace Go.Proofs.Ythfoliejhdpbaaa.PCroA
open Go.Maps Go.RowKit Go.Proofs.YthfoliejhdpbaaaW.PrintWords Go.Proofs.YthfoliejhdpbaaaW.PrintLast Go.Proofs.YthfoliejhdpbaaaW.PrintMore
open Go.Proofs.YthfoliejhdpbaaaX
attribute [local go_sem] max2_int min2_int max_two min_two max_three min_three max_four min_four
set_option linter.unusedVariables false
set_option linter.unusedSimpArgs false

/-! ### cross_Proper: function 23 -/
mutual
def cross_Proper.l0 : Nat → List (S23) → List (S23) → List (S23) → Int → Int → Int → List (S62) → Option (Bool)
 | 0, _, _, _, _, _, _, _ => none
 | k + 1, x1, x5, x22, x23, x24, x188000, x188001 => if x24 < x23 then (if 0 ≤ x24 then (if x24 < (x22.length : Int) then ((comps_Sets_has.f x5 ((rd_T23 x22 x24).f0) ((rd_T23 x22 x24).f1)).bind fun bt194 => (if bt194.2 = true then (some false) else (if x5.length < 8796093022208 then (cross_Proper.l0 k x1 (x5 ++ [(⟨(rd_T23 x22 x24).f0, (rd_T23 x22 x24).f1⟩ : S23)]) x22 x23 (wrap64 (x24 + 1)) x188000 x188001) else (none)))) else (none)) else (none)) else (cross_Proper.l1 k x1 x1 (x1.length : Int) 0 x188000 x188001)
def cross_Proper.l1 : Nat → List (S23) → List (S23) → Int → Int → Int → List (S62) → Option (Bool)
 | 0, _, _, _, _, _, _ => none
 | k + 1, x1, x40, x41, x42, x188000, x188001 => if x42 < x41 then (if 0 ≤ x42 then (if x42 < (x40.length : Int) then (cross_Proper.l2 k x1 x42 x40 x41 x42 x188001 (x188001.length : Int) 0 x188000 x188001 ((rd_T23 x40 x42).f0) ((rd_T23 x40 x42).f1)) else (none)) else (none)) else ((cross_First.f k x188000 x188001 x1).bind fun bt199 => (some (decide (bt199.1 < 0))))
def cross_Proper.l2 : Nat → List (S23) → Int → List (S23) → Int → Int → List (S62) → Int → Int → Int → List (S62) → Int → Int → Option (Bool)
 | 0, _, _, _, _, _, _, _, _, _, _, _, _ => none
 | k + 1, x1, x10, x40, x41, x42, x48, x49, x50, x188000, x188001, x204000, x204001 => if x50 < x49 then (if 0 ≤ x50 then (if x50 < (x48.length : Int) then (if ((rd_T62 x48 x50).f0) = x10 then (cross_Proper.l2 k x1 x10 x40 x41 x42 x48 x49 (wrap64 (x50 + 1)) x188000 x188001 x204000 x204001) else (if ((rd_T62 x48 x50).f1) = x10 then (cross_Proper.l2 k x1 x10 x40 x41 x42 x48 x49 (wrap64 (x50 + 1)) x188000 x188001 x204000 x204001) else (if 0 ≤ ((rd_T62 x48 x50).f0) then (if ((rd_T62 x48 x50).f0) < (x1.length : Int) then (if 0 ≤ ((rd_T62 x48 x50).f1) then (if ((rd_T62 x48 x50).f1) < (x1.length : Int) then ((cross_on.f ((rd_T23 x1 ((rd_T62 x48 x50).f0)).f0) ((rd_T23 x1 ((rd_T62 x48 x50).f0)).f1) ((rd_T23 x1 ((rd_T62 x48 x50).f1)).f0) ((rd_T23 x1 ((rd_T62 x48 x50).f1)).f1) x204000 x204001).bind fun t208 => (if t208 = true then (some false) else (cross_Proper.l2 k x1 x10 x40 x41 x42 x48 x49 (wrap64 (x50 + 1)) x188000 x188001 x204000 x204001))) else (none)) else (none)) else (none)) else (none)))) else (none)) else (none)) else (cross_Proper.l1 k x1 x40 x41 (wrap64 (x42 + 1)) x188000 x188001)
end
def cross_Proper.f (k : Nat) (a0_0 : Int) (l0_1 : List (S62)) (l1 : List (S23)) : Option (Bool) := (cross_drawn.f k a0_0 l0_1 l1).bind fun t188 => (if t188 = 0 then (cross_Proper.l0 k l1 (([] : List (S23))) l1 (l1.length : Int) 0 a0_0 l0_1) else (some false))
theorem cross_Proper.mono_l : ∀ k, (∀ y0 y1 y2 y3 y4 y5 y6, LeO (cross_Proper.l0 k y0 y1 y2 y3 y4 y5 y6) (cross_Proper.l0 (k + 1) y0 y1 y2 y3 y4 y5 y6)) ∧ (∀ y0 y1 y2 y3 y4 y5, LeO (cross_Proper.l1 k y0 y1 y2 y3 y4 y5) (cross_Proper.l1 (k + 1) y0 y1 y2 y3 y4 y5)) ∧ (∀ y0 y1 y2 y3 y4 y5 y6 y7 y8 y9 y10 y11, LeO (cross_Proper.l2 k y0 y1 y2 y3 y4 y5 y6 y7 y8 y9 y10 y11) (cross_Proper.l2 (k + 1) y0 y1 y2 y3 y4 y5 y6 y7 y8 y9 y10 y11))
 | 0 => ⟨fun _ _ _ _ _ _ _ r h => by simp [cross_Proper.l0] at h, fun _ _ _ _ _ _ r h => by simp [cross_Proper.l1] at h, fun _ _ _ _ _ _ _ _ _ _ _ _ r h => by simp [cross_Proper.l2] at h⟩
 | k + 1 => by
  obtain ⟨ih0, ih1, ih2⟩ := cross_Proper.mono_l k; refine ⟨?_, ?_, ?_⟩
  ·intro y0 y1 y2 y3 y4 y5 y6
   unfold cross_Proper.l0
   repeat' first
   | (with_reducible exact ih0 _ _ _ _ _ _ _)
   | (with_reducible exact ih1 _ _ _ _ _ _)
   | (with_reducible exact ih2 _ _ _ _ _ _ _ _ _ _ _ _)
   | (with_reducible exact cross_First.mono _ _ _ _)
   | (with_reducible exact cross_drawn.mono _ _ _ _)
   | (with_reducible exact LeO.refl _)
   | (with_reducible exact LeO.none _)
   | (with_reducible refine LeO.ite ?_ ?_)
   | (with_reducible refine LeO.bind ?_ (fun _ => ?_))
   | exact LeO.none _
   | refine LeO.ite ?_ ?_
   | refine LeO.bind ?_ (fun _ => ?_)
  ·intro y0 y1 y2 y3 y4 y5
   unfold cross_Proper.l1
   repeat' first
   | (with_reducible exact ih0 _ _ _ _ _ _ _)
   | (with_reducible exact ih1 _ _ _ _ _ _)
   | (with_reducible exact ih2 _ _ _ _ _ _ _ _ _ _ _ _)
   | (with_reducible exact cross_First.mono _ _ _ _)
   | (with_reducible exact cross_drawn.mono _ _ _ _)
   | (with_reducible exact LeO.refl _)
   | (with_reducible exact LeO.none _)
   | (with_reducible refine LeO.ite ?_ ?_)
   | (with_reducible refine LeO.bind ?_ (fun _ => ?_))
   | exact LeO.none _
   | refine LeO.ite ?_ ?_
   | refine LeO.bind ?_ (fun _ => ?_)
  ·intro y0 y1 y2 y3 y4 y5 y6 y7 y8 y9 y10 y11
   unfold cross_Proper.l2
   repeat' first
   | (with_reducible exact ih0 _ _ _ _ _ _ _)
   | (with_reducible exact ih1 _ _ _ _ _ _)
   | (with_reducible exact ih2 _ _ _ _ _ _ _ _ _ _ _ _)
   | (with_reducible exact cross_First.mono _ _ _ _)
   | (with_reducible exact cross_drawn.mono _ _ _ _)
   | (with_reducible exact LeO.refl _)
   | (with_reducible exact LeO.none _)
   | (with_reducible refine LeO.ite ?_ ?_)
   | (with_reducible refine LeO.bind ?_ (fun _ => ?_))
   | exact LeO.none _
   | refine LeO.ite ?_ ?_
   | refine LeO.bind ?_ (fun _ => ?_)
theorem cross_Proper.mono : ∀ a0 a1 a2 k, LeO (cross_Proper.f k a0 a1 a2) (cross_Proper.f (k + 1) a0 a1 a2) := by
 intro a0 a1 a2 k; obtain ⟨ih0, ih1, ih2⟩ := cross_Proper.mono_l k
 unfold cross_Proper.f
 repeat' first
   | (with_reducible exact ih0 _ _ _ _ _ _ _)
   | (with_reducible exact ih1 _ _ _ _ _ _)
   | (with_reducible exact ih2 _ _ _ _ _ _ _ _ _ _ _ _)
   | (with_reducible exact cross_First.mono _ _ _ _)
   | (with_reducible exact cross_drawn.mono _ _ _ _)
   | (with_reducible exact LeO.refl _)
   | (with_reducible exact LeO.none _)
   | (with_reducible refine LeO.ite ?_ ?_)
   | (with_reducible refine LeO.bind ?_ (fun _ => ?_))
   | exact LeO.none _
   | refine LeO.ite ?_ ?_
   | refine LeO.bind ?_ (fun _ => ?_)
def cross_Proper.T18 : Bool × List (List Nat × List Nat) := (true, [([], []), ([0], [0]), ([], []), ([1, 2], [1, 2]), ([3], [3]), ([4], [4]), ([5, 4], [4, 5]), ([4], [4]), ([6, 7, 4], [4, 6, 7]), ([4, 8], [4, 8]), ([9, 4], [9]), ([10], [10]), ([10], [10]), ([12, 10], [10, 12]), ([11, 13, 10], [10, 11, 13]), ([14, 10], [10, 14]), ([10], [10]), ([10], [10]), ([17, 10], [10, 17]), ([16, 18, 10], [10, 16, 18]), ([19, 10], [10, 19]), ([10], [10]), ([15, 20, 21, 10, 10], [10, 15, 20, 21]), ([10, 22], [10, 22])])
def cross_Proper.B18 : List Nat := [0, 1, 0, 7, 15, 31, 63, 31, 255, 511, 1023, 2047, 2047, 6143, 16383, 32767, 2047, 2047, 133119, 460799, 985087, 2047, 4194303, 8388607]
theorem cross_Proper.tab18 : rtab .any (opsOf Try.f23 18) = cross_Proper.T18 := by kernel_rfl
theorem cross_Proper.bits18 : waitsOk cross_Proper.T18.2 cross_Proper.B18 = true := by kernel_rfl
set_option maxHeartbeats 8000000 in
set_option maxRecDepth 100000 in
theorem cross_Proper.calls (k : Nat) (a0_0 : Int) (A0_1 : Option Addr) (c0_1 : Nat) (l0_1 : List (S62)) (A1 : Option Addr) (c1 : Nat) (l1 : List (S23)) (r : Bool) (w : World) (hr0_1 : Kd.C k62 w A0_1 l0_1.length l0_1) (hc0_1 : l0_1.length ≤ c0_1) (hr1 : Kd.C k23 w A1 l1.length l1) (hc1 : l1.length ≤ c1) (h : cross_Proper.f k a0_0 l0_1 l1 = some r) :
  Calls Try.prog 23 #[.agg #[.int .i64 a0_0, .slice A0_1 l0_1.length c0_1], .slice A1 l1.length c1] w fun e w' => e = .returned (.bool r) ∧ Below w.heap.size w w' := by
 have hu31 := Try.underlying31; have hu23 := Try.underlying23; have hu62 := Try.underlying62; have HR0_1 := Aside0.mk hr0_1; have HC0_1 := Aside0.mk hc0_1; clear hr0_1 hc0_1; have HR1 := Aside0.mk hr1; have HC1 := Aside0.mk hc1; clear hr1 hc1; have HB := Aside0.mk (Below.refl w.heap.size w); have H : ((cross_drawn.f k a0_0 l0_1 l1).bind fun t188 => (if t188 = 0 then (cross_Proper.l0 k l1 (([] : List (S23))) l1 (l1.length : Int) 0 a0_0 l0_1) else (some false))) = some r := h; clear h; replace H := Option.bind_eq_some_iff.mp H; obtain ⟨t188, A30, H⟩ := H; (try dsimp only at H); have A3 := Aside0.mk A30; clear A30
 by_cases c4 : t188 = 0
 ·rw [if_pos c4] at H; have c4b0 : (t188 == 0) = true := beq_iff_eq.mpr c4; have c4b1 : (t188 != 0) = false := bne_eq_false_iff_eq.mpr c4; clear c4; obtain ⟨y189, hy189⟩ : ∃ y_ : List (S23), y_ = (([] : List (S23))) := ⟨_, rfl⟩; replace H : (cross_Proper.l0 k l1 y189 l1 (l1.length : Int) 0 a0_0 l0_1) = some r := by first | (rw [hy189]; with_reducible exact H) | (have H2_ := (Option.bind_some _ _).symm.trans H; rw [hy189]; with_reducible exact H2_) | (have H2_ := (Option.bind_some _ _).symm.trans H; with_reducible exact H2_) | with_reducible exact H | (rw [hy189]; exact H) | exact H
  have Ny189 := Aside0.mk hy189; clear hy189; have H' := Aside0.mk H; clear H
  go_enter Try.func23, Try.ntmps23
  have hmm := @run_makeMap Try.prog
  go_wp2_with (first | ((with_reducible refine gate_dst (N := 2) rfl ?_); refine be_ 2 #[.int .i64 a0_0, .slice A0_1 l0_1.length c0_1] 31 ?_; intro gb187 hg w5 hbox hb; have BK187 := Aside0.mk (hbox); have GW187 := wq (hb0 HB) hg; have GE187 := wq (hb0 HB) hg; replace HB := hs (hb0 HB) hb; clear hb hbox hg; have hcz6_0 : w5.cell? ⟨gb187, 0, none⟩ = some (.int .i64 a0_0) := bc BK187 0; have hcz6_1 : w5.cell? ⟨gb187, 1, none⟩ = some (.slice A0_1 l0_1.length c0_1) := bc BK187 1; have hfz6_0 := blk_frozen BK187.out 0; have hfz6_1 := blk_frozen BK187.out 1) | ((with_reducible refine gate_callee (f := 44) rfl ?_); refine gl_ (some 19) Try.func44 #[.agg #[.int .i64 a0_0, .slice A0_1 l0_1.length c0_1], .slice A1 l1.length c1] ?_; (with_reducible refine (cross_drawn.calls k a0_0 _ _ l0_1 _ _ l1 t188 _ ?side1 ?side2 ?side3 ?side4 A3.out).mono ?_); (case side1 => repeat (first | exact (Kd.C_below HR0_1.out HB.out) | (with_reducible refine Kd.C_alloc ?_ _) | (with_reducible refine Kd.C_drewN ?_ _) | (with_reducible refine Kd.C_drew ?_))); (case side2 => exact HC0_1.out); (case side3 => repeat (first | exact (Kd.C_below HR1.out HB.out) | (with_reducible refine Kd.C_alloc ?_ _) | (with_reducible refine Kd.C_drewN ?_ _) | (with_reducible refine Kd.C_drew ?_))); (case side4 => exact HC1.out); rintro e w7 ⟨rfl, hb⟩; refine ⟨_, rfl, ?_⟩; replace BK187 := kx BK187 hb; replace HB := hs (hb1 HB GE187) hb; (try clear hb); (try clear hb2); (try clear hk); (try clear hi)))
  have MO : Aside0 (Mp w (w7.alloc (Obj.map #[] 0)) w7.heap.size []) := ⟨Mp.new HB.out⟩
  obtain ⟨B5, hB5⟩ : ∃ B5, w7.heap.size = B5 := ⟨_, rfl⟩
  have MO1 := MO.out
  clear MO
  rw [hB5] at MO1 ⊢
  have MO := Aside0.mk MO1
  clear MO1 hB5
  replace BK187 := Aside0.mk (blk_alloc BK187.out (Obj.map #[] 0))
  replace HB := Aside0.mk (below_alloc HB.out (Obj.map #[] 0))
  clear hmm
  go_loopg [24] k (fun kq v24 w' => ∃ (x5_1 : List (S23)) (x24_1 : Int), v24 = .int .i64 x24_1 ∧ Aside0 (cross_Proper.l0 kq l1 x5_1 l1 (l1.length : Int) x24_1 a0_0 l0_1 = some r) ∧ Aside0 (kq ≤ k) ∧ Aside0 (Mp w w' B5 x5_1) ∧ Aside0 (w'.heap[gb187]? = some (.cells #[.int .i64 a0_0, (.slice A0_1 l0_1.length c0_1)] 31 (0, 0))) ∧ Aside0 (Below w.heap.size w w'))
  case atStart => exact ⟨(y189), (0), (by first | rfl | (simp; done) | (simp [*]; done)), H', ⟨Nat.le_refl _⟩, ⟨by rw [Ny189.out]; exact MO.out⟩, ⟨bx BK187⟩, ⟨hb1 HB GE187⟩⟩
  case round =>
   clear H'
   try clear c1
   try clear c2
   try clear p2
   try clear c4
   try clear c4b0
   try clear c4b1
   try clear hcz6_0
   try clear hcz6_1
   try clear hfz6_0
   try clear hfz6_1
   obtain ⟨x5_1, x24_1, rfl, HA, HK1, HO_5, BK187, HB⟩ := hrel
   obtain ⟨D5, ho5, hm5, hg5⟩ := HO_5.out
   have MO := Aside0.mk ho5; have HIM := Aside0.mk ho5.isMap; have MP := Aside0.mk hm5; have MG := Aside0.mk hg5; clear ho5 hm5 hg5 HO_5
   cases gk with
   | zero => exact absurd HA.out (by simp [cross_Proper.l0])
   | succ k1 =>
    have H := HA.out; clear HA; simp only [cross_Proper.l0] at H
    by_cases c10 : x24_1 < (l1.length : Int)
    ·rw [if_pos c10] at H; have c10b0 : decide (x24_1 < (l1.length : Int)) = true := decide_eq_true c10; clear c10
     by_cases c11 : 0 ≤ x24_1
     ·rw [if_pos c11] at H; have c11b0 : decide (0 ≤ x24_1) = true := decide_eq_true c11; clear c11
      by_cases c12 : x24_1 < (l1.length : Int)
      ·rw [if_pos c12] at H; have c12b0 : decide (x24_1 < (l1.length : Int)) = true := decide_eq_true c12; clear c12; replace H := Option.bind_eq_some_iff.mp H; obtain ⟨⟨t194, t195⟩, A130, H⟩ := H; (try dsimp only at H); have A13 := Aside0.mk A130; clear A130
       by_cases c14 : t195 = true
       ·subst c14; rw [if_pos rfl] at H; obtain rfl := Option.some.inj H; have p192 : 0 ≤ (x24_1 : Int) := of_decide_eq_true (by first | (with_reducible assumption) | assumption); have q192 : x24_1 < (l1.length : Int) := of_decide_eq_true (by first | (with_reducible assumption) | assumption); obtain ⟨ad192, e192, hx192_0, hx192_1⟩ := at_T23 HR1.out x24_1 p192 q192
        cases e192
        replace hx192_0 := (HB.out.cell (World.block_lt_of_cell? w _ hx192_0)).trans hx192_0; replace hx192_1 := (HB.out.cell (World.block_lt_of_cell? w _ hx192_1)).trans hx192_1; replace p192 := eq_true p192; replace q192 := eq_true q192
        have HW := Aside0.mk (hasF_wf A13.out); have HHS := Aside0.mk (hasF_is A13.out MP.out)
        go_wp2_with (first | ((with_reducible refine gate_dst (N := 7) rfl ?_); refine be_ 7 #[.int .i64 0, .int .i64 0] 23 ?_; intro gb193 hg w15 hbox hb; have NM := Aside0.mk (show B5 ≠ gb193 from by have h_ := MO.out.lt; omega); replace MO := Aside0.mk (own_blk MO.out (hb.block B5 MO.out.lt)); have BK193 := Aside0.mk (hbox); have GE193 := wq (hb1 HB GE187) hg; replace HB := hs (hb1 HB GE187) hb; have NB_ := lx BK187 hg; have NC_ := gx BK187 hg; replace BK187 := kx BK187 hb; clear hb hbox hg; have hz0_ : w15.cell? ⟨gb193, 0, none⟩ = some (.int .i64 0) := bc BK193 0; have hz1_ : w15.cell? ⟨gb193, 1, none⟩ = some (.int .i64 0) := bc BK193 1; have hf0_ := blk_frozen BK193.out 0; have hf1_ := blk_frozen BK193.out 1) | ((with_reducible refine gate_store (t := 23) (p := 7) rfl ?_); refine store_event (t := 23) (p := 7) (v := ?vo_w15) (w1 := ((w15.setCell ⟨gb193, 0, none⟩ (.int .i64 ((rd_T23 l1 x24_1).f0))).setCell ⟨gb193, 1, none⟩ (.int .i64 ((rd_T23 l1 x24_1).f1)))) ?hg ?ho ?hn ?hr ?_; (case ho => rfl); (case hg => rfl); (case hn => rfl); (case hr => first | (go_simp; done) | (go_simp; rfl)); intro ws_ hw; clear hz0_ hz1_ hf0_ hf1_; replace MO := Aside0.mk (show ws_.ownsMap Try.prog 23 RI B5 x5_1.length D5 from by rw [hw]; exact ((MO.out.setCell (a := ⟨gb193, 0, none⟩) NM.out _).setCell (a := ⟨gb193, 1, none⟩) NM.out _)); replace BK187 : Aside0 (ws_.heap[gb187]? = some (.cells #[.int .i64 a0_0, (.slice A0_1 l0_1.length c0_1)] 31 (0, 0))) := ⟨by rw [hw]; exact blk_far (blk_far BK187.out (by first | exact NB_.out | exact NC_.out) _) (by first | exact NB_.out | exact NC_.out) _⟩; replace BK193 : Aside0 (ws_.heap[gb193]? = some (.cells #[.int .i64 ((rd_T23 l1 x24_1).f0), .int .i64 ((rd_T23 l1 x24_1).f1)] 23 (0, 0))) := ⟨by rw [hw]; exact blk_put (blk_put BK193.out 0 _ rfl) 1 _ rfl⟩; replace HB : Aside0 (Below w.heap.size w ws_) := ⟨by rw [hw]; exact below_set (below_set HB.out GE193.out) GE193.out⟩; clear hw; have hz0_ : ws_.cell? ⟨gb193, 0, none⟩ = some (.int .i64 ((rd_T23 l1 x24_1).f0)) := bc BK193 0; have hz1_ : ws_.cell? ⟨gb193, 1, none⟩ = some (.int .i64 ((rd_T23 l1 x24_1).f1)) := bc BK193 1) | (at_lookup; refine wpList_lookup_own_ok_int _ rfl _ _ 74 rfl 23 3 .i64 lawP Try.underlying74 Try.underlying3 (zero3 _) B5 x5_1.length D5 rfl MO.out _ _ rfl (keyP_mk HW.out.1 HW.out.2) ?_; intro c5_ _ _; rw [HHS.out]))
        go_ret
        exact ⟨by rfl, hb2 HB GE187 GE193⟩
       ·replace c14 := Bool.eq_false_iff.mpr c14; subst c14; rw [if_neg (show ¬ (false = true) by decide)] at H
        by_cases c20 : x5_1.length < 8796093022208
        ·rw [if_pos c20] at H; have LMc20 := Aside0.mk c20; clear c20; obtain ⟨y196, hy196⟩ : ∃ y_ : List (S23), y_ = (x5_1 ++ [(⟨(rd_T23 l1 x24_1).f0, (rd_T23 l1 x24_1).f1⟩ : S23)]) := ⟨_, rfl⟩; replace H : (cross_Proper.l0 k1 l1 y196 l1 (l1.length : Int) (wrap64 (x24_1 + 1)) a0_0 l0_1) = some r := by first | (rw [hy196]; with_reducible exact H) | (have H2_ := (Option.bind_some _ _).symm.trans H; rw [hy196]; with_reducible exact H2_) | (have H2_ := (Option.bind_some _ _).symm.trans H; with_reducible exact H2_) | with_reducible exact H | (rw [hy196]; exact H) | exact H
         have Ny196 := Aside0.mk hy196; clear hy196; have H' := Aside0.mk H; clear H; have p192 : 0 ≤ (x24_1 : Int) := of_decide_eq_true (by first | (with_reducible assumption) | assumption); have q192 : x24_1 < (l1.length : Int) := of_decide_eq_true (by first | (with_reducible assumption) | assumption); obtain ⟨ad192, e192, hx192_0, hx192_1⟩ := at_T23 HR1.out x24_1 p192 q192
         cases e192
         replace hx192_0 := (HB.out.cell (World.block_lt_of_cell? w _ hx192_0)).trans hx192_0; replace hx192_1 := (HB.out.cell (World.block_lt_of_cell? w _ hx192_1)).trans hx192_1; replace p192 := eq_true p192; replace q192 := eq_true q192
         have HW := Aside0.mk (hasF_wf A13.out); have HHS := Aside0.mk (hasF_is A13.out MP.out)
         have HX := Aside0.mk (wf_idx (of_eq_true p192) (of_eq_true q192) HR1.out.2.1)
         go_wp2_with (first | ((with_reducible refine gate_dst (N := 7) rfl ?_); refine be_ 7 #[.int .i64 0, .int .i64 0] 23 ?_; intro gb193 hg w21 hbox hb; have NM := Aside0.mk (show B5 ≠ gb193 from by have h_ := MO.out.lt; omega); replace MO := Aside0.mk (own_blk MO.out (hb.block B5 MO.out.lt)); have BK193 := Aside0.mk (hbox); have GE193 := wq (hb1 HB GE187) hg; replace HB := hs (hb1 HB GE187) hb; have NB_ := lx BK187 hg; have NC_ := gx BK187 hg; replace BK187 := kx BK187 hb; clear hb hbox hg; have hz0_ : w21.cell? ⟨gb193, 0, none⟩ = some (.int .i64 0) := bc BK193 0; have hz1_ : w21.cell? ⟨gb193, 1, none⟩ = some (.int .i64 0) := bc BK193 1; have hf0_ := blk_frozen BK193.out 0; have hf1_ := blk_frozen BK193.out 1) | ((with_reducible refine gate_store (t := 23) (p := 7) rfl ?_); refine store_event (t := 23) (p := 7) (v := ?vo_w21) (w1 := ((w21.setCell ⟨gb193, 0, none⟩ (.int .i64 ((rd_T23 l1 x24_1).f0))).setCell ⟨gb193, 1, none⟩ (.int .i64 ((rd_T23 l1 x24_1).f1)))) ?hg ?ho ?hn ?hr ?_; (case ho => rfl); (case hg => rfl); (case hn => rfl); (case hr => first | (go_simp; done) | (go_simp; rfl)); intro ws_ hw; clear hz0_ hz1_ hf0_ hf1_; replace MO := Aside0.mk (show ws_.ownsMap Try.prog 23 RI B5 x5_1.length D5 from by rw [hw]; exact ((MO.out.setCell (a := ⟨gb193, 0, none⟩) NM.out _).setCell (a := ⟨gb193, 1, none⟩) NM.out _)); replace BK187 : Aside0 (ws_.heap[gb187]? = some (.cells #[.int .i64 a0_0, (.slice A0_1 l0_1.length c0_1)] 31 (0, 0))) := ⟨by rw [hw]; exact blk_far (blk_far BK187.out (by first | exact NB_.out | exact NC_.out) _) (by first | exact NB_.out | exact NC_.out) _⟩; replace BK193 : Aside0 (ws_.heap[gb193]? = some (.cells #[.int .i64 ((rd_T23 l1 x24_1).f0), .int .i64 ((rd_T23 l1 x24_1).f1)] 23 (0, 0))) := ⟨by rw [hw]; exact blk_put (blk_put BK193.out 0 _ rfl) 1 _ rfl⟩; replace HB : Aside0 (Below w.heap.size w ws_) := ⟨by rw [hw]; exact below_set (below_set HB.out GE193.out) GE193.out⟩; clear hw; have hz0_ : ws_.cell? ⟨gb193, 0, none⟩ = some (.int .i64 ((rd_T23 l1 x24_1).f0)) := bc BK193 0; have hz1_ : ws_.cell? ⟨gb193, 1, none⟩ = some (.int .i64 ((rd_T23 l1 x24_1).f1)) := bc BK193 1) | (at_lookup; refine wpList_lookup_own_ok_int _ rfl _ _ 74 rfl 23 3 .i64 lawP Try.underlying74 Try.underlying3 (zero3 _) B5 x5_1.length D5 rfl MO.out _ _ rfl (keyP_mk HW.out.1 HW.out.2) ?_; intro c5_ _ _; rw [HHS.out]) | (at_mapUpdate; refine wpList_mapUpdate_own _ rfl _ _ _ 74 rfl 23 3 lawP Try.underlying74 RI B5 x5_1.length D5 rfl MO.out (by have := LMc20.out; simp only [maxLen]; omega) _ _ _ rfl rfl (keyP_mk HW.out.1 HW.out.2) (.lit (.int .i64 x24_1)) [] (plainElem_int Try.underlying3 HX.out) ?_; intro wu_ hown hgr; replace BK187 := Aside0.mk (blk_grown BK187.out hgr (fun e_ => own_ne MO.out BK187.out (Option.some.inj e_).symm)); replace HB := Aside0.mk (below_grown HB.out hgr MG.out); replace MO := Aside0.mk hown; clear hown hgr hz0_ hz1_ BK193))
         go_roundg k1
         case measure => have := HK1.out; omega
         case rel => exact ⟨(y196), (wrap64 (x24_1 + 1)), (by first | rfl | (simp; done) | (simp [*]; done)), H', ⟨by have := HK1.out; omega⟩, ⟨⟨_, by rw [Ny196.out, List.length_append]; exact MO.out, by rw [Ny196.out]; exact MP.out.put HIM.out HW.out.1 HW.out.2 _, MG.out⟩⟩, ⟨bx BK187⟩, ⟨hb2 HB GE187 GE193⟩⟩
        ·rw [if_neg c20] at H; exact absurd H (by simp)
      ·rw [if_neg c12] at H; exact absurd H (by simp)
     ·rw [if_neg c11] at H; exact absurd H (by simp)
    ·rw [if_neg c10] at H; have c10b0 : decide (x24_1 < (l1.length : Int)) = false := decide_eq_false c10; clear c10; have H' := Aside0.mk H; clear H
     go_wp2
     go_loopg [42] k1 (fun kq v42 w' => ∃ (x42_2 : Int), v42 = .int .i64 x42_2 ∧ Aside0 (cross_Proper.l1 kq l1 l1 (l1.length : Int) x42_2 a0_0 l0_1 = some r) ∧ Aside0 (kq ≤ k1) ∧ Aside0 (w'.heap[gb187]? = some (.cells #[.int .i64 a0_0, (.slice A0_1 l0_1.length c0_1)] 31 (0, 0))) ∧ Aside0 (Below w.heap.size w w'))
     case atStart => exact ⟨(0), (by first | rfl | (simp; done) | (simp [*]; done)), H', ⟨Nat.le_refl _⟩, ⟨bx BK187⟩, ⟨hb1 HB GE187⟩⟩
     case round =>
      clear H'
      try clear c1
      try clear p1
      try clear q1
      try clear hx1
      try clear c2
      try clear p2
      try clear c4
      try clear c4b0
      try clear c4b1
      try clear p6
      try clear c7
      try clear c10
      try clear c10b0
      try clear c11
      try clear c11b0
      try clear c12
      try clear c12b0
      try clear c14
      try clear c16
      try clear p19
      try clear q19
      try clear hx19
      try clear c20
      try clear c22
      try clear c23
      try clear hcz17_0
      try clear hcz17_1
      try clear hcz23_0
      try clear hcz23_1
      try clear hcz26_0
      try clear hcz26_1
      try clear hcz6_0
      try clear hcz6_1
      try clear hfz17_0
      try clear hfz17_1
      try clear hfz23_0
      try clear hfz23_1
      try clear hfz26_0
      try clear hfz26_1
      try clear hfz6_0
      try clear hfz6_1
      try clear hx192_0
      try clear hx192_1
      try clear p192
      try clear p2
      try clear q192
      obtain ⟨x42_2, rfl, HA, HK2, BK187, HB⟩ := hrel
      cases gk with
      | zero => exact absurd HA.out (by simp [cross_Proper.l1])
      | succ k2 =>
       have H := HA.out; clear HA; simp only [cross_Proper.l1] at H
       by_cases c28 : x42_2 < (l1.length : Int)
       ·rw [if_pos c28] at H; have c28b0 : decide (x42_2 < (l1.length : Int)) = true := decide_eq_true c28; clear c28
        by_cases c29 : 0 ≤ x42_2
        ·rw [if_pos c29] at H; have c29b0 : decide (0 ≤ x42_2) = true := decide_eq_true c29; clear c29
         by_cases c30 : x42_2 < (l1.length : Int)
         ·rw [if_pos c30] at H; have c30b0 : decide (x42_2 < (l1.length : Int)) = true := decide_eq_true c30; clear c30; have H' := Aside0.mk H; clear H; have p202 : 0 ≤ (x42_2 : Int) := of_decide_eq_true (by first | (with_reducible assumption) | assumption); have q202 : x42_2 < (l1.length : Int) := of_decide_eq_true (by first | (with_reducible assumption) | assumption); obtain ⟨ad202, e202, hx202_0, hx202_1⟩ := at_T23 HR1.out x42_2 p202 q202
          cases e202
          replace hx202_0 := (HB.out.cell (World.block_lt_of_cell? w _ hx202_0)).trans hx202_0; replace hx202_1 := (HB.out.cell (World.block_lt_of_cell? w _ hx202_1)).trans hx202_1; replace p202 := eq_true p202; replace q202 := eq_true q202
          go_wp2_with (first | ((with_reducible refine gate_dst (N := 11) rfl ?_); refine be_ 11 #[.int .i64 0, .int .i64 0] 23 ?_; intro gb203 hg w31 hbox hb; have BK203 := Aside0.mk (hbox); have GW203 := wq (hb1 HB GE187) hg; have GE203 := wq (hb1 HB GE187) hg; replace HB := hs (hb1 HB GE187) hb; have NB187_203 := lx BK187 hg; have NB203_187 := gx BK187 hg; replace BK187 := kx BK187 hb; clear hb hbox hg; have hnb32 := NB203_187.out; have hnc32 := NB187_203.out; have hcz33_0 : w31.cell? ⟨gb203, 0, none⟩ = some (.int .i64 0) := bc BK203 0; have hcz33_1 : w31.cell? ⟨gb203, 1, none⟩ = some (.int .i64 0) := bc BK203 1; have hfz33_0 := blk_frozen BK203.out 0; have hfz33_1 := blk_frozen BK203.out 1; have hcz34_0 : w31.cell? ⟨gb187, 0, none⟩ = some (.int .i64 a0_0) := bc BK187 0; have hcz34_1 : w31.cell? ⟨gb187, 1, none⟩ = some (.slice A0_1 l0_1.length c0_1) := bc BK187 1; have hfz34_0 := blk_frozen BK187.out 0; have hfz34_1 := blk_frozen BK187.out 1))
          go_loopg [50] k2 (fun kq v50 w' => ∃ (x50_3 : Int), v50 = .int .i64 x50_3 ∧ Aside0 (cross_Proper.l2 kq l1 x42_2 l1 (l1.length : Int) x42_2 l0_1 (l0_1.length : Int) x50_3 a0_0 l0_1 ((rd_T23 l1 x42_2).f0) ((rd_T23 l1 x42_2).f1) = some r) ∧ Aside0 (kq ≤ k2) ∧ Aside0 (w'.heap[gb187]? = some (.cells #[.int .i64 a0_0, (.slice A0_1 l0_1.length c0_1)] 31 (0, 0))) ∧ Aside0 (w'.heap[gb203]? = some (.cells #[.int .i64 ((rd_T23 l1 x42_2).f0), .int .i64 ((rd_T23 l1 x42_2).f1)] 23 (0, 0))) ∧ Aside0 (Below w.heap.size w w'))
          case atStart => exact ⟨(0), (by first | rfl | (simp; done) | (simp [*]; done)), H', ⟨Nat.le_refl _⟩, ⟨bx1 BK187 NB187_203⟩, ⟨bp BK203⟩, ⟨hb2 HB GE187 GE203⟩⟩
          case round =>
           clear H'
           try clear c1
           try clear p1
           try clear q1
           try clear hx1
           try clear c2
           try clear p2
           try clear q2
           try clear hx2
           try clear c3
           try clear c4
           try clear c4b0
           try clear c4b1
           try clear p6
           try clear c7
           try clear c10
           try clear c10b0
           try clear c11
           try clear c11b0
           try clear c12
           try clear c12b0
           try clear c14
           try clear c16
           try clear p19
           try clear q19
           try clear hx19
           try clear c20
           try clear p20
           try clear q20
           try clear hx20
           try clear c22
           try clear c23
           try clear c28
           try clear c28b0
           try clear c29
           try clear c29b0
           try clear c30
           try clear c30b0
           try clear c32
           try clear hcz17_0
           try clear hcz17_1
           try clear hcz23_0
           try clear hcz23_1
           try clear hcz26_0
           try clear hcz26_1
           try clear hcz33_0
           try clear hcz33_1
           try clear hcz34_0
           try clear hcz34_1
           try clear hcz6_0
           try clear hcz6_1
           try clear hfz17_0
           try clear hfz17_1
           try clear hfz23_0
           try clear hfz23_1
           try clear hfz26_0
           try clear hfz26_1
           try clear hfz33_0
           try clear hfz33_1
           try clear hfz34_0
           try clear hfz34_1
           try clear hfz6_0
           try clear hfz6_1
           try clear hx192_0
           try clear hx192_1
           try clear hx202_0
           try clear hx202_1
           try clear p1
           try clear p19
           try clear p192
           try clear p2
           try clear p202
           try clear p6
           try clear q1
           try clear q19
           try clear q192
           try clear q202
           obtain ⟨x50_3, rfl, HA, HK3, BK187, BK203, HB⟩ := hrel
           cases gk with
           | zero => exact absurd HA.out (by simp [cross_Proper.l2])
           | succ k3 =>
            have H := HA.out; clear HA; simp only [cross_Proper.l2] at H
            by_cases c35 : x50_3 < (l0_1.length : Int)
            ·rw [if_pos c35] at H; have c35b0 : decide (x50_3 < (l0_1.length : Int)) = true := decide_eq_true c35; clear c35
             by_cases c36 : 0 ≤ x50_3
             ·rw [if_pos c36] at H; have c36b0 : decide (0 ≤ x50_3) = true := decide_eq_true c36; clear c36
              by_cases c37 : x50_3 < (l0_1.length : Int)
              ·rw [if_pos c37] at H; have c37b0 : decide (x50_3 < (l0_1.length : Int)) = true := decide_eq_true c37; clear c37
               by_cases c38 : ((rd_T62 l0_1 x50_3).f0) = x42_2
               ·rw [if_pos c38] at H; have c38b0 : (((rd_T62 l0_1 x50_3).f0) == x42_2) = true := beq_iff_eq.mpr c38; have c38b1 : (((rd_T62 l0_1 x50_3).f0) != x42_2) = false := bne_eq_false_iff_eq.mpr c38; clear c38; have H' := Aside0.mk H; clear H; have p204 : 0 ≤ (x50_3 : Int) := of_decide_eq_true (by first | (with_reducible assumption) | assumption); have q204 : x50_3 < (l0_1.length : Int) := of_decide_eq_true (by first | (with_reducible assumption) | assumption); obtain ⟨ad204, e204, hx204_0, hx204_1⟩ := at_T62 HR0_1.out x50_3 p204 q204
                cases e204
                replace hx204_0 := (HB.out.cell (World.block_lt_of_cell? w _ hx204_0)).trans hx204_0; replace hx204_1 := (HB.out.cell (World.block_lt_of_cell? w _ hx204_1)).trans hx204_1; replace p204 := eq_true p204; replace q204 := eq_true q204
                try go_wp2_with (first | ((with_reducible refine gate_dst (N := 13) rfl ?_); refine be_ 13 #[.int .i64 0, .int .i64 0] 62 ?_; intro gb205 hg w39 hbox hb; have BK205 := Aside0.mk (hbox); have GW205 := wq (hb2 HB GE187 GE203) hg; have GE205 := wq (hb2 HB GE187 GE203) hg; replace HB := hs (hb2 HB GE187 GE203) hb; have NB187_205 := lx BK187 hg; have NB205_187 := gx BK187 hg; replace BK187 := kx BK187 hb; have NB203_205 := lx BK203 hg; have NB205_203 := gx BK203 hg; replace BK203 := kx BK203 hb; clear hb hbox hg; have hnb40 := NB205_187.out; have hnc40 := NB187_205.out; have hnb41 := NB205_203.out; have hnc41 := NB203_205.out; have hcz42_0 : w39.cell? ⟨gb205, 0, none⟩ = some (.int .i64 0) := bc BK205 0; have hcz42_1 : w39.cell? ⟨gb205, 1, none⟩ = some (.int .i64 0) := bc BK205 1; have hfz42_0 := blk_frozen BK205.out 0; have hfz42_1 := blk_frozen BK205.out 1))
                have n0_ : Aside0 (((w39.setCell ⟨gb205, 0, none⟩ (.int .i64 ((rd_T62 l0_1 x50_3).f0))).setCell ⟨gb205, 1, none⟩ (.int .i64 ((rd_T62 l0_1 x50_3).f1))).heap[gb187]? = some (.cells #[.int .i64 a0_0, .slice (some ad204) l0_1.length c0_1] 31 (0, 0))) := ⟨bx1 BK187 NB187_205⟩; have n1_ : Aside0 (((w39.setCell ⟨gb205, 0, none⟩ (.int .i64 ((rd_T62 l0_1 x50_3).f0))).setCell ⟨gb205, 1, none⟩ (.int .i64 ((rd_T62 l0_1 x50_3).f1))).heap[gb203]? = some (.cells #[.int .i64 ((rd_T23 l1 x42_2).f0), .int .i64 ((rd_T23 l1 x42_2).f1)] 23 (0, 0))) := ⟨bx1 BK203 NB203_205⟩; have n2_ : Aside0 (((w39.setCell ⟨gb205, 0, none⟩ (.int .i64 ((rd_T62 l0_1 x50_3).f0))).setCell ⟨gb205, 1, none⟩ (.int .i64 ((rd_T62 l0_1 x50_3).f1))).heap[gb205]? = some (.cells #[.int .i64 ((rd_T62 l0_1 x50_3).f0), .int .i64 ((rd_T62 l0_1 x50_3).f1)] 62 (0, 0))) := ⟨bp BK205⟩; have n3_ : Aside0 (Below w.heap.size w ((w39.setCell ⟨gb205, 0, none⟩ (.int .i64 ((rd_T62 l0_1 x50_3).f0))).setCell ⟨gb205, 1, none⟩ (.int .i64 ((rd_T62 l0_1 x50_3).f1)))) := ⟨hb3 HB GE187 GE203 GE205⟩
                (try clear BK187)
                (try clear BK203)
                (try clear BK205)
                (try clear HB)
                generalize ((w39.setCell ⟨gb205, 0, none⟩ (.int .i64 ((rd_T62 l0_1 x50_3).f0))).setCell ⟨gb205, 1, none⟩ (.int .i64 ((rd_T62 l0_1 x50_3).f1))) = w43 at n0_ n1_ n2_ n3_ ⊢; have BK187 := n0_; have BK203 := n1_; have BK205 := n2_; have HB := n3_; clear n0_ n1_ n2_ n3_; replace BK187 := bd BK187; replace BK203 := bd BK203; replace BK205 := bd BK205; replace HB := Aside0.mk (below_drew1 HB.out); refine start_ (n := 24) (S := fun w' => w'.cell? ⟨gb205, 0, none⟩ = some (.int .i64 ((rd_T62 l0_1 x50_3).f0)) ∧ w'.cell? ⟨gb205, 1, none⟩ = some (.int .i64 ((rd_T62 l0_1 x50_3).f1))) (ds := []) (pf 0 24) (by kernel_rfl) rfl rfl ⟨bc BK205 0, bc BK205 1⟩ (fun hHeld => ?_); refine with_tabW cross_Proper.tab18 cross_Proper.bits18 (fun HT_ HW_ => ?_); generalize w43.drew = w44 at BK187 BK203 BK205 HB hHeld ⊢; refine pu_ 0 (some 54) (pf 1 24) HT_ ?_; refine pu_ 2 (some 56) #[T_,F_,T_,F_,F_,F_,F_,F_,F_,F_,F_,F_,F_,F_,F_,F_,F_,F_,F_,F_,F_,F_,F_,F_] HT_ ?_; refine tk2_ 1 (some 55) (pf 3 24) HT_ HW_ hHeld ?_; refine pu_ 3 (some 57) (pf 4 24) HT_ ?_; refine pu_ 4 (some 58) (pf 5 24) HT_ ?_; refine pn_ 5 (some 59) (pf 6 24) HT_ ?_
                refine pn_ 6 (some 60) (pf 7 24) HT_ ?_; refine pn_ 7 (some 61) (pf 8 24) HT_ ?_; refine pn_ 8 (some 62) (pf 9 24) HT_ ?_; refine pu_ 9 (some 63) (pf 10 24) HT_ ?_; refine pu_ 10 (some 64) (pf 11 24) HT_ ?_; refine pn_ 11 (some 65) (pf 12 24) HT_ ?_; refine pn_ 12 (some 66) (pf 13 24) HT_ ?_; refine pn_ 13 (some 67) (pf 14 24) HT_ ?_; refine pn_ 14 (some 68) (pf 15 24) HT_ ?_; refine pn_ 15 (some 69) (pf 16 24) HT_ ?_; refine pn_ 16 (some 70) (pf 17 24) HT_ ?_; refine pn_ 17 (some 71) (pf 18 24) HT_ ?_; refine pn_ 18 (some 72) (pf 19 24) HT_ ?_; refine pn_ 19 (some 73) (pf 20 24) HT_ ?_
                refine pn_ 20 (some 74) (pf 21 24) HT_ ?_; refine pn_ 21 (some 75) (pf 22 24) HT_ ?_; refine pn_ 22 (some 76) (pf 23 24) HT_ ?_; refine pu_ 23 (some 77) (pf 24 24) HT_ ?_; refine done_ (done_of HT_.out (by kernel_rfl)) ?_
                try go_wp2
                go_roundg k3
                case measure => have := HK1.out; have := HK2.out; have := HK3.out; omega
                case rel => exact ⟨(wrap64 (x50_3 + 1)), (by first | rfl | (simp; done) | (simp [*]; done)), H', ⟨by have := HK1.out; have := HK2.out; have := HK3.out; omega⟩, ⟨bx BK187⟩, ⟨bx BK203⟩, ⟨hb3 HB GE187 GE203 GE205⟩⟩
               ·rw [if_neg c38] at H; have c38b0 : (((rd_T62 l0_1 x50_3).f0) == x42_2) = false := beq_eq_false_iff_ne.mpr c38; have c38b1 : (((rd_T62 l0_1 x50_3).f0) != x42_2) = true := bne_iff_ne.mpr c38
                by_cases c45 : ((rd_T62 l0_1 x50_3).f1) = x42_2
                ·rw [if_pos c45] at H; have c45b0 : (((rd_T62 l0_1 x50_3).f1) == x42_2) = true := beq_iff_eq.mpr c45; have c45b1 : (((rd_T62 l0_1 x50_3).f1) != x42_2) = false := bne_eq_false_iff_eq.mpr c45; clear c45; have H' := Aside0.mk H; clear H; have p204 : 0 ≤ (x50_3 : Int) := of_decide_eq_true (by first | (with_reducible assumption) | assumption); have q204 : x50_3 < (l0_1.length : Int) := of_decide_eq_true (by first | (with_reducible assumption) | assumption); obtain ⟨ad204, e204, hx204_0, hx204_1⟩ := at_T62 HR0_1.out x50_3 p204 q204
                 cases e204
                 replace hx204_0 := (HB.out.cell (World.block_lt_of_cell? w _ hx204_0)).trans hx204_0; replace hx204_1 := (HB.out.cell (World.block_lt_of_cell? w _ hx204_1)).trans hx204_1; replace p204 := eq_true p204; replace q204 := eq_true q204
                 try go_wp2_with (first | ((with_reducible refine gate_dst (N := 13) rfl ?_); refine be_ 13 #[.int .i64 0, .int .i64 0] 62 ?_; intro gb205 hg w46 hbox hb; have BK205 := Aside0.mk (hbox); have GW205 := wq (hb2 HB GE187 GE203) hg; have GE205 := wq (hb2 HB GE187 GE203) hg; replace HB := hs (hb2 HB GE187 GE203) hb; have NB187_205 := lx BK187 hg; have NB205_187 := gx BK187 hg; replace BK187 := kx BK187 hb; have NB203_205 := lx BK203 hg; have NB205_203 := gx BK203 hg; replace BK203 := kx BK203 hb; clear hb hbox hg; have hnb47 := NB205_187.out; have hnc47 := NB187_205.out; have hnb48 := NB205_203.out; have hnc48 := NB203_205.out; have hcz49_0 : w46.cell? ⟨gb205, 0, none⟩ = some (.int .i64 0) := bc BK205 0; have hcz49_1 : w46.cell? ⟨gb205, 1, none⟩ = some (.int .i64 0) := bc BK205 1; have hfz49_0 := blk_frozen BK205.out 0; have hfz49_1 := blk_frozen BK205.out 1))
                 have n0_ : Aside0 (((w46.setCell ⟨gb205, 0, none⟩ (.int .i64 ((rd_T62 l0_1 x50_3).f0))).setCell ⟨gb205, 1, none⟩ (.int .i64 ((rd_T62 l0_1 x50_3).f1))).heap[gb187]? = some (.cells #[.int .i64 a0_0, .slice (some ad204) l0_1.length c0_1] 31 (0, 0))) := ⟨bx1 BK187 NB187_205⟩; have n1_ : Aside0 (((w46.setCell ⟨gb205, 0, none⟩ (.int .i64 ((rd_T62 l0_1 x50_3).f0))).setCell ⟨gb205, 1, none⟩ (.int .i64 ((rd_T62 l0_1 x50_3).f1))).heap[gb203]? = some (.cells #[.int .i64 ((rd_T23 l1 x42_2).f0), .int .i64 ((rd_T23 l1 x42_2).f1)] 23 (0, 0))) := ⟨bx1 BK203 NB203_205⟩; have n2_ : Aside0 (((w46.setCell ⟨gb205, 0, none⟩ (.int .i64 ((rd_T62 l0_1 x50_3).f0))).setCell ⟨gb205, 1, none⟩ (.int .i64 ((rd_T62 l0_1 x50_3).f1))).heap[gb205]? = some (.cells #[.int .i64 ((rd_T62 l0_1 x50_3).f0), .int .i64 ((rd_T62 l0_1 x50_3).f1)] 62 (0, 0))) := ⟨bp BK205⟩; have n3_ : Aside0 (Below w.heap.size w ((w46.setCell ⟨gb205, 0, none⟩ (.int .i64 ((rd_T62 l0_1 x50_3).f0))).setCell ⟨gb205, 1, none⟩ (.int .i64 ((rd_T62 l0_1 x50_3).f1)))) := ⟨hb3 HB GE187 GE203 GE205⟩
                 (try clear BK187)
                 (try clear BK203)
                 (try clear BK205)
                 (try clear HB)
                 generalize ((w46.setCell ⟨gb205, 0, none⟩ (.int .i64 ((rd_T62 l0_1 x50_3).f0))).setCell ⟨gb205, 1, none⟩ (.int .i64 ((rd_T62 l0_1 x50_3).f1))) = w50 at n0_ n1_ n2_ n3_ ⊢; have BK187 := n0_; have BK203 := n1_; have BK205 := n2_; have HB := n3_; clear n0_ n1_ n2_ n3_; replace BK187 := bd BK187; replace BK203 := bd BK203; replace BK205 := bd BK205; replace HB := Aside0.mk (below_drew1 HB.out); refine start_ (n := 24) (S := fun w' => w'.cell? ⟨gb205, 0, none⟩ = some (.int .i64 ((rd_T62 l0_1 x50_3).f0)) ∧ w'.cell? ⟨gb205, 1, none⟩ = some (.int .i64 ((rd_T62 l0_1 x50_3).f1))) (ds := []) (pf 0 24) (by kernel_rfl) rfl rfl ⟨bc BK205 0, bc BK205 1⟩ (fun hHeld => ?_); refine with_tabW cross_Proper.tab18 cross_Proper.bits18 (fun HT_ HW_ => ?_); generalize w50.drew = w51 at BK187 BK203 BK205 HB hHeld ⊢; refine pu_ 0 (some 54) (pf 1 24) HT_ ?_; refine pu_ 2 (some 56) #[T_,F_,T_,F_,F_,F_,F_,F_,F_,F_,F_,F_,F_,F_,F_,F_,F_,F_,F_,F_,F_,F_,F_,F_] HT_ ?_; refine tk2_ 1 (some 55) (pf 3 24) HT_ HW_ hHeld ?_; refine pu_ 3 (some 57) (pf 4 24) HT_ ?_; refine pu_ 4 (some 58) (pf 5 24) HT_ ?_; refine pu_ 5 (some 59) (pf 6 24) HT_ ?_
                 refine pu_ 7 (some 61) #[T_,T_,T_,T_,T_,T_,F_,T_,F_,F_,F_,F_,F_,F_,F_,F_,F_,F_,F_,F_,F_,F_,F_,F_] HT_ ?_; refine tk2_ 6 (some 60) (pf 8 24) HT_ HW_ hHeld ?_; refine pu_ 8 (some 62) (pf 9 24) HT_ ?_; refine pu_ 9 (some 63) (pf 10 24) HT_ ?_; refine pu_ 10 (some 64) (pf 11 24) HT_ ?_; refine pn_ 11 (some 65) (pf 12 24) HT_ ?_; refine pn_ 12 (some 66) (pf 13 24) HT_ ?_; refine pn_ 13 (some 67) (pf 14 24) HT_ ?_; refine pn_ 14 (some 68) (pf 15 24) HT_ ?_; refine pn_ 15 (some 69) (pf 16 24) HT_ ?_; refine pn_ 16 (some 70) (pf 17 24) HT_ ?_; refine pn_ 17 (some 71) (pf 18 24) HT_ ?_; refine pn_ 18 (some 72) (pf 19 24) HT_ ?_; refine pn_ 19 (some 73) (pf 20 24) HT_ ?_
                 refine pn_ 20 (some 74) (pf 21 24) HT_ ?_; refine pn_ 21 (some 75) (pf 22 24) HT_ ?_; refine pn_ 22 (some 76) (pf 23 24) HT_ ?_; refine pu_ 23 (some 77) (pf 24 24) HT_ ?_; refine done_ (done_of HT_.out (by kernel_rfl)) ?_
                 try go_wp2
                 go_roundg k3
                 case measure => have := HK1.out; have := HK2.out; have := HK3.out; omega
                 case rel => exact ⟨(wrap64 (x50_3 + 1)), (by first | rfl | (simp; done) | (simp [*]; done)), H', ⟨by have := HK1.out; have := HK2.out; have := HK3.out; omega⟩, ⟨bx BK187⟩, ⟨bx BK203⟩, ⟨hb3 HB GE187 GE203 GE205⟩⟩
                ·rw [if_neg c45] at H; have c45b0 : (((rd_T62 l0_1 x50_3).f1) == x42_2) = false := beq_eq_false_iff_ne.mpr c45; have c45b1 : (((rd_T62 l0_1 x50_3).f1) != x42_2) = true := bne_iff_ne.mpr c45
                 by_cases c52 : 0 ≤ ((rd_T62 l0_1 x50_3).f0)
                 ·rw [if_pos c52] at H; have c52b0 : decide (0 ≤ ((rd_T62 l0_1 x50_3).f0)) = true := decide_eq_true c52; clear c52
                  by_cases c53 : ((rd_T62 l0_1 x50_3).f0) < (l1.length : Int)
                  ·rw [if_pos c53] at H; have c53b0 : decide (((rd_T62 l0_1 x50_3).f0) < (l1.length : Int)) = true := decide_eq_true c53; clear c53
                   by_cases c54 : 0 ≤ ((rd_T62 l0_1 x50_3).f1)
                   ·rw [if_pos c54] at H; have c54b0 : decide (0 ≤ ((rd_T62 l0_1 x50_3).f1)) = true := decide_eq_true c54; clear c54
                    by_cases c55 : ((rd_T62 l0_1 x50_3).f1) < (l1.length : Int)
                    ·rw [if_pos c55] at H; have c55b0 : decide (((rd_T62 l0_1 x50_3).f1) < (l1.length : Int)) = true := decide_eq_true c55; clear c55; replace H := Option.bind_eq_some_iff.mp H; obtain ⟨t208, A560, H⟩ := H; (try dsimp only at H); have A56 := Aside0.mk A560; clear A560
                     by_cases c57 : t208 = true
                     ·subst c57; rw [if_pos rfl] at H; obtain rfl := Option.some.inj H; have p204 : 0 ≤ (x50_3 : Int) := of_decide_eq_true (by first | (with_reducible assumption) | assumption); have q204 : x50_3 < (l0_1.length : Int) := of_decide_eq_true (by first | (with_reducible assumption) | assumption); obtain ⟨ad204, e204, hx204_0, hx204_1⟩ := at_T62 HR0_1.out x50_3 p204 q204
                      cases e204
                      replace hx204_0 := (HB.out.cell (World.block_lt_of_cell? w _ hx204_0)).trans hx204_0; replace hx204_1 := (HB.out.cell (World.block_lt_of_cell? w _ hx204_1)).trans hx204_1; replace p204 := eq_true p204; replace q204 := eq_true q204
                      try go_wp2_with (first | ((with_reducible refine gate_dst (N := 13) rfl ?_); refine be_ 13 #[.int .i64 0, .int .i64 0] 62 ?_; intro gb205 hg w58 hbox hb; have BK205 := Aside0.mk (hbox); have GW205 := wq (hb2 HB GE187 GE203) hg; have GE205 := wq (hb2 HB GE187 GE203) hg; replace HB := hs (hb2 HB GE187 GE203) hb; have NB187_205 := lx BK187 hg; have NB205_187 := gx BK187 hg; replace BK187 := kx BK187 hb; have NB203_205 := lx BK203 hg; have NB205_203 := gx BK203 hg; replace BK203 := kx BK203 hb; clear hb hbox hg; have hnb59 := NB205_187.out; have hnc59 := NB187_205.out; have hnb60 := NB205_203.out; have hnc60 := NB203_205.out; have hcz61_0 : w58.cell? ⟨gb205, 0, none⟩ = some (.int .i64 0) := bc BK205 0; have hcz61_1 : w58.cell? ⟨gb205, 1, none⟩ = some (.int .i64 0) := bc BK205 1; have hfz61_0 := blk_frozen BK205.out 0; have hfz61_1 := blk_frozen BK205.out 1))
                      have n0_ : Aside0 (((w58.setCell ⟨gb205, 0, none⟩ (.int .i64 ((rd_T62 l0_1 x50_3).f0))).setCell ⟨gb205, 1, none⟩ (.int .i64 ((rd_T62 l0_1 x50_3).f1))).heap[gb187]? = some (.cells #[.int .i64 a0_0, .slice (some ad204) l0_1.length c0_1] 31 (0, 0))) := ⟨bx1 BK187 NB187_205⟩; have n1_ : Aside0 (((w58.setCell ⟨gb205, 0, none⟩ (.int .i64 ((rd_T62 l0_1 x50_3).f0))).setCell ⟨gb205, 1, none⟩ (.int .i64 ((rd_T62 l0_1 x50_3).f1))).heap[gb203]? = some (.cells #[.int .i64 ((rd_T23 l1 x42_2).f0), .int .i64 ((rd_T23 l1 x42_2).f1)] 23 (0, 0))) := ⟨bx1 BK203 NB203_205⟩; have n2_ : Aside0 (((w58.setCell ⟨gb205, 0, none⟩ (.int .i64 ((rd_T62 l0_1 x50_3).f0))).setCell ⟨gb205, 1, none⟩ (.int .i64 ((rd_T62 l0_1 x50_3).f1))).heap[gb205]? = some (.cells #[.int .i64 ((rd_T62 l0_1 x50_3).f0), .int .i64 ((rd_T62 l0_1 x50_3).f1)] 62 (0, 0))) := ⟨bp BK205⟩; have n3_ : Aside0 (Below w.heap.size w ((w58.setCell ⟨gb205, 0, none⟩ (.int .i64 ((rd_T62 l0_1 x50_3).f0))).setCell ⟨gb205, 1, none⟩ (.int .i64 ((rd_T62 l0_1 x50_3).f1)))) := ⟨hb3 HB GE187 GE203 GE205⟩
                      (try clear BK187)
                      (try clear BK203)
                      (try clear BK205)
                      (try clear HB)
                      generalize ((w58.setCell ⟨gb205, 0, none⟩ (.int .i64 ((rd_T62 l0_1 x50_3).f0))).setCell ⟨gb205, 1, none⟩ (.int .i64 ((rd_T62 l0_1 x50_3).f1))) = w62 at n0_ n1_ n2_ n3_ ⊢; have BK187 := n0_; have BK203 := n1_; have BK205 := n2_; have HB := n3_; clear n0_ n1_ n2_ n3_; replace BK187 := bd BK187; replace BK203 := bd BK203; replace BK205 := bd BK205; replace HB := Aside0.mk (below_drew1 HB.out); have p206 : 0 ≤ (((rd_T62 l0_1 x50_3).f0) : Int) := of_decide_eq_true (by first | (with_reducible assumption) | assumption); have q206 : ((rd_T62 l0_1 x50_3).f0) < (l1.length : Int) := of_decide_eq_true (by first | (with_reducible assumption) | assumption); obtain ⟨ad206, e206, hx206_0, hx206_1⟩ := at_T23 HR1.out ((rd_T62 l0_1 x50_3).f0) p206 q206; have hw206_1 := hx206_1; have hw206_0 := hx206_0; obtain rfl : ad202 = ad206 := (by injection e206); replace hx206_0 := (HB.out.cell (World.block_lt_of_cell? w _ hx206_0)).trans hx206_0; replace hx206_1 := (HB.out.cell (World.block_lt_of_cell? w _ hx206_1)).trans hx206_1; replace p206 := eq_true p206; replace q206 := eq_true q206; have p207 : 0 ≤ (((rd_T62 l0_1 x50_3).f1) : Int) := of_decide_eq_true (by first | (with_reducible assumption) | assumption); have q207 : ((rd_T62 l0_1 x50_3).f1) < (l1.length : Int) := of_decide_eq_true (by first | (with_reducible assumption) | assumption); obtain ⟨ad207, e207, hx207_0, hx207_1⟩ := at_T23 HR1.out ((rd_T62 l0_1 x50_3).f1) p207 q207; have hw207_1 := hx207_1; have hw207_0 := hx207_0; obtain rfl : ad202 = ad207 := (by injection e207)
                      replace hx207_0 := (HB.out.cell (World.block_lt_of_cell? w _ hx207_0)).trans hx207_0; replace hx207_1 := (HB.out.cell (World.block_lt_of_cell? w _ hx207_1)).trans hx207_1; replace p207 := eq_true p207; replace q207 := eq_true q207; refine start_ (n := 24) (S := fun w' => w'.cell? ⟨gb205, 0, none⟩ = some (.int .i64 ((rd_T62 l0_1 x50_3).f0)) ∧ w'.cell? ⟨gb205, 1, none⟩ = some (.int .i64 ((rd_T62 l0_1 x50_3).f1)) ∧ w'.cell? ⟨gb203, 0, none⟩ = some (.int .i64 ((rd_T23 l1 x42_2).f0)) ∧ w'.cell? ⟨gb203, 1, none⟩ = some (.int .i64 ((rd_T23 l1 x42_2).f1)) ∧ w'.cell? (ad202.add ((((rd_T62 l0_1 x50_3).f0)).toNat * 2)) = some (.int .i64 ((rd_T23 l1 ((rd_T62 l0_1 x50_3).f0)).f0)) ∧ w'.cell? ⟨(ad202.add ((((rd_T62 l0_1 x50_3).f0)).toNat * 2)).block, (ad202.add ((((rd_T62 l0_1 x50_3).f0)).toNat * 2)).off + 1, none⟩ = some (.int .i64 ((rd_T23 l1 ((rd_T62 l0_1 x50_3).f0)).f1)) ∧ w'.cell? (ad202.add ((((rd_T62 l0_1 x50_3).f1)).toNat * 2)) = some (.int .i64 ((rd_T23 l1 ((rd_T62 l0_1 x50_3).f1)).f0)) ∧ w'.cell? ⟨(ad202.add ((((rd_T62 l0_1 x50_3).f1)).toNat * 2)).block, (ad202.add ((((rd_T62 l0_1 x50_3).f1)).toNat * 2)).off + 1, none⟩ = some (.int .i64 ((rd_T23 l1 ((rd_T62 l0_1 x50_3).f1)).f1))) (ds := []) (pf 0 24) (by kernel_rfl) rfl rfl ⟨bc BK205 0, bc BK205 1, bc BK203 0, bc BK203 1, ((HB.out.cell (World.block_lt_of_cell? w _ hw206_0)).trans hw206_0), ((HB.out.cell (World.block_lt_of_cell? w _ hw206_1)).trans hw206_1), ((HB.out.cell (World.block_lt_of_cell? w _ hw207_0)).trans hw207_0), ((HB.out.cell (World.block_lt_of_cell? w _ hw207_1)).trans hw207_1)⟩ (fun hHeld => ?_); refine with_tabW cross_Proper.tab18 cross_Proper.bits18 (fun HT_ HW_ => ?_)
                      generalize w62.drew = w63 at BK187 BK203 BK205 HB hx206_0 hx206_1 hx207_0 hx207_1 hHeld ⊢; refine pu_ 0 (some 54) (pf 1 24) HT_ ?_; refine pu_ 2 (some 56) #[T_,F_,T_,F_,F_,F_,F_,F_,F_,F_,F_,F_,F_,F_,F_,F_,F_,F_,F_,F_,F_,F_,F_,F_] HT_ ?_; refine tk8_ 1 (some 55) (pf 3 24) HT_ HW_ hHeld ?_; refine pu_ 3 (some 57) (pf 4 24) HT_ ?_; refine pu_ 4 (some 58) (pf 5 24) HT_ ?_; refine pu_ 5 (some 59) (pf 6 24) HT_ ?_; refine pu_ 7 (some 61) #[T_,T_,T_,T_,T_,T_,F_,T_,F_,F_,F_,F_,F_,F_,F_,F_,F_,F_,F_,F_,F_,F_,F_,F_] HT_ ?_; refine tk8_ 6 (some 60) (pf 8 24) HT_ HW_ hHeld ?_; refine pu_ 8 (some 62) (pf 9 24) HT_ ?_; refine pu_ 9 (some 63) (pf 10 24) HT_ ?_; refine pu_ 10 (some 64) (pf 11 24) HT_ ?_; refine pu_ 11 (some 65) (pf 12 24) HT_ ?_; refine pu_ 12 (some 66) (pf 13 24) HT_ ?_
                      refine pu_ 16 (some 70) #[T_,T_,T_,T_,T_,T_,T_,T_,T_,T_,T_,T_,T_,F_,F_,F_,T_,F_,F_,F_,F_,F_,F_,F_] HT_ ?_; refine pu_ 17 (some 71) #[T_,T_,T_,T_,T_,T_,T_,T_,T_,T_,T_,T_,T_,F_,F_,F_,T_,T_,F_,F_,F_,F_,F_,F_] HT_ ?_; refine tk8_ 13 (some 67) #[T_,T_,T_,T_,T_,T_,T_,T_,T_,T_,T_,T_,T_,T_,F_,F_,T_,T_,F_,F_,F_,F_,F_,F_] HT_ HW_ hHeld ?_; refine pu_ 14 (some 68) #[T_,T_,T_,T_,T_,T_,T_,T_,T_,T_,T_,T_,T_,T_,T_,F_,T_,T_,F_,F_,F_,F_,F_,F_] HT_ ?_; refine tk8_ 15 (some 69) (pf 18 24) HT_ HW_ hHeld ?_; refine tk8_ 18 (some 72) (pf 19 24) HT_ HW_ hHeld ?_; refine pu_ 19 (some 73) (pf 20 24) HT_ ?_; refine tk8_ 20 (some 74) (pf 21 24) HT_ HW_ hHeld ?_; refine tk8_ 21 (some 75) (pf 22 24) HT_ HW_ hHeld ?_; refine on_ 22 (some 76) (pf 23 24) HT_ (fun K hK => ?_); refine gs_ Try.func41 #[.agg #[.int .i64 ((rd_T23 l1 ((rd_T62 l0_1 x50_3).f0)).f0), .int .i64 ((rd_T23 l1 ((rd_T62 l0_1 x50_3).f0)).f1)], .agg #[.int .i64 ((rd_T23 l1 ((rd_T62 l0_1 x50_3).f1)).f0), .int .i64 ((rd_T23 l1 ((rd_T62 l0_1 x50_3).f1)).f1)], .agg #[.int .i64 ((rd_T23 l1 x42_2).f0), .int .i64 ((rd_T23 l1 x42_2).f1)]] ?_
                      with_reducible refine (cross_on.calls ((rd_T23 l1 ((rd_T62 l0_1 x50_3).f0)).f0) ((rd_T23 l1 ((rd_T62 l0_1 x50_3).f0)).f1) ((rd_T23 l1 ((rd_T62 l0_1 x50_3).f1)).f0) ((rd_T23 l1 ((rd_T62 l0_1 x50_3).f1)).f1) ((rd_T23 l1 x42_2).f0) ((rd_T23 l1 x42_2).f1) true _ A56.out).mono ?_
                      rintro e w64 ⟨rfl, hb⟩; refine ⟨_, rfl, ?_⟩; replace BK187 := kx BK187 hb; replace BK203 := kx BK203 hb; replace BK205 := kx BK205 hb; replace HB := hs (hb3 HB GE187 GE203 GE205) hb
                      (try clear hb)
                      (try clear hk)
                      (try clear hi)
                      refine hK.out _ _ ⟨bc BK205 0, bc BK205 1, bc BK203 0, bc BK203 1, ((HB.out.cell (World.block_lt_of_cell? w _ hw206_0)).trans hw206_0), ((HB.out.cell (World.block_lt_of_cell? w _ hw206_1)).trans hw206_1), ((HB.out.cell (World.block_lt_of_cell? w _ hw207_0)).trans hw207_0), ((HB.out.cell (World.block_lt_of_cell? w _ hw207_1)).trans hw207_1)⟩ (fun hHeld => ?_); clear hK K; refine nm_ (some 76) ?_; refine pu_ 23 (some 77) (pf 24 24) HT_ ?_; refine done_ (done_of HT_.out (by kernel_rfl)) ?_
                      try go_wp2
                      go_ret
                      exact ⟨by rfl, hb3 HB GE187 GE203 GE205⟩
                     ·replace c57 := Bool.eq_false_iff.mpr c57; subst c57; rw [if_neg (show ¬ (false = true) by decide)] at H; have H' := Aside0.mk H; clear H; have p204 : 0 ≤ (x50_3 : Int) := of_decide_eq_true (by first | (with_reducible assumption) | assumption); have q204 : x50_3 < (l0_1.length : Int) := of_decide_eq_true (by first | (with_reducible assumption) | assumption); obtain ⟨ad204, e204, hx204_0, hx204_1⟩ := at_T62 HR0_1.out x50_3 p204 q204
                      cases e204
                      replace hx204_0 := (HB.out.cell (World.block_lt_of_cell? w _ hx204_0)).trans hx204_0; replace hx204_1 := (HB.out.cell (World.block_lt_of_cell? w _ hx204_1)).trans hx204_1; replace p204 := eq_true p204; replace q204 := eq_true q204
                      try go_wp2_with (first | ((with_reducible refine gate_dst (N := 13) rfl ?_); refine be_ 13 #[.int .i64 0, .int .i64 0] 62 ?_; intro gb205 hg w65 hbox hb; have BK205 := Aside0.mk (hbox); have GW205 := wq (hb2 HB GE187 GE203) hg; have GE205 := wq (hb2 HB GE187 GE203) hg; replace HB := hs (hb2 HB GE187 GE203) hb; have NB187_205 := lx BK187 hg; have NB205_187 := gx BK187 hg; replace BK187 := kx BK187 hb; have NB203_205 := lx BK203 hg; have NB205_203 := gx BK203 hg; replace BK203 := kx BK203 hb; clear hb hbox hg; have hnb66 := NB205_187.out; have hnc66 := NB187_205.out; have hnb67 := NB205_203.out; have hnc67 := NB203_205.out; have hcz68_0 : w65.cell? ⟨gb205, 0, none⟩ = some (.int .i64 0) := bc BK205 0; have hcz68_1 : w65.cell? ⟨gb205, 1, none⟩ = some (.int .i64 0) := bc BK205 1; have hfz68_0 := blk_frozen BK205.out 0; have hfz68_1 := blk_frozen BK205.out 1))
                      have n0_ : Aside0 (((w65.setCell ⟨gb205, 0, none⟩ (.int .i64 ((rd_T62 l0_1 x50_3).f0))).setCell ⟨gb205, 1, none⟩ (.int .i64 ((rd_T62 l0_1 x50_3).f1))).heap[gb187]? = some (.cells #[.int .i64 a0_0, .slice (some ad204) l0_1.length c0_1] 31 (0, 0))) := ⟨bx1 BK187 NB187_205⟩; have n1_ : Aside0 (((w65.setCell ⟨gb205, 0, none⟩ (.int .i64 ((rd_T62 l0_1 x50_3).f0))).setCell ⟨gb205, 1, none⟩ (.int .i64 ((rd_T62 l0_1 x50_3).f1))).heap[gb203]? = some (.cells #[.int .i64 ((rd_T23 l1 x42_2).f0), .int .i64 ((rd_T23 l1 x42_2).f1)] 23 (0, 0))) := ⟨bx1 BK203 NB203_205⟩; have n2_ : Aside0 (((w65.setCell ⟨gb205, 0, none⟩ (.int .i64 ((rd_T62 l0_1 x50_3).f0))).setCell ⟨gb205, 1, none⟩ (.int .i64 ((rd_T62 l0_1 x50_3).f1))).heap[gb205]? = some (.cells #[.int .i64 ((rd_T62 l0_1 x50_3).f0), .int .i64 ((rd_T62 l0_1 x50_3).f1)] 62 (0, 0))) := ⟨bp BK205⟩; have n3_ : Aside0 (Below w.heap.size w ((w65.setCell ⟨gb205, 0, none⟩ (.int .i64 ((rd_T62 l0_1 x50_3).f0))).setCell ⟨gb205, 1, none⟩ (.int .i64 ((rd_T62 l0_1 x50_3).f1)))) := ⟨hb3 HB GE187 GE203 GE205⟩
                      (try clear BK187)
                      (try clear BK203)
                      (try clear BK205)
                      (try clear HB)
                      generalize ((w65.setCell ⟨gb205, 0, none⟩ (.int .i64 ((rd_T62 l0_1 x50_3).f0))).setCell ⟨gb205, 1, none⟩ (.int .i64 ((rd_T62 l0_1 x50_3).f1))) = w69 at n0_ n1_ n2_ n3_ ⊢; have BK187 := n0_; have BK203 := n1_; have BK205 := n2_; have HB := n3_; clear n0_ n1_ n2_ n3_; replace BK187 := bd BK187; replace BK203 := bd BK203; replace BK205 := bd BK205; replace HB := Aside0.mk (below_drew1 HB.out); have p206 : 0 ≤ (((rd_T62 l0_1 x50_3).f0) : Int) := of_decide_eq_true (by first | (with_reducible assumption) | assumption); have q206 : ((rd_T62 l0_1 x50_3).f0) < (l1.length : Int) := of_decide_eq_true (by first | (with_reducible assumption) | assumption); obtain ⟨ad206, e206, hx206_0, hx206_1⟩ := at_T23 HR1.out ((rd_T62 l0_1 x50_3).f0) p206 q206; have hw206_1 := hx206_1; have hw206_0 := hx206_0; obtain rfl : ad202 = ad206 := (by injection e206); replace hx206_0 := (HB.out.cell (World.block_lt_of_cell? w _ hx206_0)).trans hx206_0; replace hx206_1 := (HB.out.cell (World.block_lt_of_cell? w _ hx206_1)).trans hx206_1; replace p206 := eq_true p206; replace q206 := eq_true q206; have p207 : 0 ≤ (((rd_T62 l0_1 x50_3).f1) : Int) := of_decide_eq_true (by first | (with_reducible assumption) | assumption); have q207 : ((rd_T62 l0_1 x50_3).f1) < (l1.length : Int) := of_decide_eq_true (by first | (with_reducible assumption) | assumption); obtain ⟨ad207, e207, hx207_0, hx207_1⟩ := at_T23 HR1.out ((rd_T62 l0_1 x50_3).f1) p207 q207; have hw207_1 := hx207_1; have hw207_0 := hx207_0; obtain rfl : ad202 = ad207 := (by injection e207)
                      replace hx207_0 := (HB.out.cell (World.block_lt_of_cell? w _ hx207_0)).trans hx207_0; replace hx207_1 := (HB.out.cell (World.block_lt_of_cell? w _ hx207_1)).trans hx207_1; replace p207 := eq_true p207; replace q207 := eq_true q207; refine start_ (n := 24) (S := fun w' => w'.cell? ⟨gb205, 0, none⟩ = some (.int .i64 ((rd_T62 l0_1 x50_3).f0)) ∧ w'.cell? ⟨gb205, 1, none⟩ = some (.int .i64 ((rd_T62 l0_1 x50_3).f1)) ∧ w'.cell? ⟨gb203, 0, none⟩ = some (.int .i64 ((rd_T23 l1 x42_2).f0)) ∧ w'.cell? ⟨gb203, 1, none⟩ = some (.int .i64 ((rd_T23 l1 x42_2).f1)) ∧ w'.cell? (ad202.add ((((rd_T62 l0_1 x50_3).f0)).toNat * 2)) = some (.int .i64 ((rd_T23 l1 ((rd_T62 l0_1 x50_3).f0)).f0)) ∧ w'.cell? ⟨(ad202.add ((((rd_T62 l0_1 x50_3).f0)).toNat * 2)).block, (ad202.add ((((rd_T62 l0_1 x50_3).f0)).toNat * 2)).off + 1, none⟩ = some (.int .i64 ((rd_T23 l1 ((rd_T62 l0_1 x50_3).f0)).f1)) ∧ w'.cell? (ad202.add ((((rd_T62 l0_1 x50_3).f1)).toNat * 2)) = some (.int .i64 ((rd_T23 l1 ((rd_T62 l0_1 x50_3).f1)).f0)) ∧ w'.cell? ⟨(ad202.add ((((rd_T62 l0_1 x50_3).f1)).toNat * 2)).block, (ad202.add ((((rd_T62 l0_1 x50_3).f1)).toNat * 2)).off + 1, none⟩ = some (.int .i64 ((rd_T23 l1 ((rd_T62 l0_1 x50_3).f1)).f1))) (ds := []) (pf 0 24) (by kernel_rfl) rfl rfl ⟨bc BK205 0, bc BK205 1, bc BK203 0, bc BK203 1, ((HB.out.cell (World.block_lt_of_cell? w _ hw206_0)).trans hw206_0), ((HB.out.cell (World.block_lt_of_cell? w _ hw206_1)).trans hw206_1), ((HB.out.cell (World.block_lt_of_cell? w _ hw207_0)).trans hw207_0), ((HB.out.cell (World.block_lt_of_cell? w _ hw207_1)).trans hw207_1)⟩ (fun hHeld => ?_); refine with_tabW cross_Proper.tab18 cross_Proper.bits18 (fun HT_ HW_ => ?_)
                      generalize w69.drew = w70 at BK187 BK203 BK205 HB hx206_0 hx206_1 hx207_0 hx207_1 hHeld ⊢; refine pu_ 0 (some 54) (pf 1 24) HT_ ?_; refine pu_ 2 (some 56) #[T_,F_,T_,F_,F_,F_,F_,F_,F_,F_,F_,F_,F_,F_,F_,F_,F_,F_,F_,F_,F_,F_,F_,F_] HT_ ?_; refine tk8_ 1 (some 55) (pf 3 24) HT_ HW_ hHeld ?_; refine pu_ 3 (some 57) (pf 4 24) HT_ ?_; refine pu_ 4 (some 58) (pf 5 24) HT_ ?_; refine pu_ 5 (some 59) (pf 6 24) HT_ ?_; refine pu_ 7 (some 61) #[T_,T_,T_,T_,T_,T_,F_,T_,F_,F_,F_,F_,F_,F_,F_,F_,F_,F_,F_,F_,F_,F_,F_,F_] HT_ ?_; refine tk8_ 6 (some 60) (pf 8 24) HT_ HW_ hHeld ?_; refine pu_ 8 (some 62) (pf 9 24) HT_ ?_; refine pu_ 9 (some 63) (pf 10 24) HT_ ?_; refine pu_ 10 (some 64) (pf 11 24) HT_ ?_; refine pu_ 11 (some 65) (pf 12 24) HT_ ?_; refine pu_ 12 (some 66) (pf 13 24) HT_ ?_
                      refine pu_ 16 (some 70) #[T_,T_,T_,T_,T_,T_,T_,T_,T_,T_,T_,T_,T_,F_,F_,F_,T_,F_,F_,F_,F_,F_,F_,F_] HT_ ?_; refine pu_ 17 (some 71) #[T_,T_,T_,T_,T_,T_,T_,T_,T_,T_,T_,T_,T_,F_,F_,F_,T_,T_,F_,F_,F_,F_,F_,F_] HT_ ?_; refine tk8_ 13 (some 67) #[T_,T_,T_,T_,T_,T_,T_,T_,T_,T_,T_,T_,T_,T_,F_,F_,T_,T_,F_,F_,F_,F_,F_,F_] HT_ HW_ hHeld ?_; refine pu_ 14 (some 68) #[T_,T_,T_,T_,T_,T_,T_,T_,T_,T_,T_,T_,T_,T_,T_,F_,T_,T_,F_,F_,F_,F_,F_,F_] HT_ ?_; refine tk8_ 15 (some 69) (pf 18 24) HT_ HW_ hHeld ?_; refine tk8_ 18 (some 72) (pf 19 24) HT_ HW_ hHeld ?_; refine pu_ 19 (some 73) (pf 20 24) HT_ ?_; refine tk8_ 20 (some 74) (pf 21 24) HT_ HW_ hHeld ?_; refine tk8_ 21 (some 75) (pf 22 24) HT_ HW_ hHeld ?_; refine on_ 22 (some 76) (pf 23 24) HT_ (fun K hK => ?_); refine gs_ Try.func41 #[.agg #[.int .i64 ((rd_T23 l1 ((rd_T62 l0_1 x50_3).f0)).f0), .int .i64 ((rd_T23 l1 ((rd_T62 l0_1 x50_3).f0)).f1)], .agg #[.int .i64 ((rd_T23 l1 ((rd_T62 l0_1 x50_3).f1)).f0), .int .i64 ((rd_T23 l1 ((rd_T62 l0_1 x50_3).f1)).f1)], .agg #[.int .i64 ((rd_T23 l1 x42_2).f0), .int .i64 ((rd_T23 l1 x42_2).f1)]] ?_
                      with_reducible refine (cross_on.calls ((rd_T23 l1 ((rd_T62 l0_1 x50_3).f0)).f0) ((rd_T23 l1 ((rd_T62 l0_1 x50_3).f0)).f1) ((rd_T23 l1 ((rd_T62 l0_1 x50_3).f1)).f0) ((rd_T23 l1 ((rd_T62 l0_1 x50_3).f1)).f1) ((rd_T23 l1 x42_2).f0) ((rd_T23 l1 x42_2).f1) false _ A56.out).mono ?_
                      rintro e w71 ⟨rfl, hb⟩; refine ⟨_, rfl, ?_⟩; replace BK187 := kx BK187 hb; replace BK203 := kx BK203 hb; replace BK205 := kx BK205 hb; replace HB := hs (hb3 HB GE187 GE203 GE205) hb
                      (try clear hb)
                      (try clear hk)
                      (try clear hi)
                      refine hK.out _ _ ⟨bc BK205 0, bc BK205 1, bc BK203 0, bc BK203 1, ((HB.out.cell (World.block_lt_of_cell? w _ hw206_0)).trans hw206_0), ((HB.out.cell (World.block_lt_of_cell? w _ hw206_1)).trans hw206_1), ((HB.out.cell (World.block_lt_of_cell? w _ hw207_0)).trans hw207_0), ((HB.out.cell (World.block_lt_of_cell? w _ hw207_1)).trans hw207_1)⟩ (fun hHeld => ?_); clear hK K; refine nm_ (some 76) ?_; refine pu_ 23 (some 77) (pf 24 24) HT_ ?_; refine done_ (done_of HT_.out (by kernel_rfl)) ?_
                      try go_wp2
                      go_roundg k3
                      case measure => have := HK1.out; have := HK2.out; have := HK3.out; omega
                      case rel => exact ⟨(wrap64 (x50_3 + 1)), (by first | rfl | (simp; done) | (simp [*]; done)), H', ⟨by have := HK1.out; have := HK2.out; have := HK3.out; omega⟩, ⟨bx BK187⟩, ⟨bx BK203⟩, ⟨hb3 HB GE187 GE203 GE205⟩⟩
                    ·rw [if_neg c55] at H; exact absurd H (by simp)
                   ·rw [if_neg c54] at H; exact absurd H (by simp)
                  ·rw [if_neg c53] at H; exact absurd H (by simp)
                 ·rw [if_neg c52] at H; exact absurd H (by simp)
              ·rw [if_neg c37] at H; exact absurd H (by simp)
             ·rw [if_neg c36] at H; exact absurd H (by simp)
            ·rw [if_neg c35] at H; have c35b0 : decide (x50_3 < (l0_1.length : Int)) = false := decide_eq_false c35; clear c35; have H' := Aside0.mk H; clear H
             go_wp2
             go_roundg k3
             case measure => have := HK1.out; have := HK2.out; have := HK3.out; omega
             case rel => exact ⟨(wrap64 (x42_2 + 1)), (by first | rfl | (simp; done) | (simp [*]; done)), H', ⟨by have := HK1.out; have := HK2.out; have := HK3.out; omega⟩, ⟨bx BK187⟩, ⟨hb2 HB GE187 GE203⟩⟩
         ·rw [if_neg c30] at H; exact absurd H (by simp)
        ·rw [if_neg c29] at H; exact absurd H (by simp)
       ·rw [if_neg c28] at H; have c28b0 : decide (x42_2 < (l1.length : Int)) = false := decide_eq_false c28; clear c28; replace H := Option.bind_eq_some_iff.mp H; obtain ⟨⟨t199, t200, t201⟩, A720, H⟩ := H; (try dsimp only at H); have A72 := Aside0.mk A720; clear A720; obtain rfl := Option.some.inj H; have hcz73_0 : wr.cell? ⟨gb187, 0, none⟩ = some (.int .i64 a0_0) := bc BK187 0; have hcz73_1 : wr.cell? ⟨gb187, 1, none⟩ = some (.slice A0_1 l0_1.length c0_1) := bc BK187 1; have hfz73_0 := blk_frozen BK187.out 0; have hfz73_1 := blk_frozen BK187.out 1
        go_wp2_with (first | ((with_reducible refine gate_callee (f := 21) rfl ?_); refine gl_ (some 83) Try.func21 #[.agg #[.int .i64 a0_0, .slice A0_1 l0_1.length c0_1], .slice A1 l1.length c1] ?_; (with_reducible refine (cross_First.calls k2 a0_0 _ _ l0_1 _ _ l1 t199 t200 t201 _ ?side1 ?side2 ?side3 ?side4 A72.out).mono ?_); (case side1 => repeat (first | exact (Kd.C_below HR0_1.out HB.out) | (with_reducible refine Kd.C_alloc ?_ _) | (with_reducible refine Kd.C_drewN ?_ _) | (with_reducible refine Kd.C_drew ?_))); (case side2 => exact HC0_1.out); (case side3 => repeat (first | exact (Kd.C_below HR1.out HB.out) | (with_reducible refine Kd.C_alloc ?_ _) | (with_reducible refine Kd.C_drewN ?_ _) | (with_reducible refine Kd.C_drew ?_))); (case side4 => exact HC1.out); rintro e w74 ⟨rfl, hb⟩; refine ⟨_, rfl, ?_⟩; replace BK187 := kx BK187 hb; replace HB := hs (hb1 HB GE187) hb; (try clear hb); (try clear hb2); (try clear hk); (try clear hi)))
        go_ret
        exact ⟨by rfl, hb1 HB GE187⟩
 ·rw [if_neg c4] at H; have c4b0 : (t188 == 0) = false := beq_eq_false_iff_ne.mpr c4; have c4b1 : (t188 != 0) = true := bne_iff_ne.mpr c4; obtain rfl := Option.some.inj H
  go_enter Try.func23, Try.ntmps23
  go_wp2_with (first | ((with_reducible refine gate_dst (N := 2) rfl ?_); refine be_ 2 #[.int .i64 a0_0, .slice A0_1 l0_1.length c0_1] 31 ?_; intro gb187 hg w75 hbox hb; have BK187 := Aside0.mk (hbox); have GW187 := wq (hb0 HB) hg; have GE187 := wq (hb0 HB) hg; replace HB := hs (hb0 HB) hb; clear hb hbox hg; have hcz76_0 : w75.cell? ⟨gb187, 0, none⟩ = some (.int .i64 a0_0) := bc BK187 0; have hcz76_1 : w75.cell? ⟨gb187, 1, none⟩ = some (.slice A0_1 l0_1.length c0_1) := bc BK187 1; have hfz76_0 := blk_frozen BK187.out 0; have hfz76_1 := blk_frozen BK187.out 1) | ((with_reducible refine gate_callee (f := 44) rfl ?_); refine gl_ (some 19) Try.func44 #[.agg #[.int .i64 a0_0, .slice A0_1 l0_1.length c0_1], .slice A1 l1.length c1] ?_; (with_reducible refine (cross_drawn.calls k a0_0 _ _ l0_1 _ _ l1 t188 _ ?side1 ?side2 ?side3 ?side4 A3.out).mono ?_); (case side1 => repeat (first | exact (Kd.C_below HR0_1.out HB.out) | (with_reducible refine Kd.C_alloc ?_ _) | (with_reducible refine Kd.C_drewN ?_ _) | (with_reducible refine Kd.C_drew ?_))); (case side2 => exact HC0_1.out); (case side3 => repeat (first | exact (Kd.C_below HR1.out HB.out) | (with_reducible refine Kd.C_alloc ?_ _) | (with_reducible refine Kd.C_drewN ?_ _) | (with_reducible refine Kd.C_drew ?_))); (case side4 => exact HC1.out); rintro e w77 ⟨rfl, hb⟩; refine ⟨_, rfl, ?_⟩; replace BK187 := kx BK187 hb; replace HB := hs (hb1 HB GE187) hb; (try clear hb); (try clear hb2); (try clear hk); (try clear hi)))
  go_ret
  exact ⟨by rfl, hb1 HB GE187⟩

end Go.Proofs.Ythfoliejhdpbaaa.PCroA
