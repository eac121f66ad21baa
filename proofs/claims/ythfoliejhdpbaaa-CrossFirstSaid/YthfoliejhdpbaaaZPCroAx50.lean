import Derived.Test.YthfoliejhdpbaaaZPCroAx0
import Derived.Test.YthfoliejhdpbaaaZPCroAx1
import Derived.Test.YthfoliejhdpbaaaZPCroAx2
namespace Go.Proofs.Ythfoliejhdpbaaa.PCroA
open Go.RowKit Go.Proofs.YthfoliejhdpbaaaW.PrintWords Go.Proofs.YthfoliejhdpbaaaW.PrintLast Go.Proofs.YthfoliejhdpbaaaW.PrintMore
open Go.Proofs.YthfoliejhdpbaaaX
attribute [local go_sem] max2_int min2_int max_two min_two max_three min_three max_four min_four
set_option linter.unusedVariables false
set_option linter.unusedSimpArgs false

attribute [local go_sem high] eqA23 eqA62
/-! ### tangramlaw26_kept: function 25 -/
mutual
def tangramlaw26_kept.j0 : Nat → List (S23) → List (S23) → Bool → Int → List (S62) → Int → List (S62) → Option (Bool)
 | 0, _, _, _, _, _, _, _ => none
 | k + 1, x2, x3, x31, x515000, x515001, x516000, x516001 => if x31 = true then (some false) else (tangramlaw26_kept.l0 k x2 x3 0 x515000 x515001 x516000 x516001)
def tangramlaw26_kept.l0 : Nat → List (S23) → List (S23) → Int → Int → List (S62) → Int → List (S62) → Option (Bool)
 | 0, _, _, _, _, _, _, _ => none
 | k + 1, x2, x3, x9, x515000, x515001, x516000, x516001 => if x9 < (x515001.length : Int) then (if 0 ≤ x9 then (if x9 < (x516001.length : Int) then (if (!(((rd_T62 x515001 x9).f0) == ((rd_T62 x516001 x9).f0)) || (!(((rd_T62 x515001 x9).f1) == ((rd_T62 x516001 x9).f1)))) = true then (some false) else (tangramlaw26_kept.l0 k x2 x3 (wrap64 (x9 + 1)) x515000 x515001 x516000 x516001)) else (none)) else (none)) else (tangramlaw26_kept.l1 k x2 x3 0)
def tangramlaw26_kept.l1 : Nat → List (S23) → List (S23) → Int → Option (Bool)
 | 0, _, _, _ => none
 | k + 1, x2, x3, x10 => if x10 < (x2.length : Int) then (if 0 ≤ x10 then (if x10 < (x3.length : Int) then (if (!(((rd_T23 x2 x10).f0) == ((rd_T23 x3 x10).f0)) || (!(((rd_T23 x2 x10).f1) == ((rd_T23 x3 x10).f1)))) = true then (some false) else (tangramlaw26_kept.l1 k x2 x3 (wrap64 (x10 + 1)))) else (none)) else (none)) else (some true)
end
def tangramlaw26_kept.f (k : Nat) (a0_0 : Int) (l0_1 : List (S62)) (a1_0 : Int) (l1_1 : List (S62)) (l2 : List (S23)) (l3 : List (S23)) : Option (Bool) := if a0_0 = a1_0 then (if (l0_1.length : Int) = (l1_1.length : Int) then (tangramlaw26_kept.j0 k l2 l3 ((l2.length : Int) != (l3.length : Int)) a0_0 l0_1 a1_0 l1_1) else (tangramlaw26_kept.j0 k l2 l3 true a0_0 l0_1 a1_0 l1_1)) else (tangramlaw26_kept.j0 k l2 l3 true a0_0 l0_1 a1_0 l1_1)
theorem tangramlaw26_kept.mono_l : ∀ k, (∀ y0 y1 y2 y3 y4 y5 y6, LeO (tangramlaw26_kept.j0 k y0 y1 y2 y3 y4 y5 y6) (tangramlaw26_kept.j0 (k + 1) y0 y1 y2 y3 y4 y5 y6)) ∧ (∀ y0 y1 y2 y3 y4 y5 y6, LeO (tangramlaw26_kept.l0 k y0 y1 y2 y3 y4 y5 y6) (tangramlaw26_kept.l0 (k + 1) y0 y1 y2 y3 y4 y5 y6)) ∧ (∀ y0 y1 y2, LeO (tangramlaw26_kept.l1 k y0 y1 y2) (tangramlaw26_kept.l1 (k + 1) y0 y1 y2))
 | 0 => ⟨fun _ _ _ _ _ _ _ r h => by simp [tangramlaw26_kept.j0] at h, fun _ _ _ _ _ _ _ r h => by simp [tangramlaw26_kept.l0] at h, fun _ _ _ r h => by simp [tangramlaw26_kept.l1] at h⟩
 | k + 1 => by
  obtain ⟨ih0, ih1, ih2⟩ := tangramlaw26_kept.mono_l k; refine ⟨?_, ?_, ?_⟩
  ·intro y0 y1 y2 y3 y4 y5 y6
   unfold tangramlaw26_kept.j0
   repeat' first
   | (with_reducible exact ih0 _ _ _ _ _ _ _)
   | (with_reducible exact ih1 _ _ _ _ _ _ _)
   | (with_reducible exact ih2 _ _ _)
   | (with_reducible exact LeO.refl _)
   | (with_reducible exact LeO.none _)
   | (with_reducible refine LeO.ite ?_ ?_)
   | (with_reducible refine LeO.bind ?_ (fun _ => ?_))
   | exact LeO.none _
   | refine LeO.ite ?_ ?_
   | refine LeO.bind ?_ (fun _ => ?_)
  ·intro y0 y1 y2 y3 y4 y5 y6
   unfold tangramlaw26_kept.l0
   repeat' first
   | (with_reducible exact ih0 _ _ _ _ _ _ _)
   | (with_reducible exact ih1 _ _ _ _ _ _ _)
   | (with_reducible exact ih2 _ _ _)
   | (with_reducible exact LeO.refl _)
   | (with_reducible exact LeO.none _)
   | (with_reducible refine LeO.ite ?_ ?_)
   | (with_reducible refine LeO.bind ?_ (fun _ => ?_))
   | exact LeO.none _
   | refine LeO.ite ?_ ?_
   | refine LeO.bind ?_ (fun _ => ?_)
  ·intro y0 y1 y2
   unfold tangramlaw26_kept.l1
   repeat' first
   | (with_reducible exact ih0 _ _ _ _ _ _ _)
   | (with_reducible exact ih1 _ _ _ _ _ _ _)
   | (with_reducible exact ih2 _ _ _)
   | (with_reducible exact LeO.refl _)
   | (with_reducible exact LeO.none _)
   | (with_reducible refine LeO.ite ?_ ?_)
   | (with_reducible refine LeO.bind ?_ (fun _ => ?_))
   | exact LeO.none _
   | refine LeO.ite ?_ ?_
   | refine LeO.bind ?_ (fun _ => ?_)
theorem tangramlaw26_kept.mono : ∀ a0 a1 a2 a3 a4 a5 k, LeO (tangramlaw26_kept.f k a0 a1 a2 a3 a4 a5) (tangramlaw26_kept.f (k + 1) a0 a1 a2 a3 a4 a5) := by
 intro a0 a1 a2 a3 a4 a5 k; obtain ⟨ih0, ih1, ih2⟩ := tangramlaw26_kept.mono_l k
 unfold tangramlaw26_kept.f
 repeat' first
   | (with_reducible exact ih0 _ _ _ _ _ _ _)
   | (with_reducible exact ih1 _ _ _ _ _ _ _)
   | (with_reducible exact ih2 _ _ _)
   | (with_reducible exact LeO.refl _)
   | (with_reducible exact LeO.none _)
   | (with_reducible refine LeO.ite ?_ ?_)
   | (with_reducible refine LeO.bind ?_ (fun _ => ?_))
   | exact LeO.none _
   | refine LeO.ite ?_ ?_
   | refine LeO.bind ?_ (fun _ => ?_)
set_option maxHeartbeats 8000000 in
set_option maxRecDepth 100000 in
theorem tangramlaw26_kept.calls (k : Nat) (a0_0 : Int) (A0_1 : Option Addr) (c0_1 : Nat) (l0_1 : List (S62)) (a1_0 : Int) (A1_1 : Option Addr) (c1_1 : Nat) (l1_1 : List (S62)) (A2 : Option Addr) (c2 : Nat) (l2 : List (S23)) (A3 : Option Addr) (c3 : Nat) (l3 : List (S23)) (r : Bool) (w : World) (hr0_1 : Kd.C k62 w A0_1 l0_1.length l0_1) (hc0_1 : l0_1.length ≤ c0_1) (hr1_1 : Kd.C k62 w A1_1 l1_1.length l1_1) (hc1_1 : l1_1.length ≤ c1_1) (hr2 : Kd.C k23 w A2 l2.length l2) (hc2 : l2.length ≤ c2) (hr3 : Kd.C k23 w A3 l3.length l3) (hc3 : l3.length ≤ c3) (h : tangramlaw26_kept.f k a0_0 l0_1 a1_0 l1_1 l2 l3 = some r) :
  Calls Try.prog 25 #[.agg #[.int .i64 a0_0, .slice A0_1 l0_1.length c0_1], .agg #[.int .i64 a1_0, .slice A1_1 l1_1.length c1_1], .slice A2 l2.length c2, .slice A3 l3.length c3] w fun e w' => e = .returned (.bool r) ∧ Below w.heap.size w w' := by
 have hu31 := Try.underlying31; have hu62 := Try.underlying62; have hu23 := Try.underlying23; have HR0_1 := Aside0.mk hr0_1; have HC0_1 := Aside0.mk hc0_1; clear hr0_1 hc0_1; have HR1_1 := Aside0.mk hr1_1; have HC1_1 := Aside0.mk hc1_1; clear hr1_1 hc1_1; have HR2 := Aside0.mk hr2; have HC2 := Aside0.mk hc2; clear hr2 hc2; have HR3 := Aside0.mk hr3; have HC3 := Aside0.mk hc3; clear hr3 hc3; have HB := Aside0.mk (Below.refl w.heap.size w); have H : (if a0_0 = a1_0 then (if (l0_1.length : Int) = (l1_1.length : Int) then (tangramlaw26_kept.j0 k l2 l3 ((l2.length : Int) != (l3.length : Int)) a0_0 l0_1 a1_0 l1_1) else (tangramlaw26_kept.j0 k l2 l3 true a0_0 l0_1 a1_0 l1_1)) else (tangramlaw26_kept.j0 k l2 l3 true a0_0 l0_1 a1_0 l1_1)) = some r := h; clear h; have HC5 := Aside0.mk H; clear H
 go_enter Try.func25, Try.ntmps25
 go_upto_region 1 with (first | ((with_reducible refine gate_dst (N := 4) rfl ?_); (try (refine gate_guard (by rfl) ?_; dsimp only)); refine be_ 4 #[.int .i64 a0_0, .slice A0_1 l0_1.length c0_1] 31 ?_; intro gb514 hg w6 hbox hb; have BK514 := Aside0.mk (hbox); have GW514 := wq (hb0 HB) hg; have GE514 := wq (hb0 HB) hg; replace HB := hs (hb0 HB) hb; clear hb hbox hg) | ((with_reducible refine gate_dst (N := 5) rfl ?_); (try (refine gate_guard (by rfl) ?_; dsimp only)); refine be_ 5 #[.int .i64 a1_0, .slice A1_1 l1_1.length c1_1] 31 ?_; intro gb515 hg w7 hbox hb; have BK515 := Aside0.mk (hbox); have GW515 := wq (hb1 HB GE514) hg; have GE515 := wq (hb1 HB GE514) hg; replace HB := hs (hb1 HB GE514) hb; have NB514_515 := lx BK514 hg; have NB515_514 := gx BK514 hg; replace BK514 := kx BK514 hb; clear hb hbox hg))
 repeat (go_quiet (first | ((with_reducible refine gate_dst (N := 4) rfl ?_); (try (refine gate_guard (by rfl) ?_; dsimp only)); refine be_ 4 #[.int .i64 a0_0, .slice A0_1 l0_1.length c0_1] 31 ?_; intro gb514 hg w6 hbox hb; have BK514 := Aside0.mk (hbox); have GW514 := wq (hb0 HB) hg; have GE514 := wq (hb0 HB) hg; replace HB := hs (hb0 HB) hb; clear hb hbox hg) | ((with_reducible refine gate_dst (N := 5) rfl ?_); (try (refine gate_guard (by rfl) ?_; dsimp only)); refine be_ 5 #[.int .i64 a1_0, .slice A1_1 l1_1.length c1_1] 31 ?_; intro gb515 hg w7 hbox hb; have BK515 := Aside0.mk (hbox); have GW515 := wq (hb1 HB GE514) hg; have GE515 := wq (hb1 HB GE514) hg; replace HB := hs (hb1 HB GE514) hb; have NB514_515 := lx BK514 hg; have NB515_514 := gx BK514 hg; replace BK514 := kx BK514 hb; clear hb hbox hg)); go_upto_region 1 with (first | ((with_reducible refine gate_dst (N := 4) rfl ?_); (try (refine gate_guard (by rfl) ?_; dsimp only)); refine be_ 4 #[.int .i64 a0_0, .slice A0_1 l0_1.length c0_1] 31 ?_; intro gb514 hg w6 hbox hb; have BK514 := Aside0.mk (hbox); have GW514 := wq (hb0 HB) hg; have GE514 := wq (hb0 HB) hg; replace HB := hs (hb0 HB) hb; clear hb hbox hg) | ((with_reducible refine gate_dst (N := 5) rfl ?_); (try (refine gate_guard (by rfl) ?_; dsimp only)); refine be_ 5 #[.int .i64 a1_0, .slice A1_1 l1_1.length c1_1] 31 ?_; intro gb515 hg w7 hbox hb; have BK515 := Aside0.mk (hbox); have GW515 := wq (hb1 HB GE514) hg; have GE515 := wq (hb1 HB GE514) hg; replace HB := hs (hb1 HB GE514) hb; have NB514_515 := lx BK514 hg; have NB515_514 := gx BK514 hg; replace BK514 := kx BK514 hb; clear hb hbox hg)))
 (try simp only [Act.put, List.setIfInBounds_toArray, List.set_cons_zero, List.set_cons_succ])
 go_cut [31] (fun v31 wc => ∃ (kq : Nat) (x31_4 : Bool), v31 = .bool x31_4 ∧ Aside0 (tangramlaw26_kept.j0 kq l2 l3 x31_4 a0_0 l0_1 a1_0 l1_1 = some r) ∧ Aside0 (kq ≤ k) ∧ Aside0 (wc.heap[gb514]? = some (.cells #[.int .i64 a0_0, (.slice A0_1 l0_1.length c0_1)] 31 (0, 0))) ∧ Aside0 (wc.heap[gb515]? = some (.cells #[.int .i64 a1_0, (.slice A1_1 l1_1.length c1_1)] 31 (0, 0))) ∧ Aside0 (Below w.heap.size w wc))
 case first => as_aux_lemma =>
  have H := HC5.out; clear HC5
  by_cases c8 : a0_0 = a1_0
  ·rw [if_pos c8] at H; have c8b0 : (a0_0 == a1_0) = true := beq_iff_eq.mpr c8; have c8b1 : (a0_0 != a1_0) = false := bne_eq_false_iff_eq.mpr c8; clear c8
   (first | rw [c8b0] | (simp only [i64_w, i32_w]; rw [c8b0]) | skip)
   by_cases c9 : (l0_1.length : Int) = (l1_1.length : Int)
   ·rw [if_pos c9] at H; have c9b0 : ((l0_1.length : Int) == (l1_1.length : Int)) = true := beq_iff_eq.mpr c9; have c9b1 : ((l0_1.length : Int) != (l1_1.length : Int)) = false := bne_eq_false_iff_eq.mpr c9; have c9b2 : (l0_1.length == l1_1.length) = true := by first | simpa using c9 | (simp at c9 ⊢; omega)
    clear c9; have H' := Aside0.mk H; clear H; have hnb10 := NB514_515.out; have hnc10 := NB515_514.out; have hcz11_0 : w7.cell? ⟨gb514, 0, none⟩ = some (.int .i64 a0_0) := bc BK514 0; have hcz11_1 : w7.cell? ⟨gb514, 1, none⟩ = some (.slice A0_1 l0_1.length c0_1) := bc BK514 1; have hfz11_0 := blk_frozen BK514.out 0; have hfz11_1 := blk_frozen BK514.out 1; have hcz12_0 : w7.cell? ⟨gb515, 0, none⟩ = some (.int .i64 a1_0) := bc BK515 0; have hcz12_1 : w7.cell? ⟨gb515, 1, none⟩ = some (.slice A1_1 l1_1.length c1_1) := bc BK515 1; have hfz12_0 := blk_frozen BK515.out 0; have hfz12_1 := blk_frozen BK515.out 1
    go_wp2
    repeat (go_quiet (fail); try go_wp2)
    go_meet
    case rel => exact ⟨_, (((l2.length : Int) != (l3.length : Int))), (by first | rfl | (simp; done) | (simp [*]; done)), H', ⟨by first | omega | exact Nat.le_refl _⟩, ⟨bx BK514⟩, ⟨bx BK515⟩, ⟨hb2 HB GE514 GE515⟩⟩
   ·rw [if_neg c9] at H; have c9b0 : ((l0_1.length : Int) == (l1_1.length : Int)) = false := beq_eq_false_iff_ne.mpr c9; have c9b1 : ((l0_1.length : Int) != (l1_1.length : Int)) = true := bne_iff_ne.mpr c9; have c9b2 : (l0_1.length == l1_1.length) = false := by first | simpa using c9 | (simp at c9 ⊢; omega)
    have H' := Aside0.mk H; clear H; have hnb13 := NB514_515.out; have hnc13 := NB515_514.out; have hcz14_0 : w7.cell? ⟨gb514, 0, none⟩ = some (.int .i64 a0_0) := bc BK514 0; have hcz14_1 : w7.cell? ⟨gb514, 1, none⟩ = some (.slice A0_1 l0_1.length c0_1) := bc BK514 1; have hfz14_0 := blk_frozen BK514.out 0; have hfz14_1 := blk_frozen BK514.out 1; have hcz15_0 : w7.cell? ⟨gb515, 0, none⟩ = some (.int .i64 a1_0) := bc BK515 0; have hcz15_1 : w7.cell? ⟨gb515, 1, none⟩ = some (.slice A1_1 l1_1.length c1_1) := bc BK515 1; have hfz15_0 := blk_frozen BK515.out 0; have hfz15_1 := blk_frozen BK515.out 1
    go_wp2
    repeat (go_quiet (fail); try go_wp2)
    go_meet
    case rel => exact ⟨_, (true), (by first | rfl | (simp; done) | (simp [*]; done)), H', ⟨by first | omega | exact Nat.le_refl _⟩, ⟨bx BK514⟩, ⟨bx BK515⟩, ⟨hb2 HB GE514 GE515⟩⟩
  ·rw [if_neg c8] at H; have c8b0 : (a0_0 == a1_0) = false := beq_eq_false_iff_ne.mpr c8; have c8b1 : (a0_0 != a1_0) = true := bne_iff_ne.mpr c8
   (first | rw [c8b0] | (simp only [i64_w, i32_w]; rw [c8b0]) | skip)
   have H' := Aside0.mk H; clear H; have hnb16 := NB514_515.out; have hnc16 := NB515_514.out; have hcz17_0 : w7.cell? ⟨gb514, 0, none⟩ = some (.int .i64 a0_0) := bc BK514 0; have hcz17_1 : w7.cell? ⟨gb514, 1, none⟩ = some (.slice A0_1 l0_1.length c0_1) := bc BK514 1; have hfz17_0 := blk_frozen BK514.out 0; have hfz17_1 := blk_frozen BK514.out 1; have hcz18_0 : w7.cell? ⟨gb515, 0, none⟩ = some (.int .i64 a1_0) := bc BK515 0; have hcz18_1 : w7.cell? ⟨gb515, 1, none⟩ = some (.slice A1_1 l1_1.length c1_1) := bc BK515 1; have hfz18_0 := blk_frozen BK515.out 0; have hfz18_1 := blk_frozen BK515.out 1
   go_wp2
   repeat (go_quiet (fail); try go_wp2)
   go_meet
   case rel => exact ⟨_, (true), (by first | rfl | (simp; done) | (simp [*]; done)), H', ⟨by first | omega | exact Nat.le_refl _⟩, ⟨bx BK514⟩, ⟨bx BK515⟩, ⟨hb2 HB GE514 GE515⟩⟩
 case rest => as_aux_lemma =>
  clear HC5
  try clear c1
  try clear c2
  try clear p2
  try clear c3
  try clear c8
  try clear c8b0
  try clear c8b1
  try clear c9
  try clear c9b0
  try clear c9b1
  try clear c9b2
  try clear c10
  try clear c13
  try clear c16
  try clear hcz11_0
  try clear hcz11_1
  try clear hcz12_0
  try clear hcz12_1
  try clear hcz14_0
  try clear hcz14_1
  try clear hcz15_0
  try clear hcz15_1
  try clear hcz17_0
  try clear hcz17_1
  try clear hcz18_0
  try clear hcz18_1
  try clear hfz11_0
  try clear hfz11_1
  try clear hfz12_0
  try clear hfz12_1
  try clear hfz14_0
  try clear hfz14_1
  try clear hfz15_0
  try clear hfz15_1
  try clear hfz17_0
  try clear hfz17_1
  try clear hfz18_0
  try clear hfz18_1
  obtain ⟨kq, x31_4, rfl, HA, HJ4, BK514, BK515, HB⟩ := hcut
  cases kq with
  | zero => exact absurd HA.out (by simp [tangramlaw26_kept.j0])
  | succ kj4 =>
   have H := HA.out; clear HA; simp only [tangramlaw26_kept.j0] at H
   by_cases c19 : x31_4 = true
   ·subst c19; rw [if_pos rfl] at H; obtain rfl := Option.some.inj H
    go_wp2
    repeat (go_quiet (fail); try go_wp2)
    go_ret
    exact ⟨by rfl, hb2 HB GE514 GE515⟩
   ·replace c19 := Bool.eq_false_iff.mpr c19; subst c19; rw [if_neg (show ¬ (false = true) by decide)] at H; have H' := Aside0.mk H; clear H
    go_wp2
    repeat (go_quiet (fail); try go_wp2)
    go_loopg [9] kj4 (fun kq v9 w' => ∃ (x9_2 : Int), v9 = .int .i64 x9_2 ∧ Aside0 (tangramlaw26_kept.l0 kq l2 l3 x9_2 a0_0 l0_1 a1_0 l1_1 = some r) ∧ Aside0 (kq ≤ kj4) ∧ Aside0 (w'.heap[gb514]? = some (.cells #[.int .i64 a0_0, (.slice A0_1 l0_1.length c0_1)] 31 (0, 0))) ∧ Aside0 (w'.heap[gb515]? = some (.cells #[.int .i64 a1_0, (.slice A1_1 l1_1.length c1_1)] 31 (0, 0))) ∧ Aside0 (Below w.heap.size w w'))
    case atStart => exact ⟨(0), (by first | rfl | (simp; done) | (simp [*]; done)), H', ⟨Nat.le_refl _⟩, ⟨bx BK514⟩, ⟨bx BK515⟩, ⟨hb2 HB GE514 GE515⟩⟩
    case round =>
     clear H'
     try clear c1
     try clear c2
     try clear p2
     try clear c3
     try clear c8
     try clear c8b0
     try clear c8b1
     try clear c9
     try clear c9b0
     try clear c9b1
     try clear c9b2
     try clear c10
     try clear c13
     try clear c16
     try clear c19
     try clear hcz11_0
     try clear hcz11_1
     try clear hcz12_0
     try clear hcz12_1
     try clear hcz14_0
     try clear hcz14_1
     try clear hcz15_0
     try clear hcz15_1
     try clear hcz17_0
     try clear hcz17_1
     try clear hcz18_0
     try clear hcz18_1
     try clear hfz11_0
     try clear hfz11_1
     try clear hfz12_0
     try clear hfz12_1
     try clear hfz14_0
     try clear hfz14_1
     try clear hfz15_0
     try clear hfz15_1
     try clear hfz17_0
     try clear hfz17_1
     try clear hfz18_0
     try clear hfz18_1
     try clear p2
     obtain ⟨x9_2, rfl, HA, HK2, BK514, BK515, HB⟩ := hrel
     cases gk with
     | zero => exact absurd HA.out (by simp [tangramlaw26_kept.l0])
     | succ k2 =>
      have H := HA.out; clear HA; simp only [tangramlaw26_kept.l0] at H
      by_cases c20 : x9_2 < (l0_1.length : Int)
      ·rw [if_pos c20] at H; have c20b0 : decide (x9_2 < (l0_1.length : Int)) = true := decide_eq_true c20; clear c20
       by_cases c21 : 0 ≤ x9_2
       ·rw [if_pos c21] at H; have c21b0 : decide (0 ≤ x9_2) = true := decide_eq_true c21; clear c21
        by_cases c22 : x9_2 < (l1_1.length : Int)
        ·rw [if_pos c22] at H; have c22b0 : decide (x9_2 < (l1_1.length : Int)) = true := decide_eq_true c22; clear c22
         by_cases c23 : (!(((rd_T62 l0_1 x9_2).f0) == ((rd_T62 l1_1 x9_2).f0)) || (!(((rd_T62 l0_1 x9_2).f1) == ((rd_T62 l1_1 x9_2).f1)))) = true
         ·rw [if_pos c23] at H; have c23b0 : (!(((rd_T62 l0_1 x9_2).f0) == ((rd_T62 l1_1 x9_2).f0)) || (!(((rd_T62 l0_1 x9_2).f1) == ((rd_T62 l1_1 x9_2).f1)))) = true := c23; clear c23; obtain rfl := Option.some.inj H; have hnb24 := NB514_515.out; have hnc24 := NB515_514.out; have hcz25_0 : wr.cell? ⟨gb514, 0, none⟩ = some (.int .i64 a0_0) := bc BK514 0; have hcz25_1 : wr.cell? ⟨gb514, 1, none⟩ = some (.slice A0_1 l0_1.length c0_1) := bc BK514 1; have hfz25_0 := blk_frozen BK514.out 0; have hfz25_1 := blk_frozen BK514.out 1; have p516 : 0 ≤ (x9_2 : Int) := of_decide_eq_true (by first | (with_reducible assumption) | assumption); have q516 : x9_2 < (l0_1.length : Int) := of_decide_eq_true (by first | (with_reducible assumption) | assumption); obtain ⟨ad516, e516, hx516_0, hx516_1⟩ := at_T62 HR0_1.out x9_2 p516 q516
          cases e516
          replace hx516_0 := (HB.out.cell (World.block_lt_of_cell? w _ hx516_0)).trans hx516_0; replace hx516_1 := (HB.out.cell (World.block_lt_of_cell? w _ hx516_1)).trans hx516_1; replace p516 := eq_true p516; replace q516 := eq_true q516; have hcz26_0 : wr.cell? ⟨gb515, 0, none⟩ = some (.int .i64 a1_0) := bc BK515 0; have hcz26_1 : wr.cell? ⟨gb515, 1, none⟩ = some (.slice A1_1 l1_1.length c1_1) := bc BK515 1; have hfz26_0 := blk_frozen BK515.out 0; have hfz26_1 := blk_frozen BK515.out 1; have p517 : 0 ≤ (x9_2 : Int) := of_decide_eq_true (by first | (with_reducible assumption) | assumption); have q517 : x9_2 < (l1_1.length : Int) := of_decide_eq_true (by first | (with_reducible assumption) | assumption); obtain ⟨ad517, e517, hx517_0, hx517_1⟩ := at_T62 HR1_1.out x9_2 p517 q517
          cases e517
          replace hx517_0 := (HB.out.cell (World.block_lt_of_cell? w _ hx517_0)).trans hx517_0; replace hx517_1 := (HB.out.cell (World.block_lt_of_cell? w _ hx517_1)).trans hx517_1; replace p517 := eq_true p517; replace q517 := eq_true q517
          go_wp2
          repeat (go_quiet (fail); try go_wp2)
          go_ret
          exact ⟨by rfl, hb2 HB GE514 GE515⟩
         ·rw [if_neg c23] at H; have c23b0 : (!(((rd_T62 l0_1 x9_2).f0) == ((rd_T62 l1_1 x9_2).f0)) || (!(((rd_T62 l0_1 x9_2).f1) == ((rd_T62 l1_1 x9_2).f1)))) = false := by simpa using c23
          clear c23; have H' := Aside0.mk H; clear H; have hnb27 := NB514_515.out; have hnc27 := NB515_514.out; have hcz28_0 : wr.cell? ⟨gb514, 0, none⟩ = some (.int .i64 a0_0) := bc BK514 0; have hcz28_1 : wr.cell? ⟨gb514, 1, none⟩ = some (.slice A0_1 l0_1.length c0_1) := bc BK514 1; have hfz28_0 := blk_frozen BK514.out 0; have hfz28_1 := blk_frozen BK514.out 1; have p516 : 0 ≤ (x9_2 : Int) := of_decide_eq_true (by first | (with_reducible assumption) | assumption); have q516 : x9_2 < (l0_1.length : Int) := of_decide_eq_true (by first | (with_reducible assumption) | assumption); obtain ⟨ad516, e516, hx516_0, hx516_1⟩ := at_T62 HR0_1.out x9_2 p516 q516
          cases e516
          replace hx516_0 := (HB.out.cell (World.block_lt_of_cell? w _ hx516_0)).trans hx516_0; replace hx516_1 := (HB.out.cell (World.block_lt_of_cell? w _ hx516_1)).trans hx516_1; replace p516 := eq_true p516; replace q516 := eq_true q516; have hcz29_0 : wr.cell? ⟨gb515, 0, none⟩ = some (.int .i64 a1_0) := bc BK515 0; have hcz29_1 : wr.cell? ⟨gb515, 1, none⟩ = some (.slice A1_1 l1_1.length c1_1) := bc BK515 1; have hfz29_0 := blk_frozen BK515.out 0; have hfz29_1 := blk_frozen BK515.out 1; have p517 : 0 ≤ (x9_2 : Int) := of_decide_eq_true (by first | (with_reducible assumption) | assumption); have q517 : x9_2 < (l1_1.length : Int) := of_decide_eq_true (by first | (with_reducible assumption) | assumption); obtain ⟨ad517, e517, hx517_0, hx517_1⟩ := at_T62 HR1_1.out x9_2 p517 q517
          cases e517
          replace hx517_0 := (HB.out.cell (World.block_lt_of_cell? w _ hx517_0)).trans hx517_0; replace hx517_1 := (HB.out.cell (World.block_lt_of_cell? w _ hx517_1)).trans hx517_1; replace p517 := eq_true p517; replace q517 := eq_true q517
          go_wp2
          repeat (go_quiet (fail); try go_wp2)
          go_roundg k2
          case measure => have := HJ4.out; have := HK2.out; omega
          case rel => exact ⟨(wrap64 (x9_2 + 1)), (by first | rfl | (simp; done) | (simp [*]; done)), H', ⟨by have := HJ4.out; have := HK2.out; omega⟩, ⟨bx BK514⟩, ⟨bx BK515⟩, ⟨hb2 HB GE514 GE515⟩⟩
        ·rw [if_neg c22] at H; exact absurd H (by simp)
       ·rw [if_neg c21] at H; exact absurd H (by simp)
      ·rw [if_neg c20] at H; have c20b0 : decide (x9_2 < (l0_1.length : Int)) = false := decide_eq_false c20; clear c20; have H' := Aside0.mk H; clear H; have hnb30 := NB514_515.out; have hnc30 := NB515_514.out; have hcz31_0 : wr.cell? ⟨gb514, 0, none⟩ = some (.int .i64 a0_0) := bc BK514 0; have hcz31_1 : wr.cell? ⟨gb514, 1, none⟩ = some (.slice A0_1 l0_1.length c0_1) := bc BK514 1; have hfz31_0 := blk_frozen BK514.out 0; have hfz31_1 := blk_frozen BK514.out 1
       go_wp2
       repeat (go_quiet (fail); try go_wp2)
       go_loopg [10] k2 (fun kq v10 w' => ∃ (x10_3 : Int), v10 = .int .i64 x10_3 ∧ Aside0 (tangramlaw26_kept.l1 kq l2 l3 x10_3 = some r) ∧ Aside0 (kq ≤ k2) ∧ Aside0 (w'.heap[gb514]? = some (.cells #[.int .i64 a0_0, (.slice A0_1 l0_1.length c0_1)] 31 (0, 0))) ∧ Aside0 (w'.heap[gb515]? = some (.cells #[.int .i64 a1_0, (.slice A1_1 l1_1.length c1_1)] 31 (0, 0))) ∧ Aside0 (Below w.heap.size w w'))
       case atStart => exact ⟨(0), (by first | rfl | (simp; done) | (simp [*]; done)), H', ⟨Nat.le_refl _⟩, ⟨bx BK514⟩, ⟨bx BK515⟩, ⟨hb2 HB GE514 GE515⟩⟩
       case round =>
        clear H'
        try clear c1
        try clear c2
        try clear p2
        try clear c3
        try clear p5
        try clear q5
        try clear hx5
        try clear p6
        try clear c8
        try clear c8b0
        try clear c8b1
        try clear c9
        try clear c9b0
        try clear c9b1
        try clear c9b2
        try clear c10
        try clear c13
        try clear c16
        try clear c19
        try clear c20
        try clear c20b0
        try clear c21
        try clear c21b0
        try clear c22
        try clear c22b0
        try clear c23
        try clear c23b0
        try clear c24
        try clear c25
        try clear c27
        try clear c30
        try clear hcz11_0
        try clear hcz11_1
        try clear hcz12_0
        try clear hcz12_1
        try clear hcz14_0
        try clear hcz14_1
        try clear hcz15_0
        try clear hcz15_1
        try clear hcz17_0
        try clear hcz17_1
        try clear hcz18_0
        try clear hcz18_1
        try clear hcz25_0
        try clear hcz25_1
        try clear hcz26_0
        try clear hcz26_1
        try clear hcz28_0
        try clear hcz28_1
        try clear hcz29_0
        try clear hcz29_1
        try clear hcz31_0
        try clear hcz31_1
        try clear hfz11_0
        try clear hfz11_1
        try clear hfz12_0
        try clear hfz12_1
        try clear hfz14_0
        try clear hfz14_1
        try clear hfz15_0
        try clear hfz15_1
        try clear hfz17_0
        try clear hfz17_1
        try clear hfz18_0
        try clear hfz18_1
        try clear hfz25_0
        try clear hfz25_1
        try clear hfz26_0
        try clear hfz26_1
        try clear hfz28_0
        try clear hfz28_1
        try clear hfz29_0
        try clear hfz29_1
        try clear hfz31_0
        try clear hfz31_1
        try clear hx516_0
        try clear hx516_1
        try clear hx517_0
        try clear hx517_1
        try clear p2
        try clear p516
        try clear p517
        try clear q516
        try clear q517
        obtain ⟨x10_3, rfl, HA, HK3, BK514, BK515, HB⟩ := hrel
        cases gk with
        | zero => exact absurd HA.out (by simp [tangramlaw26_kept.l1])
        | succ k3 =>
         have H := HA.out; clear HA; simp only [tangramlaw26_kept.l1] at H
         by_cases c32 : x10_3 < (l2.length : Int)
         ·rw [if_pos c32] at H; have c32b0 : decide (x10_3 < (l2.length : Int)) = true := decide_eq_true c32; clear c32
          by_cases c33 : 0 ≤ x10_3
          ·rw [if_pos c33] at H; have c33b0 : decide (0 ≤ x10_3) = true := decide_eq_true c33; clear c33
           by_cases c34 : x10_3 < (l3.length : Int)
           ·rw [if_pos c34] at H; have c34b0 : decide (x10_3 < (l3.length : Int)) = true := decide_eq_true c34; clear c34
            by_cases c35 : (!(((rd_T23 l2 x10_3).f0) == ((rd_T23 l3 x10_3).f0)) || (!(((rd_T23 l2 x10_3).f1) == ((rd_T23 l3 x10_3).f1)))) = true
            ·rw [if_pos c35] at H; have c35b0 : (!(((rd_T23 l2 x10_3).f0) == ((rd_T23 l3 x10_3).f0)) || (!(((rd_T23 l2 x10_3).f1) == ((rd_T23 l3 x10_3).f1)))) = true := c35; clear c35; obtain rfl := Option.some.inj H; have p518 : 0 ≤ (x10_3 : Int) := of_decide_eq_true (by first | (with_reducible assumption) | assumption); have q518 : x10_3 < (l2.length : Int) := of_decide_eq_true (by first | (with_reducible assumption) | assumption); obtain ⟨ad518, e518, hx518_0, hx518_1⟩ := at_T23 HR2.out x10_3 p518 q518
             cases e518
             replace hx518_0 := (HB.out.cell (World.block_lt_of_cell? w _ hx518_0)).trans hx518_0; replace hx518_1 := (HB.out.cell (World.block_lt_of_cell? w _ hx518_1)).trans hx518_1; replace p518 := eq_true p518; replace q518 := eq_true q518; have p519 : 0 ≤ (x10_3 : Int) := of_decide_eq_true (by first | (with_reducible assumption) | assumption); have q519 : x10_3 < (l3.length : Int) := of_decide_eq_true (by first | (with_reducible assumption) | assumption); obtain ⟨ad519, e519, hx519_0, hx519_1⟩ := at_T23 HR3.out x10_3 p519 q519
             cases e519
             replace hx519_0 := (HB.out.cell (World.block_lt_of_cell? w _ hx519_0)).trans hx519_0; replace hx519_1 := (HB.out.cell (World.block_lt_of_cell? w _ hx519_1)).trans hx519_1; replace p519 := eq_true p519; replace q519 := eq_true q519
             go_wp2
             repeat (go_quiet (fail); try go_wp2)
             go_ret
             exact ⟨by rfl, hb2 HB GE514 GE515⟩
            ·rw [if_neg c35] at H; have c35b0 : (!(((rd_T23 l2 x10_3).f0) == ((rd_T23 l3 x10_3).f0)) || (!(((rd_T23 l2 x10_3).f1) == ((rd_T23 l3 x10_3).f1)))) = false := by simpa using c35
             clear c35; have H' := Aside0.mk H; clear H; have p518 : 0 ≤ (x10_3 : Int) := of_decide_eq_true (by first | (with_reducible assumption) | assumption); have q518 : x10_3 < (l2.length : Int) := of_decide_eq_true (by first | (with_reducible assumption) | assumption); obtain ⟨ad518, e518, hx518_0, hx518_1⟩ := at_T23 HR2.out x10_3 p518 q518
             cases e518
             replace hx518_0 := (HB.out.cell (World.block_lt_of_cell? w _ hx518_0)).trans hx518_0; replace hx518_1 := (HB.out.cell (World.block_lt_of_cell? w _ hx518_1)).trans hx518_1; replace p518 := eq_true p518; replace q518 := eq_true q518; have p519 : 0 ≤ (x10_3 : Int) := of_decide_eq_true (by first | (with_reducible assumption) | assumption); have q519 : x10_3 < (l3.length : Int) := of_decide_eq_true (by first | (with_reducible assumption) | assumption); obtain ⟨ad519, e519, hx519_0, hx519_1⟩ := at_T23 HR3.out x10_3 p519 q519
             cases e519
             replace hx519_0 := (HB.out.cell (World.block_lt_of_cell? w _ hx519_0)).trans hx519_0; replace hx519_1 := (HB.out.cell (World.block_lt_of_cell? w _ hx519_1)).trans hx519_1; replace p519 := eq_true p519; replace q519 := eq_true q519
             go_wp2
             repeat (go_quiet (fail); try go_wp2)
             go_roundg k3
             case measure => have := HJ4.out; have := HK2.out; have := HK3.out; omega
             case rel => exact ⟨(wrap64 (x10_3 + 1)), (by first | rfl | (simp; done) | (simp [*]; done)), H', ⟨by have := HJ4.out; have := HK2.out; have := HK3.out; omega⟩, ⟨bx BK514⟩, ⟨bx BK515⟩, ⟨hb2 HB GE514 GE515⟩⟩
           ·rw [if_neg c34] at H; exact absurd H (by simp)
          ·rw [if_neg c33] at H; exact absurd H (by simp)
         ·rw [if_neg c32] at H; have c32b0 : decide (x10_3 < (l2.length : Int)) = false := decide_eq_false c32; clear c32; obtain rfl := Option.some.inj H
          go_wp2
          repeat (go_quiet (fail); try go_wp2)
          go_ret
          exact ⟨by rfl, hb2 HB GE514 GE515⟩

end Go.Proofs.Ythfoliejhdpbaaa.PCroA
