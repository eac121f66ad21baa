import Derived.Test.YthfoliejhdpbaaaZPCroAx0
import Derived.Test.YthfoliejhdpbaaaZPCroAx3
namespace Go.Proofs.Ythfoliejhdpbaaa.PCroA
open Go.RowKit Go.Proofs.YthfoliejhdpbaaaW.PrintWords Go.Proofs.YthfoliejhdpbaaaW.PrintLast Go.Proofs.YthfoliejhdpbaaaW.PrintMore
open Go.Proofs.YthfoliejhdpbaaaX
attribute [local go_sem] max2_int min2_int max_two min_two max_three min_three max_four min_four
set_option linter.unusedVariables false
set_option linter.unusedSimpArgs false

/-! ### cross_meet: function 43 -/
def cross_meet.j0 : Nat → Bool → Int → Int → Int → Int → Int → Int → Int → Int → Option (Bool)
 | 0, _, _, _, _, _, _, _, _, _ => none
 | k + 1, x58, x128000, x128001, x129000, x129001, x130000, x130001, x131000, x131001 => if x58 = true then (some false) else ((cross_turn.f x128000 x128001 x129000 x129001 x130000 x130001).bind fun t131 => ((cross_turn.f x128000 x128001 x129000 x129001 x131000 x131001).bind fun t132 => (if (wrap64 (t131 * t132)) ≤ 0 then ((cross_turn.f x130000 x130001 x131000 x131001 x128000 x128001).bind fun t133 => ((cross_turn.f x130000 x130001 x131000 x131001 x129000 x129001).bind fun t134 => (some (decide ((wrap64 (t133 * t134)) ≤ 0))))) else (some false))))
def cross_meet.f (k : Nat) (a0_0 : Int) (a0_1 : Int) (a1_0 : Int) (a1_1 : Int) (a2_0 : Int) (a2_1 : Int) (a3_0 : Int) (a3_1 : Int) : Option (Bool) := if (mx a0_0 a1_0) < (mn a2_0 a3_0) then (cross_meet.j0 k true a0_0 a0_1 a1_0 a1_1 a2_0 a2_1 a3_0 a3_1) else (if (mx a2_0 a3_0) < (mn a0_0 a1_0) then (cross_meet.j0 k true a0_0 a0_1 a1_0 a1_1 a2_0 a2_1 a3_0 a3_1) else (if (mx a0_1 a1_1) < (mn a2_1 a3_1) then (cross_meet.j0 k true a0_0 a0_1 a1_0 a1_1 a2_0 a2_1 a3_0 a3_1) else (cross_meet.j0 k (decide ((mx a2_1 a3_1) < (mn a0_1 a1_1))) a0_0 a0_1 a1_0 a1_1 a2_0 a2_1 a3_0 a3_1)))
theorem cross_meet.mono_l : ∀ k, (∀ y0 y1 y2 y3 y4 y5 y6 y7 y8, LeO (cross_meet.j0 k y0 y1 y2 y3 y4 y5 y6 y7 y8) (cross_meet.j0 (k + 1) y0 y1 y2 y3 y4 y5 y6 y7 y8))
 | 0 => fun _ _ _ _ _ _ _ _ _ r h => by simp [cross_meet.j0] at h
 | k + 1 => by
  have ih0 := cross_meet.mono_l k
  ·intro y0 y1 y2 y3 y4 y5 y6 y7 y8
   unfold cross_meet.j0
   repeat' first
   | (with_reducible exact ih0 _ _ _ _ _ _ _ _ _)
   | (with_reducible exact LeO.refl _)
   | (with_reducible exact LeO.none _)
   | (with_reducible refine LeO.ite ?_ ?_)
   | (with_reducible refine LeO.bind ?_ (fun _ => ?_))
   | exact LeO.none _
   | refine LeO.ite ?_ ?_
   | refine LeO.bind ?_ (fun _ => ?_)
theorem cross_meet.mono : ∀ a0 a1 a2 a3 a4 a5 a6 a7 k, LeO (cross_meet.f k a0 a1 a2 a3 a4 a5 a6 a7) (cross_meet.f (k + 1) a0 a1 a2 a3 a4 a5 a6 a7) := by
 intro a0 a1 a2 a3 a4 a5 a6 a7 k; have ih0 := cross_meet.mono_l k
 unfold cross_meet.f
 repeat' first
   | (with_reducible exact ih0 _ _ _ _ _ _ _ _ _)
   | (with_reducible exact LeO.refl _)
   | (with_reducible exact LeO.none _)
   | (with_reducible refine LeO.ite ?_ ?_)
   | (with_reducible refine LeO.bind ?_ (fun _ => ?_))
   | exact LeO.none _
   | refine LeO.ite ?_ ?_
   | refine LeO.bind ?_ (fun _ => ?_)
def cross_meet.T3 : Bool × List (List Nat × List Nat) := (true, [([], []), ([], []), ([], []), ([0, 1, 2], [0, 1, 2]), ([], []), ([], []), ([], []), ([4, 5, 6, 3], [4, 5, 6]), ([3, 7], [3, 7]), ([8], [8]), ([9, 7], [9]), ([10], [10]), ([10], [10]), ([10], [10]), ([11, 12, 13, 10, 10], [10, 11, 12, 13]), ([10], [10]), ([10], [10]), ([10], [10]), ([15, 16, 17, 14, 10], [10, 15, 16, 17]), ([14, 18, 10], [10, 14, 18]), ([19, 10], [10, 19]), ([10, 20], [10, 20]), ([21, 18, 0, 1, 2, 3, 4, 5, 6, 7, 8, 9, 10, 11, 12, 13, 14, 15, 16, 17, 18, 19, 20, 21], [21])])
def cross_meet.B3 : List Nat := [0, 0, 0, 7, 0, 0, 0, 127, 255, 511, 1023, 2047, 2047, 2047, 16383, 2047, 2047, 2047, 262143, 524287, 1048575, 2097151, 4194303]
theorem cross_meet.tab3 : rtab .any (opsOf Try.f43 3) = cross_meet.T3 := by kernel_rfl
theorem cross_meet.bits3 : waitsOk cross_meet.T3.2 cross_meet.B3 = true := by kernel_rfl
set_option maxHeartbeats 8000000 in
set_option maxRecDepth 100000 in
theorem cross_meet.calls (k : Nat) (a0_0 : Int) (a0_1 : Int) (a1_0 : Int) (a1_1 : Int) (a2_0 : Int) (a2_1 : Int) (a3_0 : Int) (a3_1 : Int) (r : Bool) (w : World) (h : cross_meet.f k a0_0 a0_1 a1_0 a1_1 a2_0 a2_1 a3_0 a3_1 = some r) :
  Calls Try.prog 43 #[.agg #[.int .i64 a0_0, .int .i64 a0_1], .agg #[.int .i64 a1_0, .int .i64 a1_1], .agg #[.int .i64 a2_0, .int .i64 a2_1], .agg #[.int .i64 a3_0, .int .i64 a3_1]] w fun e w' => e = .returned (.bool r) ∧ Below w.heap.size w w' := by
 have hu23 := Try.underlying23; have HB := Aside0.mk (Below.refl w.heap.size w); have H : (if (mx a0_0 a1_0) < (mn a2_0 a3_0) then (cross_meet.j0 k true a0_0 a0_1 a1_0 a1_1 a2_0 a2_1 a3_0 a3_1) else (if (mx a2_0 a3_0) < (mn a0_0 a1_0) then (cross_meet.j0 k true a0_0 a0_1 a1_0 a1_1 a2_0 a2_1 a3_0 a3_1) else (if (mx a0_1 a1_1) < (mn a2_1 a3_1) then (cross_meet.j0 k true a0_0 a0_1 a1_0 a1_1 a2_0 a2_1 a3_0 a3_1) else (cross_meet.j0 k (decide ((mx a2_1 a3_1) < (mn a0_1 a1_1))) a0_0 a0_1 a1_0 a1_1 a2_0 a2_1 a3_0 a3_1)))) = some r := h; clear h; have HC5 := Aside0.mk H; clear H
 go_enter Try.func43, Try.ntmps43
 go_upto_region 1 with (first | ((with_reducible refine gate_dst (N := 4) rfl ?_); (try (refine gate_guard (by rfl) ?_; dsimp only)); refine be_ 4 #[.int .i64 a0_0, .int .i64 a0_1] 23 ?_; intro gb127 hg w6 hbox hb; have BK127 := Aside0.mk (hbox); have GW127 := wq (hb0 HB) hg; have GE127 := wq (hb0 HB) hg; replace HB := hs (hb0 HB) hb; clear hb hbox hg) | ((with_reducible refine gate_dst (N := 5) rfl ?_); (try (refine gate_guard (by rfl) ?_; dsimp only)); refine be_ 5 #[.int .i64 a1_0, .int .i64 a1_1] 23 ?_; intro gb128 hg w7 hbox hb; have BK128 := Aside0.mk (hbox); have GW128 := wq (hb1 HB GE127) hg; have GE128 := wq (hb1 HB GE127) hg; replace HB := hs (hb1 HB GE127) hb; have NB127_128 := lx BK127 hg; have NB128_127 := gx BK127 hg; replace BK127 := kx BK127 hb; clear hb hbox hg) | ((with_reducible refine gate_dst (N := 6) rfl ?_); (try (refine gate_guard (by rfl) ?_; dsimp only)); refine be_ 6 #[.int .i64 a2_0, .int .i64 a2_1] 23 ?_; intro gb129 hg w8 hbox hb; have BK129 := Aside0.mk (hbox); have GW129 := wq (hb2 HB GE127 GE128) hg; have GE129 := wq (hb2 HB GE127 GE128) hg; replace HB := hs (hb2 HB GE127 GE128) hb; have NB127_129 := lx BK127 hg; have NB129_127 := gx BK127 hg; replace BK127 := kx BK127 hb; have NB128_129 := lx BK128 hg; have NB129_128 := gx BK128 hg; replace BK128 := kx BK128 hb; clear hb hbox hg) | ((with_reducible refine gate_dst (N := 7) rfl ?_); (try (refine gate_guard (by rfl) ?_; dsimp only)); refine be_ 7 #[.int .i64 a3_0, .int .i64 a3_1] 23 ?_; intro gb130 hg w9 hbox hb; have BK130 := Aside0.mk (hbox); have GW130 := wq (hb3 HB GE127 GE128 GE129) hg; have GE130 := wq (hb3 HB GE127 GE128 GE129) hg; replace HB := hs (hb3 HB GE127 GE128 GE129) hb; have NB127_130 := lx BK127 hg; have NB130_127 := gx BK127 hg; replace BK127 := kx BK127 hb; have NB128_130 := lx BK128 hg; have NB130_128 := gx BK128 hg; replace BK128 := kx BK128 hb; have NB129_130 := lx BK129 hg; have NB130_129 := gx BK129 hg; replace BK129 := kx BK129 hb; clear hb hbox hg))
 (try simp only [Act.put, List.setIfInBounds_toArray, List.set_cons_zero, List.set_cons_succ])
 go_cut [58] (fun v58 wc => ∃ (kq : Nat) (x58_4 : Bool), v58 = .bool x58_4 ∧ Aside0 (cross_meet.j0 kq x58_4 a0_0 a0_1 a1_0 a1_1 a2_0 a2_1 a3_0 a3_1 = some r) ∧ Aside0 (kq ≤ k) ∧ Aside0 (wc.heap[gb127]? = some (.cells #[.int .i64 a0_0, .int .i64 a0_1] 23 (0, 0))) ∧ Aside0 (wc.heap[gb128]? = some (.cells #[.int .i64 a1_0, .int .i64 a1_1] 23 (0, 0))) ∧ Aside0 (wc.heap[gb129]? = some (.cells #[.int .i64 a2_0, .int .i64 a2_1] 23 (0, 0))) ∧ Aside0 (wc.heap[gb130]? = some (.cells #[.int .i64 a3_0, .int .i64 a3_1] 23 (0, 0))) ∧ Aside0 (Below w.heap.size w wc))
 case first => as_aux_lemma =>
  have H := HC5.out; clear HC5; obtain ⟨ji10, hji10⟩ : ∃ j_ : Int, (mx a0_0 a1_0) = j_ := ⟨_, rfl⟩; replace H : (if (ji10) < (mn a2_0 a3_0) then (cross_meet.j0 k true a0_0 a0_1 a1_0 a1_1 a2_0 a2_1 a3_0 a3_1) else (if (mx a2_0 a3_0) < (mn a0_0 a1_0) then (cross_meet.j0 k true a0_0 a0_1 a1_0 a1_1 a2_0 a2_1 a3_0 a3_1) else (if (mx a0_1 a1_1) < (mn a2_1 a3_1) then (cross_meet.j0 k true a0_0 a0_1 a1_0 a1_1 a2_0 a2_1 a3_0 a3_1) else (cross_meet.j0 k (decide ((mx a2_1 a3_1) < (mn a0_1 a1_1))) a0_0 a0_1 a1_0 a1_1 a2_0 a2_1 a3_0 a3_1)))) = some r := by first | (rw [hji10] at H; exact H) | (simp only [hji10] at H ⊢; exact H)
  have hji10_ : (if a0_0 < a1_0 then a1_0 else a0_0) = ji10 := hji10; obtain ⟨ji11, hji11⟩ : ∃ j_ : Int, (mn a2_0 a3_0) = j_ := ⟨_, rfl⟩; replace H : (if (ji10) < (ji11) then (cross_meet.j0 k true a0_0 a0_1 a1_0 a1_1 a2_0 a2_1 a3_0 a3_1) else (if (mx a2_0 a3_0) < (mn a0_0 a1_0) then (cross_meet.j0 k true a0_0 a0_1 a1_0 a1_1 a2_0 a2_1 a3_0 a3_1) else (if (mx a0_1 a1_1) < (mn a2_1 a3_1) then (cross_meet.j0 k true a0_0 a0_1 a1_0 a1_1 a2_0 a2_1 a3_0 a3_1) else (cross_meet.j0 k (decide ((mx a2_1 a3_1) < (mn a0_1 a1_1))) a0_0 a0_1 a1_0 a1_1 a2_0 a2_1 a3_0 a3_1)))) = some r := by first | (rw [hji11] at H; exact H) | (simp only [hji11] at H ⊢; exact H)
  have hji11_ : (if a3_0 < a2_0 then a3_0 else a2_0) = ji11 := hji11
  by_cases c12 : (ji10) < (ji11)
  ·rw [if_pos c12] at H; have c12b0 : decide ((ji10) < (ji11)) = true := decide_eq_true c12; clear c12
   (first | rw [c12b0] | (simp only [i64_w, i32_w]; rw [c12b0]) | skip)
   have H' := Aside0.mk H; clear H; have hnb13 := NB127_128.out; have hnc13 := NB128_127.out; have hnb14 := NB127_129.out; have hnc14 := NB129_127.out; have hnb15 := NB127_130.out; have hnc15 := NB130_127.out; have hcz16_0 : w9.cell? ⟨gb127, 0, none⟩ = some (.int .i64 a0_0) := bc BK127 0; have hcz16_1 : w9.cell? ⟨gb127, 1, none⟩ = some (.int .i64 a0_1) := bc BK127 1; have hfz16_0 := blk_frozen BK127.out 0; have hfz16_1 := blk_frozen BK127.out 1; have hnb17 := NB128_129.out; have hnc17 := NB129_128.out; have hnb18 := NB128_130.out; have hnc18 := NB130_128.out; have hcz19_0 : w9.cell? ⟨gb128, 0, none⟩ = some (.int .i64 a1_0) := bc BK128 0; have hcz19_1 : w9.cell? ⟨gb128, 1, none⟩ = some (.int .i64 a1_1) := bc BK128 1; have hfz19_0 := blk_frozen BK128.out 0; have hfz19_1 := blk_frozen BK128.out 1; have hnb20 := NB129_130.out; have hnc20 := NB130_129.out; have hcz21_0 : w9.cell? ⟨gb129, 0, none⟩ = some (.int .i64 a2_0) := bc BK129 0; have hcz21_1 : w9.cell? ⟨gb129, 1, none⟩ = some (.int .i64 a2_1) := bc BK129 1; have hfz21_0 := blk_frozen BK129.out 0; have hfz21_1 := blk_frozen BK129.out 1; have hcz22_0 : w9.cell? ⟨gb130, 0, none⟩ = some (.int .i64 a3_0) := bc BK130 0; have hcz22_1 : w9.cell? ⟨gb130, 1, none⟩ = some (.int .i64 a3_1) := bc BK130 1; have hfz22_0 := blk_frozen BK130.out 0; have hfz22_1 := blk_frozen BK130.out 1
   go_wp2
   go_meet
   case rel => exact ⟨_, (true), (by first | rfl | (simp; done) | (simp [*]; done)), H', ⟨by first | omega | exact Nat.le_refl _⟩, ⟨bx BK127⟩, ⟨bx BK128⟩, ⟨bx BK129⟩, ⟨bx BK130⟩, ⟨hb4 HB GE127 GE128 GE129 GE130⟩⟩
  ·rw [if_neg c12] at H; have c12b0 : decide ((ji10) < (ji11)) = false := decide_eq_false c12; clear c12
   (first | rw [c12b0] | (simp only [i64_w, i32_w]; rw [c12b0]) | skip)
   obtain ⟨ji23, hji23⟩ : ∃ j_ : Int, (mx a2_0 a3_0) = j_ := ⟨_, rfl⟩; replace H : (if (ji23) < (mn a0_0 a1_0) then (cross_meet.j0 k true a0_0 a0_1 a1_0 a1_1 a2_0 a2_1 a3_0 a3_1) else (if (mx a0_1 a1_1) < (mn a2_1 a3_1) then (cross_meet.j0 k true a0_0 a0_1 a1_0 a1_1 a2_0 a2_1 a3_0 a3_1) else (cross_meet.j0 k (decide ((mx a2_1 a3_1) < (mn a0_1 a1_1))) a0_0 a0_1 a1_0 a1_1 a2_0 a2_1 a3_0 a3_1))) = some r := by first | (rw [hji23] at H; exact H) | (simp only [hji23] at H ⊢; exact H)
   have hji23_ : (if a2_0 < a3_0 then a3_0 else a2_0) = ji23 := hji23; obtain ⟨ji24, hji24⟩ : ∃ j_ : Int, (mn a0_0 a1_0) = j_ := ⟨_, rfl⟩; replace H : (if (ji23) < (ji24) then (cross_meet.j0 k true a0_0 a0_1 a1_0 a1_1 a2_0 a2_1 a3_0 a3_1) else (if (mx a0_1 a1_1) < (mn a2_1 a3_1) then (cross_meet.j0 k true a0_0 a0_1 a1_0 a1_1 a2_0 a2_1 a3_0 a3_1) else (cross_meet.j0 k (decide ((mx a2_1 a3_1) < (mn a0_1 a1_1))) a0_0 a0_1 a1_0 a1_1 a2_0 a2_1 a3_0 a3_1))) = some r := by first | (rw [hji24] at H; exact H) | (simp only [hji24] at H ⊢; exact H)
   have hji24_ : (if a1_0 < a0_0 then a1_0 else a0_0) = ji24 := hji24
   by_cases c25 : (ji23) < (ji24)
   ·rw [if_pos c25] at H; have c25b0 : decide ((ji23) < (ji24)) = true := decide_eq_true c25; clear c25; have H' := Aside0.mk H; clear H; have hnb26 := NB127_128.out; have hnc26 := NB128_127.out; have hnb27 := NB127_129.out; have hnc27 := NB129_127.out; have hnb28 := NB127_130.out; have hnc28 := NB130_127.out; have hcz29_0 : w9.cell? ⟨gb127, 0, none⟩ = some (.int .i64 a0_0) := bc BK127 0; have hcz29_1 : w9.cell? ⟨gb127, 1, none⟩ = some (.int .i64 a0_1) := bc BK127 1; have hfz29_0 := blk_frozen BK127.out 0; have hfz29_1 := blk_frozen BK127.out 1; have hnb30 := NB128_129.out; have hnc30 := NB129_128.out; have hnb31 := NB128_130.out; have hnc31 := NB130_128.out; have hcz32_0 : w9.cell? ⟨gb128, 0, none⟩ = some (.int .i64 a1_0) := bc BK128 0; have hcz32_1 : w9.cell? ⟨gb128, 1, none⟩ = some (.int .i64 a1_1) := bc BK128 1; have hfz32_0 := blk_frozen BK128.out 0; have hfz32_1 := blk_frozen BK128.out 1; have hnb33 := NB129_130.out; have hnc33 := NB130_129.out; have hcz34_0 : w9.cell? ⟨gb129, 0, none⟩ = some (.int .i64 a2_0) := bc BK129 0; have hcz34_1 : w9.cell? ⟨gb129, 1, none⟩ = some (.int .i64 a2_1) := bc BK129 1; have hfz34_0 := blk_frozen BK129.out 0; have hfz34_1 := blk_frozen BK129.out 1; have hcz35_0 : w9.cell? ⟨gb130, 0, none⟩ = some (.int .i64 a3_0) := bc BK130 0; have hcz35_1 : w9.cell? ⟨gb130, 1, none⟩ = some (.int .i64 a3_1) := bc BK130 1; have hfz35_0 := blk_frozen BK130.out 0; have hfz35_1 := blk_frozen BK130.out 1
    go_wp2
    go_meet
    case rel => exact ⟨_, (true), (by first | rfl | (simp; done) | (simp [*]; done)), H', ⟨by first | omega | exact Nat.le_refl _⟩, ⟨bx BK127⟩, ⟨bx BK128⟩, ⟨bx BK129⟩, ⟨bx BK130⟩, ⟨hb4 HB GE127 GE128 GE129 GE130⟩⟩
   ·rw [if_neg c25] at H; have c25b0 : decide ((ji23) < (ji24)) = false := decide_eq_false c25; clear c25; obtain ⟨ji36, hji36⟩ : ∃ j_ : Int, (mx a0_1 a1_1) = j_ := ⟨_, rfl⟩; replace H : (if (ji36) < (mn a2_1 a3_1) then (cross_meet.j0 k true a0_0 a0_1 a1_0 a1_1 a2_0 a2_1 a3_0 a3_1) else (cross_meet.j0 k (decide ((mx a2_1 a3_1) < (mn a0_1 a1_1))) a0_0 a0_1 a1_0 a1_1 a2_0 a2_1 a3_0 a3_1)) = some r := by first | (rw [hji36] at H; exact H) | (simp only [hji36] at H ⊢; exact H)
    have hji36_ : (if a0_1 < a1_1 then a1_1 else a0_1) = ji36 := hji36; obtain ⟨ji37, hji37⟩ : ∃ j_ : Int, (mn a2_1 a3_1) = j_ := ⟨_, rfl⟩; replace H : (if (ji36) < (ji37) then (cross_meet.j0 k true a0_0 a0_1 a1_0 a1_1 a2_0 a2_1 a3_0 a3_1) else (cross_meet.j0 k (decide ((mx a2_1 a3_1) < (mn a0_1 a1_1))) a0_0 a0_1 a1_0 a1_1 a2_0 a2_1 a3_0 a3_1)) = some r := by first | (rw [hji37] at H; exact H) | (simp only [hji37] at H ⊢; exact H)
    have hji37_ : (if a3_1 < a2_1 then a3_1 else a2_1) = ji37 := hji37
    by_cases c38 : (ji36) < (ji37)
    ·rw [if_pos c38] at H; have c38b0 : decide ((ji36) < (ji37)) = true := decide_eq_true c38; clear c38; have H' := Aside0.mk H; clear H; have hnb39 := NB127_128.out; have hnc39 := NB128_127.out; have hnb40 := NB127_129.out; have hnc40 := NB129_127.out; have hnb41 := NB127_130.out; have hnc41 := NB130_127.out; have hcz42_0 : w9.cell? ⟨gb127, 0, none⟩ = some (.int .i64 a0_0) := bc BK127 0; have hcz42_1 : w9.cell? ⟨gb127, 1, none⟩ = some (.int .i64 a0_1) := bc BK127 1; have hfz42_0 := blk_frozen BK127.out 0; have hfz42_1 := blk_frozen BK127.out 1; have hnb43 := NB128_129.out; have hnc43 := NB129_128.out; have hnb44 := NB128_130.out; have hnc44 := NB130_128.out; have hcz45_0 : w9.cell? ⟨gb128, 0, none⟩ = some (.int .i64 a1_0) := bc BK128 0; have hcz45_1 : w9.cell? ⟨gb128, 1, none⟩ = some (.int .i64 a1_1) := bc BK128 1; have hfz45_0 := blk_frozen BK128.out 0; have hfz45_1 := blk_frozen BK128.out 1; have hnb46 := NB129_130.out; have hnc46 := NB130_129.out; have hcz47_0 : w9.cell? ⟨gb129, 0, none⟩ = some (.int .i64 a2_0) := bc BK129 0; have hcz47_1 : w9.cell? ⟨gb129, 1, none⟩ = some (.int .i64 a2_1) := bc BK129 1; have hfz47_0 := blk_frozen BK129.out 0; have hfz47_1 := blk_frozen BK129.out 1; have hcz48_0 : w9.cell? ⟨gb130, 0, none⟩ = some (.int .i64 a3_0) := bc BK130 0; have hcz48_1 : w9.cell? ⟨gb130, 1, none⟩ = some (.int .i64 a3_1) := bc BK130 1; have hfz48_0 := blk_frozen BK130.out 0; have hfz48_1 := blk_frozen BK130.out 1
     go_wp2
     go_meet
     case rel => exact ⟨_, (true), (by first | rfl | (simp; done) | (simp [*]; done)), H', ⟨by first | omega | exact Nat.le_refl _⟩, ⟨bx BK127⟩, ⟨bx BK128⟩, ⟨bx BK129⟩, ⟨bx BK130⟩, ⟨hb4 HB GE127 GE128 GE129 GE130⟩⟩
    ·rw [if_neg c38] at H; have c38b0 : decide ((ji36) < (ji37)) = false := decide_eq_false c38; clear c38; obtain ⟨ji49, hji49⟩ : ∃ j_ : Int, (mx a2_1 a3_1) = j_ := ⟨_, rfl⟩; replace H : (cross_meet.j0 k (decide ((ji49) < (mn a0_1 a1_1))) a0_0 a0_1 a1_0 a1_1 a2_0 a2_1 a3_0 a3_1) = some r := by first | (rw [hji49] at H; exact H) | (simp only [hji49] at H ⊢; exact H)
     have hji49_ : (if a2_1 < a3_1 then a3_1 else a2_1) = ji49 := hji49; obtain ⟨ji50, hji50⟩ : ∃ j_ : Int, (mn a0_1 a1_1) = j_ := ⟨_, rfl⟩; replace H : (cross_meet.j0 k (decide ((ji49) < (ji50))) a0_0 a0_1 a1_0 a1_1 a2_0 a2_1 a3_0 a3_1) = some r := by first | (rw [hji50] at H; exact H) | (simp only [hji50] at H ⊢; exact H)
     have hji50_ : (if a1_1 < a0_1 then a1_1 else a0_1) = ji50 := hji50; have H' := Aside0.mk H; clear H; have hnb51 := NB127_128.out; have hnc51 := NB128_127.out; have hnb52 := NB127_129.out; have hnc52 := NB129_127.out; have hnb53 := NB127_130.out; have hnc53 := NB130_127.out; have hcz54_0 : w9.cell? ⟨gb127, 0, none⟩ = some (.int .i64 a0_0) := bc BK127 0; have hcz54_1 : w9.cell? ⟨gb127, 1, none⟩ = some (.int .i64 a0_1) := bc BK127 1; have hfz54_0 := blk_frozen BK127.out 0; have hfz54_1 := blk_frozen BK127.out 1; have hnb55 := NB128_129.out; have hnc55 := NB129_128.out; have hnb56 := NB128_130.out; have hnc56 := NB130_128.out; have hcz57_0 : w9.cell? ⟨gb128, 0, none⟩ = some (.int .i64 a1_0) := bc BK128 0; have hcz57_1 : w9.cell? ⟨gb128, 1, none⟩ = some (.int .i64 a1_1) := bc BK128 1; have hfz57_0 := blk_frozen BK128.out 0; have hfz57_1 := blk_frozen BK128.out 1; have hnb58 := NB129_130.out; have hnc58 := NB130_129.out; have hcz59_0 : w9.cell? ⟨gb129, 0, none⟩ = some (.int .i64 a2_0) := bc BK129 0; have hcz59_1 : w9.cell? ⟨gb129, 1, none⟩ = some (.int .i64 a2_1) := bc BK129 1; have hfz59_0 := blk_frozen BK129.out 0; have hfz59_1 := blk_frozen BK129.out 1; have hcz60_0 : w9.cell? ⟨gb130, 0, none⟩ = some (.int .i64 a3_0) := bc BK130 0; have hcz60_1 : w9.cell? ⟨gb130, 1, none⟩ = some (.int .i64 a3_1) := bc BK130 1; have hfz60_0 := blk_frozen BK130.out 0; have hfz60_1 := blk_frozen BK130.out 1
     go_wp2
     go_meet
     case rel => exact ⟨_, (decide ((ji49) < (ji50))), (by first | rfl | (simp; done) | (simp only [← hji49, ← hji50] <;> (first | rfl | simp)) | (simp [*]; done)), H', ⟨by first | omega | exact Nat.le_refl _⟩, ⟨bx BK127⟩, ⟨bx BK128⟩, ⟨bx BK129⟩, ⟨bx BK130⟩, ⟨hb4 HB GE127 GE128 GE129 GE130⟩⟩
 case rest => as_aux_lemma =>
  clear HC5
  try clear c1
  try clear c2
  try clear p2
  try clear c3
  try clear c4
  try clear c5
  try clear c12
  try clear c12b0
  try clear c13
  try clear c14
  try clear c15
  try clear c17
  try clear c18
  try clear c20
  try clear c25
  try clear c25b0
  try clear c26
  try clear c27
  try clear c28
  try clear c30
  try clear c31
  try clear c33
  try clear c38
  try clear c38b0
  try clear c39
  try clear c40
  try clear c41
  try clear c43
  try clear c44
  try clear c46
  try clear c51
  try clear c52
  try clear c53
  try clear c55
  try clear c56
  try clear c58
  try clear hcz16_0
  try clear hcz16_1
  try clear hcz19_0
  try clear hcz19_1
  try clear hcz21_0
  try clear hcz21_1
  try clear hcz22_0
  try clear hcz22_1
  try clear hcz29_0
  try clear hcz29_1
  try clear hcz32_0
  try clear hcz32_1
  try clear hcz34_0
  try clear hcz34_1
  try clear hcz35_0
  try clear hcz35_1
  try clear hcz42_0
  try clear hcz42_1
  try clear hcz45_0
  try clear hcz45_1
  try clear hcz47_0
  try clear hcz47_1
  try clear hcz48_0
  try clear hcz48_1
  try clear hcz54_0
  try clear hcz54_1
  try clear hcz57_0
  try clear hcz57_1
  try clear hcz59_0
  try clear hcz59_1
  try clear hcz60_0
  try clear hcz60_1
  try clear hfz16_0
  try clear hfz16_1
  try clear hfz19_0
  try clear hfz19_1
  try clear hfz21_0
  try clear hfz21_1
  try clear hfz22_0
  try clear hfz22_1
  try clear hfz29_0
  try clear hfz29_1
  try clear hfz32_0
  try clear hfz32_1
  try clear hfz34_0
  try clear hfz34_1
  try clear hfz35_0
  try clear hfz35_1
  try clear hfz42_0
  try clear hfz42_1
  try clear hfz45_0
  try clear hfz45_1
  try clear hfz47_0
  try clear hfz47_1
  try clear hfz48_0
  try clear hfz48_1
  try clear hfz54_0
  try clear hfz54_1
  try clear hfz57_0
  try clear hfz57_1
  try clear hfz59_0
  try clear hfz59_1
  try clear hfz60_0
  try clear hfz60_1
  obtain ⟨kq, x58_4, rfl, HA, HJ4, BK127, BK128, BK129, BK130, HB⟩ := hcut
  cases kq with
  | zero => exact absurd HA.out (by simp [cross_meet.j0])
  | succ kj4 =>
   have H := HA.out; clear HA; simp only [cross_meet.j0] at H
   by_cases c61 : x58_4 = true
   ·subst c61; rw [if_pos rfl] at H; obtain rfl := Option.some.inj H
    go_wp2
    go_ret
    exact ⟨by rfl, hb4 HB GE127 GE128 GE129 GE130⟩
   ·replace c61 := Bool.eq_false_iff.mpr c61; subst c61; rw [if_neg (show ¬ (false = true) by decide)] at H; replace H := Option.bind_eq_some_iff.mp H; obtain ⟨t131, A620, H⟩ := H; (try dsimp only at H); have A62 := Aside0.mk A620; clear A620; replace H := Option.bind_eq_some_iff.mp H; obtain ⟨t132, A630, H⟩ := H; (try dsimp only at H); have A63 := Aside0.mk A630; clear A630
    by_cases c64 : (wrap64 (t131 * t132)) ≤ 0
    ·rw [if_pos c64] at H; have c64b0 : decide ((wrap64 (t131 * t132)) ≤ 0) = true := decide_eq_true c64; clear c64; replace H := Option.bind_eq_some_iff.mp H; obtain ⟨t133, A650, H⟩ := H; (try dsimp only at H); have A65 := Aside0.mk A650; clear A650; replace H := Option.bind_eq_some_iff.mp H; obtain ⟨t134, A660, H⟩ := H; (try dsimp only at H); have A66 := Aside0.mk A660; clear A660; obtain rfl := Option.some.inj H
     try go_wp2
     replace BK127 := bd BK127; replace BK128 := bd BK128; replace BK129 := bd BK129; replace BK130 := bd BK130; replace HB := Aside0.mk (below_drew1 HB.out); refine start_ (n := 23) (S := fun w' => w'.cell? ⟨gb127, 0, none⟩ = some (.int .i64 a0_0) ∧ w'.cell? ⟨gb127, 1, none⟩ = some (.int .i64 a0_1) ∧ w'.cell? ⟨gb128, 0, none⟩ = some (.int .i64 a1_0) ∧ w'.cell? ⟨gb128, 1, none⟩ = some (.int .i64 a1_1) ∧ w'.cell? ⟨gb129, 0, none⟩ = some (.int .i64 a2_0) ∧ w'.cell? ⟨gb129, 1, none⟩ = some (.int .i64 a2_1) ∧ w'.cell? ⟨gb130, 0, none⟩ = some (.int .i64 a3_0) ∧ w'.cell? ⟨gb130, 1, none⟩ = some (.int .i64 a3_1)) (ds := []) (pf 0 23) (by kernel_rfl) rfl rfl ⟨bc BK127 0, bc BK127 1, bc BK128 0, bc BK128 1, bc BK129 0, bc BK129 1, bc BK130 0, bc BK130 1⟩ (fun hHeld => ?_); refine with_tabW cross_meet.tab3 cross_meet.bits3 (fun HT_ HW_ => ?_); generalize wc.drew = w67 at BK127 BK128 BK129 BK130 HB hHeld ⊢; refine tk8_ 0 (some 59) (pf 1 23) HT_ HW_ hHeld ?_; refine tk8_ 1 (some 60) (pf 2 23) HT_ HW_ hHeld ?_; refine tk8_ 2 (some 61) (pf 3 23) HT_ HW_ hHeld ?_; refine tk8_ 4 (some 63) #[T_,T_,T_,F_,T_,F_,F_,F_,F_,F_,F_,F_,F_,F_,F_,F_,F_,F_,F_,F_,F_,F_,F_] HT_ HW_ hHeld ?_; refine tk8_ 5 (some 64) #[T_,T_,T_,F_,T_,T_,F_,F_,F_,F_,F_,F_,F_,F_,F_,F_,F_,F_,F_,F_,F_,F_,F_] HT_ HW_ hHeld ?_
     refine tk8_ 6 (some 65) #[T_,T_,T_,F_,T_,T_,T_,F_,F_,F_,F_,F_,F_,F_,F_,F_,F_,F_,F_,F_,F_,F_,F_] HT_ HW_ hHeld ?_; refine on_ 3 (some 62) (pf 7 23) HT_ (fun K hK => ?_); refine gs_ Try.func38 #[.agg #[.int .i64 a0_0, .int .i64 a0_1], .agg #[.int .i64 a1_0, .int .i64 a1_1], .agg #[.int .i64 a2_0, .int .i64 a2_1]] ?_
     with_reducible refine (cross_turn.calls a0_0 a0_1 a1_0 a1_1 a2_0 a2_1 t131 _ A62.out).mono ?_
     rintro e w68 ⟨rfl, hb⟩; refine ⟨_, rfl, ?_⟩; replace BK127 := kx BK127 hb; replace BK128 := kx BK128 hb; replace BK129 := kx BK129 hb; replace BK130 := kx BK130 hb; replace HB := hs (hb4 HB GE127 GE128 GE129 GE130) hb
     (try clear hb)
     (try clear hk)
     (try clear hi)
     refine hK.out _ _ ⟨bc BK127 0, bc BK127 1, bc BK128 0, bc BK128 1, bc BK129 0, bc BK129 1, bc BK130 0, bc BK130 1⟩ (fun hHeld => ?_); clear hK K; refine nm_ (some 62) ?_; refine on_ 7 (some 66) (pf 8 23) HT_ (fun K hK => ?_); refine gs_ Try.func38 #[.agg #[.int .i64 a0_0, .int .i64 a0_1], .agg #[.int .i64 a1_0, .int .i64 a1_1], .agg #[.int .i64 a3_0, .int .i64 a3_1]] ?_
     with_reducible refine (cross_turn.calls a0_0 a0_1 a1_0 a1_1 a3_0 a3_1 t132 _ A63.out).mono ?_
     rintro e w69 ⟨rfl, hb⟩; refine ⟨_, rfl, ?_⟩; replace BK127 := kx BK127 hb; replace BK128 := kx BK128 hb; replace BK129 := kx BK129 hb; replace BK130 := kx BK130 hb; replace HB := hs (hb4 HB GE127 GE128 GE129 GE130) hb
     (try clear hb)
     (try clear hk)
     (try clear hi)
     refine hK.out _ _ ⟨bc BK127 0, bc BK127 1, bc BK128 0, bc BK128 1, bc BK129 0, bc BK129 1, bc BK130 0, bc BK130 1⟩ (fun hHeld => ?_); clear hK K; refine nm_ (some 66) ?_; refine pu_ 8 (some 67) (pf 9 23) HT_ ?_; refine pu_ 9 (some 68) (pf 10 23) HT_ ?_; refine pu_ 10 (some 69) (pf 11 23) HT_ ?_; refine tk8_ 11 (some 70) (pf 12 23) HT_ HW_ hHeld ?_; refine tk8_ 12 (some 71) (pf 13 23) HT_ HW_ hHeld ?_; refine tk8_ 13 (some 72) (pf 14 23) HT_ HW_ hHeld ?_; refine tk8_ 15 (some 74) #[T_,T_,T_,T_,T_,T_,T_,T_,T_,T_,T_,T_,T_,T_,F_,T_,F_,F_,F_,F_,F_,F_,F_] HT_ HW_ hHeld ?_; refine tk8_ 16 (some 75) #[T_,T_,T_,T_,T_,T_,T_,T_,T_,T_,T_,T_,T_,T_,F_,T_,T_,F_,F_,F_,F_,F_,F_] HT_ HW_ hHeld ?_; refine tk8_ 17 (some 76) #[T_,T_,T_,T_,T_,T_,T_,T_,T_,T_,T_,T_,T_,T_,F_,T_,T_,T_,F_,F_,F_,F_,F_] HT_ HW_ hHeld ?_; refine on_ 14 (some 73) (pf 18 23) HT_ (fun K hK => ?_); refine gs_ Try.func38 #[.agg #[.int .i64 a2_0, .int .i64 a2_1], .agg #[.int .i64 a3_0, .int .i64 a3_1], .agg #[.int .i64 a0_0, .int .i64 a0_1]] ?_
     with_reducible refine (cross_turn.calls a2_0 a2_1 a3_0 a3_1 a0_0 a0_1 t133 _ A65.out).mono ?_
     rintro e w70 ⟨rfl, hb⟩; refine ⟨_, rfl, ?_⟩; replace BK127 := kx BK127 hb; replace BK128 := kx BK128 hb; replace BK129 := kx BK129 hb; replace BK130 := kx BK130 hb; replace HB := hs (hb4 HB GE127 GE128 GE129 GE130) hb
     (try clear hb)
     (try clear hk)
     (try clear hi)
     refine hK.out _ _ ⟨bc BK127 0, bc BK127 1, bc BK128 0, bc BK128 1, bc BK129 0, bc BK129 1, bc BK130 0, bc BK130 1⟩ (fun hHeld => ?_); clear hK K; refine nm_ (some 73) ?_; refine on_ 18 (some 77) (pf 19 23) HT_ (fun K hK => ?_); refine gs_ Try.func38 #[.agg #[.int .i64 a2_0, .int .i64 a2_1], .agg #[.int .i64 a3_0, .int .i64 a3_1], .agg #[.int .i64 a1_0, .int .i64 a1_1]] ?_
     with_reducible refine (cross_turn.calls a2_0 a2_1 a3_0 a3_1 a1_0 a1_1 t134 _ A66.out).mono ?_
     rintro e w71 ⟨rfl, hb⟩; refine ⟨_, rfl, ?_⟩; replace BK127 := kx BK127 hb; replace BK128 := kx BK128 hb; replace BK129 := kx BK129 hb; replace BK130 := kx BK130 hb; replace HB := hs (hb4 HB GE127 GE128 GE129 GE130) hb
     (try clear hb)
     (try clear hk)
     (try clear hi)
     refine hK.out _ _ ⟨bc BK127 0, bc BK127 1, bc BK128 0, bc BK128 1, bc BK129 0, bc BK129 1, bc BK130 0, bc BK130 1⟩ (fun hHeld => ?_); clear hK K; refine nm_ (some 77) ?_; refine pu_ 19 (some 78) (pf 20 23) HT_ ?_; refine pu_ 20 (some 79) (pf 21 23) HT_ ?_; refine pu_ 21 (some 80) (pf 22 23) HT_ ?_; refine pu_ 22 (some 8) (pf 23 23) HT_ ?_; refine done_ (done_of HT_.out (by kernel_rfl)) ?_
     try go_wp2
     go_ret
     exact ⟨by rfl, hb4 HB GE127 GE128 GE129 GE130⟩
    ·rw [if_neg c64] at H; have c64b0 : decide ((wrap64 (t131 * t132)) ≤ 0) = false := decide_eq_false c64; clear c64; obtain rfl := Option.some.inj H
     try go_wp2
     replace BK127 := bd BK127; replace BK128 := bd BK128; replace BK129 := bd BK129; replace BK130 := bd BK130; replace HB := Aside0.mk (below_drew1 HB.out); refine start_ (n := 23) (S := fun w' => w'.cell? ⟨gb127, 0, none⟩ = some (.int .i64 a0_0) ∧ w'.cell? ⟨gb127, 1, none⟩ = some (.int .i64 a0_1) ∧ w'.cell? ⟨gb128, 0, none⟩ = some (.int .i64 a1_0) ∧ w'.cell? ⟨gb128, 1, none⟩ = some (.int .i64 a1_1) ∧ w'.cell? ⟨gb129, 0, none⟩ = some (.int .i64 a2_0) ∧ w'.cell? ⟨gb129, 1, none⟩ = some (.int .i64 a2_1) ∧ w'.cell? ⟨gb130, 0, none⟩ = some (.int .i64 a3_0) ∧ w'.cell? ⟨gb130, 1, none⟩ = some (.int .i64 a3_1)) (ds := []) (pf 0 23) (by kernel_rfl) rfl rfl ⟨bc BK127 0, bc BK127 1, bc BK128 0, bc BK128 1, bc BK129 0, bc BK129 1, bc BK130 0, bc BK130 1⟩ (fun hHeld => ?_); refine with_tabW cross_meet.tab3 cross_meet.bits3 (fun HT_ HW_ => ?_); generalize wc.drew = w72 at BK127 BK128 BK129 BK130 HB hHeld ⊢; refine tk8_ 0 (some 59) (pf 1 23) HT_ HW_ hHeld ?_; refine tk8_ 1 (some 60) (pf 2 23) HT_ HW_ hHeld ?_; refine tk8_ 2 (some 61) (pf 3 23) HT_ HW_ hHeld ?_; refine tk8_ 4 (some 63) #[T_,T_,T_,F_,T_,F_,F_,F_,F_,F_,F_,F_,F_,F_,F_,F_,F_,F_,F_,F_,F_,F_,F_] HT_ HW_ hHeld ?_; refine tk8_ 5 (some 64) #[T_,T_,T_,F_,T_,T_,F_,F_,F_,F_,F_,F_,F_,F_,F_,F_,F_,F_,F_,F_,F_,F_,F_] HT_ HW_ hHeld ?_
     refine tk8_ 6 (some 65) #[T_,T_,T_,F_,T_,T_,T_,F_,F_,F_,F_,F_,F_,F_,F_,F_,F_,F_,F_,F_,F_,F_,F_] HT_ HW_ hHeld ?_; refine on_ 3 (some 62) (pf 7 23) HT_ (fun K hK => ?_); refine gs_ Try.func38 #[.agg #[.int .i64 a0_0, .int .i64 a0_1], .agg #[.int .i64 a1_0, .int .i64 a1_1], .agg #[.int .i64 a2_0, .int .i64 a2_1]] ?_
     with_reducible refine (cross_turn.calls a0_0 a0_1 a1_0 a1_1 a2_0 a2_1 t131 _ A62.out).mono ?_
     rintro e w73 ⟨rfl, hb⟩; refine ⟨_, rfl, ?_⟩; replace BK127 := kx BK127 hb; replace BK128 := kx BK128 hb; replace BK129 := kx BK129 hb; replace BK130 := kx BK130 hb; replace HB := hs (hb4 HB GE127 GE128 GE129 GE130) hb
     (try clear hb)
     (try clear hk)
     (try clear hi)
     refine hK.out _ _ ⟨bc BK127 0, bc BK127 1, bc BK128 0, bc BK128 1, bc BK129 0, bc BK129 1, bc BK130 0, bc BK130 1⟩ (fun hHeld => ?_); clear hK K; refine nm_ (some 62) ?_; refine on_ 7 (some 66) (pf 8 23) HT_ (fun K hK => ?_); refine gs_ Try.func38 #[.agg #[.int .i64 a0_0, .int .i64 a0_1], .agg #[.int .i64 a1_0, .int .i64 a1_1], .agg #[.int .i64 a3_0, .int .i64 a3_1]] ?_
     with_reducible refine (cross_turn.calls a0_0 a0_1 a1_0 a1_1 a3_0 a3_1 t132 _ A63.out).mono ?_
     rintro e w74 ⟨rfl, hb⟩; refine ⟨_, rfl, ?_⟩; replace BK127 := kx BK127 hb; replace BK128 := kx BK128 hb; replace BK129 := kx BK129 hb; replace BK130 := kx BK130 hb; replace HB := hs (hb4 HB GE127 GE128 GE129 GE130) hb
     (try clear hb)
     (try clear hk)
     (try clear hi)
     refine hK.out _ _ ⟨bc BK127 0, bc BK127 1, bc BK128 0, bc BK128 1, bc BK129 0, bc BK129 1, bc BK130 0, bc BK130 1⟩ (fun hHeld => ?_); clear hK K; refine nm_ (some 66) ?_; refine pu_ 8 (some 67) (pf 9 23) HT_ ?_; refine pu_ 9 (some 68) (pf 10 23) HT_ ?_; refine pu_ 10 (some 69) (pf 11 23) HT_ ?_; refine pn_ 11 (some 70) (pf 12 23) HT_ ?_; refine pn_ 12 (some 71) (pf 13 23) HT_ ?_; refine pn_ 13 (some 72) (pf 14 23) HT_ ?_; refine pn_ 14 (some 73) (pf 15 23) HT_ ?_; refine pn_ 15 (some 74) (pf 16 23) HT_ ?_; refine pn_ 16 (some 75) (pf 17 23) HT_ ?_; refine pn_ 17 (some 76) (pf 18 23) HT_ ?_; refine pn_ 18 (some 77) (pf 19 23) HT_ ?_; refine pn_ 19 (some 78) (pf 20 23) HT_ ?_; refine pn_ 20 (some 79) (pf 21 23) HT_ ?_
     refine pu_ 21 (some 80) (pf 22 23) HT_ ?_; refine pu_ 22 (some 8) (pf 23 23) HT_ ?_; refine done_ (done_of HT_.out (by kernel_rfl)) ?_
     try go_wp2
     go_ret
     exact ⟨by rfl, hb4 HB GE127 GE128 GE129 GE130⟩


/-! ### cross_Meet: function 16 -/
def cross_Meet.f (k : Nat) (a0_0 : Int) (a0_1 : Int) (a1_0 : Int) (a1_1 : Int) (a2_0 : Int) (a2_1 : Int) (a3_0 : Int) (a3_1 : Int) : Option (Bool) := (cross_beyond.f k (([(⟨a0_0, a0_1⟩ : S23), (⟨a1_0, a1_1⟩ : S23), (⟨a2_0, a2_1⟩ : S23), (⟨a3_0, a3_1⟩ : S23)] : List (S23)))).bind fun t142 => (if t142 = true then (some false) else ((cross_meet.f k a0_0 a0_1 a1_0 a1_1 a2_0 a2_1 a3_0 a3_1).bind fun t143 => (some t143)))
theorem cross_Meet.mono : ∀ a0 a1 a2 a3 a4 a5 a6 a7 k, LeO (cross_Meet.f k a0 a1 a2 a3 a4 a5 a6 a7) (cross_Meet.f (k + 1) a0 a1 a2 a3 a4 a5 a6 a7) := by
 intro a0 a1 a2 a3 a4 a5 a6 a7 k
 unfold cross_Meet.f
 repeat' first
   | (with_reducible exact cross_beyond.mono _ _)
   | (with_reducible exact cross_meet.mono _ _ _ _ _ _ _ _ _)
   | (with_reducible exact LeO.refl _)
   | (with_reducible exact LeO.none _)
   | (with_reducible refine LeO.ite ?_ ?_)
   | (with_reducible refine LeO.bind ?_ (fun _ => ?_))
   | exact LeO.none _
   | refine LeO.ite ?_ ?_
   | refine LeO.bind ?_ (fun _ => ?_)
set_option maxHeartbeats 8000000 in
set_option maxRecDepth 100000 in
theorem cross_Meet.calls (k : Nat) (a0_0 : Int) (a0_1 : Int) (a1_0 : Int) (a1_1 : Int) (a2_0 : Int) (a2_1 : Int) (a3_0 : Int) (a3_1 : Int) (r : Bool) (w : World) (h : cross_Meet.f k a0_0 a0_1 a1_0 a1_1 a2_0 a2_1 a3_0 a3_1 = some r) :
  Calls Try.prog 16 #[.agg #[.int .i64 a0_0, .int .i64 a0_1], .agg #[.int .i64 a1_0, .int .i64 a1_1], .agg #[.int .i64 a2_0, .int .i64 a2_1], .agg #[.int .i64 a3_0, .int .i64 a3_1]] w fun e w' => e = .returned (.bool r) ∧ Below w.heap.size w w' := by
 have hu23 := Try.underlying23; have HB := Aside0.mk (Below.refl w.heap.size w); have H : ((cross_beyond.f k (([(⟨a0_0, a0_1⟩ : S23), (⟨a1_0, a1_1⟩ : S23), (⟨a2_0, a2_1⟩ : S23), (⟨a3_0, a3_1⟩ : S23)] : List (S23)))).bind fun t142 => (if t142 = true then (some false) else ((cross_meet.f k a0_0 a0_1 a1_0 a1_1 a2_0 a2_1 a3_0 a3_1).bind fun t143 => (some t143)))) = some r := h; clear h; obtain ⟨y139, hy139⟩ : ∃ y_ : List (S23), y_ = (([(⟨a0_0, a0_1⟩ : S23), (⟨a1_0, a1_1⟩ : S23), (⟨a2_0, a2_1⟩ : S23), (⟨a3_0, a3_1⟩ : S23)] : List (S23))) := ⟨_, rfl⟩; replace H : ((cross_beyond.f k y139).bind fun t142 => (if t142 = true then (some false) else ((cross_meet.f k a0_0 a0_1 a1_0 a1_1 a2_0 a2_1 a3_0 a3_1).bind fun t143 => (some t143)))) = some r := by first | (rw [hy139]; with_reducible exact H) | (have H2_ := (Option.bind_some _ _).symm.trans H; rw [hy139]; with_reducible exact H2_) | (have H2_ := (Option.bind_some _ _).symm.trans H; with_reducible exact H2_) | with_reducible exact H | (rw [hy139]; exact H) | exact H
 have Ny139 := Aside0.mk hy139; clear hy139; replace H := Option.bind_eq_some_iff.mp H; obtain ⟨t142, A50, H⟩ := H; (try dsimp only at H); have A5 := Aside0.mk A50; clear A50
 by_cases c6 : t142 = true
 ·subst c6; rw [if_pos rfl] at H; obtain rfl := Option.some.inj H
  go_enter Try.func16, Try.ntmps16
  go_wp2_with (first | ((with_reducible refine gate_dst (N := 4) rfl ?_); refine be_ 4 #[.int .i64 a0_0, .int .i64 a0_1] 23 ?_; intro gb135 hg w7 hbox hb; have BK135 := Aside0.mk (hbox); have GW135 := wq (hb0 HB) hg; have GE135 := wq (hb0 HB) hg; replace HB := hs (hb0 HB) hb; clear hb hbox hg) | ((with_reducible refine gate_dst (N := 5) rfl ?_); refine be_ 5 #[.int .i64 a1_0, .int .i64 a1_1] 23 ?_; intro gb136 hg w8 hbox hb; have BK136 := Aside0.mk (hbox); have GW136 := wq (hb1 HB GE135) hg; have GE136 := wq (hb1 HB GE135) hg; replace HB := hs (hb1 HB GE135) hb; have NB135_136 := lx BK135 hg; have NB136_135 := gx BK135 hg; replace BK135 := kx BK135 hb; clear hb hbox hg) | ((with_reducible refine gate_dst (N := 6) rfl ?_); refine be_ 6 #[.int .i64 a2_0, .int .i64 a2_1] 23 ?_; intro gb137 hg w9 hbox hb; have BK137 := Aside0.mk (hbox); have GW137 := wq (hb2 HB GE135 GE136) hg; have GE137 := wq (hb2 HB GE135 GE136) hg; replace HB := hs (hb2 HB GE135 GE136) hb; have NB135_137 := lx BK135 hg; have NB137_135 := gx BK135 hg; replace BK135 := kx BK135 hb; have NB136_137 := lx BK136 hg; have NB137_136 := gx BK136 hg; replace BK136 := kx BK136 hb; clear hb hbox hg) | ((with_reducible refine gate_dst (N := 7) rfl ?_); refine be_ 7 #[.int .i64 a3_0, .int .i64 a3_1] 23 ?_; intro gb138 hg w10 hbox hb; have BK138 := Aside0.mk (hbox); have GW138 := wq (hb3 HB GE135 GE136 GE137) hg; have GE138 := wq (hb3 HB GE135 GE136 GE137) hg; replace HB := hs (hb3 HB GE135 GE136 GE137) hb; have NB135_138 := lx BK135 hg; have NB138_135 := gx BK135 hg; replace BK135 := kx BK135 hb; have NB136_138 := lx BK136 hg; have NB138_136 := gx BK136 hg; replace BK136 := kx BK136 hb; have NB137_138 := lx BK137 hg; have NB138_137 := gx BK137 hg; replace BK137 := kx BK137 hb; clear hb hbox hg; have hnb11 := NB135_136.out; have hnc11 := NB136_135.out; have hnb12 := NB135_137.out; have hnc12 := NB137_135.out; have hnb13 := NB135_138.out; have hnc13 := NB138_135.out; have hcz14_0 : w10.cell? ⟨gb135, 0, none⟩ = some (.int .i64 a0_0) := bc BK135 0; have hcz14_1 : w10.cell? ⟨gb135, 1, none⟩ = some (.int .i64 a0_1) := bc BK135 1; have hfz14_0 := blk_frozen BK135.out 0; have hfz14_1 := blk_frozen BK135.out 1; have hnb15 := NB136_137.out; have hnc15 := NB137_136.out; have hnb16 := NB136_138.out; have hnc16 := NB138_136.out; have hcz17_0 : w10.cell? ⟨gb136, 0, none⟩ = some (.int .i64 a1_0) := bc BK136 0; have hcz17_1 : w10.cell? ⟨gb136, 1, none⟩ = some (.int .i64 a1_1) := bc BK136 1; have hfz17_0 := blk_frozen BK136.out 0; have hfz17_1 := blk_frozen BK136.out 1; have hnb18 := NB137_138.out; have hnc18 := NB138_137.out; have hcz19_0 : w10.cell? ⟨gb137, 0, none⟩ = some (.int .i64 a2_0) := bc BK137 0; have hcz19_1 : w10.cell? ⟨gb137, 1, none⟩ = some (.int .i64 a2_1) := bc BK137 1; have hfz19_0 := blk_frozen BK137.out 0; have hfz19_1 := blk_frozen BK137.out 1; have hcz20_0 : w10.cell? ⟨gb138, 0, none⟩ = some (.int .i64 a3_0) := bc BK138 0; have hcz20_1 : w10.cell? ⟨gb138, 1, none⟩ = some (.int .i64 a3_1) := bc BK138 1; have hfz20_0 := blk_frozen BK138.out 0; have hfz20_1 := blk_frozen BK138.out 1) | ((with_reducible refine gate_dst (N := 13) rfl ?_); refine Kd.R_lit k23 _ 23 ?hg (N := 13) ?hd (xs := ([(⟨a0_0, a0_1⟩ : S23), (⟨a1_0, a1_1⟩ : S23), (⟨a2_0, a2_1⟩ : S23), (⟨a3_0, a3_1⟩ : S23)] : List (S23))) (inner := [.int .i64 a0_0, .int .i64 a0_1, .int .i64 a1_0, .int .i64 a1_1, .int .i64 a2_0, .int .i64 a2_1, .int .i64 a3_0, .int .i64 a3_1]) (ok := fun _ => True) (okp := fun _ => True) ?hr ?hp (fun _ hk => hk) trivial (Below.refl _ _) (Nat.le_refl _) (by simp) ?_; (case hd => rfl); (case hg => rfl); (case hr => first | (go_simp; done) | (go_simp; rfl)); (case hp => exact (Reps.c2 (show Kd.M k23 _ _ _ (⟨a0_0, a0_1⟩ : S23) [.int .i64 a0_0, .int .i64 a0_1] from (k23_mkM _ _ _ (⟨a0_0, a0_1⟩ : S23) )) (Reps.c2 (show Kd.M k23 _ _ _ (⟨a1_0, a1_1⟩ : S23) [.int .i64 a1_0, .int .i64 a1_1] from (k23_mkM _ _ _ (⟨a1_0, a1_1⟩ : S23) )) (Reps.c2 (show Kd.M k23 _ _ _ (⟨a2_0, a2_1⟩ : S23) [.int .i64 a2_0, .int .i64 a2_1] from (k23_mkM _ _ _ (⟨a2_0, a2_1⟩ : S23) )) (Reps.c2 (show Kd.M k23 _ _ _ (⟨a3_0, a3_1⟩ : S23) [.int .i64 a3_0, .int .i64 a3_1] from (k23_mkM _ _ _ (⟨a3_0, a3_1⟩ : S23) )) (Reps.none _ _)))))); intro v140 w21 ho22 hb hg_ hnew_; clear hg_ hnew_; (first | rw [← Ny139.out] at ho22 | (simp only [Int.reduceToNat] at ho22; rw [← Ny139.out] at ho22)); have HO141 := Aside0.mk (Kd.R_lower (Kd.R_newB (Kd.R_newB (Kd.R_newB (Kd.R_newB ho22 (bx BK135)) (bx BK136)) (bx BK137)) (bx BK138)) (below_size (hb4 HB GE135 GE136 GE137 GE138))); replace BK135 := kx BK135 hb; replace BK136 := kx BK136 hb; replace BK137 := kx BK137 hb; replace BK138 := kx BK138 hb; replace HB := hs (hb4 HB GE135 GE136 GE137 GE138) hb; clear hb ho22; obtain ⟨Ao23, co23, eo23⟩ := Kd.R_slice HO141.out; subst eo23) | ((with_reducible refine gate_callee (f := 37) rfl ?_); refine gl_ (some 14) Try.func37 #[.slice Ao23 y139.length co23] ?_; (with_reducible refine (cross_beyond.calls k _ _ y139 true _ ?side1 ?side2 A5.out).mono ?_); (case side1 => exact cr HO141); (case side2 => exact (Kd.R_reads' HO141.out).2.1); rintro e w24 ⟨rfl, hb⟩; refine ⟨_, rfl, ?_⟩; replace HO141 := ry HO141 hb; replace BK135 := kx BK135 hb; replace BK136 := kx BK136 hb; replace BK137 := kx BK137 hb; replace BK138 := kx BK138 hb; replace HB := hs (hb4 HB GE135 GE136 GE137 GE138) hb; (try clear hb); (try clear hb2); (try clear hk); (try clear hi)))
  go_ret
  exact ⟨by rfl, hb4 HB GE135 GE136 GE137 GE138⟩
 ·replace c6 := Bool.eq_false_iff.mpr c6; subst c6; rw [if_neg (show ¬ (false = true) by decide)] at H; replace H := Option.bind_eq_some_iff.mp H; obtain ⟨t143, A250, H⟩ := H; (try dsimp only at H); have A25 := Aside0.mk A250; clear A250; obtain rfl := Option.some.inj H
  go_enter Try.func16, Try.ntmps16
  go_wp2_with (first | ((with_reducible refine gate_dst (N := 4) rfl ?_); refine be_ 4 #[.int .i64 a0_0, .int .i64 a0_1] 23 ?_; intro gb135 hg w26 hbox hb; have BK135 := Aside0.mk (hbox); have GW135 := wq (hb0 HB) hg; have GE135 := wq (hb0 HB) hg; replace HB := hs (hb0 HB) hb; clear hb hbox hg) | ((with_reducible refine gate_dst (N := 5) rfl ?_); refine be_ 5 #[.int .i64 a1_0, .int .i64 a1_1] 23 ?_; intro gb136 hg w27 hbox hb; have BK136 := Aside0.mk (hbox); have GW136 := wq (hb1 HB GE135) hg; have GE136 := wq (hb1 HB GE135) hg; replace HB := hs (hb1 HB GE135) hb; have NB135_136 := lx BK135 hg; have NB136_135 := gx BK135 hg; replace BK135 := kx BK135 hb; clear hb hbox hg) | ((with_reducible refine gate_dst (N := 6) rfl ?_); refine be_ 6 #[.int .i64 a2_0, .int .i64 a2_1] 23 ?_; intro gb137 hg w28 hbox hb; have BK137 := Aside0.mk (hbox); have GW137 := wq (hb2 HB GE135 GE136) hg; have GE137 := wq (hb2 HB GE135 GE136) hg; replace HB := hs (hb2 HB GE135 GE136) hb; have NB135_137 := lx BK135 hg; have NB137_135 := gx BK135 hg; replace BK135 := kx BK135 hb; have NB136_137 := lx BK136 hg; have NB137_136 := gx BK136 hg; replace BK136 := kx BK136 hb; clear hb hbox hg) | ((with_reducible refine gate_dst (N := 7) rfl ?_); refine be_ 7 #[.int .i64 a3_0, .int .i64 a3_1] 23 ?_; intro gb138 hg w29 hbox hb; have BK138 := Aside0.mk (hbox); have GW138 := wq (hb3 HB GE135 GE136 GE137) hg; have GE138 := wq (hb3 HB GE135 GE136 GE137) hg; replace HB := hs (hb3 HB GE135 GE136 GE137) hb; have NB135_138 := lx BK135 hg; have NB138_135 := gx BK135 hg; replace BK135 := kx BK135 hb; have NB136_138 := lx BK136 hg; have NB138_136 := gx BK136 hg; replace BK136 := kx BK136 hb; have NB137_138 := lx BK137 hg; have NB138_137 := gx BK137 hg; replace BK137 := kx BK137 hb; clear hb hbox hg; have hnb30 := NB135_136.out; have hnc30 := NB136_135.out; have hnb31 := NB135_137.out; have hnc31 := NB137_135.out; have hnb32 := NB135_138.out; have hnc32 := NB138_135.out; have hcz33_0 : w29.cell? ⟨gb135, 0, none⟩ = some (.int .i64 a0_0) := bc BK135 0; have hcz33_1 : w29.cell? ⟨gb135, 1, none⟩ = some (.int .i64 a0_1) := bc BK135 1; have hfz33_0 := blk_frozen BK135.out 0; have hfz33_1 := blk_frozen BK135.out 1; have hnb34 := NB136_137.out; have hnc34 := NB137_136.out; have hnb35 := NB136_138.out; have hnc35 := NB138_136.out; have hcz36_0 : w29.cell? ⟨gb136, 0, none⟩ = some (.int .i64 a1_0) := bc BK136 0; have hcz36_1 : w29.cell? ⟨gb136, 1, none⟩ = some (.int .i64 a1_1) := bc BK136 1; have hfz36_0 := blk_frozen BK136.out 0; have hfz36_1 := blk_frozen BK136.out 1; have hnb37 := NB137_138.out; have hnc37 := NB138_137.out; have hcz38_0 : w29.cell? ⟨gb137, 0, none⟩ = some (.int .i64 a2_0) := bc BK137 0; have hcz38_1 : w29.cell? ⟨gb137, 1, none⟩ = some (.int .i64 a2_1) := bc BK137 1; have hfz38_0 := blk_frozen BK137.out 0; have hfz38_1 := blk_frozen BK137.out 1; have hcz39_0 : w29.cell? ⟨gb138, 0, none⟩ = some (.int .i64 a3_0) := bc BK138 0; have hcz39_1 : w29.cell? ⟨gb138, 1, none⟩ = some (.int .i64 a3_1) := bc BK138 1; have hfz39_0 := blk_frozen BK138.out 0; have hfz39_1 := blk_frozen BK138.out 1) | ((with_reducible refine gate_dst (N := 13) rfl ?_); refine Kd.R_lit k23 _ 23 ?hg (N := 13) ?hd (xs := ([(⟨a0_0, a0_1⟩ : S23), (⟨a1_0, a1_1⟩ : S23), (⟨a2_0, a2_1⟩ : S23), (⟨a3_0, a3_1⟩ : S23)] : List (S23))) (inner := [.int .i64 a0_0, .int .i64 a0_1, .int .i64 a1_0, .int .i64 a1_1, .int .i64 a2_0, .int .i64 a2_1, .int .i64 a3_0, .int .i64 a3_1]) (ok := fun _ => True) (okp := fun _ => True) ?hr ?hp (fun _ hk => hk) trivial (Below.refl _ _) (Nat.le_refl _) (by simp) ?_; (case hd => rfl); (case hg => rfl); (case hr => first | (go_simp; done) | (go_simp; rfl)); (case hp => exact (Reps.c2 (show Kd.M k23 _ _ _ (⟨a0_0, a0_1⟩ : S23) [.int .i64 a0_0, .int .i64 a0_1] from (k23_mkM _ _ _ (⟨a0_0, a0_1⟩ : S23) )) (Reps.c2 (show Kd.M k23 _ _ _ (⟨a1_0, a1_1⟩ : S23) [.int .i64 a1_0, .int .i64 a1_1] from (k23_mkM _ _ _ (⟨a1_0, a1_1⟩ : S23) )) (Reps.c2 (show Kd.M k23 _ _ _ (⟨a2_0, a2_1⟩ : S23) [.int .i64 a2_0, .int .i64 a2_1] from (k23_mkM _ _ _ (⟨a2_0, a2_1⟩ : S23) )) (Reps.c2 (show Kd.M k23 _ _ _ (⟨a3_0, a3_1⟩ : S23) [.int .i64 a3_0, .int .i64 a3_1] from (k23_mkM _ _ _ (⟨a3_0, a3_1⟩ : S23) )) (Reps.none _ _)))))); intro v140 w40 ho41 hb hg_ hnew_; clear hg_ hnew_; (first | rw [← Ny139.out] at ho41 | (simp only [Int.reduceToNat] at ho41; rw [← Ny139.out] at ho41)); have HO141 := Aside0.mk (Kd.R_lower (Kd.R_newB (Kd.R_newB (Kd.R_newB (Kd.R_newB ho41 (bx BK135)) (bx BK136)) (bx BK137)) (bx BK138)) (below_size (hb4 HB GE135 GE136 GE137 GE138))); replace BK135 := kx BK135 hb; replace BK136 := kx BK136 hb; replace BK137 := kx BK137 hb; replace BK138 := kx BK138 hb; replace HB := hs (hb4 HB GE135 GE136 GE137 GE138) hb; clear hb ho41; obtain ⟨Ao42, co42, eo42⟩ := Kd.R_slice HO141.out; subst eo42) | ((with_reducible refine gate_callee (f := 37) rfl ?_); refine gl_ (some 14) Try.func37 #[.slice Ao42 y139.length co42] ?_; (with_reducible refine (cross_beyond.calls k _ _ y139 false _ ?side1 ?side2 A5.out).mono ?_); (case side1 => exact cr HO141); (case side2 => exact (Kd.R_reads' HO141.out).2.1); rintro e w43 ⟨rfl, hb⟩; refine ⟨_, rfl, ?_⟩; replace HO141 := ry HO141 hb; replace BK135 := kx BK135 hb; replace BK136 := kx BK136 hb; replace BK137 := kx BK137 hb; replace BK138 := kx BK138 hb; replace HB := hs (hb4 HB GE135 GE136 GE137 GE138) hb; (try clear hb); (try clear hb2); (try clear hk); (try clear hi); have hcz44_0 : w43.cell? ⟨gb135, 0, none⟩ = some (.int .i64 a0_0) := bc BK135 0; have hcz44_1 : w43.cell? ⟨gb135, 1, none⟩ = some (.int .i64 a0_1) := bc BK135 1; have hfz44_0 := blk_frozen BK135.out 0; have hfz44_1 := blk_frozen BK135.out 1; have hcz45_0 : w43.cell? ⟨gb136, 0, none⟩ = some (.int .i64 a1_0) := bc BK136 0; have hcz45_1 : w43.cell? ⟨gb136, 1, none⟩ = some (.int .i64 a1_1) := bc BK136 1; have hfz45_0 := blk_frozen BK136.out 0; have hfz45_1 := blk_frozen BK136.out 1; have hcz46_0 : w43.cell? ⟨gb137, 0, none⟩ = some (.int .i64 a2_0) := bc BK137 0; have hcz46_1 : w43.cell? ⟨gb137, 1, none⟩ = some (.int .i64 a2_1) := bc BK137 1; have hfz46_0 := blk_frozen BK137.out 0; have hfz46_1 := blk_frozen BK137.out 1; have hcz47_0 : w43.cell? ⟨gb138, 0, none⟩ = some (.int .i64 a3_0) := bc BK138 0; have hcz47_1 : w43.cell? ⟨gb138, 1, none⟩ = some (.int .i64 a3_1) := bc BK138 1; have hfz47_0 := blk_frozen BK138.out 0; have hfz47_1 := blk_frozen BK138.out 1) | (go_at_call 43; (with_reducible refine (cross_meet.calls k a0_0 a0_1 a1_0 a1_1 a2_0 a2_1 a3_0 a3_1 t143 _ A25.out).mono ?_); rintro e w48 ⟨rfl, hb⟩; replace HO141 := ry HO141 hb; replace BK135 := kx BK135 hb; replace BK136 := kx BK136 hb; replace BK137 := kx BK137 hb; replace BK138 := kx BK138 hb; replace HB := hs (hb4 HB GE135 GE136 GE137 GE138) hb; (try clear hb); (try clear hb2); (try clear hk); (try clear hi)))
  go_ret
  exact ⟨by rfl, hb4 HB GE135 GE136 GE137 GE138⟩

end Go.Proofs.Ythfoliejhdpbaaa.PCroA
