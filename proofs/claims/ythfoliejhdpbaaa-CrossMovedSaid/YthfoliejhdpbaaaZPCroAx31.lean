import Derived.Test.YthfoliejhdpbaaaZPCroAx0
namespace Go.Proofs.Ythfoliejhdpbaaa.PCroA
open Go.RowKit Go.Proofs.YthfoliejhdpbaaaW.PrintWords Go.Proofs.YthfoliejhdpbaaaW.PrintLast Go.Proofs.YthfoliejhdpbaaaW.PrintMore
open Go.Proofs.YthfoliejhdpbaaaX
attribute [local go_sem] max2_int min2_int max_two min_two max_three min_three max_four min_four
set_option linter.unusedVariables false
set_option linter.unusedSimpArgs false

/-! ### tangramref26_Beyond: function 18 -/
def tangramref26_Beyond.f (a0_0 : Int) (a0_1 : Int) : Option (Bool) := if a0_0 < (-4194304) then (some true) else (if a0_0 > 4194304 then (some true) else (if a0_1 < (-4194304) then (some true) else (some (decide (a0_1 > 4194304)))))
set_option maxHeartbeats 8000000 in
set_option maxRecDepth 100000 in
theorem tangramref26_Beyond.calls (a0_0 : Int) (a0_1 : Int) (r : Bool) (w : World) (h : tangramref26_Beyond.f a0_0 a0_1 = some r) :
  Calls Try.prog 18 #[.agg #[.int .i64 a0_0, .int .i64 a0_1]] w fun e w' => e = .returned (.bool r) ∧ Below w.heap.size w w' := by
 have hu23 := Try.underlying23; have HB := Aside0.mk (Below.refl w.heap.size w); have H : (if a0_0 < (-4194304) then (some true) else (if a0_0 > 4194304 then (some true) else (if a0_1 < (-4194304) then (some true) else (some (decide (a0_1 > 4194304)))))) = some r := h; clear h
 by_cases c2 : a0_0 < (-4194304)
 ·rw [if_pos c2] at H; have c2b0 : decide (a0_0 < (-4194304)) = true := decide_eq_true c2; clear c2; obtain rfl := Option.some.inj H
  go_enter Try.func18, Try.ntmps18
  go_wp2_with (first | ((with_reducible refine gate_dst (N := 1) rfl ?_); refine be_ 1 #[.int .i64 a0_0, .int .i64 a0_1] 23 ?_; intro gb363 hg w3 hbox hb; have BK363 := Aside0.mk (hbox); have GW363 := wq (hb0 HB) hg; have GE363 := wq (hb0 HB) hg; replace HB := hs (hb0 HB) hb; clear hb hbox hg; have hcz4_0 : w3.cell? ⟨gb363, 0, none⟩ = some (.int .i64 a0_0) := bc BK363 0; have hcz4_1 : w3.cell? ⟨gb363, 1, none⟩ = some (.int .i64 a0_1) := bc BK363 1; have hfz4_0 := blk_frozen BK363.out 0; have hfz4_1 := blk_frozen BK363.out 1))
  go_ret
  exact ⟨by rfl, hb1 HB GE363⟩
 ·rw [if_neg c2] at H; have c2b0 : decide (a0_0 < (-4194304)) = false := decide_eq_false c2; clear c2
  by_cases c5 : a0_0 > 4194304
  ·rw [if_pos c5] at H; have c5b0 : decide (4194304 < a0_0) = true := decide_eq_true c5; clear c5; obtain rfl := Option.some.inj H
   go_enter Try.func18, Try.ntmps18
   go_wp2_with (first | ((with_reducible refine gate_dst (N := 1) rfl ?_); refine be_ 1 #[.int .i64 a0_0, .int .i64 a0_1] 23 ?_; intro gb363 hg w6 hbox hb; have BK363 := Aside0.mk (hbox); have GW363 := wq (hb0 HB) hg; have GE363 := wq (hb0 HB) hg; replace HB := hs (hb0 HB) hb; clear hb hbox hg; have hcz7_0 : w6.cell? ⟨gb363, 0, none⟩ = some (.int .i64 a0_0) := bc BK363 0; have hcz7_1 : w6.cell? ⟨gb363, 1, none⟩ = some (.int .i64 a0_1) := bc BK363 1; have hfz7_0 := blk_frozen BK363.out 0; have hfz7_1 := blk_frozen BK363.out 1))
   go_ret
   exact ⟨by rfl, hb1 HB GE363⟩
  ·rw [if_neg c5] at H; have c5b0 : decide (4194304 < a0_0) = false := decide_eq_false c5; clear c5
   by_cases c8 : a0_1 < (-4194304)
   ·rw [if_pos c8] at H; have c8b0 : decide (a0_1 < (-4194304)) = true := decide_eq_true c8; clear c8; obtain rfl := Option.some.inj H
    go_enter Try.func18, Try.ntmps18
    go_wp2_with (first | ((with_reducible refine gate_dst (N := 1) rfl ?_); refine be_ 1 #[.int .i64 a0_0, .int .i64 a0_1] 23 ?_; intro gb363 hg w9 hbox hb; have BK363 := Aside0.mk (hbox); have GW363 := wq (hb0 HB) hg; have GE363 := wq (hb0 HB) hg; replace HB := hs (hb0 HB) hb; clear hb hbox hg; have hcz10_0 : w9.cell? ⟨gb363, 0, none⟩ = some (.int .i64 a0_0) := bc BK363 0; have hcz10_1 : w9.cell? ⟨gb363, 1, none⟩ = some (.int .i64 a0_1) := bc BK363 1; have hfz10_0 := blk_frozen BK363.out 0; have hfz10_1 := blk_frozen BK363.out 1))
    go_ret
    exact ⟨by rfl, hb1 HB GE363⟩
   ·rw [if_neg c8] at H; have c8b0 : decide (a0_1 < (-4194304)) = false := decide_eq_false c8; clear c8; obtain rfl := Option.some.inj H
    go_enter Try.func18, Try.ntmps18
    go_wp2_with (first | ((with_reducible refine gate_dst (N := 1) rfl ?_); refine be_ 1 #[.int .i64 a0_0, .int .i64 a0_1] 23 ?_; intro gb363 hg w11 hbox hb; have BK363 := Aside0.mk (hbox); have GW363 := wq (hb0 HB) hg; have GE363 := wq (hb0 HB) hg; replace HB := hs (hb0 HB) hb; clear hb hbox hg; have hcz12_0 : w11.cell? ⟨gb363, 0, none⟩ = some (.int .i64 a0_0) := bc BK363 0; have hcz12_1 : w11.cell? ⟨gb363, 1, none⟩ = some (.int .i64 a0_1) := bc BK363 1; have hfz12_0 := blk_frozen BK363.out 0; have hfz12_1 := blk_frozen BK363.out 1))
    go_ret
    exact ⟨by rfl, hb1 HB GE363⟩


/-! ### tangramref26_sign: function 39 -/
def tangramref26_sign.f (a0 : Int) : Option (Int) := if a0 > 0 then (some 1) else (if a0 < 0 then (some (-1)) else (some 0))
set_option maxHeartbeats 8000000 in
set_option maxRecDepth 100000 in
theorem tangramref26_sign.calls (a0 : Int) (r : Int) (w : World) (h : tangramref26_sign.f a0 = some r) :
  Calls Try.prog 39 #[.int .i64 a0] w fun e w' => e = .returned (.int .i64 r) ∧ Drawn0 w w' := by
 have H : (if a0 > 0 then (some 1) else (if a0 < 0 then (some (-1)) else (some 0))) = some r := h; clear h
 by_cases c2 : a0 > 0
 ·rw [if_pos c2] at H; have c2b0 : decide (0 < a0) = true := decide_eq_true c2; clear c2; obtain rfl := Option.some.inj H
  go_enter Try.func39, Try.ntmps39
  go_wp2
  go_ret
  exact ⟨by first | rfl | (simp; done) | (simp [*]; done), by repeat (first | exact Drawn0.refl _ | apply Drawn0.step)⟩
 ·rw [if_neg c2] at H; have c2b0 : decide (0 < a0) = false := decide_eq_false c2; clear c2
  by_cases c3 : a0 < 0
  ·rw [if_pos c3] at H; have c3b0 : decide (a0 < 0) = true := decide_eq_true c3; clear c3; obtain rfl := Option.some.inj H
   go_enter Try.func39, Try.ntmps39
   go_wp2
   go_ret
   exact ⟨by first | rfl | (simp; done) | (simp [*]; done), by repeat (first | exact Drawn0.refl _ | apply Drawn0.step)⟩
  ·rw [if_neg c3] at H; have c3b0 : decide (a0 < 0) = false := decide_eq_false c3; clear c3; obtain rfl := Option.some.inj H
   go_enter Try.func39, Try.ntmps39
   go_wp2
   go_ret
   exact ⟨by first | rfl | (simp; done) | (simp [*]; done), by repeat (first | exact Drawn0.refl _ | apply Drawn0.step)⟩


/-! ### tangramref26_Product: function 40 -/
def tangramref26_Product.f (a0_0 : Int) (a0_1 : Int) (a1_0 : Int) (a1_1 : Int) (a2_0 : Int) (a2_1 : Int) : Option (Int) := some (wrap64 ((wrap64 ((wrap64 (a1_0 - a0_0)) * (wrap64 (a2_1 - a0_1)))) - (wrap64 ((wrap64 (a1_1 - a0_1)) * (wrap64 (a2_0 - a0_0))))))
set_option maxHeartbeats 8000000 in
set_option maxRecDepth 100000 in
theorem tangramref26_Product.calls (a0_0 : Int) (a0_1 : Int) (a1_0 : Int) (a1_1 : Int) (a2_0 : Int) (a2_1 : Int) (r : Int) (w : World) (h : tangramref26_Product.f a0_0 a0_1 a1_0 a1_1 a2_0 a2_1 = some r) :
  Calls Try.prog 40 #[.agg #[.int .i64 a0_0, .int .i64 a0_1], .agg #[.int .i64 a1_0, .int .i64 a1_1], .agg #[.int .i64 a2_0, .int .i64 a2_1]] w fun e w' => e = .returned (.int .i64 r) ∧ Below w.heap.size w w' := by
 have hu23 := Try.underlying23; have HB := Aside0.mk (Below.refl w.heap.size w); have H : (some (wrap64 ((wrap64 ((wrap64 (a1_0 - a0_0)) * (wrap64 (a2_1 - a0_1)))) - (wrap64 ((wrap64 (a1_1 - a0_1)) * (wrap64 (a2_0 - a0_0))))))) = some r := h; clear h; obtain rfl := Option.some.inj H
 go_enter Try.func40, Try.ntmps40
 go_wp2_with (first | ((with_reducible refine gate_dst (N := 3) rfl ?_); refine be_ 3 #[.int .i64 a0_0, .int .i64 a0_1] 23 ?_; intro gb364 hg w4 hbox hb; have BK364 := Aside0.mk (hbox); have GW364 := wq (hb0 HB) hg; have GE364 := wq (hb0 HB) hg; replace HB := hs (hb0 HB) hb; clear hb hbox hg) | ((with_reducible refine gate_dst (N := 4) rfl ?_); refine be_ 4 #[.int .i64 a1_0, .int .i64 a1_1] 23 ?_; intro gb365 hg w5 hbox hb; have BK365 := Aside0.mk (hbox); have GW365 := wq (hb1 HB GE364) hg; have GE365 := wq (hb1 HB GE364) hg; replace HB := hs (hb1 HB GE364) hb; have NB364_365 := lx BK364 hg; have NB365_364 := gx BK364 hg; replace BK364 := kx BK364 hb; clear hb hbox hg) | ((with_reducible refine gate_dst (N := 5) rfl ?_); refine be_ 5 #[.int .i64 a2_0, .int .i64 a2_1] 23 ?_; intro gb366 hg w6 hbox hb; have BK366 := Aside0.mk (hbox); have GW366 := wq (hb2 HB GE364 GE365) hg; have GE366 := wq (hb2 HB GE364 GE365) hg; replace HB := hs (hb2 HB GE364 GE365) hb; have NB364_366 := lx BK364 hg; have NB366_364 := gx BK364 hg; replace BK364 := kx BK364 hb; have NB365_366 := lx BK365 hg; have NB366_365 := gx BK365 hg; replace BK365 := kx BK365 hb; clear hb hbox hg; have hnb7 := NB365_364.out; have hnc7 := NB364_365.out; have hnb8 := NB365_366.out; have hnc8 := NB366_365.out; have hcz9_0 : w6.cell? ⟨gb365, 0, none⟩ = some (.int .i64 a1_0) := bc BK365 0; have hcz9_1 : w6.cell? ⟨gb365, 1, none⟩ = some (.int .i64 a1_1) := bc BK365 1; have hfz9_0 := blk_frozen BK365.out 0; have hfz9_1 := blk_frozen BK365.out 1; have hnb10 := NB364_366.out; have hnc10 := NB366_364.out; have hcz11_0 : w6.cell? ⟨gb364, 0, none⟩ = some (.int .i64 a0_0) := bc BK364 0; have hcz11_1 : w6.cell? ⟨gb364, 1, none⟩ = some (.int .i64 a0_1) := bc BK364 1; have hfz11_0 := blk_frozen BK364.out 0; have hfz11_1 := blk_frozen BK364.out 1; have hcz12_0 : w6.cell? ⟨gb366, 0, none⟩ = some (.int .i64 a2_0) := bc BK366 0; have hcz12_1 : w6.cell? ⟨gb366, 1, none⟩ = some (.int .i64 a2_1) := bc BK366 1; have hfz12_0 := blk_frozen BK366.out 0; have hfz12_1 := blk_frozen BK366.out 1))
 go_ret
 exact ⟨by rfl, hb3 HB GE364 GE365 GE366⟩


/-! ### tangramref26_Turn: function 13 -/
def tangramref26_Turn.j0 : Nat → Bool → Int → Int → Int → Int → Int → Int → Option (Int)
 | 0, _, _, _, _, _, _, _ => none
 | k + 1, x16, x368000, x368001, x369000, x369001, x370000, x370001 => if x16 = true then (some 0) else ((tangramref26_Product.f x368000 x368001 x369000 x369001 x370000 x370001).bind fun t373 => ((tangramref26_sign.f t373).bind fun t374 => (some t374)))
def tangramref26_Turn.f (k : Nat) (a0_0 : Int) (a0_1 : Int) (a1_0 : Int) (a1_1 : Int) (a2_0 : Int) (a2_1 : Int) : Option (Int) := (tangramref26_Beyond.f a0_0 a0_1).bind fun t370 => (if t370 = true then (tangramref26_Turn.j0 k true a0_0 a0_1 a1_0 a1_1 a2_0 a2_1) else ((tangramref26_Beyond.f a1_0 a1_1).bind fun t371 => (if t371 = true then (tangramref26_Turn.j0 k true a0_0 a0_1 a1_0 a1_1 a2_0 a2_1) else ((tangramref26_Beyond.f a2_0 a2_1).bind fun t372 => (tangramref26_Turn.j0 k t372 a0_0 a0_1 a1_0 a1_1 a2_0 a2_1)))))
theorem tangramref26_Turn.mono_l : ∀ k, (∀ y0 y1 y2 y3 y4 y5 y6, LeO (tangramref26_Turn.j0 k y0 y1 y2 y3 y4 y5 y6) (tangramref26_Turn.j0 (k + 1) y0 y1 y2 y3 y4 y5 y6))
 | 0 => fun _ _ _ _ _ _ _ r h => by simp [tangramref26_Turn.j0] at h
 | k + 1 => by
  have ih0 := tangramref26_Turn.mono_l k
  ·intro y0 y1 y2 y3 y4 y5 y6
   unfold tangramref26_Turn.j0
   repeat' first
   | (with_reducible exact ih0 _ _ _ _ _ _ _)
   | (with_reducible exact LeO.refl _)
   | (with_reducible exact LeO.none _)
   | (with_reducible refine LeO.ite ?_ ?_)
   | (with_reducible refine LeO.bind ?_ (fun _ => ?_))
   | exact LeO.none _
   | refine LeO.ite ?_ ?_
   | refine LeO.bind ?_ (fun _ => ?_)
theorem tangramref26_Turn.mono : ∀ a0 a1 a2 a3 a4 a5 k, LeO (tangramref26_Turn.f k a0 a1 a2 a3 a4 a5) (tangramref26_Turn.f (k + 1) a0 a1 a2 a3 a4 a5) := by
 intro a0 a1 a2 a3 a4 a5 k; have ih0 := tangramref26_Turn.mono_l k
 unfold tangramref26_Turn.f
 repeat' first
   | (with_reducible exact ih0 _ _ _ _ _ _ _)
   | (with_reducible exact LeO.refl _)
   | (with_reducible exact LeO.none _)
   | (with_reducible refine LeO.ite ?_ ?_)
   | (with_reducible refine LeO.bind ?_ (fun _ => ?_))
   | exact LeO.none _
   | refine LeO.ite ?_ ?_
   | refine LeO.bind ?_ (fun _ => ?_)
set_option maxHeartbeats 8000000 in
set_option maxRecDepth 100000 in
theorem tangramref26_Turn.calls (k : Nat) (a0_0 : Int) (a0_1 : Int) (a1_0 : Int) (a1_1 : Int) (a2_0 : Int) (a2_1 : Int) (r : Int) (w : World) (h : tangramref26_Turn.f k a0_0 a0_1 a1_0 a1_1 a2_0 a2_1 = some r) :
  Calls Try.prog 13 #[.agg #[.int .i64 a0_0, .int .i64 a0_1], .agg #[.int .i64 a1_0, .int .i64 a1_1], .agg #[.int .i64 a2_0, .int .i64 a2_1]] w fun e w' => e = .returned (.int .i64 r) ∧ Below w.heap.size w w' := by
 have hu23 := Try.underlying23; have HB := Aside0.mk (Below.refl w.heap.size w); have H : ((tangramref26_Beyond.f a0_0 a0_1).bind fun t370 => (if t370 = true then (tangramref26_Turn.j0 k true a0_0 a0_1 a1_0 a1_1 a2_0 a2_1) else ((tangramref26_Beyond.f a1_0 a1_1).bind fun t371 => (if t371 = true then (tangramref26_Turn.j0 k true a0_0 a0_1 a1_0 a1_1 a2_0 a2_1) else ((tangramref26_Beyond.f a2_0 a2_1).bind fun t372 => (tangramref26_Turn.j0 k t372 a0_0 a0_1 a1_0 a1_1 a2_0 a2_1)))))) = some r := h; clear h; have HC4 := Aside0.mk H; clear H
 go_enter Try.func13, Try.ntmps13
 go_upto_region 1 with (first | ((with_reducible refine gate_dst (N := 3) rfl ?_); refine be_ 3 #[.int .i64 a0_0, .int .i64 a0_1] 23 ?_; intro gb367 hg w5 hbox hb; have BK367 := Aside0.mk (hbox); have GW367 := wq (hb0 HB) hg; have GE367 := wq (hb0 HB) hg; replace HB := hs (hb0 HB) hb; clear hb hbox hg) | ((with_reducible refine gate_dst (N := 4) rfl ?_); refine be_ 4 #[.int .i64 a1_0, .int .i64 a1_1] 23 ?_; intro gb368 hg w6 hbox hb; have BK368 := Aside0.mk (hbox); have GW368 := wq (hb1 HB GE367) hg; have GE368 := wq (hb1 HB GE367) hg; replace HB := hs (hb1 HB GE367) hb; have NB367_368 := lx BK367 hg; have NB368_367 := gx BK367 hg; replace BK367 := kx BK367 hb; clear hb hbox hg) | ((with_reducible refine gate_dst (N := 5) rfl ?_); refine be_ 5 #[.int .i64 a2_0, .int .i64 a2_1] 23 ?_; intro gb369 hg w7 hbox hb; have BK369 := Aside0.mk (hbox); have GW369 := wq (hb2 HB GE367 GE368) hg; have GE369 := wq (hb2 HB GE367 GE368) hg; replace HB := hs (hb2 HB GE367 GE368) hb; have NB367_369 := lx BK367 hg; have NB369_367 := gx BK367 hg; replace BK367 := kx BK367 hb; have NB368_369 := lx BK368 hg; have NB369_368 := gx BK368 hg; replace BK368 := kx BK368 hb; clear hb hbox hg))
 (try simp only [Act.put, List.setIfInBounds_toArray, List.set_cons_zero, List.set_cons_succ])
 go_cut [16] (fun v16 wc => ∃ (kq : Nat) (x16_3 : Bool), v16 = .bool x16_3 ∧ Aside0 (tangramref26_Turn.j0 kq x16_3 a0_0 a0_1 a1_0 a1_1 a2_0 a2_1 = some r) ∧ Aside0 (kq ≤ k) ∧ Aside0 (wc.heap[gb367]? = some (.cells #[.int .i64 a0_0, .int .i64 a0_1] 23 (0, 0))) ∧ Aside0 (wc.heap[gb368]? = some (.cells #[.int .i64 a1_0, .int .i64 a1_1] 23 (0, 0))) ∧ Aside0 (wc.heap[gb369]? = some (.cells #[.int .i64 a2_0, .int .i64 a2_1] 23 (0, 0))) ∧ Aside0 (Below w.heap.size w wc))
 case first => as_aux_lemma =>
  have H := HC4.out; clear HC4; replace H := Option.bind_eq_some_iff.mp H; obtain ⟨t370, A80, H⟩ := H; (try dsimp only at H); have A8 := Aside0.mk A80; clear A80
  by_cases c9 : t370 = true
  ·subst c9; rw [if_pos rfl] at H; have H' := Aside0.mk H; clear H; have hnb10 := NB367_368.out; have hnc10 := NB368_367.out; have hnb11 := NB367_369.out; have hnc11 := NB369_367.out; have hcz12_0 : w7.cell? ⟨gb367, 0, none⟩ = some (.int .i64 a0_0) := bc BK367 0; have hcz12_1 : w7.cell? ⟨gb367, 1, none⟩ = some (.int .i64 a0_1) := bc BK367 1; have hfz12_0 := blk_frozen BK367.out 0; have hfz12_1 := blk_frozen BK367.out 1
   go_wp2_with (first | ((with_reducible refine gate_callee (f := 18) rfl ?_); refine gl_ (some 8) Try.func18 #[.agg #[.int .i64 a0_0, .int .i64 a0_1]] ?_; (with_reducible refine (tangramref26_Beyond.calls a0_0 a0_1 true _ A8.out).mono ?_); rintro e w13 ⟨rfl, hb⟩; refine ⟨_, rfl, ?_⟩; replace BK367 := kx BK367 hb; replace BK368 := kx BK368 hb; replace BK369 := kx BK369 hb; replace HB := hs (hb3 HB GE367 GE368 GE369) hb; (try clear hb); (try clear hb2); (try clear hk); (try clear hi)))
   go_meet
   case rel => exact ⟨_, (true), (by first | rfl | (simp; done) | (simp [*]; done)), H', ⟨by first | omega | exact Nat.le_refl _⟩, ⟨bx BK367⟩, ⟨bx BK368⟩, ⟨bx BK369⟩, ⟨hb3 HB GE367 GE368 GE369⟩⟩
  ·replace c9 := Bool.eq_false_iff.mpr c9; subst c9; rw [if_neg (show ¬ (false = true) by decide)] at H; replace H := Option.bind_eq_some_iff.mp H; obtain ⟨t371, A140, H⟩ := H; (try dsimp only at H); have A14 := Aside0.mk A140; clear A140
   by_cases c15 : t371 = true
   ·subst c15; rw [if_pos rfl] at H; have H' := Aside0.mk H; clear H; have hnb16 := NB367_368.out; have hnc16 := NB368_367.out; have hnb17 := NB367_369.out; have hnc17 := NB369_367.out; have hcz18_0 : w7.cell? ⟨gb367, 0, none⟩ = some (.int .i64 a0_0) := bc BK367 0; have hcz18_1 : w7.cell? ⟨gb367, 1, none⟩ = some (.int .i64 a0_1) := bc BK367 1; have hfz18_0 := blk_frozen BK367.out 0; have hfz18_1 := blk_frozen BK367.out 1
    go_wp2_with (first | ((with_reducible refine gate_callee (f := 18) rfl ?_); refine gl_ (some 8) Try.func18 #[.agg #[.int .i64 a0_0, .int .i64 a0_1]] ?_; (with_reducible refine (tangramref26_Beyond.calls a0_0 a0_1 false _ A8.out).mono ?_); rintro e w19 ⟨rfl, hb⟩; refine ⟨_, rfl, ?_⟩; replace BK367 := kx BK367 hb; replace BK368 := kx BK368 hb; replace BK369 := kx BK369 hb; replace HB := hs (hb3 HB GE367 GE368 GE369) hb; (try clear hb); (try clear hb2); (try clear hk); (try clear hi); have hnb20 := NB368_369.out; have hnc20 := NB369_368.out; have hcz21_0 : w19.cell? ⟨gb368, 0, none⟩ = some (.int .i64 a1_0) := bc BK368 0; have hcz21_1 : w19.cell? ⟨gb368, 1, none⟩ = some (.int .i64 a1_1) := bc BK368 1; have hfz21_0 := blk_frozen BK368.out 0; have hfz21_1 := blk_frozen BK368.out 1) | (go_at_call 18; (with_reducible refine (tangramref26_Beyond.calls a1_0 a1_1 true _ A14.out).mono ?_); rintro e w22 ⟨rfl, hb⟩; replace BK367 := kx BK367 hb; replace BK368 := kx BK368 hb; replace BK369 := kx BK369 hb; replace HB := hs (hb3 HB GE367 GE368 GE369) hb; (try clear hb); (try clear hb2); (try clear hk); (try clear hi)))
    go_meet
    case rel => exact ⟨_, (true), (by first | rfl | (simp; done) | (simp [*]; done)), H', ⟨by first | omega | exact Nat.le_refl _⟩, ⟨bx BK367⟩, ⟨bx BK368⟩, ⟨bx BK369⟩, ⟨hb3 HB GE367 GE368 GE369⟩⟩
   ·replace c15 := Bool.eq_false_iff.mpr c15; subst c15; rw [if_neg (show ¬ (false = true) by decide)] at H; replace H := Option.bind_eq_some_iff.mp H; obtain ⟨t372, A230, H⟩ := H; (try dsimp only at H); have A23 := Aside0.mk A230; clear A230; have H' := Aside0.mk H; clear H; have hnb24 := NB367_368.out; have hnc24 := NB368_367.out; have hnb25 := NB367_369.out; have hnc25 := NB369_367.out; have hcz26_0 : w7.cell? ⟨gb367, 0, none⟩ = some (.int .i64 a0_0) := bc BK367 0; have hcz26_1 : w7.cell? ⟨gb367, 1, none⟩ = some (.int .i64 a0_1) := bc BK367 1; have hfz26_0 := blk_frozen BK367.out 0; have hfz26_1 := blk_frozen BK367.out 1
    go_wp2_with (first | ((with_reducible refine gate_callee (f := 18) rfl ?_); refine gl_ (some 8) Try.func18 #[.agg #[.int .i64 a0_0, .int .i64 a0_1]] ?_; (with_reducible refine (tangramref26_Beyond.calls a0_0 a0_1 false _ A8.out).mono ?_); rintro e w27 ⟨rfl, hb⟩; refine ⟨_, rfl, ?_⟩; replace BK367 := kx BK367 hb; replace BK368 := kx BK368 hb; replace BK369 := kx BK369 hb; replace HB := hs (hb3 HB GE367 GE368 GE369) hb; (try clear hb); (try clear hb2); (try clear hk); (try clear hi); have hnb28 := NB368_369.out; have hnc28 := NB369_368.out; have hcz29_0 : w27.cell? ⟨gb368, 0, none⟩ = some (.int .i64 a1_0) := bc BK368 0; have hcz29_1 : w27.cell? ⟨gb368, 1, none⟩ = some (.int .i64 a1_1) := bc BK368 1; have hfz29_0 := blk_frozen BK368.out 0; have hfz29_1 := blk_frozen BK368.out 1) | (go_at_call 18; (with_reducible refine (tangramref26_Beyond.calls a1_0 a1_1 false _ A14.out).mono ?_); rintro e w30 ⟨rfl, hb⟩; replace BK367 := kx BK367 hb; replace BK368 := kx BK368 hb; replace BK369 := kx BK369 hb; replace HB := hs (hb3 HB GE367 GE368 GE369) hb; (try clear hb); (try clear hb2); (try clear hk); (try clear hi); have hcz31_0 : w30.cell? ⟨gb369, 0, none⟩ = some (.int .i64 a2_0) := bc BK369 0; have hcz31_1 : w30.cell? ⟨gb369, 1, none⟩ = some (.int .i64 a2_1) := bc BK369 1; have hfz31_0 := blk_frozen BK369.out 0; have hfz31_1 := blk_frozen BK369.out 1) | (go_at_call 18; (with_reducible refine (tangramref26_Beyond.calls a2_0 a2_1 t372 _ A23.out).mono ?_); rintro e w32 ⟨rfl, hb⟩; replace BK367 := kx BK367 hb; replace BK368 := kx BK368 hb; replace BK369 := kx BK369 hb; replace HB := hs (hb3 HB GE367 GE368 GE369) hb; (try clear hb); (try clear hb2); (try clear hk); (try clear hi)))
    go_meet
    case rel => exact ⟨_, (t372), (by first | rfl | (simp; done) | (simp [*]; done)), H', ⟨by first | omega | exact Nat.le_refl _⟩, ⟨bx BK367⟩, ⟨bx BK368⟩, ⟨bx BK369⟩, ⟨hb3 HB GE367 GE368 GE369⟩⟩
 case rest => as_aux_lemma =>
  clear HC4
  try clear c1
  try clear c2
  try clear p2
  try clear c9
  try clear c10
  try clear c11
  try clear c13
  try clear c15
  try clear c16
  try clear c17
  try clear c18
  try clear c20
  try clear c24
  try clear c25
  try clear c28
  try clear hcz12_0
  try clear hcz12_1
  try clear hcz18_0
  try clear hcz18_1
  try clear hcz21_0
  try clear hcz21_1
  try clear hcz26_0
  try clear hcz26_1
  try clear hcz29_0
  try clear hcz29_1
  try clear hcz31_0
  try clear hcz31_1
  try clear hfz12_0
  try clear hfz12_1
  try clear hfz18_0
  try clear hfz18_1
  try clear hfz21_0
  try clear hfz21_1
  try clear hfz26_0
  try clear hfz26_1
  try clear hfz29_0
  try clear hfz29_1
  try clear hfz31_0
  try clear hfz31_1
  obtain ⟨kq, x16_3, rfl, HA, HJ3, BK367, BK368, BK369, HB⟩ := hcut
  cases kq with
  | zero => exact absurd HA.out (by simp [tangramref26_Turn.j0])
  | succ kj3 =>
   have H := HA.out; clear HA; simp only [tangramref26_Turn.j0] at H
   by_cases c33 : x16_3 = true
   ·subst c33; rw [if_pos rfl] at H; obtain rfl := Option.some.inj H
    go_wp2
    go_ret
    exact ⟨by rfl, hb3 HB GE367 GE368 GE369⟩
   ·replace c33 := Bool.eq_false_iff.mpr c33; subst c33; rw [if_neg (show ¬ (false = true) by decide)] at H; replace H := Option.bind_eq_some_iff.mp H; obtain ⟨t373, A340, H⟩ := H; (try dsimp only at H); have A34 := Aside0.mk A340; clear A340; replace H := Option.bind_eq_some_iff.mp H; obtain ⟨t374, A350, H⟩ := H; (try dsimp only at H); have A35 := Aside0.mk A350; clear A350; obtain rfl := Option.some.inj H; have hnb36 := NB367_368.out; have hnc36 := NB368_367.out; have hnb37 := NB367_369.out; have hnc37 := NB369_367.out; have hcz38_0 : wc.cell? ⟨gb367, 0, none⟩ = some (.int .i64 a0_0) := bc BK367 0; have hcz38_1 : wc.cell? ⟨gb367, 1, none⟩ = some (.int .i64 a0_1) := bc BK367 1; have hfz38_0 := blk_frozen BK367.out 0; have hfz38_1 := blk_frozen BK367.out 1; have hnb39 := NB368_369.out; have hnc39 := NB369_368.out; have hcz40_0 : wc.cell? ⟨gb368, 0, none⟩ = some (.int .i64 a1_0) := bc BK368 0; have hcz40_1 : wc.cell? ⟨gb368, 1, none⟩ = some (.int .i64 a1_1) := bc BK368 1; have hfz40_0 := blk_frozen BK368.out 0; have hfz40_1 := blk_frozen BK368.out 1; have hcz41_0 : wc.cell? ⟨gb369, 0, none⟩ = some (.int .i64 a2_0) := bc BK369 0; have hcz41_1 : wc.cell? ⟨gb369, 1, none⟩ = some (.int .i64 a2_1) := bc BK369 1; have hfz41_0 := blk_frozen BK369.out 0; have hfz41_1 := blk_frozen BK369.out 1
    go_wp2_with (first | ((with_reducible refine gate_callee (f := 40) rfl ?_); refine gl_ (some 20) Try.func40 #[.agg #[.int .i64 a0_0, .int .i64 a0_1], .agg #[.int .i64 a1_0, .int .i64 a1_1], .agg #[.int .i64 a2_0, .int .i64 a2_1]] ?_; (with_reducible refine (tangramref26_Product.calls a0_0 a0_1 a1_0 a1_1 a2_0 a2_1 t373 _ A34.out).mono ?_); rintro e w42 ⟨rfl, hb⟩; refine ⟨_, rfl, ?_⟩; replace BK367 := kx BK367 hb; replace BK368 := kx BK368 hb; replace BK369 := kx BK369 hb; replace HB := hs (hb3 HB GE367 GE368 GE369) hb; (try clear hb); (try clear hb2); (try clear hk); (try clear hi)) | ((with_reducible refine gate_callee (f := 39) rfl ?_); refine gl_ (some 21) Try.func39 #[.int .i64 t373] ?_; (with_reducible refine (tangramref26_sign.calls t373 t374 _ A35.out).mono ?_); rintro e w' ⟨rfl, ⟨nd, rfl⟩⟩; refine ⟨_, rfl, ?_⟩))
    go_ret
    exact ⟨by rfl, hb3 HB GE367 GE368 GE369⟩


/-! ### tangramref26_between: function 42 -/
def tangramref26_between.f (a0 : Int) (a1 : Int) (a2 : Int) : Option (Bool) := if a0 ≤ a1 then (if a1 ≤ a2 then (some true) else (if a2 ≤ a1 then (some (decide (a1 ≤ a0))) else (some false))) else (if a2 ≤ a1 then (some (decide (a1 ≤ a0))) else (some false))
set_option maxHeartbeats 8000000 in
set_option maxRecDepth 100000 in
theorem tangramref26_between.calls (a0 : Int) (a1 : Int) (a2 : Int) (r : Bool) (w : World) (h : tangramref26_between.f a0 a1 a2 = some r) :
  Calls Try.prog 42 #[.int .i64 a0, .int .i64 a1, .int .i64 a2] w fun e w' => e = .returned (.bool r) ∧ Drawn0 w w' := by
 have H : (if a0 ≤ a1 then (if a1 ≤ a2 then (some true) else (if a2 ≤ a1 then (some (decide (a1 ≤ a0))) else (some false))) else (if a2 ≤ a1 then (some (decide (a1 ≤ a0))) else (some false))) = some r := h; clear h
 by_cases c4 : a0 ≤ a1
 ·rw [if_pos c4] at H; have c4b0 : decide (a0 ≤ a1) = true := decide_eq_true c4; clear c4
  by_cases c5 : a1 ≤ a2
  ·rw [if_pos c5] at H; have c5b0 : decide (a1 ≤ a2) = true := decide_eq_true c5; clear c5; obtain rfl := Option.some.inj H
   go_enter Try.func42, Try.ntmps42
   go_wp2
   go_ret
   exact ⟨by first | rfl | (simp; done) | (simp [*]; done), by repeat (first | exact Drawn0.refl _ | apply Drawn0.step)⟩
  ·rw [if_neg c5] at H; have c5b0 : decide (a1 ≤ a2) = false := decide_eq_false c5; clear c5
   by_cases c6 : a2 ≤ a1
   ·rw [if_pos c6] at H; have c6b0 : decide (a2 ≤ a1) = true := decide_eq_true c6; clear c6; obtain rfl := Option.some.inj H
    go_enter Try.func42, Try.ntmps42
    go_wp2
    go_ret
    exact ⟨by first | rfl | (simp; done) | (simp [*]; done), by repeat (first | exact Drawn0.refl _ | apply Drawn0.step)⟩
   ·rw [if_neg c6] at H; have c6b0 : decide (a2 ≤ a1) = false := decide_eq_false c6; clear c6; obtain rfl := Option.some.inj H
    go_enter Try.func42, Try.ntmps42
    go_wp2
    go_ret
    exact ⟨by first | rfl | (simp; done) | (simp [*]; done), by repeat (first | exact Drawn0.refl _ | apply Drawn0.step)⟩
 ·rw [if_neg c4] at H; have c4b0 : decide (a0 ≤ a1) = false := decide_eq_false c4; clear c4
  by_cases c7 : a2 ≤ a1
  ·rw [if_pos c7] at H; have c7b0 : decide (a2 ≤ a1) = true := decide_eq_true c7; clear c7; obtain rfl := Option.some.inj H
   go_enter Try.func42, Try.ntmps42
   go_wp2
   go_ret
   exact ⟨by first | rfl | (simp; done) | (simp [*]; done), by repeat (first | exact Drawn0.refl _ | apply Drawn0.step)⟩
  ·rw [if_neg c7] at H; have c7b0 : decide (a2 ≤ a1) = false := decide_eq_false c7; clear c7; obtain rfl := Option.some.inj H
   go_enter Try.func42, Try.ntmps42
   go_wp2
   go_ret
   exact ⟨by first | rfl | (simp; done) | (simp [*]; done), by repeat (first | exact Drawn0.refl _ | apply Drawn0.step)⟩


/-! ### tangramref26_On: function 15 -/
def tangramref26_On.j0 : Nat → Bool → Int → Int → Int → Int → Int → Int → Option (Bool)
 | 0, _, _, _, _, _, _, _ => none
 | k + 1, x16, x376000, x376001, x377000, x377001, x378000, x378001 => if x16 = true then (some false) else ((tangramref26_Product.f x376000 x376001 x377000 x377001 x378000 x378001).bind fun t381 => (if t381 = 0 then ((tangramref26_between.f x376000 x378000 x377000).bind fun t382 => (if t382 = true then ((tangramref26_between.f x376001 x378001 x377001).bind fun t383 => (some t383)) else (some false))) else (some false)))
def tangramref26_On.f (k : Nat) (a0_0 : Int) (a0_1 : Int) (a1_0 : Int) (a1_1 : Int) (a2_0 : Int) (a2_1 : Int) : Option (Bool) := (tangramref26_Beyond.f a0_0 a0_1).bind fun t378 => (if t378 = true then (tangramref26_On.j0 k true a0_0 a0_1 a1_0 a1_1 a2_0 a2_1) else ((tangramref26_Beyond.f a1_0 a1_1).bind fun t379 => (if t379 = true then (tangramref26_On.j0 k true a0_0 a0_1 a1_0 a1_1 a2_0 a2_1) else ((tangramref26_Beyond.f a2_0 a2_1).bind fun t380 => (tangramref26_On.j0 k t380 a0_0 a0_1 a1_0 a1_1 a2_0 a2_1)))))
theorem tangramref26_On.mono_l : ∀ k, (∀ y0 y1 y2 y3 y4 y5 y6, LeO (tangramref26_On.j0 k y0 y1 y2 y3 y4 y5 y6) (tangramref26_On.j0 (k + 1) y0 y1 y2 y3 y4 y5 y6))
 | 0 => fun _ _ _ _ _ _ _ r h => by simp [tangramref26_On.j0] at h
 | k + 1 => by
  have ih0 := tangramref26_On.mono_l k
  ·intro y0 y1 y2 y3 y4 y5 y6
   unfold tangramref26_On.j0
   repeat' first
   | (with_reducible exact ih0 _ _ _ _ _ _ _)
   | (with_reducible exact LeO.refl _)
   | (with_reducible exact LeO.none _)
   | (with_reducible refine LeO.ite ?_ ?_)
   | (with_reducible refine LeO.bind ?_ (fun _ => ?_))
   | exact LeO.none _
   | refine LeO.ite ?_ ?_
   | refine LeO.bind ?_ (fun _ => ?_)
theorem tangramref26_On.mono : ∀ a0 a1 a2 a3 a4 a5 k, LeO (tangramref26_On.f k a0 a1 a2 a3 a4 a5) (tangramref26_On.f (k + 1) a0 a1 a2 a3 a4 a5) := by
 intro a0 a1 a2 a3 a4 a5 k; have ih0 := tangramref26_On.mono_l k
 unfold tangramref26_On.f
 repeat' first
   | (with_reducible exact ih0 _ _ _ _ _ _ _)
   | (with_reducible exact LeO.refl _)
   | (with_reducible exact LeO.none _)
   | (with_reducible refine LeO.ite ?_ ?_)
   | (with_reducible refine LeO.bind ?_ (fun _ => ?_))
   | exact LeO.none _
   | refine LeO.ite ?_ ?_
   | refine LeO.bind ?_ (fun _ => ?_)
set_option maxHeartbeats 8000000 in
set_option maxRecDepth 100000 in
theorem tangramref26_On.calls (k : Nat) (a0_0 : Int) (a0_1 : Int) (a1_0 : Int) (a1_1 : Int) (a2_0 : Int) (a2_1 : Int) (r : Bool) (w : World) (h : tangramref26_On.f k a0_0 a0_1 a1_0 a1_1 a2_0 a2_1 = some r) :
  Calls Try.prog 15 #[.agg #[.int .i64 a0_0, .int .i64 a0_1], .agg #[.int .i64 a1_0, .int .i64 a1_1], .agg #[.int .i64 a2_0, .int .i64 a2_1]] w fun e w' => e = .returned (.bool r) ∧ Below w.heap.size w w' := by
 have hu23 := Try.underlying23; have HB := Aside0.mk (Below.refl w.heap.size w); have H : ((tangramref26_Beyond.f a0_0 a0_1).bind fun t378 => (if t378 = true then (tangramref26_On.j0 k true a0_0 a0_1 a1_0 a1_1 a2_0 a2_1) else ((tangramref26_Beyond.f a1_0 a1_1).bind fun t379 => (if t379 = true then (tangramref26_On.j0 k true a0_0 a0_1 a1_0 a1_1 a2_0 a2_1) else ((tangramref26_Beyond.f a2_0 a2_1).bind fun t380 => (tangramref26_On.j0 k t380 a0_0 a0_1 a1_0 a1_1 a2_0 a2_1)))))) = some r := h; clear h; have HC4 := Aside0.mk H; clear H
 go_enter Try.func15, Try.ntmps15
 go_upto_region 1 with (first | ((with_reducible refine gate_dst (N := 3) rfl ?_); refine be_ 3 #[.int .i64 a0_0, .int .i64 a0_1] 23 ?_; intro gb375 hg w5 hbox hb; have BK375 := Aside0.mk (hbox); have GW375 := wq (hb0 HB) hg; have GE375 := wq (hb0 HB) hg; replace HB := hs (hb0 HB) hb; clear hb hbox hg) | ((with_reducible refine gate_dst (N := 4) rfl ?_); refine be_ 4 #[.int .i64 a1_0, .int .i64 a1_1] 23 ?_; intro gb376 hg w6 hbox hb; have BK376 := Aside0.mk (hbox); have GW376 := wq (hb1 HB GE375) hg; have GE376 := wq (hb1 HB GE375) hg; replace HB := hs (hb1 HB GE375) hb; have NB375_376 := lx BK375 hg; have NB376_375 := gx BK375 hg; replace BK375 := kx BK375 hb; clear hb hbox hg) | ((with_reducible refine gate_dst (N := 5) rfl ?_); refine be_ 5 #[.int .i64 a2_0, .int .i64 a2_1] 23 ?_; intro gb377 hg w7 hbox hb; have BK377 := Aside0.mk (hbox); have GW377 := wq (hb2 HB GE375 GE376) hg; have GE377 := wq (hb2 HB GE375 GE376) hg; replace HB := hs (hb2 HB GE375 GE376) hb; have NB375_377 := lx BK375 hg; have NB377_375 := gx BK375 hg; replace BK375 := kx BK375 hb; have NB376_377 := lx BK376 hg; have NB377_376 := gx BK376 hg; replace BK376 := kx BK376 hb; clear hb hbox hg))
 (try simp only [Act.put, List.setIfInBounds_toArray, List.set_cons_zero, List.set_cons_succ])
 go_cut [16] (fun v16 wc => ∃ (kq : Nat) (x16_3 : Bool), v16 = .bool x16_3 ∧ Aside0 (tangramref26_On.j0 kq x16_3 a0_0 a0_1 a1_0 a1_1 a2_0 a2_1 = some r) ∧ Aside0 (kq ≤ k) ∧ Aside0 (wc.heap[gb375]? = some (.cells #[.int .i64 a0_0, .int .i64 a0_1] 23 (0, 0))) ∧ Aside0 (wc.heap[gb376]? = some (.cells #[.int .i64 a1_0, .int .i64 a1_1] 23 (0, 0))) ∧ Aside0 (wc.heap[gb377]? = some (.cells #[.int .i64 a2_0, .int .i64 a2_1] 23 (0, 0))) ∧ Aside0 (Below w.heap.size w wc))
 case first => as_aux_lemma =>
  have H := HC4.out; clear HC4; replace H := Option.bind_eq_some_iff.mp H; obtain ⟨t378, A80, H⟩ := H; (try dsimp only at H); have A8 := Aside0.mk A80; clear A80
  by_cases c9 : t378 = true
  ·subst c9; rw [if_pos rfl] at H; have H' := Aside0.mk H; clear H; have hnb10 := NB375_376.out; have hnc10 := NB376_375.out; have hnb11 := NB375_377.out; have hnc11 := NB377_375.out; have hcz12_0 : w7.cell? ⟨gb375, 0, none⟩ = some (.int .i64 a0_0) := bc BK375 0; have hcz12_1 : w7.cell? ⟨gb375, 1, none⟩ = some (.int .i64 a0_1) := bc BK375 1; have hfz12_0 := blk_frozen BK375.out 0; have hfz12_1 := blk_frozen BK375.out 1
   go_wp2_with (first | ((with_reducible refine gate_callee (f := 18) rfl ?_); refine gl_ (some 8) Try.func18 #[.agg #[.int .i64 a0_0, .int .i64 a0_1]] ?_; (with_reducible refine (tangramref26_Beyond.calls a0_0 a0_1 true _ A8.out).mono ?_); rintro e w13 ⟨rfl, hb⟩; refine ⟨_, rfl, ?_⟩; replace BK375 := kx BK375 hb; replace BK376 := kx BK376 hb; replace BK377 := kx BK377 hb; replace HB := hs (hb3 HB GE375 GE376 GE377) hb; (try clear hb); (try clear hb2); (try clear hk); (try clear hi)))
   go_meet
   case rel => exact ⟨_, (true), (by first | rfl | (simp; done) | (simp [*]; done)), H', ⟨by first | omega | exact Nat.le_refl _⟩, ⟨bx BK375⟩, ⟨bx BK376⟩, ⟨bx BK377⟩, ⟨hb3 HB GE375 GE376 GE377⟩⟩
  ·replace c9 := Bool.eq_false_iff.mpr c9; subst c9; rw [if_neg (show ¬ (false = true) by decide)] at H; replace H := Option.bind_eq_some_iff.mp H; obtain ⟨t379, A140, H⟩ := H; (try dsimp only at H); have A14 := Aside0.mk A140; clear A140
   by_cases c15 : t379 = true
   ·subst c15; rw [if_pos rfl] at H; have H' := Aside0.mk H; clear H; have hnb16 := NB375_376.out; have hnc16 := NB376_375.out; have hnb17 := NB375_377.out; have hnc17 := NB377_375.out; have hcz18_0 : w7.cell? ⟨gb375, 0, none⟩ = some (.int .i64 a0_0) := bc BK375 0; have hcz18_1 : w7.cell? ⟨gb375, 1, none⟩ = some (.int .i64 a0_1) := bc BK375 1; have hfz18_0 := blk_frozen BK375.out 0; have hfz18_1 := blk_frozen BK375.out 1
    go_wp2_with (first | ((with_reducible refine gate_callee (f := 18) rfl ?_); refine gl_ (some 8) Try.func18 #[.agg #[.int .i64 a0_0, .int .i64 a0_1]] ?_; (with_reducible refine (tangramref26_Beyond.calls a0_0 a0_1 false _ A8.out).mono ?_); rintro e w19 ⟨rfl, hb⟩; refine ⟨_, rfl, ?_⟩; replace BK375 := kx BK375 hb; replace BK376 := kx BK376 hb; replace BK377 := kx BK377 hb; replace HB := hs (hb3 HB GE375 GE376 GE377) hb; (try clear hb); (try clear hb2); (try clear hk); (try clear hi); have hnb20 := NB376_377.out; have hnc20 := NB377_376.out; have hcz21_0 : w19.cell? ⟨gb376, 0, none⟩ = some (.int .i64 a1_0) := bc BK376 0; have hcz21_1 : w19.cell? ⟨gb376, 1, none⟩ = some (.int .i64 a1_1) := bc BK376 1; have hfz21_0 := blk_frozen BK376.out 0; have hfz21_1 := blk_frozen BK376.out 1) | (go_at_call 18; (with_reducible refine (tangramref26_Beyond.calls a1_0 a1_1 true _ A14.out).mono ?_); rintro e w22 ⟨rfl, hb⟩; replace BK375 := kx BK375 hb; replace BK376 := kx BK376 hb; replace BK377 := kx BK377 hb; replace HB := hs (hb3 HB GE375 GE376 GE377) hb; (try clear hb); (try clear hb2); (try clear hk); (try clear hi)))
    go_meet
    case rel => exact ⟨_, (true), (by first | rfl | (simp; done) | (simp [*]; done)), H', ⟨by first | omega | exact Nat.le_refl _⟩, ⟨bx BK375⟩, ⟨bx BK376⟩, ⟨bx BK377⟩, ⟨hb3 HB GE375 GE376 GE377⟩⟩
   ·replace c15 := Bool.eq_false_iff.mpr c15; subst c15; rw [if_neg (show ¬ (false = true) by decide)] at H; replace H := Option.bind_eq_some_iff.mp H; obtain ⟨t380, A230, H⟩ := H; (try dsimp only at H); have A23 := Aside0.mk A230; clear A230; have H' := Aside0.mk H; clear H; have hnb24 := NB375_376.out; have hnc24 := NB376_375.out; have hnb25 := NB375_377.out; have hnc25 := NB377_375.out; have hcz26_0 : w7.cell? ⟨gb375, 0, none⟩ = some (.int .i64 a0_0) := bc BK375 0; have hcz26_1 : w7.cell? ⟨gb375, 1, none⟩ = some (.int .i64 a0_1) := bc BK375 1; have hfz26_0 := blk_frozen BK375.out 0; have hfz26_1 := blk_frozen BK375.out 1
    go_wp2_with (first | ((with_reducible refine gate_callee (f := 18) rfl ?_); refine gl_ (some 8) Try.func18 #[.agg #[.int .i64 a0_0, .int .i64 a0_1]] ?_; (with_reducible refine (tangramref26_Beyond.calls a0_0 a0_1 false _ A8.out).mono ?_); rintro e w27 ⟨rfl, hb⟩; refine ⟨_, rfl, ?_⟩; replace BK375 := kx BK375 hb; replace BK376 := kx BK376 hb; replace BK377 := kx BK377 hb; replace HB := hs (hb3 HB GE375 GE376 GE377) hb; (try clear hb); (try clear hb2); (try clear hk); (try clear hi); have hnb28 := NB376_377.out; have hnc28 := NB377_376.out; have hcz29_0 : w27.cell? ⟨gb376, 0, none⟩ = some (.int .i64 a1_0) := bc BK376 0; have hcz29_1 : w27.cell? ⟨gb376, 1, none⟩ = some (.int .i64 a1_1) := bc BK376 1; have hfz29_0 := blk_frozen BK376.out 0; have hfz29_1 := blk_frozen BK376.out 1) | (go_at_call 18; (with_reducible refine (tangramref26_Beyond.calls a1_0 a1_1 false _ A14.out).mono ?_); rintro e w30 ⟨rfl, hb⟩; replace BK375 := kx BK375 hb; replace BK376 := kx BK376 hb; replace BK377 := kx BK377 hb; replace HB := hs (hb3 HB GE375 GE376 GE377) hb; (try clear hb); (try clear hb2); (try clear hk); (try clear hi); have hcz31_0 : w30.cell? ⟨gb377, 0, none⟩ = some (.int .i64 a2_0) := bc BK377 0; have hcz31_1 : w30.cell? ⟨gb377, 1, none⟩ = some (.int .i64 a2_1) := bc BK377 1; have hfz31_0 := blk_frozen BK377.out 0; have hfz31_1 := blk_frozen BK377.out 1) | (go_at_call 18; (with_reducible refine (tangramref26_Beyond.calls a2_0 a2_1 t380 _ A23.out).mono ?_); rintro e w32 ⟨rfl, hb⟩; replace BK375 := kx BK375 hb; replace BK376 := kx BK376 hb; replace BK377 := kx BK377 hb; replace HB := hs (hb3 HB GE375 GE376 GE377) hb; (try clear hb); (try clear hb2); (try clear hk); (try clear hi)))
    go_meet
    case rel => exact ⟨_, (t380), (by first | rfl | (simp; done) | (simp [*]; done)), H', ⟨by first | omega | exact Nat.le_refl _⟩, ⟨bx BK375⟩, ⟨bx BK376⟩, ⟨bx BK377⟩, ⟨hb3 HB GE375 GE376 GE377⟩⟩
 case rest => as_aux_lemma =>
  clear HC4
  try clear c1
  try clear c2
  try clear p2
  try clear c9
  try clear c10
  try clear c11
  try clear c15
  try clear c16
  try clear c17
  try clear c18
  try clear c20
  try clear c24
  try clear c25
  try clear c28
  try clear hcz12_0
  try clear hcz12_1
  try clear hcz18_0
  try clear hcz18_1
  try clear hcz21_0
  try clear hcz21_1
  try clear hcz26_0
  try clear hcz26_1
  try clear hcz29_0
  try clear hcz29_1
  try clear hcz31_0
  try clear hcz31_1
  try clear hfz12_0
  try clear hfz12_1
  try clear hfz18_0
  try clear hfz18_1
  try clear hfz21_0
  try clear hfz21_1
  try clear hfz26_0
  try clear hfz26_1
  try clear hfz29_0
  try clear hfz29_1
  try clear hfz31_0
  try clear hfz31_1
  obtain ⟨kq, x16_3, rfl, HA, HJ3, BK375, BK376, BK377, HB⟩ := hcut
  cases kq with
  | zero => exact absurd HA.out (by simp [tangramref26_On.j0])
  | succ kj3 =>
   have H := HA.out; clear HA; simp only [tangramref26_On.j0] at H
   by_cases c33 : x16_3 = true
   ·subst c33; rw [if_pos rfl] at H; obtain rfl := Option.some.inj H
    go_wp2
    go_ret
    exact ⟨by rfl, hb3 HB GE375 GE376 GE377⟩
   ·replace c33 := Bool.eq_false_iff.mpr c33; subst c33; rw [if_neg (show ¬ (false = true) by decide)] at H; replace H := Option.bind_eq_some_iff.mp H; obtain ⟨t381, A340, H⟩ := H; (try dsimp only at H); have A34 := Aside0.mk A340; clear A340
    by_cases c35 : t381 = 0
    ·rw [if_pos c35] at H; have c35b0 : (t381 == 0) = true := beq_iff_eq.mpr c35; have c35b1 : (t381 != 0) = false := bne_eq_false_iff_eq.mpr c35; clear c35; replace H := Option.bind_eq_some_iff.mp H; obtain ⟨t382, A360, H⟩ := H; (try dsimp only at H); have A36 := Aside0.mk A360; clear A360
     by_cases c37 : t382 = true
     ·subst c37; rw [if_pos rfl] at H; replace H := Option.bind_eq_some_iff.mp H; obtain ⟨t383, A380, H⟩ := H; (try dsimp only at H); have A38 := Aside0.mk A380; clear A380; obtain rfl := Option.some.inj H; have hnb39 := NB375_376.out; have hnc39 := NB376_375.out; have hnb40 := NB375_377.out; have hnc40 := NB377_375.out; have hcz41_0 : wc.cell? ⟨gb375, 0, none⟩ = some (.int .i64 a0_0) := bc BK375 0; have hcz41_1 : wc.cell? ⟨gb375, 1, none⟩ = some (.int .i64 a0_1) := bc BK375 1; have hfz41_0 := blk_frozen BK375.out 0; have hfz41_1 := blk_frozen BK375.out 1; have hnb42 := NB376_377.out; have hnc42 := NB377_376.out; have hcz43_0 : wc.cell? ⟨gb376, 0, none⟩ = some (.int .i64 a1_0) := bc BK376 0; have hcz43_1 : wc.cell? ⟨gb376, 1, none⟩ = some (.int .i64 a1_1) := bc BK376 1; have hfz43_0 := blk_frozen BK376.out 0; have hfz43_1 := blk_frozen BK376.out 1; have hcz44_0 : wc.cell? ⟨gb377, 0, none⟩ = some (.int .i64 a2_0) := bc BK377 0; have hcz44_1 : wc.cell? ⟨gb377, 1, none⟩ = some (.int .i64 a2_1) := bc BK377 1; have hfz44_0 := blk_frozen BK377.out 0; have hfz44_1 := blk_frozen BK377.out 1
      go_wp2_with (first | ((with_reducible refine gate_callee (f := 40) rfl ?_); refine gl_ (some 20) Try.func40 #[.agg #[.int .i64 a0_0, .int .i64 a0_1], .agg #[.int .i64 a1_0, .int .i64 a1_1], .agg #[.int .i64 a2_0, .int .i64 a2_1]] ?_; (with_reducible refine (tangramref26_Product.calls a0_0 a0_1 a1_0 a1_1 a2_0 a2_1 t381 _ A34.out).mono ?_); rintro e w45 ⟨rfl, hb⟩; refine ⟨_, rfl, ?_⟩; replace BK375 := kx BK375 hb; replace BK376 := kx BK376 hb; replace BK377 := kx BK377 hb; replace HB := hs (hb3 HB GE375 GE376 GE377) hb; (try clear hb); (try clear hb2); (try clear hk); (try clear hi); have hcz46_0 : w45.cell? ⟨gb375, 0, none⟩ = some (.int .i64 a0_0) := bc BK375 0; have hcz46_1 : w45.cell? ⟨gb375, 1, none⟩ = some (.int .i64 a0_1) := bc BK375 1; have hfz46_0 := blk_frozen BK375.out 0; have hfz46_1 := blk_frozen BK375.out 1; have hcz47_0 : w45.cell? ⟨gb377, 0, none⟩ = some (.int .i64 a2_0) := bc BK377 0; have hcz47_1 : w45.cell? ⟨gb377, 1, none⟩ = some (.int .i64 a2_1) := bc BK377 1; have hfz47_0 := blk_frozen BK377.out 0; have hfz47_1 := blk_frozen BK377.out 1; have hcz48_0 : w45.cell? ⟨gb376, 0, none⟩ = some (.int .i64 a1_0) := bc BK376 0; have hcz48_1 : w45.cell? ⟨gb376, 1, none⟩ = some (.int .i64 a1_1) := bc BK376 1; have hfz48_0 := blk_frozen BK376.out 0; have hfz48_1 := blk_frozen BK376.out 1) | (go_at_call 42; (with_reducible refine (tangramref26_between.calls a0_0 a2_0 a1_0 true _ A36.out).mono ?_); rintro e w' ⟨rfl, ⟨nd, rfl⟩⟩) | (go_at_call 42; (with_reducible refine (tangramref26_between.calls a0_1 a2_1 a1_1 t383 _ A38.out).mono ?_); rintro e w' ⟨rfl, ⟨nd, rfl⟩⟩))
      go_ret
      exact ⟨by rfl, hb3 HB GE375 GE376 GE377⟩
     ·replace c37 := Bool.eq_false_iff.mpr c37; subst c37; rw [if_neg (show ¬ (false = true) by decide)] at H; obtain rfl := Option.some.inj H; have hnb49 := NB375_376.out; have hnc49 := NB376_375.out; have hnb50 := NB375_377.out; have hnc50 := NB377_375.out; have hcz51_0 : wc.cell? ⟨gb375, 0, none⟩ = some (.int .i64 a0_0) := bc BK375 0; have hcz51_1 : wc.cell? ⟨gb375, 1, none⟩ = some (.int .i64 a0_1) := bc BK375 1; have hfz51_0 := blk_frozen BK375.out 0; have hfz51_1 := blk_frozen BK375.out 1; have hnb52 := NB376_377.out; have hnc52 := NB377_376.out; have hcz53_0 : wc.cell? ⟨gb376, 0, none⟩ = some (.int .i64 a1_0) := bc BK376 0; have hcz53_1 : wc.cell? ⟨gb376, 1, none⟩ = some (.int .i64 a1_1) := bc BK376 1; have hfz53_0 := blk_frozen BK376.out 0; have hfz53_1 := blk_frozen BK376.out 1; have hcz54_0 : wc.cell? ⟨gb377, 0, none⟩ = some (.int .i64 a2_0) := bc BK377 0; have hcz54_1 : wc.cell? ⟨gb377, 1, none⟩ = some (.int .i64 a2_1) := bc BK377 1; have hfz54_0 := blk_frozen BK377.out 0; have hfz54_1 := blk_frozen BK377.out 1
      go_wp2_with (first | ((with_reducible refine gate_callee (f := 40) rfl ?_); refine gl_ (some 20) Try.func40 #[.agg #[.int .i64 a0_0, .int .i64 a0_1], .agg #[.int .i64 a1_0, .int .i64 a1_1], .agg #[.int .i64 a2_0, .int .i64 a2_1]] ?_; (with_reducible refine (tangramref26_Product.calls a0_0 a0_1 a1_0 a1_1 a2_0 a2_1 t381 _ A34.out).mono ?_); rintro e w55 ⟨rfl, hb⟩; refine ⟨_, rfl, ?_⟩; replace BK375 := kx BK375 hb; replace BK376 := kx BK376 hb; replace BK377 := kx BK377 hb; replace HB := hs (hb3 HB GE375 GE376 GE377) hb; (try clear hb); (try clear hb2); (try clear hk); (try clear hi); have hcz56_0 : w55.cell? ⟨gb375, 0, none⟩ = some (.int .i64 a0_0) := bc BK375 0; have hcz56_1 : w55.cell? ⟨gb375, 1, none⟩ = some (.int .i64 a0_1) := bc BK375 1; have hfz56_0 := blk_frozen BK375.out 0; have hfz56_1 := blk_frozen BK375.out 1; have hcz57_0 : w55.cell? ⟨gb377, 0, none⟩ = some (.int .i64 a2_0) := bc BK377 0; have hcz57_1 : w55.cell? ⟨gb377, 1, none⟩ = some (.int .i64 a2_1) := bc BK377 1; have hfz57_0 := blk_frozen BK377.out 0; have hfz57_1 := blk_frozen BK377.out 1; have hcz58_0 : w55.cell? ⟨gb376, 0, none⟩ = some (.int .i64 a1_0) := bc BK376 0; have hcz58_1 : w55.cell? ⟨gb376, 1, none⟩ = some (.int .i64 a1_1) := bc BK376 1; have hfz58_0 := blk_frozen BK376.out 0; have hfz58_1 := blk_frozen BK376.out 1) | (go_at_call 42; (with_reducible refine (tangramref26_between.calls a0_0 a2_0 a1_0 false _ A36.out).mono ?_); rintro e w' ⟨rfl, ⟨nd, rfl⟩⟩))
      go_ret
      exact ⟨by rfl, hb3 HB GE375 GE376 GE377⟩
    ·rw [if_neg c35] at H; have c35b0 : (t381 == 0) = false := beq_eq_false_iff_ne.mpr c35; have c35b1 : (t381 != 0) = true := bne_iff_ne.mpr c35; obtain rfl := Option.some.inj H; have hnb59 := NB375_376.out; have hnc59 := NB376_375.out; have hnb60 := NB375_377.out; have hnc60 := NB377_375.out; have hcz61_0 : wc.cell? ⟨gb375, 0, none⟩ = some (.int .i64 a0_0) := bc BK375 0; have hcz61_1 : wc.cell? ⟨gb375, 1, none⟩ = some (.int .i64 a0_1) := bc BK375 1; have hfz61_0 := blk_frozen BK375.out 0; have hfz61_1 := blk_frozen BK375.out 1; have hnb62 := NB376_377.out; have hnc62 := NB377_376.out; have hcz63_0 : wc.cell? ⟨gb376, 0, none⟩ = some (.int .i64 a1_0) := bc BK376 0; have hcz63_1 : wc.cell? ⟨gb376, 1, none⟩ = some (.int .i64 a1_1) := bc BK376 1; have hfz63_0 := blk_frozen BK376.out 0; have hfz63_1 := blk_frozen BK376.out 1; have hcz64_0 : wc.cell? ⟨gb377, 0, none⟩ = some (.int .i64 a2_0) := bc BK377 0; have hcz64_1 : wc.cell? ⟨gb377, 1, none⟩ = some (.int .i64 a2_1) := bc BK377 1; have hfz64_0 := blk_frozen BK377.out 0; have hfz64_1 := blk_frozen BK377.out 1
     go_wp2_with (first | ((with_reducible refine gate_callee (f := 40) rfl ?_); refine gl_ (some 20) Try.func40 #[.agg #[.int .i64 a0_0, .int .i64 a0_1], .agg #[.int .i64 a1_0, .int .i64 a1_1], .agg #[.int .i64 a2_0, .int .i64 a2_1]] ?_; (with_reducible refine (tangramref26_Product.calls a0_0 a0_1 a1_0 a1_1 a2_0 a2_1 t381 _ A34.out).mono ?_); rintro e w65 ⟨rfl, hb⟩; refine ⟨_, rfl, ?_⟩; replace BK375 := kx BK375 hb; replace BK376 := kx BK376 hb; replace BK377 := kx BK377 hb; replace HB := hs (hb3 HB GE375 GE376 GE377) hb; (try clear hb); (try clear hb2); (try clear hk); (try clear hi)))
     go_ret
     exact ⟨by rfl, hb3 HB GE375 GE376 GE377⟩

end Go.Proofs.Ythfoliejhdpbaaa.PCroA
