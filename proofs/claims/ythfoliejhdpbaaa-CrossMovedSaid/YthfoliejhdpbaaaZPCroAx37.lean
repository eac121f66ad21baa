import Derived.Test.YthfoliejhdpbaaaZPCroAx0
import Derived.Test.YthfoliejhdpbaaaZPCroAx31
namespace Go.Proofs.Ythfoliejhdpbaaa.PCroA
open Go.RowKit Go.Proofs.YthfoliejhdpbaaaW.PrintWords Go.Proofs.YthfoliejhdpbaaaW.PrintLast Go.Proofs.YthfoliejhdpbaaaW.PrintMore
open Go.Proofs.YthfoliejhdpbaaaX
attribute [local go_sem] max2_int min2_int max_two min_two max_three min_three max_four min_four
set_option linter.unusedVariables false
set_option linter.unusedSimpArgs false

/-! ### tangramref26_Meet: function 17 -/
mutual
def tangramref26_Meet.j0 : Nat → Bool → Int → Int → Int → Int → Int → Int → Int → Int → Option (Bool)
 | 0, _, _, _, _, _, _, _, _, _ => none
 | k + 1, x22, x385000, x385001, x386000, x386001, x387000, x387001, x388000, x388001 => if x22 = true then (some false) else ((tangramref26_On.f k x385000 x385001 x386000 x386001 x387000 x387001).bind fun t392 => (if t392 = true then (tangramref26_Meet.j1 k true x385000 x385001 x386000 x386001 x387000 x387001 x388000 x388001) else ((tangramref26_On.f k x385000 x385001 x386000 x386001 x388000 x388001).bind fun t393 => (if t393 = true then (tangramref26_Meet.j1 k true x385000 x385001 x386000 x386001 x387000 x387001 x388000 x388001) else ((tangramref26_On.f k x387000 x387001 x388000 x388001 x385000 x385001).bind fun t394 => (if t394 = true then (tangramref26_Meet.j1 k true x385000 x385001 x386000 x386001 x387000 x387001 x388000 x388001) else ((tangramref26_On.f k x387000 x387001 x388000 x388001 x386000 x386001).bind fun t395 => (tangramref26_Meet.j1 k t395 x385000 x385001 x386000 x386001 x387000 x387001 x388000 x388001))))))))
def tangramref26_Meet.j1 : Nat → Bool → Int → Int → Int → Int → Int → Int → Int → Int → Option (Bool)
 | 0, _, _, _, _, _, _, _, _, _ => none
 | k + 1, x44, x385000, x385001, x386000, x386001, x387000, x387001, x388000, x388001 => if x44 = true then (some true) else ((tangramref26_Turn.f k x385000 x385001 x386000 x386001 x387000 x387001).bind fun t396 => ((tangramref26_Turn.f k x385000 x385001 x386000 x386001 x388000 x388001).bind fun t397 => (if (wrap64 (t396 * t397)) < 0 then ((tangramref26_Turn.f k x387000 x387001 x388000 x388001 x385000 x385001).bind fun t398 => ((tangramref26_Turn.f k x387000 x387001 x388000 x388001 x386000 x386001).bind fun t399 => (some (decide ((wrap64 (t398 * t399)) < 0))))) else (some false))))
end
def tangramref26_Meet.f (k : Nat) (a0_0 : Int) (a0_1 : Int) (a1_0 : Int) (a1_1 : Int) (a2_0 : Int) (a2_1 : Int) (a3_0 : Int) (a3_1 : Int) : Option (Bool) := (tangramref26_Beyond.f a0_0 a0_1).bind fun t388 => (if t388 = true then (tangramref26_Meet.j0 k true a0_0 a0_1 a1_0 a1_1 a2_0 a2_1 a3_0 a3_1) else ((tangramref26_Beyond.f a1_0 a1_1).bind fun t389 => (if t389 = true then (tangramref26_Meet.j0 k true a0_0 a0_1 a1_0 a1_1 a2_0 a2_1 a3_0 a3_1) else ((tangramref26_Beyond.f a2_0 a2_1).bind fun t390 => (if t390 = true then (tangramref26_Meet.j0 k true a0_0 a0_1 a1_0 a1_1 a2_0 a2_1 a3_0 a3_1) else ((tangramref26_Beyond.f a3_0 a3_1).bind fun t391 => (tangramref26_Meet.j0 k t391 a0_0 a0_1 a1_0 a1_1 a2_0 a2_1 a3_0 a3_1)))))))
theorem tangramref26_Meet.mono_l : ∀ k, (∀ y0 y1 y2 y3 y4 y5 y6 y7 y8, LeO (tangramref26_Meet.j0 k y0 y1 y2 y3 y4 y5 y6 y7 y8) (tangramref26_Meet.j0 (k + 1) y0 y1 y2 y3 y4 y5 y6 y7 y8)) ∧ (∀ y0 y1 y2 y3 y4 y5 y6 y7 y8, LeO (tangramref26_Meet.j1 k y0 y1 y2 y3 y4 y5 y6 y7 y8) (tangramref26_Meet.j1 (k + 1) y0 y1 y2 y3 y4 y5 y6 y7 y8))
 | 0 => ⟨fun _ _ _ _ _ _ _ _ _ r h => by simp [tangramref26_Meet.j0] at h, fun _ _ _ _ _ _ _ _ _ r h => by simp [tangramref26_Meet.j1] at h⟩
 | k + 1 => by
  obtain ⟨ih0, ih1⟩ := tangramref26_Meet.mono_l k; refine ⟨?_, ?_⟩
  ·intro y0 y1 y2 y3 y4 y5 y6 y7 y8
   unfold tangramref26_Meet.j0
   repeat' first
   | (with_reducible exact ih0 _ _ _ _ _ _ _ _ _)
   | (with_reducible exact ih1 _ _ _ _ _ _ _ _ _)
   | (with_reducible exact tangramref26_On.mono _ _ _ _ _ _ _)
   | (with_reducible exact tangramref26_Turn.mono _ _ _ _ _ _ _)
   | (with_reducible exact LeO.refl _)
   | (with_reducible exact LeO.none _)
   | (with_reducible refine LeO.ite ?_ ?_)
   | (with_reducible refine LeO.bind ?_ (fun _ => ?_))
   | exact LeO.none _
   | refine LeO.ite ?_ ?_
   | refine LeO.bind ?_ (fun _ => ?_)
  ·intro y0 y1 y2 y3 y4 y5 y6 y7 y8
   unfold tangramref26_Meet.j1
   repeat' first
   | (with_reducible exact ih0 _ _ _ _ _ _ _ _ _)
   | (with_reducible exact ih1 _ _ _ _ _ _ _ _ _)
   | (with_reducible exact tangramref26_On.mono _ _ _ _ _ _ _)
   | (with_reducible exact tangramref26_Turn.mono _ _ _ _ _ _ _)
   | (with_reducible exact LeO.refl _)
   | (with_reducible exact LeO.none _)
   | (with_reducible refine LeO.ite ?_ ?_)
   | (with_reducible refine LeO.bind ?_ (fun _ => ?_))
   | exact LeO.none _
   | refine LeO.ite ?_ ?_
   | refine LeO.bind ?_ (fun _ => ?_)
theorem tangramref26_Meet.mono : ∀ a0 a1 a2 a3 a4 a5 a6 a7 k, LeO (tangramref26_Meet.f k a0 a1 a2 a3 a4 a5 a6 a7) (tangramref26_Meet.f (k + 1) a0 a1 a2 a3 a4 a5 a6 a7) := by
 intro a0 a1 a2 a3 a4 a5 a6 a7 k; obtain ⟨ih0, ih1⟩ := tangramref26_Meet.mono_l k
 unfold tangramref26_Meet.f
 repeat' first
   | (with_reducible exact ih0 _ _ _ _ _ _ _ _ _)
   | (with_reducible exact ih1 _ _ _ _ _ _ _ _ _)
   | (with_reducible exact tangramref26_On.mono _ _ _ _ _ _ _)
   | (with_reducible exact tangramref26_Turn.mono _ _ _ _ _ _ _)
   | (with_reducible exact LeO.refl _)
   | (with_reducible exact LeO.none _)
   | (with_reducible refine LeO.ite ?_ ?_)
   | (with_reducible refine LeO.bind ?_ (fun _ => ?_))
   | exact LeO.none _
   | refine LeO.ite ?_ ?_
   | refine LeO.bind ?_ (fun _ => ?_)
def tangramref26_Meet.T5 : Bool × List (List Nat × List Nat) := (true, [([], []), ([], []), ([], []), ([0, 1, 2], [0, 1, 2]), ([], []), ([], []), ([], []), ([4, 5, 6, 3], [4, 5, 6]), ([3, 7], [3, 7]), ([8], [8]), ([9, 7], [9]), ([10], [10]), ([10], [10]), ([10], [10]), ([11, 12, 13, 10, 10], [10, 11, 12, 13]), ([10], [10]), ([10], [10]), ([10], [10]), ([15, 16, 17, 14, 10], [10, 15, 16, 17]), ([14, 18, 10], [10, 14, 18]), ([19, 10], [10, 19]), ([10, 20], [10, 20]), ([21, 18, 0, 1, 2, 3, 4, 5, 6, 7, 8, 9, 10, 11, 12, 13, 14, 15, 16, 17, 18, 19, 20, 21], [21])])
def tangramref26_Meet.B5 : List Nat := [0, 0, 0, 7, 0, 0, 0, 127, 255, 511, 1023, 2047, 2047, 2047, 16383, 2047, 2047, 2047, 262143, 524287, 1048575, 2097151, 4194303]
theorem tangramref26_Meet.tab5 : rtab .any (opsOf Try.f17 5) = tangramref26_Meet.T5 := by kernel_rfl
theorem tangramref26_Meet.bits5 : waitsOk tangramref26_Meet.T5.2 tangramref26_Meet.B5 = true := by kernel_rfl
set_option maxHeartbeats 8000000 in
set_option maxRecDepth 100000 in
theorem tangramref26_Meet.calls (k : Nat) (a0_0 : Int) (a0_1 : Int) (a1_0 : Int) (a1_1 : Int) (a2_0 : Int) (a2_1 : Int) (a3_0 : Int) (a3_1 : Int) (r : Bool) (w : World) (h : tangramref26_Meet.f k a0_0 a0_1 a1_0 a1_1 a2_0 a2_1 a3_0 a3_1 = some r) :
  Calls Try.prog 17 #[.agg #[.int .i64 a0_0, .int .i64 a0_1], .agg #[.int .i64 a1_0, .int .i64 a1_1], .agg #[.int .i64 a2_0, .int .i64 a2_1], .agg #[.int .i64 a3_0, .int .i64 a3_1]] w fun e w' => e = .returned (.bool r) ∧ Below w.heap.size w w' := by
 have hu23 := Try.underlying23; have HB := Aside0.mk (Below.refl w.heap.size w); have H : ((tangramref26_Beyond.f a0_0 a0_1).bind fun t388 => (if t388 = true then (tangramref26_Meet.j0 k true a0_0 a0_1 a1_0 a1_1 a2_0 a2_1 a3_0 a3_1) else ((tangramref26_Beyond.f a1_0 a1_1).bind fun t389 => (if t389 = true then (tangramref26_Meet.j0 k true a0_0 a0_1 a1_0 a1_1 a2_0 a2_1 a3_0 a3_1) else ((tangramref26_Beyond.f a2_0 a2_1).bind fun t390 => (if t390 = true then (tangramref26_Meet.j0 k true a0_0 a0_1 a1_0 a1_1 a2_0 a2_1 a3_0 a3_1) else ((tangramref26_Beyond.f a3_0 a3_1).bind fun t391 => (tangramref26_Meet.j0 k t391 a0_0 a0_1 a1_0 a1_1 a2_0 a2_1 a3_0 a3_1)))))))) = some r := h; clear h; have HC5 := Aside0.mk H; clear H
 go_enter Try.func17, Try.ntmps17
 go_upto_region 1 with (first | ((with_reducible refine gate_dst (N := 4) rfl ?_); refine be_ 4 #[.int .i64 a0_0, .int .i64 a0_1] 23 ?_; intro gb384 hg w6 hbox hb; have BK384 := Aside0.mk (hbox); have GW384 := wq (hb0 HB) hg; have GE384 := wq (hb0 HB) hg; replace HB := hs (hb0 HB) hb; clear hb hbox hg) | ((with_reducible refine gate_dst (N := 5) rfl ?_); refine be_ 5 #[.int .i64 a1_0, .int .i64 a1_1] 23 ?_; intro gb385 hg w7 hbox hb; have BK385 := Aside0.mk (hbox); have GW385 := wq (hb1 HB GE384) hg; have GE385 := wq (hb1 HB GE384) hg; replace HB := hs (hb1 HB GE384) hb; have NB384_385 := lx BK384 hg; have NB385_384 := gx BK384 hg; replace BK384 := kx BK384 hb; clear hb hbox hg) | ((with_reducible refine gate_dst (N := 6) rfl ?_); refine be_ 6 #[.int .i64 a2_0, .int .i64 a2_1] 23 ?_; intro gb386 hg w8 hbox hb; have BK386 := Aside0.mk (hbox); have GW386 := wq (hb2 HB GE384 GE385) hg; have GE386 := wq (hb2 HB GE384 GE385) hg; replace HB := hs (hb2 HB GE384 GE385) hb; have NB384_386 := lx BK384 hg; have NB386_384 := gx BK384 hg; replace BK384 := kx BK384 hb; have NB385_386 := lx BK385 hg; have NB386_385 := gx BK385 hg; replace BK385 := kx BK385 hb; clear hb hbox hg) | ((with_reducible refine gate_dst (N := 7) rfl ?_); refine be_ 7 #[.int .i64 a3_0, .int .i64 a3_1] 23 ?_; intro gb387 hg w9 hbox hb; have BK387 := Aside0.mk (hbox); have GW387 := wq (hb3 HB GE384 GE385 GE386) hg; have GE387 := wq (hb3 HB GE384 GE385 GE386) hg; replace HB := hs (hb3 HB GE384 GE385 GE386) hb; have NB384_387 := lx BK384 hg; have NB387_384 := gx BK384 hg; replace BK384 := kx BK384 hb; have NB385_387 := lx BK385 hg; have NB387_385 := gx BK385 hg; replace BK385 := kx BK385 hb; have NB386_387 := lx BK386 hg; have NB387_386 := gx BK386 hg; replace BK386 := kx BK386 hb; clear hb hbox hg))
 (try simp only [Act.put, List.setIfInBounds_toArray, List.set_cons_zero, List.set_cons_succ])
 go_cut [22] (fun v22 wc => ∃ (kq : Nat) (x22_4 : Bool), v22 = .bool x22_4 ∧ Aside0 (tangramref26_Meet.j0 kq x22_4 a0_0 a0_1 a1_0 a1_1 a2_0 a2_1 a3_0 a3_1 = some r) ∧ Aside0 (kq ≤ k) ∧ Aside0 (wc.heap[gb384]? = some (.cells #[.int .i64 a0_0, .int .i64 a0_1] 23 (0, 0))) ∧ Aside0 (wc.heap[gb385]? = some (.cells #[.int .i64 a1_0, .int .i64 a1_1] 23 (0, 0))) ∧ Aside0 (wc.heap[gb386]? = some (.cells #[.int .i64 a2_0, .int .i64 a2_1] 23 (0, 0))) ∧ Aside0 (wc.heap[gb387]? = some (.cells #[.int .i64 a3_0, .int .i64 a3_1] 23 (0, 0))) ∧ Aside0 (Below w.heap.size w wc))
 case first => as_aux_lemma =>
  have H := HC5.out; clear HC5; replace H := Option.bind_eq_some_iff.mp H; obtain ⟨t388, A100, H⟩ := H; (try dsimp only at H); have A10 := Aside0.mk A100; clear A100
  by_cases c11 : t388 = true
  ·subst c11; rw [if_pos rfl] at H; have H' := Aside0.mk H; clear H; have hnb12 := NB384_385.out; have hnc12 := NB385_384.out; have hnb13 := NB384_386.out; have hnc13 := NB386_384.out; have hnb14 := NB384_387.out; have hnc14 := NB387_384.out; have hcz15_0 : w9.cell? ⟨gb384, 0, none⟩ = some (.int .i64 a0_0) := bc BK384 0; have hcz15_1 : w9.cell? ⟨gb384, 1, none⟩ = some (.int .i64 a0_1) := bc BK384 1; have hfz15_0 := blk_frozen BK384.out 0; have hfz15_1 := blk_frozen BK384.out 1
   go_wp2_with (first | ((with_reducible refine gate_callee (f := 18) rfl ?_); refine gl_ (some 10) Try.func18 #[.agg #[.int .i64 a0_0, .int .i64 a0_1]] ?_; (with_reducible refine (tangramref26_Beyond.calls a0_0 a0_1 true _ A10.out).mono ?_); rintro e w16 ⟨rfl, hb⟩; refine ⟨_, rfl, ?_⟩; replace BK384 := kx BK384 hb; replace BK385 := kx BK385 hb; replace BK386 := kx BK386 hb; replace BK387 := kx BK387 hb; replace HB := hs (hb4 HB GE384 GE385 GE386 GE387) hb; (try clear hb); (try clear hb2); (try clear hk); (try clear hi)))
   go_meet
   case rel => exact ⟨_, (true), (by first | rfl | (simp; done) | (simp [*]; done)), H', ⟨by first | omega | exact Nat.le_refl _⟩, ⟨bx BK384⟩, ⟨bx BK385⟩, ⟨bx BK386⟩, ⟨bx BK387⟩, ⟨hb4 HB GE384 GE385 GE386 GE387⟩⟩
  ·replace c11 := Bool.eq_false_iff.mpr c11; subst c11; rw [if_neg (show ¬ (false = true) by decide)] at H; replace H := Option.bind_eq_some_iff.mp H; obtain ⟨t389, A170, H⟩ := H; (try dsimp only at H); have A17 := Aside0.mk A170; clear A170
   by_cases c18 : t389 = true
   ·subst c18; rw [if_pos rfl] at H; have H' := Aside0.mk H; clear H; have hnb19 := NB384_385.out; have hnc19 := NB385_384.out; have hnb20 := NB384_386.out; have hnc20 := NB386_384.out; have hnb21 := NB384_387.out; have hnc21 := NB387_384.out; have hcz22_0 : w9.cell? ⟨gb384, 0, none⟩ = some (.int .i64 a0_0) := bc BK384 0; have hcz22_1 : w9.cell? ⟨gb384, 1, none⟩ = some (.int .i64 a0_1) := bc BK384 1; have hfz22_0 := blk_frozen BK384.out 0; have hfz22_1 := blk_frozen BK384.out 1
    go_wp2_with (first | ((with_reducible refine gate_callee (f := 18) rfl ?_); refine gl_ (some 10) Try.func18 #[.agg #[.int .i64 a0_0, .int .i64 a0_1]] ?_; (with_reducible refine (tangramref26_Beyond.calls a0_0 a0_1 false _ A10.out).mono ?_); rintro e w23 ⟨rfl, hb⟩; refine ⟨_, rfl, ?_⟩; replace BK384 := kx BK384 hb; replace BK385 := kx BK385 hb; replace BK386 := kx BK386 hb; replace BK387 := kx BK387 hb; replace HB := hs (hb4 HB GE384 GE385 GE386 GE387) hb; (try clear hb); (try clear hb2); (try clear hk); (try clear hi); have hnb24 := NB385_386.out; have hnc24 := NB386_385.out; have hnb25 := NB385_387.out; have hnc25 := NB387_385.out; have hcz26_0 : w23.cell? ⟨gb385, 0, none⟩ = some (.int .i64 a1_0) := bc BK385 0; have hcz26_1 : w23.cell? ⟨gb385, 1, none⟩ = some (.int .i64 a1_1) := bc BK385 1; have hfz26_0 := blk_frozen BK385.out 0; have hfz26_1 := blk_frozen BK385.out 1) | (go_at_call 18; (with_reducible refine (tangramref26_Beyond.calls a1_0 a1_1 true _ A17.out).mono ?_); rintro e w27 ⟨rfl, hb⟩; replace BK384 := kx BK384 hb; replace BK385 := kx BK385 hb; replace BK386 := kx BK386 hb; replace BK387 := kx BK387 hb; replace HB := hs (hb4 HB GE384 GE385 GE386 GE387) hb; (try clear hb); (try clear hb2); (try clear hk); (try clear hi)))
    go_meet
    case rel => exact ⟨_, (true), (by first | rfl | (simp; done) | (simp [*]; done)), H', ⟨by first | omega | exact Nat.le_refl _⟩, ⟨bx BK384⟩, ⟨bx BK385⟩, ⟨bx BK386⟩, ⟨bx BK387⟩, ⟨hb4 HB GE384 GE385 GE386 GE387⟩⟩
   ·replace c18 := Bool.eq_false_iff.mpr c18; subst c18; rw [if_neg (show ¬ (false = true) by decide)] at H; replace H := Option.bind_eq_some_iff.mp H; obtain ⟨t390, A280, H⟩ := H; (try dsimp only at H); have A28 := Aside0.mk A280; clear A280
    by_cases c29 : t390 = true
    ·subst c29; rw [if_pos rfl] at H; have H' := Aside0.mk H; clear H; have hnb30 := NB384_385.out; have hnc30 := NB385_384.out; have hnb31 := NB384_386.out; have hnc31 := NB386_384.out; have hnb32 := NB384_387.out; have hnc32 := NB387_384.out; have hcz33_0 : w9.cell? ⟨gb384, 0, none⟩ = some (.int .i64 a0_0) := bc BK384 0; have hcz33_1 : w9.cell? ⟨gb384, 1, none⟩ = some (.int .i64 a0_1) := bc BK384 1; have hfz33_0 := blk_frozen BK384.out 0; have hfz33_1 := blk_frozen BK384.out 1
     go_wp2_with (first | ((with_reducible refine gate_callee (f := 18) rfl ?_); refine gl_ (some 10) Try.func18 #[.agg #[.int .i64 a0_0, .int .i64 a0_1]] ?_; (with_reducible refine (tangramref26_Beyond.calls a0_0 a0_1 false _ A10.out).mono ?_); rintro e w34 ⟨rfl, hb⟩; refine ⟨_, rfl, ?_⟩; replace BK384 := kx BK384 hb; replace BK385 := kx BK385 hb; replace BK386 := kx BK386 hb; replace BK387 := kx BK387 hb; replace HB := hs (hb4 HB GE384 GE385 GE386 GE387) hb; (try clear hb); (try clear hb2); (try clear hk); (try clear hi); have hnb35 := NB385_386.out; have hnc35 := NB386_385.out; have hnb36 := NB385_387.out; have hnc36 := NB387_385.out; have hcz37_0 : w34.cell? ⟨gb385, 0, none⟩ = some (.int .i64 a1_0) := bc BK385 0; have hcz37_1 : w34.cell? ⟨gb385, 1, none⟩ = some (.int .i64 a1_1) := bc BK385 1; have hfz37_0 := blk_frozen BK385.out 0; have hfz37_1 := blk_frozen BK385.out 1) | (go_at_call 18; (with_reducible refine (tangramref26_Beyond.calls a1_0 a1_1 false _ A17.out).mono ?_); rintro e w38 ⟨rfl, hb⟩; replace BK384 := kx BK384 hb; replace BK385 := kx BK385 hb; replace BK386 := kx BK386 hb; replace BK387 := kx BK387 hb; replace HB := hs (hb4 HB GE384 GE385 GE386 GE387) hb; (try clear hb); (try clear hb2); (try clear hk); (try clear hi); have hnb39 := NB386_387.out; have hnc39 := NB387_386.out; have hcz40_0 : w38.cell? ⟨gb386, 0, none⟩ = some (.int .i64 a2_0) := bc BK386 0; have hcz40_1 : w38.cell? ⟨gb386, 1, none⟩ = some (.int .i64 a2_1) := bc BK386 1; have hfz40_0 := blk_frozen BK386.out 0; have hfz40_1 := blk_frozen BK386.out 1) | (go_at_call 18; (with_reducible refine (tangramref26_Beyond.calls a2_0 a2_1 true _ A28.out).mono ?_); rintro e w41 ⟨rfl, hb⟩; replace BK384 := kx BK384 hb; replace BK385 := kx BK385 hb; replace BK386 := kx BK386 hb; replace BK387 := kx BK387 hb; replace HB := hs (hb4 HB GE384 GE385 GE386 GE387) hb; (try clear hb); (try clear hb2); (try clear hk); (try clear hi)))
     go_meet
     case rel => exact ⟨_, (true), (by first | rfl | (simp; done) | (simp [*]; done)), H', ⟨by first | omega | exact Nat.le_refl _⟩, ⟨bx BK384⟩, ⟨bx BK385⟩, ⟨bx BK386⟩, ⟨bx BK387⟩, ⟨hb4 HB GE384 GE385 GE386 GE387⟩⟩
    ·replace c29 := Bool.eq_false_iff.mpr c29; subst c29; rw [if_neg (show ¬ (false = true) by decide)] at H; replace H := Option.bind_eq_some_iff.mp H; obtain ⟨t391, A420, H⟩ := H; (try dsimp only at H); have A42 := Aside0.mk A420; clear A420; have H' := Aside0.mk H; clear H; have hnb43 := NB384_385.out; have hnc43 := NB385_384.out; have hnb44 := NB384_386.out; have hnc44 := NB386_384.out; have hnb45 := NB384_387.out; have hnc45 := NB387_384.out; have hcz46_0 : w9.cell? ⟨gb384, 0, none⟩ = some (.int .i64 a0_0) := bc BK384 0; have hcz46_1 : w9.cell? ⟨gb384, 1, none⟩ = some (.int .i64 a0_1) := bc BK384 1; have hfz46_0 := blk_frozen BK384.out 0; have hfz46_1 := blk_frozen BK384.out 1
     go_wp2_with (first | ((with_reducible refine gate_callee (f := 18) rfl ?_); refine gl_ (some 10) Try.func18 #[.agg #[.int .i64 a0_0, .int .i64 a0_1]] ?_; (with_reducible refine (tangramref26_Beyond.calls a0_0 a0_1 false _ A10.out).mono ?_); rintro e w47 ⟨rfl, hb⟩; refine ⟨_, rfl, ?_⟩; replace BK384 := kx BK384 hb; replace BK385 := kx BK385 hb; replace BK386 := kx BK386 hb; replace BK387 := kx BK387 hb; replace HB := hs (hb4 HB GE384 GE385 GE386 GE387) hb; (try clear hb); (try clear hb2); (try clear hk); (try clear hi); have hnb48 := NB385_386.out; have hnc48 := NB386_385.out; have hnb49 := NB385_387.out; have hnc49 := NB387_385.out; have hcz50_0 : w47.cell? ⟨gb385, 0, none⟩ = some (.int .i64 a1_0) := bc BK385 0; have hcz50_1 : w47.cell? ⟨gb385, 1, none⟩ = some (.int .i64 a1_1) := bc BK385 1; have hfz50_0 := blk_frozen BK385.out 0; have hfz50_1 := blk_frozen BK385.out 1) | (go_at_call 18; (with_reducible refine (tangramref26_Beyond.calls a1_0 a1_1 false _ A17.out).mono ?_); rintro e w51 ⟨rfl, hb⟩; replace BK384 := kx BK384 hb; replace BK385 := kx BK385 hb; replace BK386 := kx BK386 hb; replace BK387 := kx BK387 hb; replace HB := hs (hb4 HB GE384 GE385 GE386 GE387) hb; (try clear hb); (try clear hb2); (try clear hk); (try clear hi); have hnb52 := NB386_387.out; have hnc52 := NB387_386.out; have hcz53_0 : w51.cell? ⟨gb386, 0, none⟩ = some (.int .i64 a2_0) := bc BK386 0; have hcz53_1 : w51.cell? ⟨gb386, 1, none⟩ = some (.int .i64 a2_1) := bc BK386 1; have hfz53_0 := blk_frozen BK386.out 0; have hfz53_1 := blk_frozen BK386.out 1) | (go_at_call 18; (with_reducible refine (tangramref26_Beyond.calls a2_0 a2_1 false _ A28.out).mono ?_); rintro e w54 ⟨rfl, hb⟩; replace BK384 := kx BK384 hb; replace BK385 := kx BK385 hb; replace BK386 := kx BK386 hb; replace BK387 := kx BK387 hb; replace HB := hs (hb4 HB GE384 GE385 GE386 GE387) hb; (try clear hb); (try clear hb2); (try clear hk); (try clear hi); have hcz55_0 : w54.cell? ⟨gb387, 0, none⟩ = some (.int .i64 a3_0) := bc BK387 0; have hcz55_1 : w54.cell? ⟨gb387, 1, none⟩ = some (.int .i64 a3_1) := bc BK387 1; have hfz55_0 := blk_frozen BK387.out 0; have hfz55_1 := blk_frozen BK387.out 1) | (go_at_call 18; (with_reducible refine (tangramref26_Beyond.calls a3_0 a3_1 t391 _ A42.out).mono ?_); rintro e w56 ⟨rfl, hb⟩; replace BK384 := kx BK384 hb; replace BK385 := kx BK385 hb; replace BK386 := kx BK386 hb; replace BK387 := kx BK387 hb; replace HB := hs (hb4 HB GE384 GE385 GE386 GE387) hb; (try clear hb); (try clear hb2); (try clear hk); (try clear hi)))
     go_meet
     case rel => exact ⟨_, (t391), (by first | rfl | (simp; done) | (simp [*]; done)), H', ⟨by first | omega | exact Nat.le_refl _⟩, ⟨bx BK384⟩, ⟨bx BK385⟩, ⟨bx BK386⟩, ⟨bx BK387⟩, ⟨hb4 HB GE384 GE385 GE386 GE387⟩⟩
 case rest => as_aux_lemma =>
  clear HC5
  try clear c1
  try clear c2
  try clear p2
  try clear c3
  try clear c4
  try clear c5
  try clear c11
  try clear c12
  try clear c13
  try clear c14
  try clear c17
  try clear c18
  try clear c19
  try clear c20
  try clear c21
  try clear c24
  try clear c25
  try clear c29
  try clear c30
  try clear c31
  try clear c32
  try clear c35
  try clear c36
  try clear c39
  try clear c43
  try clear c44
  try clear c45
  try clear c48
  try clear c49
  try clear c52
  try clear hcz15_0
  try clear hcz15_1
  try clear hcz22_0
  try clear hcz22_1
  try clear hcz26_0
  try clear hcz26_1
  try clear hcz33_0
  try clear hcz33_1
  try clear hcz37_0
  try clear hcz37_1
  try clear hcz40_0
  try clear hcz40_1
  try clear hcz46_0
  try clear hcz46_1
  try clear hcz50_0
  try clear hcz50_1
  try clear hcz53_0
  try clear hcz53_1
  try clear hcz55_0
  try clear hcz55_1
  try clear hfz15_0
  try clear hfz15_1
  try clear hfz22_0
  try clear hfz22_1
  try clear hfz26_0
  try clear hfz26_1
  try clear hfz33_0
  try clear hfz33_1
  try clear hfz37_0
  try clear hfz37_1
  try clear hfz40_0
  try clear hfz40_1
  try clear hfz46_0
  try clear hfz46_1
  try clear hfz50_0
  try clear hfz50_1
  try clear hfz53_0
  try clear hfz53_1
  try clear hfz55_0
  try clear hfz55_1
  obtain ⟨kq, x22_4, rfl, HA, HJ4, BK384, BK385, BK386, BK387, HB⟩ := hcut
  cases kq with
  | zero => exact absurd HA.out (by simp [tangramref26_Meet.j0])
  | succ kj4 =>
   have H := HA.out; clear HA; simp only [tangramref26_Meet.j0] at H
   by_cases c57 : x22_4 = true
   ·subst c57; rw [if_pos rfl] at H; obtain rfl := Option.some.inj H
    go_wp2
    go_ret
    exact ⟨by rfl, hb4 HB GE384 GE385 GE386 GE387⟩
   ·replace c57 := Bool.eq_false_iff.mpr c57; subst c57; rw [if_neg (show ¬ (false = true) by decide)] at H; have HC58 := Aside0.mk H; clear H
    go_upto_region 3 with (fail)
    go_cut [44] (fun v44 wc => ∃ (kq : Nat) (x44_57 : Bool), v44 = .bool x44_57 ∧ Aside0 (tangramref26_Meet.j1 kq x44_57 a0_0 a0_1 a1_0 a1_1 a2_0 a2_1 a3_0 a3_1 = some r) ∧ Aside0 (kq ≤ kj4) ∧ Aside0 (wc.heap[gb384]? = some (.cells #[.int .i64 a0_0, .int .i64 a0_1] 23 (0, 0))) ∧ Aside0 (wc.heap[gb385]? = some (.cells #[.int .i64 a1_0, .int .i64 a1_1] 23 (0, 0))) ∧ Aside0 (wc.heap[gb386]? = some (.cells #[.int .i64 a2_0, .int .i64 a2_1] 23 (0, 0))) ∧ Aside0 (wc.heap[gb387]? = some (.cells #[.int .i64 a3_0, .int .i64 a3_1] 23 (0, 0))) ∧ Aside0 (Below w.heap.size w wc))
    case first => as_aux_lemma =>
     have H := HC58.out; clear HC58; replace H := Option.bind_eq_some_iff.mp H; obtain ⟨t392, A590, H⟩ := H; (try dsimp only at H); have A59 := Aside0.mk A590; clear A590
     by_cases c60 : t392 = true
     ·subst c60; rw [if_pos rfl] at H; have H' := Aside0.mk H; clear H; have hnb61 := NB384_385.out; have hnc61 := NB385_384.out; have hnb62 := NB384_386.out; have hnc62 := NB386_384.out; have hnb63 := NB384_387.out; have hnc63 := NB387_384.out; have hcz64_0 : wc.cell? ⟨gb384, 0, none⟩ = some (.int .i64 a0_0) := bc BK384 0; have hcz64_1 : wc.cell? ⟨gb384, 1, none⟩ = some (.int .i64 a0_1) := bc BK384 1; have hfz64_0 := blk_frozen BK384.out 0; have hfz64_1 := blk_frozen BK384.out 1; have hnb65 := NB385_386.out; have hnc65 := NB386_385.out; have hnb66 := NB385_387.out; have hnc66 := NB387_385.out; have hcz67_0 : wc.cell? ⟨gb385, 0, none⟩ = some (.int .i64 a1_0) := bc BK385 0; have hcz67_1 : wc.cell? ⟨gb385, 1, none⟩ = some (.int .i64 a1_1) := bc BK385 1; have hfz67_0 := blk_frozen BK385.out 0; have hfz67_1 := blk_frozen BK385.out 1; have hnb68 := NB386_387.out; have hnc68 := NB387_386.out; have hcz69_0 : wc.cell? ⟨gb386, 0, none⟩ = some (.int .i64 a2_0) := bc BK386 0; have hcz69_1 : wc.cell? ⟨gb386, 1, none⟩ = some (.int .i64 a2_1) := bc BK386 1; have hfz69_0 := blk_frozen BK386.out 0; have hfz69_1 := blk_frozen BK386.out 1
      go_wp2_with (first | ((with_reducible refine gate_callee (f := 15) rfl ?_); refine gl_ (some 26) Try.func15 #[.agg #[.int .i64 a0_0, .int .i64 a0_1], .agg #[.int .i64 a1_0, .int .i64 a1_1], .agg #[.int .i64 a2_0, .int .i64 a2_1]] ?_; (with_reducible refine (tangramref26_On.calls kj4 a0_0 a0_1 a1_0 a1_1 a2_0 a2_1 true _ A59.out).mono ?_); rintro e w70 ⟨rfl, hb⟩; refine ⟨_, rfl, ?_⟩; replace BK384 := kx BK384 hb; replace BK385 := kx BK385 hb; replace BK386 := kx BK386 hb; replace BK387 := kx BK387 hb; replace HB := hs (hb4 HB GE384 GE385 GE386 GE387) hb; (try clear hb); (try clear hb2); (try clear hk); (try clear hi)))
      go_meet
      case rel => exact ⟨_, (true), (by first | rfl | (simp; done) | (simp [*]; done)), H', ⟨by have := HJ4.out; first | omega | exact Nat.le_refl _⟩, ⟨bx BK384⟩, ⟨bx BK385⟩, ⟨bx BK386⟩, ⟨bx BK387⟩, ⟨hb4 HB GE384 GE385 GE386 GE387⟩⟩
     ·replace c60 := Bool.eq_false_iff.mpr c60; subst c60; rw [if_neg (show ¬ (false = true) by decide)] at H; replace H := Option.bind_eq_some_iff.mp H; obtain ⟨t393, A710, H⟩ := H; (try dsimp only at H); have A71 := Aside0.mk A710; clear A710
      by_cases c72 : t393 = true
      ·subst c72; rw [if_pos rfl] at H; have H' := Aside0.mk H; clear H; have hnb73 := NB384_385.out; have hnc73 := NB385_384.out; have hnb74 := NB384_386.out; have hnc74 := NB386_384.out; have hnb75 := NB384_387.out; have hnc75 := NB387_384.out; have hcz76_0 : wc.cell? ⟨gb384, 0, none⟩ = some (.int .i64 a0_0) := bc BK384 0; have hcz76_1 : wc.cell? ⟨gb384, 1, none⟩ = some (.int .i64 a0_1) := bc BK384 1; have hfz76_0 := blk_frozen BK384.out 0; have hfz76_1 := blk_frozen BK384.out 1; have hnb77 := NB385_386.out; have hnc77 := NB386_385.out; have hnb78 := NB385_387.out; have hnc78 := NB387_385.out; have hcz79_0 : wc.cell? ⟨gb385, 0, none⟩ = some (.int .i64 a1_0) := bc BK385 0; have hcz79_1 : wc.cell? ⟨gb385, 1, none⟩ = some (.int .i64 a1_1) := bc BK385 1; have hfz79_0 := blk_frozen BK385.out 0; have hfz79_1 := blk_frozen BK385.out 1; have hnb80 := NB386_387.out; have hnc80 := NB387_386.out; have hcz81_0 : wc.cell? ⟨gb386, 0, none⟩ = some (.int .i64 a2_0) := bc BK386 0; have hcz81_1 : wc.cell? ⟨gb386, 1, none⟩ = some (.int .i64 a2_1) := bc BK386 1; have hfz81_0 := blk_frozen BK386.out 0; have hfz81_1 := blk_frozen BK386.out 1
       go_wp2_with (first | ((with_reducible refine gate_callee (f := 15) rfl ?_); refine gl_ (some 26) Try.func15 #[.agg #[.int .i64 a0_0, .int .i64 a0_1], .agg #[.int .i64 a1_0, .int .i64 a1_1], .agg #[.int .i64 a2_0, .int .i64 a2_1]] ?_; (with_reducible refine (tangramref26_On.calls kj4 a0_0 a0_1 a1_0 a1_1 a2_0 a2_1 false _ A59.out).mono ?_); rintro e w82 ⟨rfl, hb⟩; refine ⟨_, rfl, ?_⟩; replace BK384 := kx BK384 hb; replace BK385 := kx BK385 hb; replace BK386 := kx BK386 hb; replace BK387 := kx BK387 hb; replace HB := hs (hb4 HB GE384 GE385 GE386 GE387) hb; (try clear hb); (try clear hb2); (try clear hk); (try clear hi); have hcz83_0 : w82.cell? ⟨gb384, 0, none⟩ = some (.int .i64 a0_0) := bc BK384 0; have hcz83_1 : w82.cell? ⟨gb384, 1, none⟩ = some (.int .i64 a0_1) := bc BK384 1; have hfz83_0 := blk_frozen BK384.out 0; have hfz83_1 := blk_frozen BK384.out 1; have hcz84_0 : w82.cell? ⟨gb385, 0, none⟩ = some (.int .i64 a1_0) := bc BK385 0; have hcz84_1 : w82.cell? ⟨gb385, 1, none⟩ = some (.int .i64 a1_1) := bc BK385 1; have hfz84_0 := blk_frozen BK385.out 0; have hfz84_1 := blk_frozen BK385.out 1; have hcz85_0 : w82.cell? ⟨gb387, 0, none⟩ = some (.int .i64 a3_0) := bc BK387 0; have hcz85_1 : w82.cell? ⟨gb387, 1, none⟩ = some (.int .i64 a3_1) := bc BK387 1; have hfz85_0 := blk_frozen BK387.out 0; have hfz85_1 := blk_frozen BK387.out 1) | (go_at_call 15; (with_reducible refine (tangramref26_On.calls kj4 a0_0 a0_1 a1_0 a1_1 a3_0 a3_1 true _ A71.out).mono ?_); rintro e w86 ⟨rfl, hb⟩; replace BK384 := kx BK384 hb; replace BK385 := kx BK385 hb; replace BK386 := kx BK386 hb; replace BK387 := kx BK387 hb; replace HB := hs (hb4 HB GE384 GE385 GE386 GE387) hb; (try clear hb); (try clear hb2); (try clear hk); (try clear hi)))
       go_meet
       case rel => exact ⟨_, (true), (by first | rfl | (simp; done) | (simp [*]; done)), H', ⟨by have := HJ4.out; first | omega | exact Nat.le_refl _⟩, ⟨bx BK384⟩, ⟨bx BK385⟩, ⟨bx BK386⟩, ⟨bx BK387⟩, ⟨hb4 HB GE384 GE385 GE386 GE387⟩⟩
      ·replace c72 := Bool.eq_false_iff.mpr c72; subst c72; rw [if_neg (show ¬ (false = true) by decide)] at H; replace H := Option.bind_eq_some_iff.mp H; obtain ⟨t394, A870, H⟩ := H; (try dsimp only at H); have A87 := Aside0.mk A870; clear A870
       by_cases c88 : t394 = true
       ·subst c88; rw [if_pos rfl] at H; have H' := Aside0.mk H; clear H; have hnb89 := NB384_385.out; have hnc89 := NB385_384.out; have hnb90 := NB384_386.out; have hnc90 := NB386_384.out; have hnb91 := NB384_387.out; have hnc91 := NB387_384.out; have hcz92_0 : wc.cell? ⟨gb384, 0, none⟩ = some (.int .i64 a0_0) := bc BK384 0; have hcz92_1 : wc.cell? ⟨gb384, 1, none⟩ = some (.int .i64 a0_1) := bc BK384 1; have hfz92_0 := blk_frozen BK384.out 0; have hfz92_1 := blk_frozen BK384.out 1; have hnb93 := NB385_386.out; have hnc93 := NB386_385.out; have hnb94 := NB385_387.out; have hnc94 := NB387_385.out; have hcz95_0 : wc.cell? ⟨gb385, 0, none⟩ = some (.int .i64 a1_0) := bc BK385 0; have hcz95_1 : wc.cell? ⟨gb385, 1, none⟩ = some (.int .i64 a1_1) := bc BK385 1; have hfz95_0 := blk_frozen BK385.out 0; have hfz95_1 := blk_frozen BK385.out 1; have hnb96 := NB386_387.out; have hnc96 := NB387_386.out; have hcz97_0 : wc.cell? ⟨gb386, 0, none⟩ = some (.int .i64 a2_0) := bc BK386 0; have hcz97_1 : wc.cell? ⟨gb386, 1, none⟩ = some (.int .i64 a2_1) := bc BK386 1; have hfz97_0 := blk_frozen BK386.out 0; have hfz97_1 := blk_frozen BK386.out 1
        go_wp2_with (first | ((with_reducible refine gate_callee (f := 15) rfl ?_); refine gl_ (some 26) Try.func15 #[.agg #[.int .i64 a0_0, .int .i64 a0_1], .agg #[.int .i64 a1_0, .int .i64 a1_1], .agg #[.int .i64 a2_0, .int .i64 a2_1]] ?_; (with_reducible refine (tangramref26_On.calls kj4 a0_0 a0_1 a1_0 a1_1 a2_0 a2_1 false _ A59.out).mono ?_); rintro e w98 ⟨rfl, hb⟩; refine ⟨_, rfl, ?_⟩; replace BK384 := kx BK384 hb; replace BK385 := kx BK385 hb; replace BK386 := kx BK386 hb; replace BK387 := kx BK387 hb; replace HB := hs (hb4 HB GE384 GE385 GE386 GE387) hb; (try clear hb); (try clear hb2); (try clear hk); (try clear hi); have hcz99_0 : w98.cell? ⟨gb384, 0, none⟩ = some (.int .i64 a0_0) := bc BK384 0; have hcz99_1 : w98.cell? ⟨gb384, 1, none⟩ = some (.int .i64 a0_1) := bc BK384 1; have hfz99_0 := blk_frozen BK384.out 0; have hfz99_1 := blk_frozen BK384.out 1; have hcz100_0 : w98.cell? ⟨gb385, 0, none⟩ = some (.int .i64 a1_0) := bc BK385 0; have hcz100_1 : w98.cell? ⟨gb385, 1, none⟩ = some (.int .i64 a1_1) := bc BK385 1; have hfz100_0 := blk_frozen BK385.out 0; have hfz100_1 := blk_frozen BK385.out 1; have hcz101_0 : w98.cell? ⟨gb387, 0, none⟩ = some (.int .i64 a3_0) := bc BK387 0; have hcz101_1 : w98.cell? ⟨gb387, 1, none⟩ = some (.int .i64 a3_1) := bc BK387 1; have hfz101_0 := blk_frozen BK387.out 0; have hfz101_1 := blk_frozen BK387.out 1) | (go_at_call 15; (with_reducible refine (tangramref26_On.calls kj4 a0_0 a0_1 a1_0 a1_1 a3_0 a3_1 false _ A71.out).mono ?_); rintro e w102 ⟨rfl, hb⟩; replace BK384 := kx BK384 hb; replace BK385 := kx BK385 hb; replace BK386 := kx BK386 hb; replace BK387 := kx BK387 hb; replace HB := hs (hb4 HB GE384 GE385 GE386 GE387) hb; (try clear hb); (try clear hb2); (try clear hk); (try clear hi); have hcz103_0 : w102.cell? ⟨gb386, 0, none⟩ = some (.int .i64 a2_0) := bc BK386 0; have hcz103_1 : w102.cell? ⟨gb386, 1, none⟩ = some (.int .i64 a2_1) := bc BK386 1; have hfz103_0 := blk_frozen BK386.out 0; have hfz103_1 := blk_frozen BK386.out 1; have hcz104_0 : w102.cell? ⟨gb387, 0, none⟩ = some (.int .i64 a3_0) := bc BK387 0; have hcz104_1 : w102.cell? ⟨gb387, 1, none⟩ = some (.int .i64 a3_1) := bc BK387 1; have hfz104_0 := blk_frozen BK387.out 0; have hfz104_1 := blk_frozen BK387.out 1; have hcz105_0 : w102.cell? ⟨gb384, 0, none⟩ = some (.int .i64 a0_0) := bc BK384 0; have hcz105_1 : w102.cell? ⟨gb384, 1, none⟩ = some (.int .i64 a0_1) := bc BK384 1; have hfz105_0 := blk_frozen BK384.out 0; have hfz105_1 := blk_frozen BK384.out 1) | (go_at_call 15; (with_reducible refine (tangramref26_On.calls kj4 a2_0 a2_1 a3_0 a3_1 a0_0 a0_1 true _ A87.out).mono ?_); rintro e w106 ⟨rfl, hb⟩; replace BK384 := kx BK384 hb; replace BK385 := kx BK385 hb; replace BK386 := kx BK386 hb; replace BK387 := kx BK387 hb; replace HB := hs (hb4 HB GE384 GE385 GE386 GE387) hb; (try clear hb); (try clear hb2); (try clear hk); (try clear hi)))
        go_meet
        case rel => exact ⟨_, (true), (by first | rfl | (simp; done) | (simp [*]; done)), H', ⟨by have := HJ4.out; first | omega | exact Nat.le_refl _⟩, ⟨bx BK384⟩, ⟨bx BK385⟩, ⟨bx BK386⟩, ⟨bx BK387⟩, ⟨hb4 HB GE384 GE385 GE386 GE387⟩⟩
       ·replace c88 := Bool.eq_false_iff.mpr c88; subst c88; rw [if_neg (show ¬ (false = true) by decide)] at H; replace H := Option.bind_eq_some_iff.mp H; obtain ⟨t395, A1070, H⟩ := H; (try dsimp only at H); have A107 := Aside0.mk A1070; clear A1070; have H' := Aside0.mk H; clear H; have hnb108 := NB384_385.out; have hnc108 := NB385_384.out; have hnb109 := NB384_386.out; have hnc109 := NB386_384.out; have hnb110 := NB384_387.out; have hnc110 := NB387_384.out; have hcz111_0 : wc.cell? ⟨gb384, 0, none⟩ = some (.int .i64 a0_0) := bc BK384 0; have hcz111_1 : wc.cell? ⟨gb384, 1, none⟩ = some (.int .i64 a0_1) := bc BK384 1; have hfz111_0 := blk_frozen BK384.out 0; have hfz111_1 := blk_frozen BK384.out 1; have hnb112 := NB385_386.out; have hnc112 := NB386_385.out; have hnb113 := NB385_387.out; have hnc113 := NB387_385.out; have hcz114_0 : wc.cell? ⟨gb385, 0, none⟩ = some (.int .i64 a1_0) := bc BK385 0; have hcz114_1 : wc.cell? ⟨gb385, 1, none⟩ = some (.int .i64 a1_1) := bc BK385 1; have hfz114_0 := blk_frozen BK385.out 0; have hfz114_1 := blk_frozen BK385.out 1; have hnb115 := NB386_387.out; have hnc115 := NB387_386.out; have hcz116_0 : wc.cell? ⟨gb386, 0, none⟩ = some (.int .i64 a2_0) := bc BK386 0; have hcz116_1 : wc.cell? ⟨gb386, 1, none⟩ = some (.int .i64 a2_1) := bc BK386 1; have hfz116_0 := blk_frozen BK386.out 0; have hfz116_1 := blk_frozen BK386.out 1
        go_wp2_with (first | ((with_reducible refine gate_callee (f := 15) rfl ?_); refine gl_ (some 26) Try.func15 #[.agg #[.int .i64 a0_0, .int .i64 a0_1], .agg #[.int .i64 a1_0, .int .i64 a1_1], .agg #[.int .i64 a2_0, .int .i64 a2_1]] ?_; (with_reducible refine (tangramref26_On.calls kj4 a0_0 a0_1 a1_0 a1_1 a2_0 a2_1 false _ A59.out).mono ?_); rintro e w117 ⟨rfl, hb⟩; refine ⟨_, rfl, ?_⟩; replace BK384 := kx BK384 hb; replace BK385 := kx BK385 hb; replace BK386 := kx BK386 hb; replace BK387 := kx BK387 hb; replace HB := hs (hb4 HB GE384 GE385 GE386 GE387) hb; (try clear hb); (try clear hb2); (try clear hk); (try clear hi); have hcz118_0 : w117.cell? ⟨gb384, 0, none⟩ = some (.int .i64 a0_0) := bc BK384 0; have hcz118_1 : w117.cell? ⟨gb384, 1, none⟩ = some (.int .i64 a0_1) := bc BK384 1; have hfz118_0 := blk_frozen BK384.out 0; have hfz118_1 := blk_frozen BK384.out 1; have hcz119_0 : w117.cell? ⟨gb385, 0, none⟩ = some (.int .i64 a1_0) := bc BK385 0; have hcz119_1 : w117.cell? ⟨gb385, 1, none⟩ = some (.int .i64 a1_1) := bc BK385 1; have hfz119_0 := blk_frozen BK385.out 0; have hfz119_1 := blk_frozen BK385.out 1; have hcz120_0 : w117.cell? ⟨gb387, 0, none⟩ = some (.int .i64 a3_0) := bc BK387 0; have hcz120_1 : w117.cell? ⟨gb387, 1, none⟩ = some (.int .i64 a3_1) := bc BK387 1; have hfz120_0 := blk_frozen BK387.out 0; have hfz120_1 := blk_frozen BK387.out 1) | (go_at_call 15; (with_reducible refine (tangramref26_On.calls kj4 a0_0 a0_1 a1_0 a1_1 a3_0 a3_1 false _ A71.out).mono ?_); rintro e w121 ⟨rfl, hb⟩; replace BK384 := kx BK384 hb; replace BK385 := kx BK385 hb; replace BK386 := kx BK386 hb; replace BK387 := kx BK387 hb; replace HB := hs (hb4 HB GE384 GE385 GE386 GE387) hb; (try clear hb); (try clear hb2); (try clear hk); (try clear hi); have hcz122_0 : w121.cell? ⟨gb386, 0, none⟩ = some (.int .i64 a2_0) := bc BK386 0; have hcz122_1 : w121.cell? ⟨gb386, 1, none⟩ = some (.int .i64 a2_1) := bc BK386 1; have hfz122_0 := blk_frozen BK386.out 0; have hfz122_1 := blk_frozen BK386.out 1; have hcz123_0 : w121.cell? ⟨gb387, 0, none⟩ = some (.int .i64 a3_0) := bc BK387 0; have hcz123_1 : w121.cell? ⟨gb387, 1, none⟩ = some (.int .i64 a3_1) := bc BK387 1; have hfz123_0 := blk_frozen BK387.out 0; have hfz123_1 := blk_frozen BK387.out 1; have hcz124_0 : w121.cell? ⟨gb384, 0, none⟩ = some (.int .i64 a0_0) := bc BK384 0; have hcz124_1 : w121.cell? ⟨gb384, 1, none⟩ = some (.int .i64 a0_1) := bc BK384 1; have hfz124_0 := blk_frozen BK384.out 0; have hfz124_1 := blk_frozen BK384.out 1) | (go_at_call 15; (with_reducible refine (tangramref26_On.calls kj4 a2_0 a2_1 a3_0 a3_1 a0_0 a0_1 false _ A87.out).mono ?_); rintro e w125 ⟨rfl, hb⟩; replace BK384 := kx BK384 hb; replace BK385 := kx BK385 hb; replace BK386 := kx BK386 hb; replace BK387 := kx BK387 hb; replace HB := hs (hb4 HB GE384 GE385 GE386 GE387) hb; (try clear hb); (try clear hb2); (try clear hk); (try clear hi); have hcz126_0 : w125.cell? ⟨gb386, 0, none⟩ = some (.int .i64 a2_0) := bc BK386 0; have hcz126_1 : w125.cell? ⟨gb386, 1, none⟩ = some (.int .i64 a2_1) := bc BK386 1; have hfz126_0 := blk_frozen BK386.out 0; have hfz126_1 := blk_frozen BK386.out 1; have hcz127_0 : w125.cell? ⟨gb387, 0, none⟩ = some (.int .i64 a3_0) := bc BK387 0; have hcz127_1 : w125.cell? ⟨gb387, 1, none⟩ = some (.int .i64 a3_1) := bc BK387 1; have hfz127_0 := blk_frozen BK387.out 0; have hfz127_1 := blk_frozen BK387.out 1; have hcz128_0 : w125.cell? ⟨gb385, 0, none⟩ = some (.int .i64 a1_0) := bc BK385 0; have hcz128_1 : w125.cell? ⟨gb385, 1, none⟩ = some (.int .i64 a1_1) := bc BK385 1; have hfz128_0 := blk_frozen BK385.out 0; have hfz128_1 := blk_frozen BK385.out 1) | (go_at_call 15; (with_reducible refine (tangramref26_On.calls kj4 a2_0 a2_1 a3_0 a3_1 a1_0 a1_1 t395 _ A107.out).mono ?_); rintro e w129 ⟨rfl, hb⟩; replace BK384 := kx BK384 hb; replace BK385 := kx BK385 hb; replace BK386 := kx BK386 hb; replace BK387 := kx BK387 hb; replace HB := hs (hb4 HB GE384 GE385 GE386 GE387) hb; (try clear hb); (try clear hb2); (try clear hk); (try clear hi)))
        go_meet
        case rel => exact ⟨_, (t395), (by first | rfl | (simp; done) | (simp [*]; done)), H', ⟨by have := HJ4.out; first | omega | exact Nat.le_refl _⟩, ⟨bx BK384⟩, ⟨bx BK385⟩, ⟨bx BK386⟩, ⟨bx BK387⟩, ⟨hb4 HB GE384 GE385 GE386 GE387⟩⟩
    case rest => as_aux_lemma =>
     clear HC58
     try clear c1
     try clear c2
     try clear p2
     try clear c3
     try clear c4
     try clear c5
     try clear c6
     try clear c7
     try clear c8
     try clear c9
     try clear c10
     try clear c11
     try clear c12
     try clear c13
     try clear c14
     try clear c15
     try clear c17
     try clear c18
     try clear c19
     try clear c20
     try clear c21
     try clear c24
     try clear c25
     try clear c29
     try clear c30
     try clear c31
     try clear c32
     try clear c35
     try clear c36
     try clear c39
     try clear c43
     try clear c44
     try clear c45
     try clear c48
     try clear c49
     try clear c52
     try clear c57
     try clear c60
     try clear c61
     try clear c62
     try clear c63
     try clear c65
     try clear c66
     try clear c68
     try clear c72
     try clear c73
     try clear c74
     try clear c75
     try clear c77
     try clear c78
     try clear c80
     try clear c88
     try clear c89
     try clear c90
     try clear c91
     try clear c93
     try clear c94
     try clear c96
     try clear c108
     try clear c109
     try clear c110
     try clear c112
     try clear c113
     try clear c115
     try clear hcz100_0
     try clear hcz100_1
     try clear hcz101_0
     try clear hcz101_1
     try clear hcz103_0
     try clear hcz103_1
     try clear hcz104_0
     try clear hcz104_1
     try clear hcz105_0
     try clear hcz105_1
     try clear hcz111_0
     try clear hcz111_1
     try clear hcz114_0
     try clear hcz114_1
     try clear hcz116_0
     try clear hcz116_1
     try clear hcz118_0
     try clear hcz118_1
     try clear hcz119_0
     try clear hcz119_1
     try clear hcz120_0
     try clear hcz120_1
     try clear hcz122_0
     try clear hcz122_1
     try clear hcz123_0
     try clear hcz123_1
     try clear hcz124_0
     try clear hcz124_1
     try clear hcz126_0
     try clear hcz126_1
     try clear hcz127_0
     try clear hcz127_1
     try clear hcz128_0
     try clear hcz128_1
     try clear hcz15_0
     try clear hcz15_1
     try clear hcz22_0
     try clear hcz22_1
     try clear hcz26_0
     try clear hcz26_1
     try clear hcz33_0
     try clear hcz33_1
     try clear hcz37_0
     try clear hcz37_1
     try clear hcz40_0
     try clear hcz40_1
     try clear hcz46_0
     try clear hcz46_1
     try clear hcz50_0
     try clear hcz50_1
     try clear hcz53_0
     try clear hcz53_1
     try clear hcz55_0
     try clear hcz55_1
     try clear hcz64_0
     try clear hcz64_1
     try clear hcz67_0
     try clear hcz67_1
     try clear hcz69_0
     try clear hcz69_1
     try clear hcz76_0
     try clear hcz76_1
     try clear hcz79_0
     try clear hcz79_1
     try clear hcz81_0
     try clear hcz81_1
     try clear hcz83_0
     try clear hcz83_1
     try clear hcz84_0
     try clear hcz84_1
     try clear hcz85_0
     try clear hcz85_1
     try clear hcz92_0
     try clear hcz92_1
     try clear hcz95_0
     try clear hcz95_1
     try clear hcz97_0
     try clear hcz97_1
     try clear hcz99_0
     try clear hcz99_1
     try clear hfz100_0
     try clear hfz100_1
     try clear hfz101_0
     try clear hfz101_1
     try clear hfz103_0
     try clear hfz103_1
     try clear hfz104_0
     try clear hfz104_1
     try clear hfz105_0
     try clear hfz105_1
     try clear hfz111_0
     try clear hfz111_1
     try clear hfz114_0
     try clear hfz114_1
     try clear hfz116_0
     try clear hfz116_1
     try clear hfz118_0
     try clear hfz118_1
     try clear hfz119_0
     try clear hfz119_1
     try clear hfz120_0
     try clear hfz120_1
     try clear hfz122_0
     try clear hfz122_1
     try clear hfz123_0
     try clear hfz123_1
     try clear hfz124_0
     try clear hfz124_1
     try clear hfz126_0
     try clear hfz126_1
     try clear hfz127_0
     try clear hfz127_1
     try clear hfz128_0
     try clear hfz128_1
     try clear hfz15_0
     try clear hfz15_1
     try clear hfz22_0
     try clear hfz22_1
     try clear hfz26_0
     try clear hfz26_1
     try clear hfz33_0
     try clear hfz33_1
     try clear hfz37_0
     try clear hfz37_1
     try clear hfz40_0
     try clear hfz40_1
     try clear hfz46_0
     try clear hfz46_1
     try clear hfz50_0
     try clear hfz50_1
     try clear hfz53_0
     try clear hfz53_1
     try clear hfz55_0
     try clear hfz55_1
     try clear hfz64_0
     try clear hfz64_1
     try clear hfz67_0
     try clear hfz67_1
     try clear hfz69_0
     try clear hfz69_1
     try clear hfz76_0
     try clear hfz76_1
     try clear hfz79_0
     try clear hfz79_1
     try clear hfz81_0
     try clear hfz81_1
     try clear hfz83_0
     try clear hfz83_1
     try clear hfz84_0
     try clear hfz84_1
     try clear hfz85_0
     try clear hfz85_1
     try clear hfz92_0
     try clear hfz92_1
     try clear hfz95_0
     try clear hfz95_1
     try clear hfz97_0
     try clear hfz97_1
     try clear hfz99_0
     try clear hfz99_1
     try clear p2
     obtain ⟨kq, x44_57, rfl, HA, HJ57, BK384, BK385, BK386, BK387, HB⟩ := hcut
     cases kq with
     | zero => exact absurd HA.out (by simp [tangramref26_Meet.j1])
     | succ kj57 =>
      have H := HA.out; clear HA; simp only [tangramref26_Meet.j1] at H
      by_cases c130 : x44_57 = true
      ·subst c130; rw [if_pos rfl] at H; obtain rfl := Option.some.inj H
       go_wp2
       go_ret
       exact ⟨by rfl, hb4 HB GE384 GE385 GE386 GE387⟩
      ·replace c130 := Bool.eq_false_iff.mpr c130; subst c130; rw [if_neg (show ¬ (false = true) by decide)] at H; replace H := Option.bind_eq_some_iff.mp H; obtain ⟨t396, A1310, H⟩ := H; (try dsimp only at H); have A131 := Aside0.mk A1310; clear A1310; replace H := Option.bind_eq_some_iff.mp H; obtain ⟨t397, A1320, H⟩ := H; (try dsimp only at H); have A132 := Aside0.mk A1320; clear A1320
       by_cases c133 : (wrap64 (t396 * t397)) < 0
       ·rw [if_pos c133] at H; have c133b0 : decide ((wrap64 (t396 * t397)) < 0) = true := decide_eq_true c133; clear c133; replace H := Option.bind_eq_some_iff.mp H; obtain ⟨t398, A1340, H⟩ := H; (try dsimp only at H); have A134 := Aside0.mk A1340; clear A1340; replace H := Option.bind_eq_some_iff.mp H; obtain ⟨t399, A1350, H⟩ := H; (try dsimp only at H); have A135 := Aside0.mk A1350; clear A1350; obtain rfl := Option.some.inj H
        try go_wp2
        replace BK384 := bd BK384; replace BK385 := bd BK385; replace BK386 := bd BK386; replace BK387 := bd BK387; replace HB := Aside0.mk (below_drew1 HB.out); refine start_ (n := 23) (S := fun w' => w'.cell? ⟨gb384, 0, none⟩ = some (.int .i64 a0_0) ∧ w'.cell? ⟨gb384, 1, none⟩ = some (.int .i64 a0_1) ∧ w'.cell? ⟨gb385, 0, none⟩ = some (.int .i64 a1_0) ∧ w'.cell? ⟨gb385, 1, none⟩ = some (.int .i64 a1_1) ∧ w'.cell? ⟨gb386, 0, none⟩ = some (.int .i64 a2_0) ∧ w'.cell? ⟨gb386, 1, none⟩ = some (.int .i64 a2_1) ∧ w'.cell? ⟨gb387, 0, none⟩ = some (.int .i64 a3_0) ∧ w'.cell? ⟨gb387, 1, none⟩ = some (.int .i64 a3_1)) (ds := []) (pf 0 23) (by kernel_rfl) rfl rfl ⟨bc BK384 0, bc BK384 1, bc BK385 0, bc BK385 1, bc BK386 0, bc BK386 1, bc BK387 0, bc BK387 1⟩ (fun hHeld => ?_); refine with_tabW tangramref26_Meet.tab5 tangramref26_Meet.bits5 (fun HT_ HW_ => ?_); generalize wc.drew = w136 at BK384 BK385 BK386 BK387 HB hHeld ⊢; refine tk8_ 0 (some 45) (pf 1 23) HT_ HW_ hHeld ?_; refine tk8_ 1 (some 46) (pf 2 23) HT_ HW_ hHeld ?_; refine tk8_ 2 (some 47) (pf 3 23) HT_ HW_ hHeld ?_; refine tk8_ 4 (some 49) #[T_,T_,T_,F_,T_,F_,F_,F_,F_,F_,F_,F_,F_,F_,F_,F_,F_,F_,F_,F_,F_,F_,F_] HT_ HW_ hHeld ?_; refine tk8_ 5 (some 50) #[T_,T_,T_,F_,T_,T_,F_,F_,F_,F_,F_,F_,F_,F_,F_,F_,F_,F_,F_,F_,F_,F_,F_] HT_ HW_ hHeld ?_
        refine tk8_ 6 (some 51) #[T_,T_,T_,F_,T_,T_,T_,F_,F_,F_,F_,F_,F_,F_,F_,F_,F_,F_,F_,F_,F_,F_,F_] HT_ HW_ hHeld ?_; refine on_ 3 (some 48) (pf 7 23) HT_ (fun K hK => ?_); refine gs_ Try.func13 #[.agg #[.int .i64 a0_0, .int .i64 a0_1], .agg #[.int .i64 a1_0, .int .i64 a1_1], .agg #[.int .i64 a2_0, .int .i64 a2_1]] ?_
        with_reducible refine (tangramref26_Turn.calls kj57 a0_0 a0_1 a1_0 a1_1 a2_0 a2_1 t396 _ A131.out).mono ?_
        rintro e w137 ⟨rfl, hb⟩; refine ⟨_, rfl, ?_⟩; replace BK384 := kx BK384 hb; replace BK385 := kx BK385 hb; replace BK386 := kx BK386 hb; replace BK387 := kx BK387 hb; replace HB := hs (hb4 HB GE384 GE385 GE386 GE387) hb
        (try clear hb)
        (try clear hk)
        (try clear hi)
        refine hK.out _ _ ⟨bc BK384 0, bc BK384 1, bc BK385 0, bc BK385 1, bc BK386 0, bc BK386 1, bc BK387 0, bc BK387 1⟩ (fun hHeld => ?_); clear hK K; refine nm_ (some 48) ?_; refine on_ 7 (some 52) (pf 8 23) HT_ (fun K hK => ?_); refine gs_ Try.func13 #[.agg #[.int .i64 a0_0, .int .i64 a0_1], .agg #[.int .i64 a1_0, .int .i64 a1_1], .agg #[.int .i64 a3_0, .int .i64 a3_1]] ?_
        with_reducible refine (tangramref26_Turn.calls kj57 a0_0 a0_1 a1_0 a1_1 a3_0 a3_1 t397 _ A132.out).mono ?_
        rintro e w138 ⟨rfl, hb⟩; refine ⟨_, rfl, ?_⟩; replace BK384 := kx BK384 hb; replace BK385 := kx BK385 hb; replace BK386 := kx BK386 hb; replace BK387 := kx BK387 hb; replace HB := hs (hb4 HB GE384 GE385 GE386 GE387) hb
        (try clear hb)
        (try clear hk)
        (try clear hi)
        refine hK.out _ _ ⟨bc BK384 0, bc BK384 1, bc BK385 0, bc BK385 1, bc BK386 0, bc BK386 1, bc BK387 0, bc BK387 1⟩ (fun hHeld => ?_); clear hK K; refine nm_ (some 52) ?_; refine pu_ 8 (some 53) (pf 9 23) HT_ ?_; refine pu_ 9 (some 54) (pf 10 23) HT_ ?_; refine pu_ 10 (some 55) (pf 11 23) HT_ ?_; refine tk8_ 11 (some 56) (pf 12 23) HT_ HW_ hHeld ?_; refine tk8_ 12 (some 57) (pf 13 23) HT_ HW_ hHeld ?_; refine tk8_ 13 (some 58) (pf 14 23) HT_ HW_ hHeld ?_; refine tk8_ 15 (some 60) #[T_,T_,T_,T_,T_,T_,T_,T_,T_,T_,T_,T_,T_,T_,F_,T_,F_,F_,F_,F_,F_,F_,F_] HT_ HW_ hHeld ?_; refine tk8_ 16 (some 61) #[T_,T_,T_,T_,T_,T_,T_,T_,T_,T_,T_,T_,T_,T_,F_,T_,T_,F_,F_,F_,F_,F_,F_] HT_ HW_ hHeld ?_; refine tk8_ 17 (some 62) #[T_,T_,T_,T_,T_,T_,T_,T_,T_,T_,T_,T_,T_,T_,F_,T_,T_,T_,F_,F_,F_,F_,F_] HT_ HW_ hHeld ?_; refine on_ 14 (some 59) (pf 18 23) HT_ (fun K hK => ?_); refine gs_ Try.func13 #[.agg #[.int .i64 a2_0, .int .i64 a2_1], .agg #[.int .i64 a3_0, .int .i64 a3_1], .agg #[.int .i64 a0_0, .int .i64 a0_1]] ?_
        with_reducible refine (tangramref26_Turn.calls kj57 a2_0 a2_1 a3_0 a3_1 a0_0 a0_1 t398 _ A134.out).mono ?_
        rintro e w139 ⟨rfl, hb⟩; refine ⟨_, rfl, ?_⟩; replace BK384 := kx BK384 hb; replace BK385 := kx BK385 hb; replace BK386 := kx BK386 hb; replace BK387 := kx BK387 hb; replace HB := hs (hb4 HB GE384 GE385 GE386 GE387) hb
        (try clear hb)
        (try clear hk)
        (try clear hi)
        refine hK.out _ _ ⟨bc BK384 0, bc BK384 1, bc BK385 0, bc BK385 1, bc BK386 0, bc BK386 1, bc BK387 0, bc BK387 1⟩ (fun hHeld => ?_); clear hK K; refine nm_ (some 59) ?_; refine on_ 18 (some 63) (pf 19 23) HT_ (fun K hK => ?_); refine gs_ Try.func13 #[.agg #[.int .i64 a2_0, .int .i64 a2_1], .agg #[.int .i64 a3_0, .int .i64 a3_1], .agg #[.int .i64 a1_0, .int .i64 a1_1]] ?_
        with_reducible refine (tangramref26_Turn.calls kj57 a2_0 a2_1 a3_0 a3_1 a1_0 a1_1 t399 _ A135.out).mono ?_
        rintro e w140 ⟨rfl, hb⟩; refine ⟨_, rfl, ?_⟩; replace BK384 := kx BK384 hb; replace BK385 := kx BK385 hb; replace BK386 := kx BK386 hb; replace BK387 := kx BK387 hb; replace HB := hs (hb4 HB GE384 GE385 GE386 GE387) hb
        (try clear hb)
        (try clear hk)
        (try clear hi)
        refine hK.out _ _ ⟨bc BK384 0, bc BK384 1, bc BK385 0, bc BK385 1, bc BK386 0, bc BK386 1, bc BK387 0, bc BK387 1⟩ (fun hHeld => ?_); clear hK K; refine nm_ (some 63) ?_; refine pu_ 19 (some 64) (pf 20 23) HT_ ?_; refine pu_ 20 (some 65) (pf 21 23) HT_ ?_; refine pu_ 21 (some 66) (pf 22 23) HT_ ?_; refine pu_ 22 (some 8) (pf 23 23) HT_ ?_; refine done_ (done_of HT_.out (by kernel_rfl)) ?_
        try go_wp2
        go_ret
        exact ⟨by rfl, hb4 HB GE384 GE385 GE386 GE387⟩
       ·rw [if_neg c133] at H; have c133b0 : decide ((wrap64 (t396 * t397)) < 0) = false := decide_eq_false c133; clear c133; obtain rfl := Option.some.inj H
        try go_wp2
        replace BK384 := bd BK384; replace BK385 := bd BK385; replace BK386 := bd BK386; replace BK387 := bd BK387; replace HB := Aside0.mk (below_drew1 HB.out); refine start_ (n := 23) (S := fun w' => w'.cell? ⟨gb384, 0, none⟩ = some (.int .i64 a0_0) ∧ w'.cell? ⟨gb384, 1, none⟩ = some (.int .i64 a0_1) ∧ w'.cell? ⟨gb385, 0, none⟩ = some (.int .i64 a1_0) ∧ w'.cell? ⟨gb385, 1, none⟩ = some (.int .i64 a1_1) ∧ w'.cell? ⟨gb386, 0, none⟩ = some (.int .i64 a2_0) ∧ w'.cell? ⟨gb386, 1, none⟩ = some (.int .i64 a2_1) ∧ w'.cell? ⟨gb387, 0, none⟩ = some (.int .i64 a3_0) ∧ w'.cell? ⟨gb387, 1, none⟩ = some (.int .i64 a3_1)) (ds := []) (pf 0 23) (by kernel_rfl) rfl rfl ⟨bc BK384 0, bc BK384 1, bc BK385 0, bc BK385 1, bc BK386 0, bc BK386 1, bc BK387 0, bc BK387 1⟩ (fun hHeld => ?_); refine with_tabW tangramref26_Meet.tab5 tangramref26_Meet.bits5 (fun HT_ HW_ => ?_); generalize wc.drew = w141 at BK384 BK385 BK386 BK387 HB hHeld ⊢; refine tk8_ 0 (some 45) (pf 1 23) HT_ HW_ hHeld ?_; refine tk8_ 1 (some 46) (pf 2 23) HT_ HW_ hHeld ?_; refine tk8_ 2 (some 47) (pf 3 23) HT_ HW_ hHeld ?_; refine tk8_ 4 (some 49) #[T_,T_,T_,F_,T_,F_,F_,F_,F_,F_,F_,F_,F_,F_,F_,F_,F_,F_,F_,F_,F_,F_,F_] HT_ HW_ hHeld ?_; refine tk8_ 5 (some 50) #[T_,T_,T_,F_,T_,T_,F_,F_,F_,F_,F_,F_,F_,F_,F_,F_,F_,F_,F_,F_,F_,F_,F_] HT_ HW_ hHeld ?_
        refine tk8_ 6 (some 51) #[T_,T_,T_,F_,T_,T_,T_,F_,F_,F_,F_,F_,F_,F_,F_,F_,F_,F_,F_,F_,F_,F_,F_] HT_ HW_ hHeld ?_; refine on_ 3 (some 48) (pf 7 23) HT_ (fun K hK => ?_); refine gs_ Try.func13 #[.agg #[.int .i64 a0_0, .int .i64 a0_1], .agg #[.int .i64 a1_0, .int .i64 a1_1], .agg #[.int .i64 a2_0, .int .i64 a2_1]] ?_
        with_reducible refine (tangramref26_Turn.calls kj57 a0_0 a0_1 a1_0 a1_1 a2_0 a2_1 t396 _ A131.out).mono ?_
        rintro e w142 ⟨rfl, hb⟩; refine ⟨_, rfl, ?_⟩; replace BK384 := kx BK384 hb; replace BK385 := kx BK385 hb; replace BK386 := kx BK386 hb; replace BK387 := kx BK387 hb; replace HB := hs (hb4 HB GE384 GE385 GE386 GE387) hb
        (try clear hb)
        (try clear hk)
        (try clear hi)
        refine hK.out _ _ ⟨bc BK384 0, bc BK384 1, bc BK385 0, bc BK385 1, bc BK386 0, bc BK386 1, bc BK387 0, bc BK387 1⟩ (fun hHeld => ?_); clear hK K; refine nm_ (some 48) ?_; refine on_ 7 (some 52) (pf 8 23) HT_ (fun K hK => ?_); refine gs_ Try.func13 #[.agg #[.int .i64 a0_0, .int .i64 a0_1], .agg #[.int .i64 a1_0, .int .i64 a1_1], .agg #[.int .i64 a3_0, .int .i64 a3_1]] ?_
        with_reducible refine (tangramref26_Turn.calls kj57 a0_0 a0_1 a1_0 a1_1 a3_0 a3_1 t397 _ A132.out).mono ?_
        rintro e w143 ⟨rfl, hb⟩; refine ⟨_, rfl, ?_⟩; replace BK384 := kx BK384 hb; replace BK385 := kx BK385 hb; replace BK386 := kx BK386 hb; replace BK387 := kx BK387 hb; replace HB := hs (hb4 HB GE384 GE385 GE386 GE387) hb
        (try clear hb)
        (try clear hk)
        (try clear hi)
        refine hK.out _ _ ⟨bc BK384 0, bc BK384 1, bc BK385 0, bc BK385 1, bc BK386 0, bc BK386 1, bc BK387 0, bc BK387 1⟩ (fun hHeld => ?_); clear hK K; refine nm_ (some 52) ?_; refine pu_ 8 (some 53) (pf 9 23) HT_ ?_; refine pu_ 9 (some 54) (pf 10 23) HT_ ?_; refine pu_ 10 (some 55) (pf 11 23) HT_ ?_; refine pn_ 11 (some 56) (pf 12 23) HT_ ?_; refine pn_ 12 (some 57) (pf 13 23) HT_ ?_; refine pn_ 13 (some 58) (pf 14 23) HT_ ?_; refine pn_ 14 (some 59) (pf 15 23) HT_ ?_; refine pn_ 15 (some 60) (pf 16 23) HT_ ?_; refine pn_ 16 (some 61) (pf 17 23) HT_ ?_; refine pn_ 17 (some 62) (pf 18 23) HT_ ?_; refine pn_ 18 (some 63) (pf 19 23) HT_ ?_; refine pn_ 19 (some 64) (pf 20 23) HT_ ?_; refine pn_ 20 (some 65) (pf 21 23) HT_ ?_
        refine pu_ 21 (some 66) (pf 22 23) HT_ ?_; refine pu_ 22 (some 8) (pf 23 23) HT_ ?_; refine done_ (done_of HT_.out (by kernel_rfl)) ?_
        try go_wp2
        go_ret
        exact ⟨by rfl, hb4 HB GE384 GE385 GE386 GE387⟩

end Go.Proofs.Ythfoliejhdpbaaa.PCroA
