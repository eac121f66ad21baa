import Derived.Test.YthfoliejhdpbaaaZPCroAx0
namespace Go.Proofs.Ythfoliejhdpbaaa.PCroA
open Go.RowKit Go.Proofs.YthfoliejhdpbaaaW.PrintWords Go.Proofs.YthfoliejhdpbaaaW.PrintLast Go.Proofs.YthfoliejhdpbaaaW.PrintMore
open Go.Proofs.YthfoliejhdpbaaaX
attribute [local go_sem] max2_int min2_int max_two min_two max_three min_three max_four min_four
set_option linter.unusedVariables false
set_option linter.unusedSimpArgs false

/-! ### simple_compare: function 70 -/
def simple_compare.f (a0_0 : Int) (a0_1 : Int) (a1_0 : Int) (a1_1 : Int) : Option (Int) := if a0_0 = a1_0 then (some (wrap64 (a0_1 - a1_1))) else (some (wrap64 (a0_0 - a1_0)))
set_option maxHeartbeats 8000000 in
set_option maxRecDepth 100000 in
theorem simple_compare.calls (a0_0 : Int) (a0_1 : Int) (a1_0 : Int) (a1_1 : Int) (r : Int) (w : World) (h : simple_compare.f a0_0 a0_1 a1_0 a1_1 = some r) :
  Calls Try.prog 70 #[.agg #[.int .i64 a0_0, .int .i64 a0_1], .agg #[.int .i64 a1_0, .int .i64 a1_1]] w fun e w' => e = .returned (.int .i64 r) ∧ Below w.heap.size w w' := by
 have hu62 := Try.underlying62; have HB := Aside0.mk (Below.refl w.heap.size w); have H : (if a0_0 = a1_0 then (some (wrap64 (a0_1 - a1_1))) else (some (wrap64 (a0_0 - a1_0)))) = some r := h; clear h
 by_cases c3 : a0_0 = a1_0
 ·rw [if_pos c3] at H; have c3b0 : (a0_0 == a1_0) = true := beq_iff_eq.mpr c3; have c3b1 : (a0_0 != a1_0) = false := bne_eq_false_iff_eq.mpr c3; clear c3; obtain rfl := Option.some.inj H
  go_enter Try.func70, Try.ntmps70
  go_wp2_with (first | ((with_reducible refine gate_dst (N := 2) rfl ?_); refine be_ 2 #[.int .i64 a0_0, .int .i64 a0_1] 62 ?_; intro gb144 hg w4 hbox hb; have BK144 := Aside0.mk (hbox); have GW144 := wq (hb0 HB) hg; have GE144 := wq (hb0 HB) hg; replace HB := hs (hb0 HB) hb; clear hb hbox hg) | ((with_reducible refine gate_dst (N := 3) rfl ?_); refine be_ 3 #[.int .i64 a1_0, .int .i64 a1_1] 62 ?_; intro gb145 hg w5 hbox hb; have BK145 := Aside0.mk (hbox); have GW145 := wq (hb1 HB GE144) hg; have GE145 := wq (hb1 HB GE144) hg; replace HB := hs (hb1 HB GE144) hb; have NB144_145 := lx BK144 hg; have NB145_144 := gx BK144 hg; replace BK144 := kx BK144 hb; clear hb hbox hg; have hnb6 := NB144_145.out; have hnc6 := NB145_144.out; have hcz7_0 : w5.cell? ⟨gb144, 0, none⟩ = some (.int .i64 a0_0) := bc BK144 0; have hcz7_1 : w5.cell? ⟨gb144, 1, none⟩ = some (.int .i64 a0_1) := bc BK144 1; have hfz7_0 := blk_frozen BK144.out 0; have hfz7_1 := blk_frozen BK144.out 1; have hcz8_0 : w5.cell? ⟨gb145, 0, none⟩ = some (.int .i64 a1_0) := bc BK145 0; have hcz8_1 : w5.cell? ⟨gb145, 1, none⟩ = some (.int .i64 a1_1) := bc BK145 1; have hfz8_0 := blk_frozen BK145.out 0; have hfz8_1 := blk_frozen BK145.out 1))
  go_ret
  exact ⟨by rfl, hb2 HB GE144 GE145⟩
 ·rw [if_neg c3] at H; have c3b0 : (a0_0 == a1_0) = false := beq_eq_false_iff_ne.mpr c3; have c3b1 : (a0_0 != a1_0) = true := bne_iff_ne.mpr c3; obtain rfl := Option.some.inj H
  go_enter Try.func70, Try.ntmps70
  go_wp2_with (first | ((with_reducible refine gate_dst (N := 2) rfl ?_); refine be_ 2 #[.int .i64 a0_0, .int .i64 a0_1] 62 ?_; intro gb144 hg w9 hbox hb; have BK144 := Aside0.mk (hbox); have GW144 := wq (hb0 HB) hg; have GE144 := wq (hb0 HB) hg; replace HB := hs (hb0 HB) hb; clear hb hbox hg) | ((with_reducible refine gate_dst (N := 3) rfl ?_); refine be_ 3 #[.int .i64 a1_0, .int .i64 a1_1] 62 ?_; intro gb145 hg w10 hbox hb; have BK145 := Aside0.mk (hbox); have GW145 := wq (hb1 HB GE144) hg; have GE145 := wq (hb1 HB GE144) hg; replace HB := hs (hb1 HB GE144) hb; have NB144_145 := lx BK144 hg; have NB145_144 := gx BK144 hg; replace BK144 := kx BK144 hb; clear hb hbox hg; have hnb11 := NB144_145.out; have hnc11 := NB145_144.out; have hcz12_0 : w10.cell? ⟨gb144, 0, none⟩ = some (.int .i64 a0_0) := bc BK144 0; have hcz12_1 : w10.cell? ⟨gb144, 1, none⟩ = some (.int .i64 a0_1) := bc BK144 1; have hfz12_0 := blk_frozen BK144.out 0; have hfz12_1 := blk_frozen BK144.out 1; have hcz13_0 : w10.cell? ⟨gb145, 0, none⟩ = some (.int .i64 a1_0) := bc BK145 0; have hcz13_1 : w10.cell? ⟨gb145, 1, none⟩ = some (.int .i64 a1_1) := bc BK145 1; have hfz13_0 := blk_frozen BK145.out 0; have hfz13_1 := blk_frozen BK145.out 1))
  go_ret
  exact ⟨by rfl, hb2 HB GE144 GE145⟩

end Go.Proofs.Ythfoliejhdpbaaa.PCroA
