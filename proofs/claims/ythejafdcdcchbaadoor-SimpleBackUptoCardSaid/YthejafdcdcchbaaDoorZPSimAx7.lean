-- PRINTED by print.py (a twelfth state) out of the translation. Not trusted: Lean checks it.
import Derived.Test.YthejafdcdcchbaaDoorZPSimAx0
namespace Go.Proofs.YthejafdcdcchbaaDoor.PSimA
open Go.RowKit Go.Proofs.YthejafdcdcchbaaDoorW.PrintWords Go.Proofs.YthejafdcdcchbaaDoorW.PrintLast Go.Proofs.YthejafdcdcchbaaDoorW.PrintMore
open Go.Proofs.YthejafdcdcchbaaDoorX
attribute [local go_sem] max2_int min2_int max_two min_two max_three min_three max_four min_four   -- for this text's walks alone
set_option linter.unusedVariables false
set_option linter.unusedSimpArgs false

/-! ### simple_compare: function 37 -/
def simple_compare.f (a0_0 : Int) (a0_1 : Int) (a1_0 : Int) (a1_1 : Int) : Option (Int) := if a0_0 = a1_0 then (some (wrap64 (a0_1 - a1_1))) else (some (wrap64 (a0_0 - a1_0)))
set_option maxHeartbeats 8000000 in
set_option maxRecDepth 100000 in
theorem simple_compare.calls (a0_0 : Int) (a0_1 : Int) (a1_0 : Int) (a1_1 : Int) (r : Int) (w : World) (h : simple_compare.f a0_0 a0_1 a1_0 a1_1 = some r) :
  Calls Tryd.prog 37 #[.agg #[.int .i64 a0_0, .int .i64 a0_1], .agg #[.int .i64 a1_0, .int .i64 a1_1]] w fun e w' => e = .returned (.int .i64 r) ∧ Below w.heap.size w w' := by
 have hu42 := Tryd.underlying42; have HB := Aside0.mk (Below.refl w.heap.size w); have H : (if a0_0 = a1_0 then (some (wrap64 (a0_1 - a1_1))) else (some (wrap64 (a0_0 - a1_0)))) = some r := h; clear h
 by_cases c3 : a0_0 = a1_0
 ·rw [if_pos c3] at H; have c3b0 : (a0_0 == a1_0) = true := beq_iff_eq.mpr c3; have c3b1 : (a0_0 != a1_0) = false := bne_eq_false_iff_eq.mpr c3; clear c3; obtain rfl := Option.some.inj H
  go_enter Tryd.func37, Tryd.ntmps37
  go_wp2_with (first | ((with_reducible refine gate_dst (N := 2) rfl ?_); refine be_ 2 #[.int .i64 a0_0, .int .i64 a0_1] 42 ?_; intro gb138 hg w4 hbox hb; have BK138 := Aside0.mk (hbox); have GW138 := wq (hb0 HB) hg; have GE138 := wq (hb0 HB) hg; replace HB := hs (hb0 HB) hb; clear hb hbox hg) | ((with_reducible refine gate_dst (N := 3) rfl ?_); refine be_ 3 #[.int .i64 a1_0, .int .i64 a1_1] 42 ?_; intro gb139 hg w5 hbox hb; have BK139 := Aside0.mk (hbox); have GW139 := wq (hb1 HB GE138) hg; have GE139 := wq (hb1 HB GE138) hg; replace HB := hs (hb1 HB GE138) hb; have NB138_139 := lx BK138 hg; have NB139_138 := gx BK138 hg; replace BK138 := kx BK138 hb; clear hb hbox hg; have hnb6 := NB138_139.out; have hnc6 := NB139_138.out; have hcz7_0 : w5.cell? ⟨gb138, 0, none⟩ = some (.int .i64 a0_0) := bc BK138 0; have hcz7_1 : w5.cell? ⟨gb138, 1, none⟩ = some (.int .i64 a0_1) := bc BK138 1; have hfz7_0 := blk_frozen BK138.out 0; have hfz7_1 := blk_frozen BK138.out 1; have hcz8_0 : w5.cell? ⟨gb139, 0, none⟩ = some (.int .i64 a1_0) := bc BK139 0; have hcz8_1 : w5.cell? ⟨gb139, 1, none⟩ = some (.int .i64 a1_1) := bc BK139 1; have hfz8_0 := blk_frozen BK139.out 0; have hfz8_1 := blk_frozen BK139.out 1))
  go_ret
  exact ⟨by first | rfl | (simp [errW_none, errW_some] <;> rfl) | (simp [*, errW_none, errW_some] <;> rfl), hb2 HB GE138 GE139⟩
 ·rw [if_neg c3] at H; have c3b0 : (a0_0 == a1_0) = false := beq_eq_false_iff_ne.mpr c3; have c3b1 : (a0_0 != a1_0) = true := bne_iff_ne.mpr c3; obtain rfl := Option.some.inj H
  go_enter Tryd.func37, Tryd.ntmps37
  go_wp2_with (first | ((with_reducible refine gate_dst (N := 2) rfl ?_); refine be_ 2 #[.int .i64 a0_0, .int .i64 a0_1] 42 ?_; intro gb138 hg w9 hbox hb; have BK138 := Aside0.mk (hbox); have GW138 := wq (hb0 HB) hg; have GE138 := wq (hb0 HB) hg; replace HB := hs (hb0 HB) hb; clear hb hbox hg) | ((with_reducible refine gate_dst (N := 3) rfl ?_); refine be_ 3 #[.int .i64 a1_0, .int .i64 a1_1] 42 ?_; intro gb139 hg w10 hbox hb; have BK139 := Aside0.mk (hbox); have GW139 := wq (hb1 HB GE138) hg; have GE139 := wq (hb1 HB GE138) hg; replace HB := hs (hb1 HB GE138) hb; have NB138_139 := lx BK138 hg; have NB139_138 := gx BK138 hg; replace BK138 := kx BK138 hb; clear hb hbox hg; have hnb11 := NB138_139.out; have hnc11 := NB139_138.out; have hcz12_0 : w10.cell? ⟨gb138, 0, none⟩ = some (.int .i64 a0_0) := bc BK138 0; have hcz12_1 : w10.cell? ⟨gb138, 1, none⟩ = some (.int .i64 a0_1) := bc BK138 1; have hfz12_0 := blk_frozen BK138.out 0; have hfz12_1 := blk_frozen BK138.out 1; have hcz13_0 : w10.cell? ⟨gb139, 0, none⟩ = some (.int .i64 a1_0) := bc BK139 0; have hcz13_1 : w10.cell? ⟨gb139, 1, none⟩ = some (.int .i64 a1_1) := bc BK139 1; have hfz13_0 := blk_frozen BK139.out 0; have hfz13_1 := blk_frozen BK139.out 1))
  go_ret
  exact ⟨by first | rfl | (simp [errW_none, errW_some] <;> rfl) | (simp [*, errW_none, errW_some] <;> rfl), hb2 HB GE138 GE139⟩

end Go.Proofs.YthejafdcdcchbaaDoor.PSimA
