-- PRINTED by print.py (a twelfth state) out of the translation. Not trusted: Lean checks it.
import Derived.Test.YtdaeaejmikhmcaaZPEditCx0
namespace Go.Proofs.Ytdaeaejmikhmcaa.PEditC
open Go.RowKit Go.Proofs.YtdaeaejmikhmcaaW.PrintWords Go.Proofs.YtdaeaejmikhmcaaW.PrintLast Go.Proofs.YtdaeaejmikhmcaaW.PrintMore
open Go.Proofs.YtdaeaejmikhmcaaX
attribute [local go_sem] max2_int min2_int max_two min_two max_three min_three max_four min_four   -- for this text's walks alone
set_option linter.unusedVariables false
set_option linter.unusedSimpArgs false

/-! ### tangramref03_Less: function 36 -/
def tangramref03_Less.f (a0_0 : Int) (a0_1 : Int) (a1_0 : Int) (a1_1 : Int) : Option (Bool) := if a0_0 < a1_0 then (some true) else (if a0_0 = a1_0 then (some (decide (a0_1 < a1_1))) else (some false))
set_option maxHeartbeats 8000000 in
set_option maxRecDepth 100000 in
theorem tangramref03_Less.calls (a0_0 : Int) (a0_1 : Int) (a1_0 : Int) (a1_1 : Int) (r : Bool) (w : World) (h : tangramref03_Less.f a0_0 a0_1 a1_0 a1_1 = some r) :
  Calls Try.prog 36 #[.agg #[.int .i64 a0_0, .int .i64 a0_1], .agg #[.int .i64 a1_0, .int .i64 a1_1]] w fun e w' => e = .returned (.bool r) ∧ Below w.heap.size w w' := by
 have hu46 := Try.underlying46; have HB := Aside0.mk (Below.refl w.heap.size w); have H : (if a0_0 < a1_0 then (some true) else (if a0_0 = a1_0 then (some (decide (a0_1 < a1_1))) else (some false))) = some r := h; clear h
 by_cases c3 : a0_0 < a1_0
 ·rw [if_pos c3] at H; have c3b0 : decide (a0_0 < a1_0) = true := decide_eq_true c3; clear c3; obtain rfl := Option.some.inj H
  go_enter Try.func36, Try.ntmps36
  go_wp2_with (first | ((with_reducible refine gate_dst (N := 2) rfl ?_); refine be_ 2 #[.int .i64 a0_0, .int .i64 a0_1] 46 ?_; intro gb297 hg w4 hbox hb; have BK297 := Aside0.mk (hbox); have GW297 := wq (hb0 HB) hg; have GE297 := wq (hb0 HB) hg; replace HB := hs (hb0 HB) hb; clear hb hbox hg) | ((with_reducible refine gate_dst (N := 3) rfl ?_); refine be_ 3 #[.int .i64 a1_0, .int .i64 a1_1] 46 ?_; intro gb298 hg w5 hbox hb; have BK298 := Aside0.mk (hbox); have GW298 := wq (hb1 HB GE297) hg; have GE298 := wq (hb1 HB GE297) hg; replace HB := hs (hb1 HB GE297) hb; have NB297_298 := lx BK297 hg; have NB298_297 := gx BK297 hg; replace BK297 := kx BK297 hb; clear hb hbox hg; have hnb6 := NB297_298.out; have hnc6 := NB298_297.out; have hcz7_0 : w5.cell? ⟨gb297, 0, none⟩ = some (.int .i64 a0_0) := bc BK297 0; have hcz7_1 : w5.cell? ⟨gb297, 1, none⟩ = some (.int .i64 a0_1) := bc BK297 1; have hfz7_0 := blk_frozen BK297.out 0; have hfz7_1 := blk_frozen BK297.out 1; have hcz8_0 : w5.cell? ⟨gb298, 0, none⟩ = some (.int .i64 a1_0) := bc BK298 0; have hcz8_1 : w5.cell? ⟨gb298, 1, none⟩ = some (.int .i64 a1_1) := bc BK298 1; have hfz8_0 := blk_frozen BK298.out 0; have hfz8_1 := blk_frozen BK298.out 1))
  go_ret
  exact ⟨by first | rfl | (simp [errW_none, errW_some] <;> rfl) | (simp [*, errW_none, errW_some] <;> rfl), hb2 HB GE297 GE298⟩
 ·rw [if_neg c3] at H; have c3b0 : decide (a0_0 < a1_0) = false := decide_eq_false c3; clear c3
  by_cases c9 : a0_0 = a1_0
  ·rw [if_pos c9] at H; have c9b0 : (a0_0 == a1_0) = true := beq_iff_eq.mpr c9; have c9b1 : (a0_0 != a1_0) = false := bne_eq_false_iff_eq.mpr c9; clear c9; obtain rfl := Option.some.inj H
   go_enter Try.func36, Try.ntmps36
   go_wp2_with (first | ((with_reducible refine gate_dst (N := 2) rfl ?_); refine be_ 2 #[.int .i64 a0_0, .int .i64 a0_1] 46 ?_; intro gb297 hg w10 hbox hb; have BK297 := Aside0.mk (hbox); have GW297 := wq (hb0 HB) hg; have GE297 := wq (hb0 HB) hg; replace HB := hs (hb0 HB) hb; clear hb hbox hg) | ((with_reducible refine gate_dst (N := 3) rfl ?_); refine be_ 3 #[.int .i64 a1_0, .int .i64 a1_1] 46 ?_; intro gb298 hg w11 hbox hb; have BK298 := Aside0.mk (hbox); have GW298 := wq (hb1 HB GE297) hg; have GE298 := wq (hb1 HB GE297) hg; replace HB := hs (hb1 HB GE297) hb; have NB297_298 := lx BK297 hg; have NB298_297 := gx BK297 hg; replace BK297 := kx BK297 hb; clear hb hbox hg; have hnb12 := NB297_298.out; have hnc12 := NB298_297.out; have hcz13_0 : w11.cell? ⟨gb297, 0, none⟩ = some (.int .i64 a0_0) := bc BK297 0; have hcz13_1 : w11.cell? ⟨gb297, 1, none⟩ = some (.int .i64 a0_1) := bc BK297 1; have hfz13_0 := blk_frozen BK297.out 0; have hfz13_1 := blk_frozen BK297.out 1; have hcz14_0 : w11.cell? ⟨gb298, 0, none⟩ = some (.int .i64 a1_0) := bc BK298 0; have hcz14_1 : w11.cell? ⟨gb298, 1, none⟩ = some (.int .i64 a1_1) := bc BK298 1; have hfz14_0 := blk_frozen BK298.out 0; have hfz14_1 := blk_frozen BK298.out 1))
   go_ret
   exact ⟨by first | rfl | (simp [errW_none, errW_some] <;> rfl) | (simp [*, errW_none, errW_some] <;> rfl), hb2 HB GE297 GE298⟩
  ·rw [if_neg c9] at H; have c9b0 : (a0_0 == a1_0) = false := beq_eq_false_iff_ne.mpr c9; have c9b1 : (a0_0 != a1_0) = true := bne_iff_ne.mpr c9; obtain rfl := Option.some.inj H
   go_enter Try.func36, Try.ntmps36
   go_wp2_with (first | ((with_reducible refine gate_dst (N := 2) rfl ?_); refine be_ 2 #[.int .i64 a0_0, .int .i64 a0_1] 46 ?_; intro gb297 hg w15 hbox hb; have BK297 := Aside0.mk (hbox); have GW297 := wq (hb0 HB) hg; have GE297 := wq (hb0 HB) hg; replace HB := hs (hb0 HB) hb; clear hb hbox hg) | ((with_reducible refine gate_dst (N := 3) rfl ?_); refine be_ 3 #[.int .i64 a1_0, .int .i64 a1_1] 46 ?_; intro gb298 hg w16 hbox hb; have BK298 := Aside0.mk (hbox); have GW298 := wq (hb1 HB GE297) hg; have GE298 := wq (hb1 HB GE297) hg; replace HB := hs (hb1 HB GE297) hb; have NB297_298 := lx BK297 hg; have NB298_297 := gx BK297 hg; replace BK297 := kx BK297 hb; clear hb hbox hg; have hnb17 := NB297_298.out; have hnc17 := NB298_297.out; have hcz18_0 : w16.cell? ⟨gb297, 0, none⟩ = some (.int .i64 a0_0) := bc BK297 0; have hcz18_1 : w16.cell? ⟨gb297, 1, none⟩ = some (.int .i64 a0_1) := bc BK297 1; have hfz18_0 := blk_frozen BK297.out 0; have hfz18_1 := blk_frozen BK297.out 1; have hcz19_0 : w16.cell? ⟨gb298, 0, none⟩ = some (.int .i64 a1_0) := bc BK298 0; have hcz19_1 : w16.cell? ⟨gb298, 1, none⟩ = some (.int .i64 a1_1) := bc BK298 1; have hfz19_0 := blk_frozen BK298.out 0; have hfz19_1 := blk_frozen BK298.out 1))
   go_ret
   exact ⟨by first | rfl | (simp [errW_none, errW_some] <;> rfl) | (simp [*, errW_none, errW_some] <;> rfl), hb2 HB GE297 GE298⟩

end Go.Proofs.Ytdaeaejmikhmcaa.PEditC
