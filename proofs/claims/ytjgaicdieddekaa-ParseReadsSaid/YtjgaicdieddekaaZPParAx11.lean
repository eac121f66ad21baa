-- PRINTED by print.py (a twelfth state) out of the translation. Not trusted: Lean checks it.
import Derived.Test.YtjgaicdieddekaaZPParAx0
namespace Go.Proofs.Ytjgaicdieddekaa.PParA
open Go.RowKit Go.Proofs.YtjgaicdieddekaaW.PrintWords Go.Proofs.YtjgaicdieddekaaW.PrintLast Go.Proofs.YtjgaicdieddekaaW.PrintMore
open Go.Proofs.YtjgaicdieddekaaX
attribute [local go_sem] max2_int min2_int max_two min_two max_three min_three max_four min_four   -- for this text's walks alone
set_option linter.unusedVariables false
set_option linter.unusedSimpArgs false

/-! ### tangramref02_fault: function 14 -/
def tangramref02_fault.f (a0 : Int) (a1 : Int) : Option (Int × List Int × List Int × Int × Int) := some (0, ([] : List Int), ([] : List Int), a0, a1)
set_option maxHeartbeats 8000000 in
set_option maxRecDepth 100000 in
theorem tangramref02_fault.calls (a0 : Int) (a1 : Int) (r1 : Int) (r2 : List Int) (r3 : List Int) (r4 : Int) (r5 : Int) (w : World) (h : tangramref02_fault.f a0 a1 = some (r1, r2, r3, r4, r5)) :
  Calls Try.prog 14 #[.int .i64 a0, .int .i64 a1] w fun e w' => ∃ v1_ v2_ : Value, e = .returned (.agg #[.int .i64 r1, v1_, v2_, .int .i64 r4, .int .i64 r5]) ∧ Kd.R (Kd.int .i64) 3 w' w.heap.size (fun k_ => some k_ ≠ (v2_ : Value).ownBlock) v1_ r2 ∧ Kd.R (Kd.int .i64) 3 w' w.heap.size (fun k_ => some k_ ≠ (v1_ : Value).ownBlock) v2_ r3 ∧ Below w.heap.size w w' := by
 have hu34 := Try.underlying34; have HB := Aside0.mk (Below.refl w.heap.size w); have H : (some (0, ([] : List Int), ([] : List Int), a0, a1)) = some (r1, r2, r3, r4, r5) := h; clear h; simp only [Option.some.injEq, Prod.mk.injEq] at H; obtain ⟨rfl, rfl, rfl, rfl, rfl⟩ := H
 go_enter Try.func14, Try.ntmps14
 go_wp2_with (first | ((with_reducible refine gate_dst (N := 4) rfl ?_); refine be_ 4 #[.int .i64 0, .slice none 0 0, .slice none 0 0, .int .i64 0, .int .i64 0] 34 ?_; intro gb210 hg w3 hbox hb; have BK210 := Aside0.mk (hbox); have GW210 := wq (hb0 HB) hg; have GE210 := wq (hb0 HB) hg; replace HB := hs (hb0 HB) hb; clear hb hbox hg; have hcz4_0 : w3.cell? ⟨gb210, 0, none⟩ = some (.int .i64 0) := bc BK210 0; have hcz4_1 : w3.cell? ⟨gb210, 1, none⟩ = some (.slice none 0 0) := bc BK210 1; have hcz4_2 : w3.cell? ⟨gb210, 2, none⟩ = some (.slice none 0 0) := bc BK210 2; have hcz4_3 : w3.cell? ⟨gb210, 3, none⟩ = some (.int .i64 0) := bc BK210 3; have hcz4_4 : w3.cell? ⟨gb210, 4, none⟩ = some (.int .i64 0) := bc BK210 4; have hfz4_0 := blk_frozen BK210.out 0; have hfz4_1 := blk_frozen BK210.out 1; have hfz4_2 := blk_frozen BK210.out 2; have hfz4_3 := blk_frozen BK210.out 3; have hfz4_4 := blk_frozen BK210.out 4))
 refine bodyPost_ret (results_cell_row rfl _ _ gb210 34 #[.int .i64 0, .slice none 0 0, .slice none 0 0, .int .i64 a0, .int .i64 a1] (0, 0) _ rfl (bp BK210) Try.underlying34 rfl (by kernel_rfl)) rfl ?_; exact ⟨_, _, by first | rfl | (simp [errW_none, errW_some] <;> rfl) | (simp [*, errW_none, errW_some] <;> rfl), by first | exact Kd.R_nil _ _ _ _ _ | exact Kd.N_nil _ _ _ _ _ | exact Kd.V_nil _ _ _ _ _ | exact Kd.Q_nil _ _ _ _ _ | exact Kd.S_nil _ _ _ _ _, by first | exact Kd.R_nil _ _ _ _ _ | exact Kd.N_nil _ _ _ _ _ | exact Kd.V_nil _ _ _ _ _ | exact Kd.Q_nil _ _ _ _ _ | exact Kd.S_nil _ _ _ _ _, hb1 HB GE210⟩

end Go.Proofs.Ytjgaicdieddekaa.PParA
