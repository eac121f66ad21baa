-- PRINTED by print.py (a twelfth state) out of the translation. Not trusted: Lean checks it.
import Derived.Test.YtdaeaejmikhmcaaZPEditCx0
import Derived.Test.YtdaeaejmikhmcaaZPEditCx3
namespace Go.Proofs.Ytdaeaejmikhmcaa.PEditC
open Go.RowKit Go.Proofs.YtdaeaejmikhmcaaW.PrintWords Go.Proofs.YtdaeaejmikhmcaaW.PrintLast Go.Proofs.YtdaeaejmikhmcaaW.PrintMore
open Go.Proofs.YtdaeaejmikhmcaaX
attribute [local go_sem] max2_int min2_int max_two min_two max_three min_three max_four min_four   -- for this text's walks alone
set_option linter.unusedVariables false
set_option linter.unusedSimpArgs false

/-! ### edit_edge: function 45 -/
def edit_edge.f (k : Nat) (a0_0 : Int) (l0_1 : List (S46)) (a1 : Int) : Option (Int) := (simple_Valid.f k a0_0 l0_1).bind fun t180 => (if t180 = true then (if a1 < 0 then (some 2) else (if a1 ≥ (l0_1.length : Int) then (some 2) else (some 0))) else (some 1))
theorem edit_edge.mono : ∀ a0 a1 a2 k, LeO (edit_edge.f k a0 a1 a2) (edit_edge.f (k + 1) a0 a1 a2) := by
 intro a0 a1 a2 k
 unfold edit_edge.f
 repeat' first
   | (with_reducible exact simple_Valid.mono _ _ _)
   | (with_reducible exact LeO.refl _)
   | (with_reducible exact LeO.none _)
   | (with_reducible refine LeO.ite ?_ ?_)
   | (with_reducible refine LeO.bind ?_ (fun _ => ?_))
   | exact simple_Valid.mono _ _ _
   | exact LeO.none _
   | refine LeO.ite ?_ ?_
   | refine LeO.bind ?_ (fun _ => ?_)
set_option maxHeartbeats 8000000 in
set_option maxRecDepth 100000 in
theorem edit_edge.calls (k : Nat) (a0_0 : Int) (A0_1 : Option Addr) (c0_1 : Nat) (l0_1 : List (S46)) (a1 : Int) (r : Int) (w : World) (hr0_1 : Kd.C k46 w A0_1 l0_1.length l0_1) (hc0_1 : l0_1.length ≤ c0_1) (h : edit_edge.f k a0_0 l0_1 a1 = some r) :
  Calls Try.prog 45 #[.agg #[.int .i64 a0_0, .slice A0_1 l0_1.length c0_1], .int .i64 a1] w fun e w' => e = .returned (.int .i64 r) ∧ Below w.heap.size w w' := by
 have hu25 := Try.underlying25; have HR0_1 := Aside0.mk hr0_1; have HC0_1 := Aside0.mk hc0_1; clear hr0_1 hc0_1; have HB := Aside0.mk (Below.refl w.heap.size w); have H : ((simple_Valid.f k a0_0 l0_1).bind fun t180 => (if t180 = true then (if a1 < 0 then (some 2) else (if a1 ≥ (l0_1.length : Int) then (some 2) else (some 0))) else (some 1))) = some r := h; clear h; replace H := Option.bind_eq_some_iff.mp H; obtain ⟨t180, A30, H⟩ := H; (try dsimp only at H); have A3 := Aside0.mk A30; clear A30
 by_cases c4 : t180 = true
 ·subst c4; rw [if_pos rfl] at H
  by_cases c5 : a1 < 0
  ·rw [if_pos c5] at H; have c5b0 : decide (a1 < 0) = true := decide_eq_true c5; clear c5; obtain rfl := Option.some.inj H
   go_enter Try.func45, Try.ntmps45
   go_wp2_with (first | ((with_reducible refine gate_dst (N := 2) rfl ?_); (try (refine gate_guard (by rfl) ?_; dsimp only)); refine be_ 2 #[.int .i64 a0_0, .slice A0_1 l0_1.length c0_1] 25 ?_; intro gb179 hg w6 hbox hb; have BK179 := Aside0.mk (hbox); have GW179 := wq (hb0 HB) hg; have GE179 := wq (hb0 HB) hg; replace HB := hs (hb0 HB) hb; clear hb hbox hg; have hcz7_0 : w6.cell? ⟨gb179, 0, none⟩ = some (.int .i64 a0_0) := bc BK179 0; have hcz7_1 : w6.cell? ⟨gb179, 1, none⟩ = some (.slice A0_1 l0_1.length c0_1) := bc BK179 1; have hfz7_0 := blk_frozen BK179.out 0; have hfz7_1 := blk_frozen BK179.out 1) | ((with_reducible refine gate_callee (f := 37) rfl ?_); refine gl_ (some 7) Try.func37 #[.agg #[.int .i64 a0_0, .slice A0_1 l0_1.length c0_1]] ?_; (with_reducible refine (simple_Valid.calls k a0_0 _ _ l0_1 true _ ?side1 ?side2 A3.out).mono ?_); (case side1 => repeat (first | exact (Kd.C_below HR0_1.out HB.out) | (with_reducible refine Kd.C_alloc ?_ _) | (with_reducible refine Kd.C_drewN ?_ _) | (with_reducible refine Kd.C_drew ?_))); (case side2 => exact HC0_1.out); rintro e w8 ⟨rfl, hb⟩; refine ⟨_, rfl, ?_⟩; replace BK179 := kx BK179 hb; replace HB := hs (hb1 HB GE179) hb; (try clear hb); (try clear hb2); (try clear hk); (try clear hi)))
   go_ret
   exact ⟨by first | rfl | (simp [errW_none, errW_some] <;> rfl) | (simp [*, errW_none, errW_some] <;> rfl), hb1 HB GE179⟩
  ·rw [if_neg c5] at H; have c5b0 : decide (a1 < 0) = false := decide_eq_false c5; clear c5
   by_cases c9 : a1 ≥ (l0_1.length : Int)
   ·rw [if_pos c9] at H; have c9b0 : decide ((l0_1.length : Int) ≤ a1) = true := decide_eq_true c9; clear c9; obtain rfl := Option.some.inj H
    go_enter Try.func45, Try.ntmps45
    go_wp2_with (first | ((with_reducible refine gate_dst (N := 2) rfl ?_); (try (refine gate_guard (by rfl) ?_; dsimp only)); refine be_ 2 #[.int .i64 a0_0, .slice A0_1 l0_1.length c0_1] 25 ?_; intro gb179 hg w10 hbox hb; have BK179 := Aside0.mk (hbox); have GW179 := wq (hb0 HB) hg; have GE179 := wq (hb0 HB) hg; replace HB := hs (hb0 HB) hb; clear hb hbox hg; have hcz11_0 : w10.cell? ⟨gb179, 0, none⟩ = some (.int .i64 a0_0) := bc BK179 0; have hcz11_1 : w10.cell? ⟨gb179, 1, none⟩ = some (.slice A0_1 l0_1.length c0_1) := bc BK179 1; have hfz11_0 := blk_frozen BK179.out 0; have hfz11_1 := blk_frozen BK179.out 1) | ((with_reducible refine gate_callee (f := 37) rfl ?_); refine gl_ (some 7) Try.func37 #[.agg #[.int .i64 a0_0, .slice A0_1 l0_1.length c0_1]] ?_; (with_reducible refine (simple_Valid.calls k a0_0 _ _ l0_1 true _ ?side1 ?side2 A3.out).mono ?_); (case side1 => repeat (first | exact (Kd.C_below HR0_1.out HB.out) | (with_reducible refine Kd.C_alloc ?_ _) | (with_reducible refine Kd.C_drewN ?_ _) | (with_reducible refine Kd.C_drew ?_))); (case side2 => exact HC0_1.out); rintro e w12 ⟨rfl, hb⟩; refine ⟨_, rfl, ?_⟩; replace BK179 := kx BK179 hb; replace HB := hs (hb1 HB GE179) hb; (try clear hb); (try clear hb2); (try clear hk); (try clear hi); have hcz13_0 : w12.cell? ⟨gb179, 0, none⟩ = some (.int .i64 a0_0) := bc BK179 0; have hcz13_1 : w12.cell? ⟨gb179, 1, none⟩ = some (.slice A0_1 l0_1.length c0_1) := bc BK179 1; have hfz13_0 := blk_frozen BK179.out 0; have hfz13_1 := blk_frozen BK179.out 1))
    go_ret
    exact ⟨by first | rfl | (simp [errW_none, errW_some] <;> rfl) | (simp [*, errW_none, errW_some] <;> rfl), hb1 HB GE179⟩
   ·rw [if_neg c9] at H; have c9b0 : decide ((l0_1.length : Int) ≤ a1) = false := decide_eq_false c9; clear c9; obtain rfl := Option.some.inj H
    go_enter Try.func45, Try.ntmps45
    go_wp2_with (first | ((with_reducible refine gate_dst (N := 2) rfl ?_); (try (refine gate_guard (by rfl) ?_; dsimp only)); refine be_ 2 #[.int .i64 a0_0, .slice A0_1 l0_1.length c0_1] 25 ?_; intro gb179 hg w14 hbox hb; have BK179 := Aside0.mk (hbox); have GW179 := wq (hb0 HB) hg; have GE179 := wq (hb0 HB) hg; replace HB := hs (hb0 HB) hb; clear hb hbox hg; have hcz15_0 : w14.cell? ⟨gb179, 0, none⟩ = some (.int .i64 a0_0) := bc BK179 0; have hcz15_1 : w14.cell? ⟨gb179, 1, none⟩ = some (.slice A0_1 l0_1.length c0_1) := bc BK179 1; have hfz15_0 := blk_frozen BK179.out 0; have hfz15_1 := blk_frozen BK179.out 1) | ((with_reducible refine gate_callee (f := 37) rfl ?_); refine gl_ (some 7) Try.func37 #[.agg #[.int .i64 a0_0, .slice A0_1 l0_1.length c0_1]] ?_; (with_reducible refine (simple_Valid.calls k a0_0 _ _ l0_1 true _ ?side1 ?side2 A3.out).mono ?_); (case side1 => repeat (first | exact (Kd.C_below HR0_1.out HB.out) | (with_reducible refine Kd.C_alloc ?_ _) | (with_reducible refine Kd.C_drewN ?_ _) | (with_reducible refine Kd.C_drew ?_))); (case side2 => exact HC0_1.out); rintro e w16 ⟨rfl, hb⟩; refine ⟨_, rfl, ?_⟩; replace BK179 := kx BK179 hb; replace HB := hs (hb1 HB GE179) hb; (try clear hb); (try clear hb2); (try clear hk); (try clear hi); have hcz17_0 : w16.cell? ⟨gb179, 0, none⟩ = some (.int .i64 a0_0) := bc BK179 0; have hcz17_1 : w16.cell? ⟨gb179, 1, none⟩ = some (.slice A0_1 l0_1.length c0_1) := bc BK179 1; have hfz17_0 := blk_frozen BK179.out 0; have hfz17_1 := blk_frozen BK179.out 1))
    go_ret
    exact ⟨by first | rfl | (simp [errW_none, errW_some] <;> rfl) | (simp [*, errW_none, errW_some] <;> rfl), hb1 HB GE179⟩
 ·replace c4 := Bool.eq_false_iff.mpr c4; subst c4; rw [if_neg (show ¬ (false = true) by decide)] at H; obtain rfl := Option.some.inj H
  go_enter Try.func45, Try.ntmps45
  go_wp2_with (first | ((with_reducible refine gate_dst (N := 2) rfl ?_); (try (refine gate_guard (by rfl) ?_; dsimp only)); refine be_ 2 #[.int .i64 a0_0, .slice A0_1 l0_1.length c0_1] 25 ?_; intro gb179 hg w18 hbox hb; have BK179 := Aside0.mk (hbox); have GW179 := wq (hb0 HB) hg; have GE179 := wq (hb0 HB) hg; replace HB := hs (hb0 HB) hb; clear hb hbox hg; have hcz19_0 : w18.cell? ⟨gb179, 0, none⟩ = some (.int .i64 a0_0) := bc BK179 0; have hcz19_1 : w18.cell? ⟨gb179, 1, none⟩ = some (.slice A0_1 l0_1.length c0_1) := bc BK179 1; have hfz19_0 := blk_frozen BK179.out 0; have hfz19_1 := blk_frozen BK179.out 1) | ((with_reducible refine gate_callee (f := 37) rfl ?_); refine gl_ (some 7) Try.func37 #[.agg #[.int .i64 a0_0, .slice A0_1 l0_1.length c0_1]] ?_; (with_reducible refine (simple_Valid.calls k a0_0 _ _ l0_1 false _ ?side1 ?side2 A3.out).mono ?_); (case side1 => repeat (first | exact (Kd.C_below HR0_1.out HB.out) | (with_reducible refine Kd.C_alloc ?_ _) | (with_reducible refine Kd.C_drewN ?_ _) | (with_reducible refine Kd.C_drew ?_))); (case side2 => exact HC0_1.out); rintro e w20 ⟨rfl, hb⟩; refine ⟨_, rfl, ?_⟩; replace BK179 := kx BK179 hb; replace HB := hs (hb1 HB GE179) hb; (try clear hb); (try clear hb2); (try clear hk); (try clear hi)))
  go_ret
  exact ⟨by first | rfl | (simp [errW_none, errW_some] <;> rfl) | (simp [*, errW_none, errW_some] <;> rfl), hb1 HB GE179⟩

end Go.Proofs.Ytdaeaejmikhmcaa.PEditC
