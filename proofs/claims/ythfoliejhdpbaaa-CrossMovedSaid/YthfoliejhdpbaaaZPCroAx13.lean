import Derived.Test.YthfoliejhdpbaaaZPCroAx0
import Derived.Test.YthfoliejhdpbaaaZPCroAx3
import Derived.Test.YthfoliejhdpbaaaZPCroAx12
namespace Go.Proofs.Ythfoliejhdpbaaa.PCroA
open Go.RowKit Go.Proofs.YthfoliejhdpbaaaW.PrintWords Go.Proofs.YthfoliejhdpbaaaW.PrintLast Go.Proofs.YthfoliejhdpbaaaW.PrintMore
open Go.Proofs.YthfoliejhdpbaaaX
attribute [local go_sem] max2_int min2_int max_two min_two max_three min_three max_four min_four
set_option linter.unusedVariables false
set_option linter.unusedSimpArgs false

/-! ### cross_drawn: function 44 -/
def cross_drawn.f (k : Nat) (a0_0 : Int) (l0_1 : List (S62)) (l1 : List (S23)) : Option (Int) := (simple_Valid.f k a0_0 l0_1).bind fun t152 => (if t152 = true then (if (l1.length : Int) = a0_0 then ((cross_beyond.f k l1).bind fun t153 => (if t153 = true then (some 260) else (some 0))) else (some 260)) else (some 1))
theorem cross_drawn.mono : ∀ a0 a1 a2 k, LeO (cross_drawn.f k a0 a1 a2) (cross_drawn.f (k + 1) a0 a1 a2) := by
 intro a0 a1 a2 k
 unfold cross_drawn.f
 repeat' first
   | (with_reducible exact cross_beyond.mono _ _)
   | (with_reducible exact simple_Valid.mono _ _ _)
   | (with_reducible exact LeO.refl _)
   | (with_reducible exact LeO.none _)
   | (with_reducible refine LeO.ite ?_ ?_)
   | (with_reducible refine LeO.bind ?_ (fun _ => ?_))
   | exact LeO.none _
   | refine LeO.ite ?_ ?_
   | refine LeO.bind ?_ (fun _ => ?_)
set_option maxHeartbeats 8000000 in
set_option maxRecDepth 100000 in
theorem cross_drawn.calls (k : Nat) (a0_0 : Int) (A0_1 : Option Addr) (c0_1 : Nat) (l0_1 : List (S62)) (A1 : Option Addr) (c1 : Nat) (l1 : List (S23)) (r : Int) (w : World) (hr0_1 : Kd.C k62 w A0_1 l0_1.length l0_1) (hc0_1 : l0_1.length ≤ c0_1) (hr1 : Kd.C k23 w A1 l1.length l1) (hc1 : l1.length ≤ c1) (h : cross_drawn.f k a0_0 l0_1 l1 = some r) :
  Calls Try.prog 44 #[.agg #[.int .i64 a0_0, .slice A0_1 l0_1.length c0_1], .slice A1 l1.length c1] w fun e w' => e = .returned (.int .i64 r) ∧ Below w.heap.size w w' := by
 have hu31 := Try.underlying31; have HR0_1 := Aside0.mk hr0_1; have HC0_1 := Aside0.mk hc0_1; clear hr0_1 hc0_1; have HR1 := Aside0.mk hr1; have HC1 := Aside0.mk hc1; clear hr1 hc1; have HB := Aside0.mk (Below.refl w.heap.size w); have H : ((simple_Valid.f k a0_0 l0_1).bind fun t152 => (if t152 = true then (if (l1.length : Int) = a0_0 then ((cross_beyond.f k l1).bind fun t153 => (if t153 = true then (some 260) else (some 0))) else (some 260)) else (some 1))) = some r := h; clear h; replace H := Option.bind_eq_some_iff.mp H; obtain ⟨t152, A30, H⟩ := H; (try dsimp only at H); have A3 := Aside0.mk A30; clear A30
 by_cases c4 : t152 = true
 ·subst c4; rw [if_pos rfl] at H
  by_cases c5 : (l1.length : Int) = a0_0
  ·rw [if_pos c5] at H; have c5b0 : ((l1.length : Int) == a0_0) = true := beq_iff_eq.mpr c5; have c5b1 : ((l1.length : Int) != a0_0) = false := bne_eq_false_iff_eq.mpr c5; clear c5; replace H := Option.bind_eq_some_iff.mp H; obtain ⟨t153, A60, H⟩ := H; (try dsimp only at H); have A6 := Aside0.mk A60; clear A60
   by_cases c7 : t153 = true
   ·subst c7; rw [if_pos rfl] at H; obtain rfl := Option.some.inj H
    go_enter Try.func44, Try.ntmps44
    go_wp2_with (first | ((with_reducible refine gate_dst (N := 2) rfl ?_); refine be_ 2 #[.int .i64 a0_0, .slice A0_1 l0_1.length c0_1] 31 ?_; intro gb151 hg w8 hbox hb; have BK151 := Aside0.mk (hbox); have GW151 := wq (hb0 HB) hg; have GE151 := wq (hb0 HB) hg; replace HB := hs (hb0 HB) hb; clear hb hbox hg; have hcz9_0 : w8.cell? ⟨gb151, 0, none⟩ = some (.int .i64 a0_0) := bc BK151 0; have hcz9_1 : w8.cell? ⟨gb151, 1, none⟩ = some (.slice A0_1 l0_1.length c0_1) := bc BK151 1; have hfz9_0 := blk_frozen BK151.out 0; have hfz9_1 := blk_frozen BK151.out 1) | ((with_reducible refine gate_callee (f := 55) rfl ?_); refine gl_ (some 7) Try.func55 #[.agg #[.int .i64 a0_0, .slice A0_1 l0_1.length c0_1]] ?_; (with_reducible refine (simple_Valid.calls k a0_0 _ _ l0_1 true _ ?side1 ?side2 A3.out).mono ?_); (case side1 => repeat (first | exact (Kd.C_below HR0_1.out HB.out) | (with_reducible refine Kd.C_alloc ?_ _) | (with_reducible refine Kd.C_drewN ?_ _) | (with_reducible refine Kd.C_drew ?_))); (case side2 => exact HC0_1.out); rintro e w10 ⟨rfl, hb⟩; refine ⟨_, rfl, ?_⟩; replace BK151 := kx BK151 hb; replace HB := hs (hb1 HB GE151) hb; (try clear hb); (try clear hb2); (try clear hk); (try clear hi); have hcz11_0 : w10.cell? ⟨gb151, 0, none⟩ = some (.int .i64 a0_0) := bc BK151 0; have hcz11_1 : w10.cell? ⟨gb151, 1, none⟩ = some (.slice A0_1 l0_1.length c0_1) := bc BK151 1; have hfz11_0 := blk_frozen BK151.out 0; have hfz11_1 := blk_frozen BK151.out 1) | (go_at_call 37; (with_reducible refine (cross_beyond.calls k _ _ l1 true _ ?side1 ?side2 A6.out).mono ?_); (case side1 => repeat (first | exact (Kd.C_below HR1.out HB.out) | (with_reducible refine Kd.C_alloc ?_ _) | (with_reducible refine Kd.C_drewN ?_ _) | (with_reducible refine Kd.C_drew ?_))); (case side2 => exact HC1.out); rintro e w12 ⟨rfl, hb⟩; replace BK151 := kx BK151 hb; replace HB := hs (hb1 HB GE151) hb; (try clear hb); (try clear hb2); (try clear hk); (try clear hi)))
    go_ret
    exact ⟨by rfl, hb1 HB GE151⟩
   ·replace c7 := Bool.eq_false_iff.mpr c7; subst c7; rw [if_neg (show ¬ (false = true) by decide)] at H; obtain rfl := Option.some.inj H
    go_enter Try.func44, Try.ntmps44
    go_wp2_with (first | ((with_reducible refine gate_dst (N := 2) rfl ?_); refine be_ 2 #[.int .i64 a0_0, .slice A0_1 l0_1.length c0_1] 31 ?_; intro gb151 hg w13 hbox hb; have BK151 := Aside0.mk (hbox); have GW151 := wq (hb0 HB) hg; have GE151 := wq (hb0 HB) hg; replace HB := hs (hb0 HB) hb; clear hb hbox hg; have hcz14_0 : w13.cell? ⟨gb151, 0, none⟩ = some (.int .i64 a0_0) := bc BK151 0; have hcz14_1 : w13.cell? ⟨gb151, 1, none⟩ = some (.slice A0_1 l0_1.length c0_1) := bc BK151 1; have hfz14_0 := blk_frozen BK151.out 0; have hfz14_1 := blk_frozen BK151.out 1) | ((with_reducible refine gate_callee (f := 55) rfl ?_); refine gl_ (some 7) Try.func55 #[.agg #[.int .i64 a0_0, .slice A0_1 l0_1.length c0_1]] ?_; (with_reducible refine (simple_Valid.calls k a0_0 _ _ l0_1 true _ ?side1 ?side2 A3.out).mono ?_); (case side1 => repeat (first | exact (Kd.C_below HR0_1.out HB.out) | (with_reducible refine Kd.C_alloc ?_ _) | (with_reducible refine Kd.C_drewN ?_ _) | (with_reducible refine Kd.C_drew ?_))); (case side2 => exact HC0_1.out); rintro e w15 ⟨rfl, hb⟩; refine ⟨_, rfl, ?_⟩; replace BK151 := kx BK151 hb; replace HB := hs (hb1 HB GE151) hb; (try clear hb); (try clear hb2); (try clear hk); (try clear hi); have hcz16_0 : w15.cell? ⟨gb151, 0, none⟩ = some (.int .i64 a0_0) := bc BK151 0; have hcz16_1 : w15.cell? ⟨gb151, 1, none⟩ = some (.slice A0_1 l0_1.length c0_1) := bc BK151 1; have hfz16_0 := blk_frozen BK151.out 0; have hfz16_1 := blk_frozen BK151.out 1) | (go_at_call 37; (with_reducible refine (cross_beyond.calls k _ _ l1 false _ ?side1 ?side2 A6.out).mono ?_); (case side1 => repeat (first | exact (Kd.C_below HR1.out HB.out) | (with_reducible refine Kd.C_alloc ?_ _) | (with_reducible refine Kd.C_drewN ?_ _) | (with_reducible refine Kd.C_drew ?_))); (case side2 => exact HC1.out); rintro e w17 ⟨rfl, hb⟩; replace BK151 := kx BK151 hb; replace HB := hs (hb1 HB GE151) hb; (try clear hb); (try clear hb2); (try clear hk); (try clear hi)))
    go_ret
    exact ⟨by rfl, hb1 HB GE151⟩
  ·rw [if_neg c5] at H; have c5b0 : ((l1.length : Int) == a0_0) = false := beq_eq_false_iff_ne.mpr c5; have c5b1 : ((l1.length : Int) != a0_0) = true := bne_iff_ne.mpr c5; obtain rfl := Option.some.inj H
   go_enter Try.func44, Try.ntmps44
   go_wp2_with (first | ((with_reducible refine gate_dst (N := 2) rfl ?_); refine be_ 2 #[.int .i64 a0_0, .slice A0_1 l0_1.length c0_1] 31 ?_; intro gb151 hg w18 hbox hb; have BK151 := Aside0.mk (hbox); have GW151 := wq (hb0 HB) hg; have GE151 := wq (hb0 HB) hg; replace HB := hs (hb0 HB) hb; clear hb hbox hg; have hcz19_0 : w18.cell? ⟨gb151, 0, none⟩ = some (.int .i64 a0_0) := bc BK151 0; have hcz19_1 : w18.cell? ⟨gb151, 1, none⟩ = some (.slice A0_1 l0_1.length c0_1) := bc BK151 1; have hfz19_0 := blk_frozen BK151.out 0; have hfz19_1 := blk_frozen BK151.out 1) | ((with_reducible refine gate_callee (f := 55) rfl ?_); refine gl_ (some 7) Try.func55 #[.agg #[.int .i64 a0_0, .slice A0_1 l0_1.length c0_1]] ?_; (with_reducible refine (simple_Valid.calls k a0_0 _ _ l0_1 true _ ?side1 ?side2 A3.out).mono ?_); (case side1 => repeat (first | exact (Kd.C_below HR0_1.out HB.out) | (with_reducible refine Kd.C_alloc ?_ _) | (with_reducible refine Kd.C_drewN ?_ _) | (with_reducible refine Kd.C_drew ?_))); (case side2 => exact HC0_1.out); rintro e w20 ⟨rfl, hb⟩; refine ⟨_, rfl, ?_⟩; replace BK151 := kx BK151 hb; replace HB := hs (hb1 HB GE151) hb; (try clear hb); (try clear hb2); (try clear hk); (try clear hi); have hcz21_0 : w20.cell? ⟨gb151, 0, none⟩ = some (.int .i64 a0_0) := bc BK151 0; have hcz21_1 : w20.cell? ⟨gb151, 1, none⟩ = some (.slice A0_1 l0_1.length c0_1) := bc BK151 1; have hfz21_0 := blk_frozen BK151.out 0; have hfz21_1 := blk_frozen BK151.out 1))
   go_ret
   exact ⟨by rfl, hb1 HB GE151⟩
 ·replace c4 := Bool.eq_false_iff.mpr c4; subst c4; rw [if_neg (show ¬ (false = true) by decide)] at H; obtain rfl := Option.some.inj H
  go_enter Try.func44, Try.ntmps44
  go_wp2_with (first | ((with_reducible refine gate_dst (N := 2) rfl ?_); refine be_ 2 #[.int .i64 a0_0, .slice A0_1 l0_1.length c0_1] 31 ?_; intro gb151 hg w22 hbox hb; have BK151 := Aside0.mk (hbox); have GW151 := wq (hb0 HB) hg; have GE151 := wq (hb0 HB) hg; replace HB := hs (hb0 HB) hb; clear hb hbox hg; have hcz23_0 : w22.cell? ⟨gb151, 0, none⟩ = some (.int .i64 a0_0) := bc BK151 0; have hcz23_1 : w22.cell? ⟨gb151, 1, none⟩ = some (.slice A0_1 l0_1.length c0_1) := bc BK151 1; have hfz23_0 := blk_frozen BK151.out 0; have hfz23_1 := blk_frozen BK151.out 1) | ((with_reducible refine gate_callee (f := 55) rfl ?_); refine gl_ (some 7) Try.func55 #[.agg #[.int .i64 a0_0, .slice A0_1 l0_1.length c0_1]] ?_; (with_reducible refine (simple_Valid.calls k a0_0 _ _ l0_1 false _ ?side1 ?side2 A3.out).mono ?_); (case side1 => repeat (first | exact (Kd.C_below HR0_1.out HB.out) | (with_reducible refine Kd.C_alloc ?_ _) | (with_reducible refine Kd.C_drewN ?_ _) | (with_reducible refine Kd.C_drew ?_))); (case side2 => exact HC0_1.out); rintro e w24 ⟨rfl, hb⟩; refine ⟨_, rfl, ?_⟩; replace BK151 := kx BK151 hb; replace HB := hs (hb1 HB GE151) hb; (try clear hb); (try clear hb2); (try clear hk); (try clear hi)))
  go_ret
  exact ⟨by rfl, hb1 HB GE151⟩

end Go.Proofs.Ythfoliejhdpbaaa.PCroA
