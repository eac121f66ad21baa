-- PRINTED by print.py (a twelfth state) out of the translation. Not trusted: Lean checks it.
import Derived.Test.YtdaeaejmikhmcaaZPEditCx0
import Derived.Test.YtdaeaejmikhmcaaZPEditCx19
namespace Go.Proofs.Ytdaeaejmikhmcaa.PEditC
open Go.RowKit Go.Proofs.YtdaeaejmikhmcaaW.PrintWords Go.Proofs.YtdaeaejmikhmcaaW.PrintLast Go.Proofs.YtdaeaejmikhmcaaW.PrintMore
open Go.Proofs.YtdaeaejmikhmcaaX
attribute [local go_sem] max2_int min2_int max_two min_two max_three min_three max_four min_four   -- for this text's walks alone
set_option linter.unusedVariables false
set_option linter.unusedSimpArgs false

/-! ### tangramlaw14_told: function 21 -/
def tangramlaw14_told.f (k : Nat) (a0_0 : Int) (l0_1 : List (S46)) (a1 : Int) (a2_0 : Int) (l2_1 : List (S46)) (a3 : Int) : Option (Bool) := if a1 = a3 then ((tangramref14_Same.f k a0_0 l0_1 a2_0 l2_1).bind fun t319 => (some t319)) else (some false)
theorem tangramlaw14_told.mono : ∀ a0 a1 a2 a3 a4 a5 k, LeO (tangramlaw14_told.f k a0 a1 a2 a3 a4 a5) (tangramlaw14_told.f (k + 1) a0 a1 a2 a3 a4 a5) := by
 intro a0 a1 a2 a3 a4 a5 k
 unfold tangramlaw14_told.f
 repeat' first
   | (with_reducible exact tangramref14_Same.mono _ _ _ _ _)
   | (with_reducible exact LeO.refl _)
   | (with_reducible exact LeO.none _)
   | (with_reducible refine LeO.ite ?_ ?_)
   | (with_reducible refine LeO.bind ?_ (fun _ => ?_))
   | exact tangramref14_Same.mono _ _ _ _ _
   | exact LeO.none _
   | refine LeO.ite ?_ ?_
   | refine LeO.bind ?_ (fun _ => ?_)
set_option maxHeartbeats 8000000 in
set_option maxRecDepth 100000 in
theorem tangramlaw14_told.calls (k : Nat) (a0_0 : Int) (A0_1 : Option Addr) (c0_1 : Nat) (l0_1 : List (S46)) (a1 : Int) (a2_0 : Int) (A2_1 : Option Addr) (c2_1 : Nat) (l2_1 : List (S46)) (a3 : Int) (r : Bool) (w : World) (hr0_1 : Kd.C k46 w A0_1 l0_1.length l0_1) (hc0_1 : l0_1.length ≤ c0_1) (hr2_1 : Kd.C k46 w A2_1 l2_1.length l2_1) (hc2_1 : l2_1.length ≤ c2_1) (h : tangramlaw14_told.f k a0_0 l0_1 a1 a2_0 l2_1 a3 = some r) :
  Calls Try.prog 21 #[.agg #[.int .i64 a0_0, .slice A0_1 l0_1.length c0_1], .int .i64 a1, .agg #[.int .i64 a2_0, .slice A2_1 l2_1.length c2_1], .int .i64 a3] w fun e w' => e = .returned (.bool r) ∧ Below w.heap.size w w' := by
 have hu25 := Try.underlying25; have HR0_1 := Aside0.mk hr0_1; have HC0_1 := Aside0.mk hc0_1; clear hr0_1 hc0_1; have HR2_1 := Aside0.mk hr2_1; have HC2_1 := Aside0.mk hc2_1; clear hr2_1 hc2_1; have HB := Aside0.mk (Below.refl w.heap.size w); have H : (if a1 = a3 then ((tangramref14_Same.f k a0_0 l0_1 a2_0 l2_1).bind fun t319 => (some t319)) else (some false)) = some r := h; clear h
 by_cases c5 : a1 = a3
 ·rw [if_pos c5] at H; have c5b0 : (a1 == a3) = true := beq_iff_eq.mpr c5; have c5b1 : (a1 != a3) = false := bne_eq_false_iff_eq.mpr c5; clear c5; replace H := Option.bind_eq_some_iff.mp H; obtain ⟨t319, A60, H⟩ := H; (try dsimp only at H); have A6 := Aside0.mk A60; clear A60; obtain rfl := Option.some.inj H
  go_enter Try.func21, Try.ntmps21
  go_wp2_with (first | ((with_reducible refine gate_dst (N := 4) rfl ?_); refine be_ 4 #[.int .i64 a0_0, .slice A0_1 l0_1.length c0_1] 25 ?_; intro gb317 hg w7 hbox hb; have BK317 := Aside0.mk (hbox); have GW317 := wq (hb0 HB) hg; have GE317 := wq (hb0 HB) hg; replace HB := hs (hb0 HB) hb; clear hb hbox hg) | ((with_reducible refine gate_dst (N := 6) rfl ?_); refine be_ 6 #[.int .i64 a2_0, .slice A2_1 l2_1.length c2_1] 25 ?_; intro gb318 hg w8 hbox hb; have BK318 := Aside0.mk (hbox); have GW318 := wq (hb1 HB GE317) hg; have GE318 := wq (hb1 HB GE317) hg; replace HB := hs (hb1 HB GE317) hb; have NB317_318 := lx BK317 hg; have NB318_317 := gx BK317 hg; replace BK317 := kx BK317 hb; clear hb hbox hg; have hnb9 := NB317_318.out; have hnc9 := NB318_317.out; have hcz10_0 : w8.cell? ⟨gb317, 0, none⟩ = some (.int .i64 a0_0) := bc BK317 0; have hcz10_1 : w8.cell? ⟨gb317, 1, none⟩ = some (.slice A0_1 l0_1.length c0_1) := bc BK317 1; have hfz10_0 := blk_frozen BK317.out 0; have hfz10_1 := blk_frozen BK317.out 1; have hcz11_0 : w8.cell? ⟨gb318, 0, none⟩ = some (.int .i64 a2_0) := bc BK318 0; have hcz11_1 : w8.cell? ⟨gb318, 1, none⟩ = some (.slice A2_1 l2_1.length c2_1) := bc BK318 1; have hfz11_0 := blk_frozen BK318.out 0; have hfz11_1 := blk_frozen BK318.out 1) | (go_at_call 15; (with_reducible refine (tangramref14_Same.calls k a0_0 _ _ l0_1 a2_0 _ _ l2_1 t319 _ ?side1 ?side2 ?side3 ?side4 A6.out).mono ?_); (case side1 => repeat (first | exact (Kd.C_below HR0_1.out HB.out) | (with_reducible refine Kd.C_alloc ?_ _) | (with_reducible refine Kd.C_drewN ?_ _) | (with_reducible refine Kd.C_drew ?_))); (case side2 => exact HC0_1.out); (case side3 => repeat (first | exact (Kd.C_below HR2_1.out HB.out) | (with_reducible refine Kd.C_alloc ?_ _) | (with_reducible refine Kd.C_drewN ?_ _) | (with_reducible refine Kd.C_drew ?_))); (case side4 => exact HC2_1.out); rintro e w12 ⟨rfl, hb⟩; replace BK317 := kx BK317 hb; replace BK318 := kx BK318 hb; replace HB := hs (hb2 HB GE317 GE318) hb; (try clear hb); (try clear hb2); (try clear hk); (try clear hi)))
  go_ret
  exact ⟨by first | rfl | (simp [errW_none, errW_some] <;> rfl) | (simp [*, errW_none, errW_some] <;> rfl), hb2 HB GE317 GE318⟩
 ·rw [if_neg c5] at H; have c5b0 : (a1 == a3) = false := beq_eq_false_iff_ne.mpr c5; have c5b1 : (a1 != a3) = true := bne_iff_ne.mpr c5; obtain rfl := Option.some.inj H
  go_enter Try.func21, Try.ntmps21
  go_wp2_with (first | ((with_reducible refine gate_dst (N := 4) rfl ?_); refine be_ 4 #[.int .i64 a0_0, .slice A0_1 l0_1.length c0_1] 25 ?_; intro gb317 hg w13 hbox hb; have BK317 := Aside0.mk (hbox); have GW317 := wq (hb0 HB) hg; have GE317 := wq (hb0 HB) hg; replace HB := hs (hb0 HB) hb; clear hb hbox hg) | ((with_reducible refine gate_dst (N := 6) rfl ?_); refine be_ 6 #[.int .i64 a2_0, .slice A2_1 l2_1.length c2_1] 25 ?_; intro gb318 hg w14 hbox hb; have BK318 := Aside0.mk (hbox); have GW318 := wq (hb1 HB GE317) hg; have GE318 := wq (hb1 HB GE317) hg; replace HB := hs (hb1 HB GE317) hb; have NB317_318 := lx BK317 hg; have NB318_317 := gx BK317 hg; replace BK317 := kx BK317 hb; clear hb hbox hg))
  go_ret
  exact ⟨by first | rfl | (simp [errW_none, errW_some] <;> rfl) | (simp [*, errW_none, errW_some] <;> rfl), hb2 HB GE317 GE318⟩

end Go.Proofs.Ytdaeaejmikhmcaa.PEditC
