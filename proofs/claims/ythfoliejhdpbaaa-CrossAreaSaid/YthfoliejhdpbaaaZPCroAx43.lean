-- PRINTED by print.py (a twelfth state) out of the translation. Not trusted: Lean checks it.
import Derived.Test.YthfoliejhdpbaaaZPCroAx0
import Derived.Test.YthfoliejhdpbaaaZPCroAx27
import Derived.Test.YthfoliejhdpbaaaZPCroAx30
import Derived.Test.YthfoliejhdpbaaaZPCroAx40
import Derived.Test.YthfoliejhdpbaaaZPCroAx42
namespace Go.Proofs.Ythfoliejhdpbaaa.PCroA
open Go.RowKit Go.Proofs.YthfoliejhdpbaaaW.PrintWords Go.Proofs.YthfoliejhdpbaaaW.PrintLast Go.Proofs.YthfoliejhdpbaaaW.PrintMore
open Go.Proofs.YthfoliejhdpbaaaX
attribute [local go_sem] max2_int min2_int max_two min_two max_three min_three max_four min_four   -- for this text's walks alone
set_option linter.unusedVariables false
set_option linter.unusedSimpArgs false

/-! ### tangramlaw26_CrossArea: function 7 -/
def tangramlaw26_CrossArea.f (k : Nat) (l0 : List (S23)) : Option (Bool) := (tangramlaw26_awake.f k).bind fun t458 => (if t458 = true then ((tangramlaw26_points.f l0).bind fun t459 => ((cross_Area.f k t459).bind fun bt462 => ((tangramref26_Area.f k l0).bind fun bt464 => (if bt462.1 = bt464.1 then (some (bt462.2 == bt464.2)) else (some false))))) else (some false))
theorem tangramlaw26_CrossArea.mono : ∀ a0 k, LeO (tangramlaw26_CrossArea.f k a0) (tangramlaw26_CrossArea.f (k + 1) a0) := by
 intro a0 k
 unfold tangramlaw26_CrossArea.f
 repeat' first
   | (with_reducible exact cross_Area.mono _ _)
   | (with_reducible exact tangramlaw26_awake.mono _)
   | (with_reducible exact tangramref26_Area.mono _ _)
   | (with_reducible exact LeO.refl _)
   | (with_reducible exact LeO.none _)
   | (with_reducible refine LeO.ite ?_ ?_)
   | (with_reducible refine LeO.bind ?_ (fun _ => ?_))
   | exact cross_Area.mono _ _
   | exact tangramlaw26_awake.mono _
   | exact tangramref26_Area.mono _ _
   | exact LeO.none _
   | refine LeO.ite ?_ ?_
   | refine LeO.bind ?_ (fun _ => ?_)
set_option maxHeartbeats 8000000 in
set_option maxRecDepth 100000 in
theorem tangramlaw26_CrossArea.calls (k : Nat) (A0 : Option Addr) (c0 : Nat) (l0 : List (S23)) (r : Bool) (w : World) (hr0 : Kd.C k23 w A0 l0.length l0) (hc0 : l0.length ≤ c0) (h : tangramlaw26_CrossArea.f k l0 = some r) :
  Calls Try.prog 7 #[.slice A0 l0.length c0] w fun e w' => e = .returned (.bool r) ∧ Below w.heap.size w w' := by
 have HR0 := Aside0.mk hr0; have HC0 := Aside0.mk hc0; clear hr0 hc0; have HB := Aside0.mk (Below.refl w.heap.size w); have H : ((tangramlaw26_awake.f k).bind fun t458 => (if t458 = true then ((tangramlaw26_points.f l0).bind fun t459 => ((cross_Area.f k t459).bind fun bt462 => ((tangramref26_Area.f k l0).bind fun bt464 => (if bt462.1 = bt464.1 then (some (bt462.2 == bt464.2)) else (some false))))) else (some false))) = some r := h; clear h; replace H := Option.bind_eq_some_iff.mp H; obtain ⟨t458, A20, H⟩ := H; (try dsimp only at H); have A2 := Aside0.mk A20; clear A20
 by_cases c3 : t458 = true
 ·subst c3; rw [if_pos rfl] at H; replace H := Option.bind_eq_some_iff.mp H; obtain ⟨t459, A40, H⟩ := H; (try dsimp only at H); have A4 := Aside0.mk A40; clear A40; replace H := Option.bind_eq_some_iff.mp H; obtain ⟨⟨t462, t463⟩, A50, H⟩ := H; (try dsimp only at H); have A5 := Aside0.mk A50; clear A50; replace H := Option.bind_eq_some_iff.mp H; obtain ⟨⟨t464, t465⟩, A60, H⟩ := H; (try dsimp only at H); have A6 := Aside0.mk A60; clear A60
  by_cases c7 : t462 = t464
  ·rw [if_pos c7] at H; have c7b0 : (t462 == t464) = true := beq_iff_eq.mpr c7; have c7b1 : (t462 != t464) = false := bne_eq_false_iff_eq.mpr c7; clear c7; obtain rfl := Option.some.inj H
   go_enter Try.func7, Try.ntmps7
   go_wp2_with (first | ((with_reducible refine gate_callee (f := 11) rfl ?_); refine gl_ (some 7) Try.func11 #[] ?_; (with_reducible refine (tangramlaw26_awake.calls k  true _ A2.out).mono ?_); rintro e w8 ⟨rfl, hb⟩; refine ⟨_, rfl, ?_⟩; replace HB := hs (hb0 HB) hb; (try clear hb); (try clear hb2); (try clear hk); (try clear hi)) | ((with_reducible refine gate_callee (f := 20) rfl ?_); refine gl_ (some 11) Try.func20 #[.slice A0 l0.length c0] ?_; (with_reducible refine (tangramlaw26_points.calls _ _ l0 t459 _ ?side1 ?side2 A4.out).mono ?_); (case side1 => repeat (first | exact (Kd.C_below HR0.out HB.out) | (with_reducible refine Kd.C_alloc ?_ _) | (with_reducible refine Kd.C_drewN ?_ _) | (with_reducible refine Kd.C_drew ?_))); (case side2 => exact HC0.out); rintro e w9 ⟨v460, rfl, ho0, hb⟩; refine ⟨_, rfl, ?_⟩; have HO461 := Aside0.mk (Kd.R_lower ho0 (below_size (hb0 HB))); replace HB := hs (hb0 HB) hb; (try clear hb); (try clear hb2); (try clear hk); (try clear hi); (try clear ho0); obtain ⟨Ao10, co10, eo10⟩ := Kd.R_slice HO461.out; subst eo10) | ((with_reducible refine gate_callee (f := 29) rfl ?_); refine gl_ (some 12) Try.func29 #[.slice Ao10 t459.length co10] ?_; (with_reducible refine (cross_Area.calls k _ _ t459 t462 t463 _ ?side1 ?side2 A5.out).mono ?_); (case side1 => exact cr HO461); (case side2 => exact (Kd.R_reads' HO461.out).2.1); rintro e w11 ⟨rfl, hb⟩; refine ⟨_, rfl, ?_⟩; replace HO461 := ry HO461 hb; replace HB := hs (hb0 HB) hb; (try clear hb); (try clear hb2); (try clear hk); (try clear hi)) | ((with_reducible refine gate_callee (f := 30) rfl ?_); refine gl_ (some 17) Try.func30 #[.slice A0 l0.length c0] ?_; (with_reducible refine (tangramref26_Area.calls k _ _ l0 t464 t465 _ ?side1 ?side2 A6.out).mono ?_); (case side1 => repeat (first | exact (Kd.C_below HR0.out HB.out) | (with_reducible refine Kd.C_alloc ?_ _) | (with_reducible refine Kd.C_drewN ?_ _) | (with_reducible refine Kd.C_drew ?_))); (case side2 => exact HC0.out); rintro e w12 ⟨rfl, hb⟩; refine ⟨_, rfl, ?_⟩; replace HO461 := ry HO461 hb; replace HB := hs (hb0 HB) hb; (try clear hb); (try clear hb2); (try clear hk); (try clear hi)))
   go_ret
   exact ⟨by first | rfl | (simp [errW_none, errW_some] <;> rfl) | (simp [*, errW_none, errW_some] <;> rfl), hb0 HB⟩
  ·rw [if_neg c7] at H; have c7b0 : (t462 == t464) = false := beq_eq_false_iff_ne.mpr c7; have c7b1 : (t462 != t464) = true := bne_iff_ne.mpr c7; obtain rfl := Option.some.inj H
   go_enter Try.func7, Try.ntmps7
   go_wp2_with (first | ((with_reducible refine gate_callee (f := 11) rfl ?_); refine gl_ (some 7) Try.func11 #[] ?_; (with_reducible refine (tangramlaw26_awake.calls k  true _ A2.out).mono ?_); rintro e w13 ⟨rfl, hb⟩; refine ⟨_, rfl, ?_⟩; replace HB := hs (hb0 HB) hb; (try clear hb); (try clear hb2); (try clear hk); (try clear hi)) | ((with_reducible refine gate_callee (f := 20) rfl ?_); refine gl_ (some 11) Try.func20 #[.slice A0 l0.length c0] ?_; (with_reducible refine (tangramlaw26_points.calls _ _ l0 t459 _ ?side1 ?side2 A4.out).mono ?_); (case side1 => repeat (first | exact (Kd.C_below HR0.out HB.out) | (with_reducible refine Kd.C_alloc ?_ _) | (with_reducible refine Kd.C_drewN ?_ _) | (with_reducible refine Kd.C_drew ?_))); (case side2 => exact HC0.out); rintro e w14 ⟨v460, rfl, ho0, hb⟩; refine ⟨_, rfl, ?_⟩; have HO461 := Aside0.mk (Kd.R_lower ho0 (below_size (hb0 HB))); replace HB := hs (hb0 HB) hb; (try clear hb); (try clear hb2); (try clear hk); (try clear hi); (try clear ho0); obtain ⟨Ao15, co15, eo15⟩ := Kd.R_slice HO461.out; subst eo15) | ((with_reducible refine gate_callee (f := 29) rfl ?_); refine gl_ (some 12) Try.func29 #[.slice Ao15 t459.length co15] ?_; (with_reducible refine (cross_Area.calls k _ _ t459 t462 t463 _ ?side1 ?side2 A5.out).mono ?_); (case side1 => exact cr HO461); (case side2 => exact (Kd.R_reads' HO461.out).2.1); rintro e w16 ⟨rfl, hb⟩; refine ⟨_, rfl, ?_⟩; replace HO461 := ry HO461 hb; replace HB := hs (hb0 HB) hb; (try clear hb); (try clear hb2); (try clear hk); (try clear hi)) | ((with_reducible refine gate_callee (f := 30) rfl ?_); refine gl_ (some 17) Try.func30 #[.slice A0 l0.length c0] ?_; (with_reducible refine (tangramref26_Area.calls k _ _ l0 t464 t465 _ ?side1 ?side2 A6.out).mono ?_); (case side1 => repeat (first | exact (Kd.C_below HR0.out HB.out) | (with_reducible refine Kd.C_alloc ?_ _) | (with_reducible refine Kd.C_drewN ?_ _) | (with_reducible refine Kd.C_drew ?_))); (case side2 => exact HC0.out); rintro e w17 ⟨rfl, hb⟩; refine ⟨_, rfl, ?_⟩; replace HO461 := ry HO461 hb; replace HB := hs (hb0 HB) hb; (try clear hb); (try clear hb2); (try clear hk); (try clear hi)))
   go_ret
   exact ⟨by first | rfl | (simp [errW_none, errW_some] <;> rfl) | (simp [*, errW_none, errW_some] <;> rfl), hb0 HB⟩
 ·replace c3 := Bool.eq_false_iff.mpr c3; subst c3; rw [if_neg (show ¬ (false = true) by decide)] at H; obtain rfl := Option.some.inj H
  go_enter Try.func7, Try.ntmps7
  go_wp2_with (first | ((with_reducible refine gate_callee (f := 11) rfl ?_); refine gl_ (some 7) Try.func11 #[] ?_; (with_reducible refine (tangramlaw26_awake.calls k  false _ A2.out).mono ?_); rintro e w18 ⟨rfl, hb⟩; refine ⟨_, rfl, ?_⟩; replace HB := hs (hb0 HB) hb; (try clear hb); (try clear hb2); (try clear hk); (try clear hi)))
  go_ret
  exact ⟨by first | rfl | (simp [errW_none, errW_some] <;> rfl) | (simp [*, errW_none, errW_some] <;> rfl), hb0 HB⟩

end Go.Proofs.Ythfoliejhdpbaaa.PCroA
