import Derived.Test.YthejafdcdcchbaaDoorZPSimAx0
import Derived.Test.YthejafdcdcchbaaDoorZPSimAx8
import Derived.Test.YthejafdcdcchbaaDoorZPSimAx7
-- PRINTED by print.py (a twelfth state) out of the translation. Not trusted: Lean checks it.
namespace Go.Proofs.YthejafdcdcchbaaDoor.PSimA
open Go.RowKit Go.Proofs.YthejafdcdcchbaaDoorW.PrintWords Go.Proofs.YthejafdcdcchbaaDoorW.PrintLast Go.Proofs.YthejafdcdcchbaaDoorW.PrintMore
open Go.Proofs.YthejafdcdcchbaaDoorX
attribute [local go_sem] max2_int min2_int max_two min_two max_three min_three max_four min_four   -- for this text's walks alone
set_option linter.unusedVariables false
set_option linter.unusedSimpArgs false

/-! ### simple_Ends: function 19 -/
def simple_Ends.j0 : Nat → Int → Bool → Int → List (S42) → Option (Int × Int × Bool)
 | 0, _, _, _, _ => none
 | k + 1, x1, x22, x162000, x162001 => if x22 = true then (some (0, 0, false)) else (if 0 ≤ (wrap64 (Int.tdiv x1 2)) then (if (wrap64 (Int.tdiv x1 2)) < (x162001.length : Int) then (if (Int.tmod x1 2) = 1 then (some ((rd_T42 x162001 (wrap64 (Int.tdiv x1 2))).f1, (rd_T42 x162001 (wrap64 (Int.tdiv x1 2))).f0, true)) else (some ((rd_T42 x162001 (wrap64 (Int.tdiv x1 2))).f0, (rd_T42 x162001 (wrap64 (Int.tdiv x1 2))).f1, true))) else (none)) else (none))
def simple_Ends.f (k : Nat) (a0_0 : Int) (l0_1 : List (S42)) (a1 : Int) : Option (Int × Int × Bool) := (simple_Valid.f k a0_0 l0_1).bind fun t162 => (if t162 = true then (if a1 < 0 then (simple_Ends.j0 k a1 true a0_0 l0_1) else (simple_Ends.j0 k a1 (decide (a1 ≥ (wrap64 (2 * (l0_1.length : Int))))) a0_0 l0_1)) else (simple_Ends.j0 k a1 true a0_0 l0_1))
theorem simple_Ends.mono_l : ∀ k, (∀ y0 y1 y2 y3, LeO (simple_Ends.j0 k y0 y1 y2 y3) (simple_Ends.j0 (k + 1) y0 y1 y2 y3))
 | 0 => fun _ _ _ _ r h => by simp [simple_Ends.j0] at h
 | k + 1 => by
  have ih0 := simple_Ends.mono_l k
  ·intro y0 y1 y2 y3
   unfold simple_Ends.j0
   repeat' first
   | (with_reducible exact ih0 _ _ _ _)
   | (with_reducible exact simple_Valid.mono _ _ _)
   | (with_reducible exact LeO.refl _)
   | (with_reducible exact LeO.none _)
   | (with_reducible refine LeO.ite ?_ ?_)
   | (with_reducible refine LeO.bind ?_ (fun _ => ?_))
   | exact ih0 _ _ _ _
   | exact simple_Valid.mono _ _ _
   | exact LeO.none _
   | refine LeO.ite ?_ ?_
   | refine LeO.bind ?_ (fun _ => ?_)
theorem simple_Ends.mono : ∀ a0 a1 a2 k, LeO (simple_Ends.f k a0 a1 a2) (simple_Ends.f (k + 1) a0 a1 a2) := by
 intro a0 a1 a2 k; have ih0 := simple_Ends.mono_l k
 unfold simple_Ends.f
 repeat' first
   | (with_reducible exact ih0 _ _ _ _)
   | (with_reducible exact simple_Valid.mono _ _ _)
   | (with_reducible exact LeO.refl _)
   | (with_reducible exact LeO.none _)
   | (with_reducible refine LeO.ite ?_ ?_)
   | (with_reducible refine LeO.bind ?_ (fun _ => ?_))
   | exact ih0 _ _ _ _
   | exact simple_Valid.mono _ _ _
   | exact LeO.none _
   | refine LeO.ite ?_ ?_
   | refine LeO.bind ?_ (fun _ => ?_)
set_option maxHeartbeats 8000000 in
set_option maxRecDepth 100000 in
theorem simple_Ends.calls (k : Nat) (a0_0 : Int) (A0_1 : Option Addr) (c0_1 : Nat) (l0_1 : List (S42)) (a1 : Int) (r1 : Int) (r2 : Int) (r3 : Bool) (w : World) (hr0_1 : Kd.C k42 w A0_1 l0_1.length l0_1) (hc0_1 : l0_1.length ≤ c0_1) (h : simple_Ends.f k a0_0 l0_1 a1 = some (r1, r2, r3)) :
  Calls Tryd.prog 19 #[.agg #[.int .i64 a0_0, .slice A0_1 l0_1.length c0_1], .int .i64 a1] w fun e w' => e = .returned (.tuple #[.int .i64 r1, .int .i64 r2, .bool r3]) ∧ Below w.heap.size w w' := by
 have hu26 := Tryd.underlying26; have hu42 := Tryd.underlying42; have HR0_1 := Aside0.mk hr0_1; have HC0_1 := Aside0.mk hc0_1; clear hr0_1 hc0_1; have HB := Aside0.mk (Below.refl w.heap.size w); have H : ((simple_Valid.f k a0_0 l0_1).bind fun t162 => (if t162 = true then (if a1 < 0 then (simple_Ends.j0 k a1 true a0_0 l0_1) else (simple_Ends.j0 k a1 (decide (a1 ≥ (wrap64 (2 * (l0_1.length : Int))))) a0_0 l0_1)) else (simple_Ends.j0 k a1 true a0_0 l0_1))) = some (r1, r2, r3) := h; clear h; have HC3 := Aside0.mk H; clear H
 go_enter Tryd.func19, Tryd.ntmps19
 go_upto_region 1 with (first | ((with_reducible refine gate_dst (N := 2) rfl ?_); (try (refine gate_guard (by rfl) ?_; dsimp only)); refine be_ 2 #[.int .i64 a0_0, .slice A0_1 l0_1.length c0_1] 26 ?_; intro gb161 hg w4 hbox hb; have BK161 := Aside0.mk (hbox); have GW161 := wq (hb0 HB) hg; have GE161 := wq (hb0 HB) hg; replace HB := hs (hb0 HB) hb; clear hb hbox hg))
 repeat (go_quiet (first | ((with_reducible refine gate_dst (N := 2) rfl ?_); (try (refine gate_guard (by rfl) ?_; dsimp only)); refine be_ 2 #[.int .i64 a0_0, .slice A0_1 l0_1.length c0_1] 26 ?_; intro gb161 hg w4 hbox hb; have BK161 := Aside0.mk (hbox); have GW161 := wq (hb0 HB) hg; have GE161 := wq (hb0 HB) hg; replace HB := hs (hb0 HB) hb; clear hb hbox hg)); go_upto_region 1 with (first | ((with_reducible refine gate_dst (N := 2) rfl ?_); (try (refine gate_guard (by rfl) ?_; dsimp only)); refine be_ 2 #[.int .i64 a0_0, .slice A0_1 l0_1.length c0_1] 26 ?_; intro gb161 hg w4 hbox hb; have BK161 := Aside0.mk (hbox); have GW161 := wq (hb0 HB) hg; have GE161 := wq (hb0 HB) hg; replace HB := hs (hb0 HB) hb; clear hb hbox hg)))
 (try simp only [Act.put, List.setIfInBounds_toArray, List.set_cons_zero, List.set_cons_succ])
 go_cut [22] (fun v22 wc => ∃ (kq : Nat) (x22_2 : Bool), v22 = .bool x22_2 ∧ Aside0 (simple_Ends.j0 kq a1 x22_2 a0_0 l0_1 = some (r1, r2, r3)) ∧ Aside0 (kq ≤ k) ∧ Aside0 (wc.heap[gb161]? = some (.cells #[.int .i64 a0_0, (.slice A0_1 l0_1.length c0_1)] 26 (0, 0))) ∧ Aside0 (Below w.heap.size w wc))
 case first => as_aux_lemma =>
  have H := HC3.out; clear HC3; replace H := Option.bind_eq_some_iff.mp H; obtain ⟨t162, A50, H⟩ := H; replace H : (if t162 = true then (if a1 < 0 then (simple_Ends.j0 k a1 true a0_0 l0_1) else (simple_Ends.j0 k a1 (decide (a1 ≥ (wrap64 (2 * (l0_1.length : Int))))) a0_0 l0_1)) else (simple_Ends.j0 k a1 true a0_0 l0_1)) = some (r1, r2, r3) := H; have A5 := Aside0.mk A50; clear A50
  by_cases c6 : t162 = true
  ·subst c6; have H1 : (if a1 < 0 then (simple_Ends.j0 k a1 true a0_0 l0_1) else (simple_Ends.j0 k a1 (decide (a1 ≥ (wrap64 (2 * (l0_1.length : Int))))) a0_0 l0_1)) = some (r1, r2, r3) := by rw [if_pos rfl] at H; exact H
   clear H; have H := H1; clear H1
   by_cases c7 : a1 < 0
   ·rw [if_pos c7] at H; have c7b0 : decide (a1 < 0) = true := decide_eq_true c7; clear c7
    (first | rw [c7b0] | (simp only [i64_w, i32_w]; rw [c7b0]) | skip)
    have H' := Aside0.mk H; clear H; have hcz8_0 : w4.cell? ⟨gb161, 0, none⟩ = some (.int .i64 a0_0) := bc BK161 0; have hcz8_1 : w4.cell? ⟨gb161, 1, none⟩ = some (.slice A0_1 l0_1.length c0_1) := bc BK161 1; have hfz8_0 := blk_frozen BK161.out 0; have hfz8_1 := blk_frozen BK161.out 1
    go_wp2_with (first | (go_at_call 24; (with_reducible refine (simple_Valid.calls k a0_0 _ _ l0_1 true _ ?side1 ?side2 A5.out).mono ?_); (case side1 => repeat (first | exact (Kd.C_below HR0_1.out HB.out) | (with_reducible refine Kd.C_alloc ?_ _) | (with_reducible refine Kd.C_drewN ?_ _) | (with_reducible refine Kd.C_drew ?_))); (case side2 => exact HC0_1.out); rintro e w9 ⟨rfl, hb⟩; replace BK161 := kx BK161 hb; replace HB := hs (hb1 HB GE161) hb; (try clear hb); (try clear hb2); (try clear hk); (try clear hi)))
    repeat (go_quiet (first | (go_at_call 24; (with_reducible refine (simple_Valid.calls k a0_0 _ _ l0_1 true _ ?side1 ?side2 A5.out).mono ?_); (case side1 => repeat (first | exact (Kd.C_below HR0_1.out HB.out) | (with_reducible refine Kd.C_alloc ?_ _) | (with_reducible refine Kd.C_drewN ?_ _) | (with_reducible refine Kd.C_drew ?_))); (case side2 => exact HC0_1.out); rintro e w9 ⟨rfl, hb⟩; replace BK161 := kx BK161 hb; replace HB := hs (hb1 HB GE161) hb; (try clear hb); (try clear hb2); (try clear hk); (try clear hi))); try go_wp2_with (first | (go_at_call 24; (with_reducible refine (simple_Valid.calls k a0_0 _ _ l0_1 true _ ?side1 ?side2 A5.out).mono ?_); (case side1 => repeat (first | exact (Kd.C_below HR0_1.out HB.out) | (with_reducible refine Kd.C_alloc ?_ _) | (with_reducible refine Kd.C_drewN ?_ _) | (with_reducible refine Kd.C_drew ?_))); (case side2 => exact HC0_1.out); rintro e w9 ⟨rfl, hb⟩; replace BK161 := kx BK161 hb; replace HB := hs (hb1 HB GE161) hb; (try clear hb); (try clear hb2); (try clear hk); (try clear hi))))
    go_meet
    case rel => exact ⟨_, (true), (by first | rfl | (simp; done) | (simp [*]; done)), H', ⟨by first | omega | exact Nat.le_refl _⟩, ⟨bx BK161⟩, ⟨hb1 HB GE161⟩⟩
   ·rw [if_neg c7] at H; have c7b0 : decide (a1 < 0) = false := decide_eq_false c7; clear c7
    (first | rw [c7b0] | (simp only [i64_w, i32_w]; rw [c7b0]) | skip)
    have H' := Aside0.mk H; clear H; have hcz10_0 : w4.cell? ⟨gb161, 0, none⟩ = some (.int .i64 a0_0) := bc BK161 0; have hcz10_1 : w4.cell? ⟨gb161, 1, none⟩ = some (.slice A0_1 l0_1.length c0_1) := bc BK161 1; have hfz10_0 := blk_frozen BK161.out 0; have hfz10_1 := blk_frozen BK161.out 1
    go_wp2_with (first | (go_at_call 24; (with_reducible refine (simple_Valid.calls k a0_0 _ _ l0_1 true _ ?side1 ?side2 A5.out).mono ?_); (case side1 => repeat (first | exact (Kd.C_below HR0_1.out HB.out) | (with_reducible refine Kd.C_alloc ?_ _) | (with_reducible refine Kd.C_drewN ?_ _) | (with_reducible refine Kd.C_drew ?_))); (case side2 => exact HC0_1.out); rintro e w11 ⟨rfl, hb⟩; replace BK161 := kx BK161 hb; replace HB := hs (hb1 HB GE161) hb; (try clear hb); (try clear hb2); (try clear hk); (try clear hi); have hcz12_0 : w11.cell? ⟨gb161, 0, none⟩ = some (.int .i64 a0_0) := bc BK161 0; have hcz12_1 : w11.cell? ⟨gb161, 1, none⟩ = some (.slice A0_1 l0_1.length c0_1) := bc BK161 1; have hfz12_0 := blk_frozen BK161.out 0; have hfz12_1 := blk_frozen BK161.out 1))
    repeat (go_quiet (first | (go_at_call 24; (with_reducible refine (simple_Valid.calls k a0_0 _ _ l0_1 true _ ?side1 ?side2 A5.out).mono ?_); (case side1 => repeat (first | exact (Kd.C_below HR0_1.out HB.out) | (with_reducible refine Kd.C_alloc ?_ _) | (with_reducible refine Kd.C_drewN ?_ _) | (with_reducible refine Kd.C_drew ?_))); (case side2 => exact HC0_1.out); rintro e w11 ⟨rfl, hb⟩; replace BK161 := kx BK161 hb; replace HB := hs (hb1 HB GE161) hb; (try clear hb); (try clear hb2); (try clear hk); (try clear hi); have hcz12_0 : w11.cell? ⟨gb161, 0, none⟩ = some (.int .i64 a0_0) := bc BK161 0; have hcz12_1 : w11.cell? ⟨gb161, 1, none⟩ = some (.slice A0_1 l0_1.length c0_1) := bc BK161 1; have hfz12_0 := blk_frozen BK161.out 0; have hfz12_1 := blk_frozen BK161.out 1)); try go_wp2_with (first | (go_at_call 24; (with_reducible refine (simple_Valid.calls k a0_0 _ _ l0_1 true _ ?side1 ?side2 A5.out).mono ?_); (case side1 => repeat (first | exact (Kd.C_below HR0_1.out HB.out) | (with_reducible refine Kd.C_alloc ?_ _) | (with_reducible refine Kd.C_drewN ?_ _) | (with_reducible refine Kd.C_drew ?_))); (case side2 => exact HC0_1.out); rintro e w11 ⟨rfl, hb⟩; replace BK161 := kx BK161 hb; replace HB := hs (hb1 HB GE161) hb; (try clear hb); (try clear hb2); (try clear hk); (try clear hi); have hcz12_0 : w11.cell? ⟨gb161, 0, none⟩ = some (.int .i64 a0_0) := bc BK161 0; have hcz12_1 : w11.cell? ⟨gb161, 1, none⟩ = some (.slice A0_1 l0_1.length c0_1) := bc BK161 1; have hfz12_0 := blk_frozen BK161.out 0; have hfz12_1 := blk_frozen BK161.out 1)))
    go_meet
    case rel => exact ⟨_, (decide (a1 ≥ (wrap64 (2 * (l0_1.length : Int))))), (by first | rfl | (simp; done) | (simp [*]; done)), H', ⟨by first | omega | exact Nat.le_refl _⟩, ⟨bx BK161⟩, ⟨hb1 HB GE161⟩⟩
  ·replace c6 := Bool.eq_false_iff.mpr c6; subst c6; have H1 : (simple_Ends.j0 k a1 true a0_0 l0_1) = some (r1, r2, r3) := by rw [if_neg (show ¬ (false = true) by decide)] at H; exact H
   clear H; have H := H1; clear H1; have H' := Aside0.mk H; clear H; have hcz13_0 : w4.cell? ⟨gb161, 0, none⟩ = some (.int .i64 a0_0) := bc BK161 0; have hcz13_1 : w4.cell? ⟨gb161, 1, none⟩ = some (.slice A0_1 l0_1.length c0_1) := bc BK161 1; have hfz13_0 := blk_frozen BK161.out 0; have hfz13_1 := blk_frozen BK161.out 1
   go_wp2_with (first | (go_at_call 24; (with_reducible refine (simple_Valid.calls k a0_0 _ _ l0_1 false _ ?side1 ?side2 A5.out).mono ?_); (case side1 => repeat (first | exact (Kd.C_below HR0_1.out HB.out) | (with_reducible refine Kd.C_alloc ?_ _) | (with_reducible refine Kd.C_drewN ?_ _) | (with_reducible refine Kd.C_drew ?_))); (case side2 => exact HC0_1.out); rintro e w14 ⟨rfl, hb⟩; replace BK161 := kx BK161 hb; replace HB := hs (hb1 HB GE161) hb; (try clear hb); (try clear hb2); (try clear hk); (try clear hi)))
   repeat (go_quiet (first | (go_at_call 24; (with_reducible refine (simple_Valid.calls k a0_0 _ _ l0_1 false _ ?side1 ?side2 A5.out).mono ?_); (case side1 => repeat (first | exact (Kd.C_below HR0_1.out HB.out) | (with_reducible refine Kd.C_alloc ?_ _) | (with_reducible refine Kd.C_drewN ?_ _) | (with_reducible refine Kd.C_drew ?_))); (case side2 => exact HC0_1.out); rintro e w14 ⟨rfl, hb⟩; replace BK161 := kx BK161 hb; replace HB := hs (hb1 HB GE161) hb; (try clear hb); (try clear hb2); (try clear hk); (try clear hi))); try go_wp2_with (first | (go_at_call 24; (with_reducible refine (simple_Valid.calls k a0_0 _ _ l0_1 false _ ?side1 ?side2 A5.out).mono ?_); (case side1 => repeat (first | exact (Kd.C_below HR0_1.out HB.out) | (with_reducible refine Kd.C_alloc ?_ _) | (with_reducible refine Kd.C_drewN ?_ _) | (with_reducible refine Kd.C_drew ?_))); (case side2 => exact HC0_1.out); rintro e w14 ⟨rfl, hb⟩; replace BK161 := kx BK161 hb; replace HB := hs (hb1 HB GE161) hb; (try clear hb); (try clear hb2); (try clear hk); (try clear hi))))
   go_meet
   case rel => exact ⟨_, (true), (by first | rfl | (simp; done) | (simp [*]; done)), H', ⟨by first | omega | exact Nat.le_refl _⟩, ⟨bx BK161⟩, ⟨hb1 HB GE161⟩⟩
 case rest => as_aux_lemma =>
  clear HC3
  try clear c1
  try clear p2
  try clear c6
  try clear p6
  try clear c7
  try clear c7b0
  try clear hcz10_0
  try clear hcz10_1
  try clear hcz12_0
  try clear hcz12_1
  try clear hcz13_0
  try clear hcz13_1
  try clear hcz8_0
  try clear hcz8_1
  try clear hfz10_0
  try clear hfz10_1
  try clear hfz12_0
  try clear hfz12_1
  try clear hfz13_0
  try clear hfz13_1
  try clear hfz8_0
  try clear hfz8_1
  obtain ⟨kq, x22_2, rfl, HA, HJ2, BK161, HB⟩ := hcut
  cases kq with
  | zero => exact absurd HA.out (by simp [simple_Ends.j0])
  | succ kj2 =>
   have H := HA.out; clear HA; simp only [simple_Ends.j0] at H
   by_cases c15 : x22_2 = true
   ·subst c15; have H1 : (some (0, 0, false)) = some (r1, r2, r3) := by rw [if_pos rfl] at H; exact H
    clear H; have H := H1; clear H1; simp only [Option.some.injEq, Prod.mk.injEq] at H; obtain ⟨rfl, rfl, rfl⟩ := H
    go_wp2
    repeat (go_quiet (fail); try go_wp2)
    go_ret3
    exact ⟨by first | rfl | (simp [errW_none, errW_some] <;> rfl) | (simp [*, errW_none, errW_some] <;> rfl), hb1 HB GE161⟩
   ·replace c15 := Bool.eq_false_iff.mpr c15; subst c15; have H1 : (if 0 ≤ (wrap64 (Int.tdiv a1 2)) then (if (wrap64 (Int.tdiv a1 2)) < (l0_1.length : Int) then (if (Int.tmod a1 2) = 1 then (some ((rd_T42 l0_1 (wrap64 (Int.tdiv a1 2))).f1, (rd_T42 l0_1 (wrap64 (Int.tdiv a1 2))).f0, true)) else (some ((rd_T42 l0_1 (wrap64 (Int.tdiv a1 2))).f0, (rd_T42 l0_1 (wrap64 (Int.tdiv a1 2))).f1, true))) else (none)) else (none)) = some (r1, r2, r3) := by rw [if_neg (show ¬ (false = true) by decide)] at H; exact H
    clear H; have H := H1; clear H1; obtain ⟨ji16, hji16⟩ : ∃ j_ : Int, (wrap64 (Int.tdiv a1 2)) = j_ := ⟨_, rfl⟩; replace H : (if 0 ≤ (ji16) then (if (ji16) < (l0_1.length : Int) then (if (Int.tmod a1 2) = 1 then (some ((rd_T42 l0_1 (ji16)).f1, (rd_T42 l0_1 (ji16)).f0, true)) else (some ((rd_T42 l0_1 (ji16)).f0, (rd_T42 l0_1 (ji16)).f1, true))) else (none)) else (none)) = some (r1, r2, r3) := by first | (rw [hji16] at H; exact H) | (simp only [hji16] at H ⊢; exact H)
    have hji16w : (IntKind.i64.wrap (Int.tdiv a1 2)) = ji16 := (i64_w _).trans hji16
    by_cases c17 : 0 ≤ (ji16)
    ·rw [if_pos c17] at H; have c17b0 : decide (0 ≤ (ji16)) = true := decide_eq_true c17; clear c17
     by_cases c18 : (ji16) < (l0_1.length : Int)
     ·rw [if_pos c18] at H; have c18b0 : decide ((ji16) < (l0_1.length : Int)) = true := decide_eq_true c18; clear c18
      by_cases c19 : (Int.tmod a1 2) = 1
      ·rw [if_pos c19] at H; have c19b0 : ((Int.tmod a1 2) == 1) = true := beq_iff_eq.mpr c19; have c19b1 : ((Int.tmod a1 2) != 1) = false := bne_eq_false_iff_eq.mpr c19; clear c19; simp only [Option.some.injEq, Prod.mk.injEq] at H; obtain ⟨rfl, rfl, rfl⟩ := H; have hcz20_0 : wc.cell? ⟨gb161, 0, none⟩ = some (.int .i64 a0_0) := bc BK161 0; have hcz20_1 : wc.cell? ⟨gb161, 1, none⟩ = some (.slice A0_1 l0_1.length c0_1) := bc BK161 1; have hfz20_0 := blk_frozen BK161.out 0; have hfz20_1 := blk_frozen BK161.out 1; have p163 : 0 ≤ ((ji16) : Int) := of_decide_eq_true (by first | (with_reducible assumption) | assumption); have q163 : (ji16) < (l0_1.length : Int) := of_decide_eq_true (by first | (with_reducible assumption) | assumption); obtain ⟨ad163, e163, hx163_0, hx163_1⟩ := at_T42 HR0_1.out (ji16) p163 q163
       cases e163
       replace hx163_0 := (HB.out.cell (World.block_lt_of_cell? w _ hx163_0)).trans hx163_0; replace hx163_1 := (HB.out.cell (World.block_lt_of_cell? w _ hx163_1)).trans hx163_1; replace p163 := eq_true p163; replace q163 := eq_true q163
       go_wp2_with (first | ((with_reducible refine gate_dst (N := 7) rfl ?_); (try (refine gate_guard (by rfl) ?_; dsimp only)); refine be_ 7 #[.int .i64 0, .int .i64 0] 42 ?_; intro gb164 hg w21 hbox hb; have BK164 := Aside0.mk (hbox); have GW164 := wq (hb1 HB GE161) hg; have GE164 := wq (hb1 HB GE161) hg; replace HB := hs (hb1 HB GE161) hb; have NB161_164 := lx BK161 hg; have NB164_161 := gx BK161 hg; replace BK161 := kx BK161 hb; clear hb hbox hg; have hnb22 := NB164_161.out; have hnc22 := NB161_164.out; have hcz23_0 : w21.cell? ⟨gb164, 0, none⟩ = some (.int .i64 0) := bc BK164 0; have hcz23_1 : w21.cell? ⟨gb164, 1, none⟩ = some (.int .i64 0) := bc BK164 1; have hfz23_0 := blk_frozen BK164.out 0; have hfz23_1 := blk_frozen BK164.out 1))
       repeat (go_quiet (first | ((with_reducible refine gate_dst (N := 7) rfl ?_); (try (refine gate_guard (by rfl) ?_; dsimp only)); refine be_ 7 #[.int .i64 0, .int .i64 0] 42 ?_; intro gb164 hg w21 hbox hb; have BK164 := Aside0.mk (hbox); have GW164 := wq (hb1 HB GE161) hg; have GE164 := wq (hb1 HB GE161) hg; replace HB := hs (hb1 HB GE161) hb; have NB161_164 := lx BK161 hg; have NB164_161 := gx BK161 hg; replace BK161 := kx BK161 hb; clear hb hbox hg; have hnb22 := NB164_161.out; have hnc22 := NB161_164.out; have hcz23_0 : w21.cell? ⟨gb164, 0, none⟩ = some (.int .i64 0) := bc BK164 0; have hcz23_1 : w21.cell? ⟨gb164, 1, none⟩ = some (.int .i64 0) := bc BK164 1; have hfz23_0 := blk_frozen BK164.out 0; have hfz23_1 := blk_frozen BK164.out 1)); try go_wp2_with (first | ((with_reducible refine gate_dst (N := 7) rfl ?_); (try (refine gate_guard (by rfl) ?_; dsimp only)); refine be_ 7 #[.int .i64 0, .int .i64 0] 42 ?_; intro gb164 hg w21 hbox hb; have BK164 := Aside0.mk (hbox); have GW164 := wq (hb1 HB GE161) hg; have GE164 := wq (hb1 HB GE161) hg; replace HB := hs (hb1 HB GE161) hb; have NB161_164 := lx BK161 hg; have NB164_161 := gx BK161 hg; replace BK161 := kx BK161 hb; clear hb hbox hg; have hnb22 := NB164_161.out; have hnc22 := NB161_164.out; have hcz23_0 : w21.cell? ⟨gb164, 0, none⟩ = some (.int .i64 0) := bc BK164 0; have hcz23_1 : w21.cell? ⟨gb164, 1, none⟩ = some (.int .i64 0) := bc BK164 1; have hfz23_0 := blk_frozen BK164.out 0; have hfz23_1 := blk_frozen BK164.out 1)))
       go_ret3
       exact ⟨by first | rfl | (simp [errW_none, errW_some] <;> rfl) | (simp only [← hji16]; first | rfl | (simp [errW_none, errW_some] <;> rfl)) | (simp [*, errW_none, errW_some] <;> rfl), hb2 HB GE161 GE164⟩
      ·rw [if_neg c19] at H; have c19b0 : ((Int.tmod a1 2) == 1) = false := beq_eq_false_iff_ne.mpr c19; have c19b1 : ((Int.tmod a1 2) != 1) = true := bne_iff_ne.mpr c19; simp only [Option.some.injEq, Prod.mk.injEq] at H; obtain ⟨rfl, rfl, rfl⟩ := H; have hcz24_0 : wc.cell? ⟨gb161, 0, none⟩ = some (.int .i64 a0_0) := bc BK161 0; have hcz24_1 : wc.cell? ⟨gb161, 1, none⟩ = some (.slice A0_1 l0_1.length c0_1) := bc BK161 1; have hfz24_0 := blk_frozen BK161.out 0; have hfz24_1 := blk_frozen BK161.out 1; have p163 : 0 ≤ ((ji16) : Int) := of_decide_eq_true (by first | (with_reducible assumption) | assumption); have q163 : (ji16) < (l0_1.length : Int) := of_decide_eq_true (by first | (with_reducible assumption) | assumption); obtain ⟨ad163, e163, hx163_0, hx163_1⟩ := at_T42 HR0_1.out (ji16) p163 q163
       cases e163
       replace hx163_0 := (HB.out.cell (World.block_lt_of_cell? w _ hx163_0)).trans hx163_0; replace hx163_1 := (HB.out.cell (World.block_lt_of_cell? w _ hx163_1)).trans hx163_1; replace p163 := eq_true p163; replace q163 := eq_true q163
       go_wp2_with (first | ((with_reducible refine gate_dst (N := 7) rfl ?_); (try (refine gate_guard (by rfl) ?_; dsimp only)); refine be_ 7 #[.int .i64 0, .int .i64 0] 42 ?_; intro gb164 hg w25 hbox hb; have BK164 := Aside0.mk (hbox); have GW164 := wq (hb1 HB GE161) hg; have GE164 := wq (hb1 HB GE161) hg; replace HB := hs (hb1 HB GE161) hb; have NB161_164 := lx BK161 hg; have NB164_161 := gx BK161 hg; replace BK161 := kx BK161 hb; clear hb hbox hg; have hnb26 := NB164_161.out; have hnc26 := NB161_164.out; have hcz27_0 : w25.cell? ⟨gb164, 0, none⟩ = some (.int .i64 0) := bc BK164 0; have hcz27_1 : w25.cell? ⟨gb164, 1, none⟩ = some (.int .i64 0) := bc BK164 1; have hfz27_0 := blk_frozen BK164.out 0; have hfz27_1 := blk_frozen BK164.out 1))
       repeat (go_quiet (first | ((with_reducible refine gate_dst (N := 7) rfl ?_); (try (refine gate_guard (by rfl) ?_; dsimp only)); refine be_ 7 #[.int .i64 0, .int .i64 0] 42 ?_; intro gb164 hg w25 hbox hb; have BK164 := Aside0.mk (hbox); have GW164 := wq (hb1 HB GE161) hg; have GE164 := wq (hb1 HB GE161) hg; replace HB := hs (hb1 HB GE161) hb; have NB161_164 := lx BK161 hg; have NB164_161 := gx BK161 hg; replace BK161 := kx BK161 hb; clear hb hbox hg; have hnb26 := NB164_161.out; have hnc26 := NB161_164.out; have hcz27_0 : w25.cell? ⟨gb164, 0, none⟩ = some (.int .i64 0) := bc BK164 0; have hcz27_1 : w25.cell? ⟨gb164, 1, none⟩ = some (.int .i64 0) := bc BK164 1; have hfz27_0 := blk_frozen BK164.out 0; have hfz27_1 := blk_frozen BK164.out 1)); try go_wp2_with (first | ((with_reducible refine gate_dst (N := 7) rfl ?_); (try (refine gate_guard (by rfl) ?_; dsimp only)); refine be_ 7 #[.int .i64 0, .int .i64 0] 42 ?_; intro gb164 hg w25 hbox hb; have BK164 := Aside0.mk (hbox); have GW164 := wq (hb1 HB GE161) hg; have GE164 := wq (hb1 HB GE161) hg; replace HB := hs (hb1 HB GE161) hb; have NB161_164 := lx BK161 hg; have NB164_161 := gx BK161 hg; replace BK161 := kx BK161 hb; clear hb hbox hg; have hnb26 := NB164_161.out; have hnc26 := NB161_164.out; have hcz27_0 : w25.cell? ⟨gb164, 0, none⟩ = some (.int .i64 0) := bc BK164 0; have hcz27_1 : w25.cell? ⟨gb164, 1, none⟩ = some (.int .i64 0) := bc BK164 1; have hfz27_0 := blk_frozen BK164.out 0; have hfz27_1 := blk_frozen BK164.out 1)))
       go_ret3
       exact ⟨by first | rfl | (simp [errW_none, errW_some] <;> rfl) | (simp only [← hji16]; first | rfl | (simp [errW_none, errW_some] <;> rfl)) | (simp [*, errW_none, errW_some] <;> rfl), hb2 HB GE161 GE164⟩
     ·rw [if_neg c18] at H; exact absurd H (by simp)
    ·rw [if_neg c17] at H; exact absurd H (by simp)

end Go.Proofs.YthejafdcdcchbaaDoor.PSimA

-- PRINTED by print.py (a twelfth state) out of the translation. Not trusted: Lean checks it.
namespace Go.Proofs.YthejafdcdcchbaaDoor.PSimA
open Go.RowKit Go.Proofs.YthejafdcdcchbaaDoorW.PrintWords Go.Proofs.YthejafdcdcchbaaDoorW.PrintLast Go.Proofs.YthejafdcdcchbaaDoorW.PrintMore
open Go.Proofs.YthejafdcdcchbaaDoorX
attribute [local go_sem] max2_int min2_int max_two min_two max_three min_three max_four min_four   -- for this text's walks alone
set_option linter.unusedVariables false
set_option linter.unusedSimpArgs false

/-! ### api_Edge_46: function 46 -/
def api_Edge_46.l0 : Nat → List (S42) → Int → Int → Int → Int → Int → Option (Int × Bool)
 | 0, _, _, _, _, _, _ => none
 | k + 1, x0, x8, x9, x10, x166000, x166001 => if x9 < x10 then (if 0 ≤ (wrap64 ((IntKind.u64.wrap (wrap64 (x9 + x10))) / 2)) then (if (wrap64 ((IntKind.u64.wrap (wrap64 (x9 + x10))) / 2)) < (x0.length : Int) then ((simple_compare.f ((rd_T42 x0 (wrap64 ((IntKind.u64.wrap (wrap64 (x9 + x10))) / 2))).f0) ((rd_T42 x0 (wrap64 ((IntKind.u64.wrap (wrap64 (x9 + x10))) / 2))).f1) x166000 x166001).bind fun t167 => (if t167 < 0 then (api_Edge_46.l0 k x0 x8 (wrap64 ((wrap64 ((IntKind.u64.wrap (wrap64 (x9 + x10))) / 2)) + 1)) x10 x166000 x166001) else (api_Edge_46.l0 k x0 x8 x9 (wrap64 ((IntKind.u64.wrap (wrap64 (x9 + x10))) / 2)) x166000 x166001))) else (none)) else (none)) else (if x9 < x8 then (if 0 ≤ x9 then (if x9 < (x0.length : Int) then ((simple_compare.f ((rd_T42 x0 x9).f0) ((rd_T42 x0 x9).f1) x166000 x166001).bind fun t169 => (some (x9, (t169 == 0)))) else (none)) else (none)) else (some (x9, false)))
def api_Edge_46.f (k : Nat) (l0 : List (S42)) (a1_0 : Int) (a1_1 : Int) (a2 : Int) : Option (Int × Bool) := api_Edge_46.l0 k l0 (l0.length : Int) 0 (l0.length : Int) a1_0 a1_1
theorem api_Edge_46.mono_l : ∀ k, (∀ y0 y1 y2 y3 y4 y5, LeO (api_Edge_46.l0 k y0 y1 y2 y3 y4 y5) (api_Edge_46.l0 (k + 1) y0 y1 y2 y3 y4 y5))
 | 0 => fun _ _ _ _ _ _ r h => by simp [api_Edge_46.l0] at h
 | k + 1 => by
  have ih0 := api_Edge_46.mono_l k
  ·intro y0 y1 y2 y3 y4 y5
   unfold api_Edge_46.l0
   repeat' first
   | (with_reducible exact ih0 _ _ _ _ _ _)
   | (with_reducible exact LeO.refl _)
   | (with_reducible exact LeO.none _)
   | (with_reducible refine LeO.ite ?_ ?_)
   | (with_reducible refine LeO.bind ?_ (fun _ => ?_))
   | exact ih0 _ _ _ _ _ _
   | exact LeO.none _
   | refine LeO.ite ?_ ?_
   | refine LeO.bind ?_ (fun _ => ?_)
theorem api_Edge_46.mono : ∀ a0 a1 a2 a3 k, LeO (api_Edge_46.f k a0 a1 a2 a3) (api_Edge_46.f (k + 1) a0 a1 a2 a3) := by
 intro a0 a1 a2 a3 k; have ih0 := api_Edge_46.mono_l k
 unfold api_Edge_46.f
 repeat' first
   | (with_reducible exact ih0 _ _ _ _ _ _)
   | (with_reducible exact LeO.refl _)
   | (with_reducible exact LeO.none _)
   | (with_reducible refine LeO.ite ?_ ?_)
   | (with_reducible refine LeO.bind ?_ (fun _ => ?_))
   | exact ih0 _ _ _ _ _ _
   | exact LeO.none _
   | refine LeO.ite ?_ ?_
   | refine LeO.bind ?_ (fun _ => ?_)
def api_Edge_46.T5 : Bool × List (List Nat × List Nat) := (true, [([], []), ([], []), ([], []), ([1, 2], [1, 2]), ([3], [3]), ([], []), ([0, 4, 5], [0, 4, 5]), ([6], [6])])
def api_Edge_46.B5 : List Nat := [0, 0, 0, 6, 14, 0, 63, 127]
theorem api_Edge_46.tab5 : rtab .any (opsOf Tryd.f46 5) = api_Edge_46.T5 := by kernel_rfl
theorem api_Edge_46.bits5 : waitsOk api_Edge_46.T5.2 api_Edge_46.B5 = true := by kernel_rfl
def api_Edge_46.T8 : Bool × List (List Nat × List Nat) := (true, [([], []), ([], []), ([], []), ([1, 2], [1, 2]), ([3], [3]), ([4], [4]), ([4], [4]), ([4], [4]), ([6, 7, 4], [4, 6, 7]), ([8, 4], [4, 8]), ([4], [4]), ([5, 9, 10, 4, 4], [4, 5, 9, 10]), ([11, 4], [4, 11]), ([4, 12], [4, 12]), ([0, 11, 0], [0]), ([13, 14, 0, 1, 2, 3, 4, 5, 6, 7, 8, 9, 10, 11, 12, 13, 14], [13])])
def api_Edge_46.B8 : List Nat := [0, 0, 0, 6, 14, 30, 30, 30, 222, 478, 30, 2046, 4094, 8190, 4095, 32767]
theorem api_Edge_46.tab8 : rtab .any (opsOf Tryd.f46 8) = api_Edge_46.T8 := by kernel_rfl
theorem api_Edge_46.bits8 : waitsOk api_Edge_46.T8.2 api_Edge_46.B8 = true := by kernel_rfl
theorem goesV_ {P : Program} {ops : Array Oper} {Q : Exit → Act → World → Prop} {c : Operand} {oi : Oper} {N : Option Tmp} {a : Act} {w : World} {K : Act → World → Prop} {f : FuncId} {fn : Func} {xs : Array Operand} {ts : Array TypeId} (hf : P.funcs[f]? = some fn) (hname : (fn.name == "runtime.NumGoroutine") = false) (hb : fn.body.isSome = true) (args : Array Value)
  (hw : Region.wanted oi (yielded ops a.tmps) = true) (hN : oi.dst = N) (hop : oi.op = .call { callee := .value c, args := xs, argTypes := ts }) (hargs : xs.map a.eval = args)
  (h : Calls P f args w fun e w' => ∃ v, e = .returned v ∧ K (a.put N v) w') (hc : a.eval c = .func (.func f) #[] #[] := by rfl) : if Region.wanted oi (yielded ops a.tmps) = true then Oper.wp P oi a w K Q else K (a.put N undef) w := by
 refine call_ f args hw hN ?_ h; have he := enters_ hf hname hb args w
 unfold execOp
 simp [hop, resolve, Deferred.ofValue, invoke, hc, hargs, he]
set_option maxHeartbeats 8000000 in
set_option maxRecDepth 100000 in
theorem api_Edge_46.calls (k : Nat) (A0 : Option Addr) (c0 : Nat) (l0 : List (S42)) (a1_0 : Int) (a1_1 : Int) (a2 : Int) (r1 : Int) (r2 : Bool) (w : World) (hr0 : Kd.C k42 w A0 l0.length l0) (hc0 : l0.length ≤ c0) (h : api_Edge_46.f k l0 a1_0 a1_1 a2 = some (r1, r2)) :
  Calls Tryd.prog 46 #[.slice A0 l0.length c0, .agg #[.int .i64 a1_0, .int .i64 a1_1], .func (Fn.func 37) #[] #[]] w fun e w' => e = .returned (.tuple #[.int .i64 r1, .bool r2]) ∧ Below w.heap.size w w' := by
 have hu42 := Tryd.underlying42; have HR0 := Aside0.mk hr0; have HC0 := Aside0.mk hc0; clear hr0 hc0; have HB := Aside0.mk (Below.refl w.heap.size w); have H : (api_Edge_46.l0 k l0 (l0.length : Int) 0 (l0.length : Int) a1_0 a1_1) = some (r1, r2) := h; clear h; have H' := Aside0.mk H; clear H
 go_enter Tryd.func46, Tryd.ntmps46
 go_wp2_with (first | ((with_reducible refine gate_dst (N := 4) rfl ?_); refine be_ 4 #[.int .i64 a1_0, .int .i64 a1_1] 42 ?_; intro gb165 hg w4 hbox hb; have BK165 := Aside0.mk (hbox); have GW165 := wq (hb0 HB) hg; have GE165 := wq (hb0 HB) hg; replace HB := hs (hb0 HB) hb; clear hb hbox hg))
 go_loopg [9, 10] k (fun kq v9 v10 w' => ∃ (x9_1 : Int) (x10_1 : Int), v9 = .int .i64 x9_1 ∧ v10 = .int .i64 x10_1 ∧ Aside0 (api_Edge_46.l0 kq l0 (l0.length : Int) x9_1 x10_1 a1_0 a1_1 = some (r1, r2)) ∧ Aside0 (kq ≤ k) ∧ Aside0 (w'.heap[gb165]? = some (.cells #[.int .i64 a1_0, .int .i64 a1_1] 42 (0, 0))) ∧ Aside0 (Below w.heap.size w w'))
 case atStart => exact ⟨(0), ((l0.length : Int)), (by first | rfl | (simp; done) | (simp [*]; done)), (by first | rfl | (simp; done) | (simp [*]; done)), H', ⟨Nat.le_refl _⟩, ⟨bx BK165⟩, ⟨hb1 HB GE165⟩⟩
 case round =>
  clear H'
  try clear p2
  try clear c4
  obtain ⟨x9_1, x10_1, rfl, rfl, HA, HK1, BK165, HB⟩ := hrel
  cases gk with
  | zero => exact absurd HA.out (by simp [api_Edge_46.l0])
  | succ k1 =>
   have H := HA.out; clear HA; simp only [api_Edge_46.l0] at H
   by_cases c5 : x9_1 < x10_1
   ·rw [if_pos c5] at H; have c5b0 : decide (x9_1 < x10_1) = true := decide_eq_true c5; clear c5; obtain ⟨ji6, hji6⟩ : ∃ j_ : Int, (wrap64 ((IntKind.u64.wrap (wrap64 (x9_1 + x10_1))) / 2)) = j_ := ⟨_, rfl⟩; replace H : (if 0 ≤ (ji6) then (if (ji6) < (l0.length : Int) then ((simple_compare.f ((rd_T42 l0 (ji6)).f0) ((rd_T42 l0 (ji6)).f1) a1_0 a1_1).bind fun t167 => (if t167 < 0 then (api_Edge_46.l0 k1 l0 (l0.length : Int) (wrap64 ((ji6) + 1)) x10_1 a1_0 a1_1) else (api_Edge_46.l0 k1 l0 (l0.length : Int) x9_1 ji6 a1_0 a1_1))) else (none)) else (none)) = some (r1, r2) := by first | (rw [hji6] at H; exact H) | (simp only [hji6] at H ⊢; exact H)
    have hji6w : (IntKind.i64.wrap ((IntKind.u64.wrap (wrap64 (x9_1 + x10_1))) / 2)) = ji6 := (i64_w _).trans hji6
    by_cases c7 : 0 ≤ (ji6)
    ·rw [if_pos c7] at H; have c7b0 : decide (0 ≤ (ji6)) = true := decide_eq_true c7; clear c7
     by_cases c8 : (ji6) < (l0.length : Int)
     ·rw [if_pos c8] at H; have c8b0 : decide ((ji6) < (l0.length : Int)) = true := decide_eq_true c8; clear c8; replace H := Option.bind_eq_some_iff.mp H; obtain ⟨t167, A90, H⟩ := H; replace H : (if t167 < 0 then (api_Edge_46.l0 k1 l0 (l0.length : Int) (wrap64 ((ji6) + 1)) x10_1 a1_0 a1_1) else (api_Edge_46.l0 k1 l0 (l0.length : Int) x9_1 ji6 a1_0 a1_1)) = some (r1, r2) := H; have A9 := Aside0.mk A90; clear A90
      by_cases c10 : t167 < 0
      ·rw [if_pos c10] at H; have c10b0 : decide (t167 < 0) = true := decide_eq_true c10; clear c10; have H' := Aside0.mk H; clear H
       try go_wp2
       replace BK165 := bd BK165; replace HB := Aside0.mk (below_drew1 HB.out); have p166 : 0 ≤ ((ji6) : Int) := of_decide_eq_true (by first | (with_reducible assumption) | assumption); have q166 : (ji6) < (l0.length : Int) := of_decide_eq_true (by first | (with_reducible assumption) | assumption); obtain ⟨ad166, e166, hx166_0, hx166_1⟩ := at_T42 HR0.out (ji6) p166 q166; have hw166_1 := hx166_1; have hw166_0 := hx166_0
       cases e166
       replace hx166_0 := (HB.out.cell (World.block_lt_of_cell? w _ hx166_0)).trans hx166_0; replace hx166_1 := (HB.out.cell (World.block_lt_of_cell? w _ hx166_1)).trans hx166_1; replace p166 := eq_true p166; replace q166 := eq_true q166; refine start_ (n := 8) (S := fun w' => w'.cell? ⟨gb165, 0, none⟩ = some (.int .i64 a1_0) ∧ w'.cell? ⟨gb165, 1, none⟩ = some (.int .i64 a1_1) ∧ w'.cell? (ad166.add (((ji6)).toNat * 2)) = some (.int .i64 ((rd_T42 l0 (ji6)).f0)) ∧ w'.cell? ⟨(ad166.add (((ji6)).toNat * 2)).block, (ad166.add (((ji6)).toNat * 2)).off + 1, none⟩ = some (.int .i64 ((rd_T42 l0 (ji6)).f1))) (ds := []) (pf 0 8) (by kernel_rfl) rfl rfl ⟨bc BK165 0, bc BK165 1, ((HB.out.cell (World.block_lt_of_cell? w _ hw166_0)).trans hw166_0), ((HB.out.cell (World.block_lt_of_cell? w _ hw166_1)).trans hw166_1)⟩ (fun hHeld => ?_); refine with_tabW api_Edge_46.tab5 api_Edge_46.bits5 (fun HT_ HW_ => ?_); generalize wr.drew = w11 at BK165 HB hx166_0 hx166_1 hHeld ⊢; refine pu_ 0 (some 24) (pf 1 8) HT_ ?_; refine pu_ 1 (some 25) (pf 2 8) HT_ ?_; refine pu_ 2 (some 26) (pf 3 8) HT_ ?_; refine pu_ 3 (some 27) (pf 4 8) HT_ ?_; refine tk4_ 4 (some 28) (pf 5 8) HT_ HW_ hHeld ?_; refine tk4_ 5 (some 29) (pf 6 8) HT_ HW_ hHeld ?_; refine on_ 6 (some 30) (pf 7 8) HT_ (fun K hK => ?_); refine goesV_ Tryd.func37 (by kernel_rfl) rfl #[.agg #[.int .i64 ((rd_T42 l0 (ji6)).f0), .int .i64 ((rd_T42 l0 (ji6)).f1)], .agg #[.int .i64 a1_0, .int .i64 a1_1]] (by rfl) rfl rfl (by (try simp only [List.map_toArray, List.map_cons, List.map_nil]); first | done | (simp only [hji6]; rfl) | rfl | (simp only [List.length_drop, List.length_take]; rfl)) ?_
       with_reducible refine (simple_compare.calls ((rd_T42 l0 (ji6)).f0) ((rd_T42 l0 (ji6)).f1) a1_0 a1_1 t167 _ A9.out).mono ?_
       rintro e w12 ⟨rfl, hb⟩; refine ⟨_, rfl, ?_⟩; replace BK165 := kx BK165 hb; replace HB := hs (hb1 HB GE165) hb
       (try clear hb)
       (try clear hb2)
       (try clear hk)
       (try clear hi)
       refine hK.out _ _ ⟨bc BK165 0, bc BK165 1, ((HB.out.cell (World.block_lt_of_cell? w _ hw166_0)).trans hw166_0), ((HB.out.cell (World.block_lt_of_cell? w _ hw166_1)).trans hw166_1)⟩ (fun hHeld => ?_); clear hK K; refine nm_ (some 30) ?_; refine pu_ 7 (some 31) (pf 8 8) HT_ ?_; refine done_ (done_of HT_.out (by kernel_rfl)) ?_
       try go_wp2
       go_roundg k1
       case measure => have := HK1.out; omega
       case rel => exact ⟨(wrap64 ((ji6) + 1)), (x10_1), (by first | rfl | (simp; done) | (simp only [← hji6] <;> (first | rfl | simp)) | (simp [*]; done)), (by first | rfl | (simp; done) | (simp [*]; done)), H', ⟨by have := HK1.out; omega⟩, ⟨bx BK165⟩, ⟨hb1 HB GE165⟩⟩
      ·rw [if_neg c10] at H; have c10b0 : decide (t167 < 0) = false := decide_eq_false c10; clear c10; have H' := Aside0.mk H; clear H
       try go_wp2
       replace BK165 := bd BK165; replace HB := Aside0.mk (below_drew1 HB.out); have p166 : 0 ≤ ((ji6) : Int) := of_decide_eq_true (by first | (with_reducible assumption) | assumption); have q166 : (ji6) < (l0.length : Int) := of_decide_eq_true (by first | (with_reducible assumption) | assumption); obtain ⟨ad166, e166, hx166_0, hx166_1⟩ := at_T42 HR0.out (ji6) p166 q166; have hw166_1 := hx166_1; have hw166_0 := hx166_0
       cases e166
       replace hx166_0 := (HB.out.cell (World.block_lt_of_cell? w _ hx166_0)).trans hx166_0; replace hx166_1 := (HB.out.cell (World.block_lt_of_cell? w _ hx166_1)).trans hx166_1; replace p166 := eq_true p166; replace q166 := eq_true q166; refine start_ (n := 8) (S := fun w' => w'.cell? ⟨gb165, 0, none⟩ = some (.int .i64 a1_0) ∧ w'.cell? ⟨gb165, 1, none⟩ = some (.int .i64 a1_1) ∧ w'.cell? (ad166.add (((ji6)).toNat * 2)) = some (.int .i64 ((rd_T42 l0 (ji6)).f0)) ∧ w'.cell? ⟨(ad166.add (((ji6)).toNat * 2)).block, (ad166.add (((ji6)).toNat * 2)).off + 1, none⟩ = some (.int .i64 ((rd_T42 l0 (ji6)).f1))) (ds := []) (pf 0 8) (by kernel_rfl) rfl rfl ⟨bc BK165 0, bc BK165 1, ((HB.out.cell (World.block_lt_of_cell? w _ hw166_0)).trans hw166_0), ((HB.out.cell (World.block_lt_of_cell? w _ hw166_1)).trans hw166_1)⟩ (fun hHeld => ?_); refine with_tabW api_Edge_46.tab5 api_Edge_46.bits5 (fun HT_ HW_ => ?_); generalize wr.drew = w13 at BK165 HB hx166_0 hx166_1 hHeld ⊢; refine pu_ 0 (some 24) (pf 1 8) HT_ ?_; refine pu_ 1 (some 25) (pf 2 8) HT_ ?_; refine pu_ 2 (some 26) (pf 3 8) HT_ ?_; refine pu_ 3 (some 27) (pf 4 8) HT_ ?_; refine tk4_ 4 (some 28) (pf 5 8) HT_ HW_ hHeld ?_; refine tk4_ 5 (some 29) (pf 6 8) HT_ HW_ hHeld ?_; refine on_ 6 (some 30) (pf 7 8) HT_ (fun K hK => ?_); refine goesV_ Tryd.func37 (by kernel_rfl) rfl #[.agg #[.int .i64 ((rd_T42 l0 (ji6)).f0), .int .i64 ((rd_T42 l0 (ji6)).f1)], .agg #[.int .i64 a1_0, .int .i64 a1_1]] (by rfl) rfl rfl (by (try simp only [List.map_toArray, List.map_cons, List.map_nil]); first | done | (simp only [hji6]; rfl) | rfl | (simp only [List.length_drop, List.length_take]; rfl)) ?_
       with_reducible refine (simple_compare.calls ((rd_T42 l0 (ji6)).f0) ((rd_T42 l0 (ji6)).f1) a1_0 a1_1 t167 _ A9.out).mono ?_
       rintro e w14 ⟨rfl, hb⟩; refine ⟨_, rfl, ?_⟩; replace BK165 := kx BK165 hb; replace HB := hs (hb1 HB GE165) hb
       (try clear hb)
       (try clear hb2)
       (try clear hk)
       (try clear hi)
       refine hK.out _ _ ⟨bc BK165 0, bc BK165 1, ((HB.out.cell (World.block_lt_of_cell? w _ hw166_0)).trans hw166_0), ((HB.out.cell (World.block_lt_of_cell? w _ hw166_1)).trans hw166_1)⟩ (fun hHeld => ?_); clear hK K; refine nm_ (some 30) ?_; refine pu_ 7 (some 31) (pf 8 8) HT_ ?_; refine done_ (done_of HT_.out (by kernel_rfl)) ?_
       try go_wp2
       go_roundg k1
       case measure => have := HK1.out; omega
       case rel => exact ⟨(x9_1), (ji6), (by first | rfl | (simp; done) | (simp [*]; done)), (by first | rfl | (simp; done) | (simp only [← hji6] <;> (first | rfl | simp)) | (simp [*]; done)), H', ⟨by have := HK1.out; omega⟩, ⟨bx BK165⟩, ⟨hb1 HB GE165⟩⟩
     ·rw [if_neg c8] at H; exact absurd H (by simp)
    ·rw [if_neg c7] at H; exact absurd H (by simp)
   ·rw [if_neg c5] at H; have c5b0 : decide (x9_1 < x10_1) = false := decide_eq_false c5; clear c5
    by_cases c15 : x9_1 < (l0.length : Int)
    ·rw [if_pos c15] at H; have c15b0 : decide (x9_1 < (l0.length : Int)) = true := decide_eq_true c15; clear c15
     by_cases c16 : 0 ≤ x9_1
     ·rw [if_pos c16] at H; have c16b0 : decide (0 ≤ x9_1) = true := decide_eq_true c16; clear c16
      by_cases c17 : x9_1 < (l0.length : Int)
      ·rw [if_pos c17] at H; have c17b0 : decide (x9_1 < (l0.length : Int)) = true := decide_eq_true c17; clear c17; replace H := Option.bind_eq_some_iff.mp H; obtain ⟨t169, A180, H⟩ := H; replace H : (some (x9_1, (t169 == 0))) = some (r1, r2) := H; have A18 := Aside0.mk A180; clear A180; simp only [Option.some.injEq, Prod.mk.injEq] at H; obtain ⟨rfl, rfl⟩ := H
       try go_wp2
       replace BK165 := bd BK165; replace HB := Aside0.mk (below_drew1 HB.out); have p168 : 0 ≤ (x9_1 : Int) := of_decide_eq_true (by first | (with_reducible assumption) | assumption); have q168 : x9_1 < (l0.length : Int) := of_decide_eq_true (by first | (with_reducible assumption) | assumption); obtain ⟨ad168, e168, hx168_0, hx168_1⟩ := at_T42 HR0.out x9_1 p168 q168; have hw168_1 := hx168_1; have hw168_0 := hx168_0
       cases e168
       replace hx168_0 := (HB.out.cell (World.block_lt_of_cell? w _ hx168_0)).trans hx168_0; replace hx168_1 := (HB.out.cell (World.block_lt_of_cell? w _ hx168_1)).trans hx168_1; replace p168 := eq_true p168; replace q168 := eq_true q168; refine start_ (n := 16) (S := fun w' => w'.cell? ⟨gb165, 0, none⟩ = some (.int .i64 a1_0) ∧ w'.cell? ⟨gb165, 1, none⟩ = some (.int .i64 a1_1) ∧ w'.cell? (ad168.add ((x9_1).toNat * 2)) = some (.int .i64 ((rd_T42 l0 x9_1).f0)) ∧ w'.cell? ⟨(ad168.add ((x9_1).toNat * 2)).block, (ad168.add ((x9_1).toNat * 2)).off + 1, none⟩ = some (.int .i64 ((rd_T42 l0 x9_1).f1))) (ds := []) (pf 0 16) (by kernel_rfl) rfl rfl ⟨bc BK165 0, bc BK165 1, ((HB.out.cell (World.block_lt_of_cell? w _ hw168_0)).trans hw168_0), ((HB.out.cell (World.block_lt_of_cell? w _ hw168_1)).trans hw168_1)⟩ (fun hHeld => ?_); refine with_tabW api_Edge_46.tab8 api_Edge_46.bits8 (fun HT_ HW_ => ?_); generalize wr.drew = w19 at BK165 HB hx168_0 hx168_1 hHeld ⊢; refine pu_ 0 (some 35) (pf 1 16) HT_ ?_; refine pu_ 1 (some 36) (pf 2 16) HT_ ?_; refine pu_ 2 (some 37) (pf 3 16) HT_ ?_; refine pu_ 3 (some 38) (pf 4 16) HT_ ?_; refine pu_ 4 (some 39) (pf 5 16) HT_ ?_; refine pu_ 5 (some 40) (pf 6 16) HT_ ?_; refine pu_ 6 (some 41) (pf 7 16) HT_ ?_
       refine pu_ 7 (some 42) (pf 8 16) HT_ ?_; refine pu_ 8 (some 43) (pf 9 16) HT_ ?_; refine tk4_ 9 (some 44) (pf 10 16) HT_ HW_ hHeld ?_; refine tk4_ 10 (some 45) (pf 11 16) HT_ HW_ hHeld ?_; refine on_ 11 (some 46) (pf 12 16) HT_ (fun K hK => ?_); refine goesV_ Tryd.func37 (by kernel_rfl) rfl #[.agg #[.int .i64 ((rd_T42 l0 x9_1).f0), .int .i64 ((rd_T42 l0 x9_1).f1)], .agg #[.int .i64 a1_0, .int .i64 a1_1]] (by rfl) rfl rfl (by (try simp only [List.map_toArray, List.map_cons, List.map_nil]); first | done | rfl | (simp only [List.length_drop, List.length_take]; rfl)) ?_
       with_reducible refine (simple_compare.calls ((rd_T42 l0 x9_1).f0) ((rd_T42 l0 x9_1).f1) a1_0 a1_1 t169 _ A18.out).mono ?_
       rintro e w20 ⟨rfl, hb⟩; refine ⟨_, rfl, ?_⟩; replace BK165 := kx BK165 hb; replace HB := hs (hb1 HB GE165) hb
       (try clear hb)
       (try clear hb2)
       (try clear hk)
       (try clear hi)
       refine hK.out _ _ ⟨bc BK165 0, bc BK165 1, ((HB.out.cell (World.block_lt_of_cell? w _ hw168_0)).trans hw168_0), ((HB.out.cell (World.block_lt_of_cell? w _ hw168_1)).trans hw168_1)⟩ (fun hHeld => ?_); clear hK K; refine nm_ (some 46) ?_; refine pu_ 12 (some 47) (pf 13 16) HT_ ?_; refine pu_ 13 (some 48) (pf 14 16) HT_ ?_; refine pu_ 14 (some 6) (pf 15 16) HT_ ?_; refine pu_ 15 (some 7) (pf 16 16) HT_ ?_; refine done_ (done_of HT_.out (by kernel_rfl)) ?_
       try go_wp2
       go_ret2
       exact ⟨by first | rfl | (simp [errW_none, errW_some] <;> rfl) | (simp [*, errW_none, errW_some] <;> rfl), hb1 HB GE165⟩
      ·rw [if_neg c17] at H; exact absurd H (by simp)
     ·rw [if_neg c16] at H; exact absurd H (by simp)
    ·rw [if_neg c15] at H; have c15b0 : decide (x9_1 < (l0.length : Int)) = false := decide_eq_false c15; clear c15; simp only [Option.some.injEq, Prod.mk.injEq] at H; obtain ⟨rfl, rfl⟩ := H
     try go_wp2
     replace BK165 := bd BK165; replace HB := Aside0.mk (below_drew1 HB.out); refine start_ (n := 16) (S := fun w' => True) (ds := []) (pf 0 16) (by kernel_rfl) rfl rfl trivial (fun hHeld => ?_); refine with_tabW api_Edge_46.tab8 api_Edge_46.bits8 (fun HT_ HW_ => ?_); generalize wr.drew = w21 at BK165 HB hHeld ⊢; refine pu_ 0 (some 35) (pf 1 16) HT_ ?_; refine pu_ 1 (some 36) (pf 2 16) HT_ ?_; refine pu_ 2 (some 37) (pf 3 16) HT_ ?_; refine pu_ 3 (some 38) (pf 4 16) HT_ ?_; refine pu_ 4 (some 39) (pf 5 16) HT_ ?_; refine pn_ 5 (some 40) (pf 6 16) HT_ ?_; refine pn_ 6 (some 41) (pf 7 16) HT_ ?_; refine pn_ 7 (some 42) (pf 8 16) HT_ ?_; refine pn_ 8 (some 43) (pf 9 16) HT_ ?_; refine pn_ 9 (some 44) (pf 10 16) HT_ ?_; refine pn_ 10 (some 45) (pf 11 16) HT_ ?_; refine pn_ 11 (some 46) (pf 12 16) HT_ ?_; refine pn_ 12 (some 47) (pf 13 16) HT_ ?_; refine pu_ 13 (some 48) (pf 14 16) HT_ ?_
     refine pu_ 14 (some 6) (pf 15 16) HT_ ?_; refine pu_ 15 (some 7) (pf 16 16) HT_ ?_; refine done_ (done_of HT_.out (by kernel_rfl)) ?_
     try go_wp2
     go_ret2
     exact ⟨by first | rfl | (simp [errW_none, errW_some] <;> rfl) | (simp [*, errW_none, errW_some] <;> rfl), hb1 HB GE165⟩

end Go.Proofs.YthejafdcdcchbaaDoor.PSimA

-- PRINTED by print.py (a twelfth state) out of the translation. Not trusted: Lean checks it.
namespace Go.Proofs.YthejafdcdcchbaaDoor.PSimA
open Go.RowKit Go.Proofs.YthejafdcdcchbaaDoorW.PrintWords Go.Proofs.YthejafdcdcchbaaDoorW.PrintLast Go.Proofs.YthejafdcdcchbaaDoorW.PrintMore
open Go.Proofs.YthejafdcdcchbaaDoorX
attribute [local go_sem] max2_int min2_int max_two min_two max_three min_three max_four min_four   -- for this text's walks alone
set_option linter.unusedVariables false
set_option linter.unusedSimpArgs false

/-! ### simple_Find: function 26 -/
def simple_Find.j0 : Nat → Bool → Int → List (S42) → Int → Int → Option (Int)
 | 0, _, _, _, _, _ => none
 | k + 1, x33, x171000, x171001, x172000, x172001 => if x33 = true then (some (-1)) else ((api_Edge_46.f k x171001 x172000 x172001 0).bind fun bt173 => (if bt173.2 = true then (some bt173.1) else (some (-1))))
def simple_Find.f (k : Nat) (a0_0 : Int) (l0_1 : List (S42)) (a1_0 : Int) (a1_1 : Int) : Option (Int) := (simple_Valid.f k a0_0 l0_1).bind fun t172 => (if t172 = true then (if a1_0 < 0 then (simple_Find.j0 k true a0_0 l0_1 a1_0 a1_1) else (if a1_1 < 0 then (simple_Find.j0 k true a0_0 l0_1 a1_0 a1_1) else (if a1_0 ≥ a0_0 then (simple_Find.j0 k true a0_0 l0_1 a1_0 a1_1) else (simple_Find.j0 k (decide (a1_1 ≥ a0_0)) a0_0 l0_1 a1_0 a1_1)))) else (simple_Find.j0 k true a0_0 l0_1 a1_0 a1_1))
theorem simple_Find.mono_l : ∀ k, (∀ y0 y1 y2 y3 y4, LeO (simple_Find.j0 k y0 y1 y2 y3 y4) (simple_Find.j0 (k + 1) y0 y1 y2 y3 y4))
 | 0 => fun _ _ _ _ _ r h => by simp [simple_Find.j0] at h
 | k + 1 => by
  have ih0 := simple_Find.mono_l k
  ·intro y0 y1 y2 y3 y4
   unfold simple_Find.j0
   repeat' first
   | (with_reducible exact ih0 _ _ _ _ _)
   | (with_reducible exact api_Edge_46.mono _ _ _ _ _)
   | (with_reducible exact simple_Valid.mono _ _ _)
   | (with_reducible exact LeO.refl _)
   | (with_reducible exact LeO.none _)
   | (with_reducible refine LeO.ite ?_ ?_)
   | (with_reducible refine LeO.bind ?_ (fun _ => ?_))
   | exact ih0 _ _ _ _ _
   | exact api_Edge_46.mono _ _ _ _ _
   | exact simple_Valid.mono _ _ _
   | exact LeO.none _
   | refine LeO.ite ?_ ?_
   | refine LeO.bind ?_ (fun _ => ?_)
theorem simple_Find.mono : ∀ a0 a1 a2 a3 k, LeO (simple_Find.f k a0 a1 a2 a3) (simple_Find.f (k + 1) a0 a1 a2 a3) := by
 intro a0 a1 a2 a3 k; have ih0 := simple_Find.mono_l k
 unfold simple_Find.f
 repeat' first
   | (with_reducible exact ih0 _ _ _ _ _)
   | (with_reducible exact api_Edge_46.mono _ _ _ _ _)
   | (with_reducible exact simple_Valid.mono _ _ _)
   | (with_reducible exact LeO.refl _)
   | (with_reducible exact LeO.none _)
   | (with_reducible refine LeO.ite ?_ ?_)
   | (with_reducible refine LeO.bind ?_ (fun _ => ?_))
   | exact ih0 _ _ _ _ _
   | exact api_Edge_46.mono _ _ _ _ _
   | exact simple_Valid.mono _ _ _
   | exact LeO.none _
   | refine LeO.ite ?_ ?_
   | refine LeO.bind ?_ (fun _ => ?_)
set_option maxHeartbeats 8000000 in
set_option maxRecDepth 100000 in
theorem simple_Find.calls (k : Nat) (a0_0 : Int) (A0_1 : Option Addr) (c0_1 : Nat) (l0_1 : List (S42)) (a1_0 : Int) (a1_1 : Int) (r : Int) (w : World) (hr0_1 : Kd.C k42 w A0_1 l0_1.length l0_1) (hc0_1 : l0_1.length ≤ c0_1) (h : simple_Find.f k a0_0 l0_1 a1_0 a1_1 = some r) :
  Calls Tryd.prog 26 #[.agg #[.int .i64 a0_0, .slice A0_1 l0_1.length c0_1], .agg #[.int .i64 a1_0, .int .i64 a1_1]] w fun e w' => e = .returned (.int .i64 r) ∧ Below w.heap.size w w' := by
 have hu26 := Tryd.underlying26; have hu42 := Tryd.underlying42; have HR0_1 := Aside0.mk hr0_1; have HC0_1 := Aside0.mk hc0_1; clear hr0_1 hc0_1; have HB := Aside0.mk (Below.refl w.heap.size w); have H : ((simple_Valid.f k a0_0 l0_1).bind fun t172 => (if t172 = true then (if a1_0 < 0 then (simple_Find.j0 k true a0_0 l0_1 a1_0 a1_1) else (if a1_1 < 0 then (simple_Find.j0 k true a0_0 l0_1 a1_0 a1_1) else (if a1_0 ≥ a0_0 then (simple_Find.j0 k true a0_0 l0_1 a1_0 a1_1) else (simple_Find.j0 k (decide (a1_1 ≥ a0_0)) a0_0 l0_1 a1_0 a1_1)))) else (simple_Find.j0 k true a0_0 l0_1 a1_0 a1_1))) = some r := h; clear h; have HC3 := Aside0.mk H; clear H
 go_enter Tryd.func26, Tryd.ntmps26
 go_upto_region 1 with (first | ((with_reducible refine gate_dst (N := 2) rfl ?_); refine be_ 2 #[.int .i64 a0_0, .slice A0_1 l0_1.length c0_1] 26 ?_; intro gb170 hg w4 hbox hb; have BK170 := Aside0.mk (hbox); have GW170 := wq (hb0 HB) hg; have GE170 := wq (hb0 HB) hg; replace HB := hs (hb0 HB) hb; clear hb hbox hg) | ((with_reducible refine gate_dst (N := 3) rfl ?_); refine be_ 3 #[.int .i64 a1_0, .int .i64 a1_1] 42 ?_; intro gb171 hg w5 hbox hb; have BK171 := Aside0.mk (hbox); have GW171 := wq (hb1 HB GE170) hg; have GE171 := wq (hb1 HB GE170) hg; replace HB := hs (hb1 HB GE170) hb; have NB170_171 := lx BK170 hg; have NB171_170 := gx BK170 hg; replace BK170 := kx BK170 hb; clear hb hbox hg))
 (try simp only [Act.put, List.setIfInBounds_toArray, List.set_cons_zero, List.set_cons_succ])
 go_cut [33] (fun v33 wc => ∃ (kq : Nat) (x33_2 : Bool), v33 = .bool x33_2 ∧ Aside0 (simple_Find.j0 kq x33_2 a0_0 l0_1 a1_0 a1_1 = some r) ∧ Aside0 (kq ≤ k) ∧ Aside0 (wc.heap[gb170]? = some (.cells #[.int .i64 a0_0, (.slice A0_1 l0_1.length c0_1)] 26 (0, 0))) ∧ Aside0 (wc.heap[gb171]? = some (.cells #[.int .i64 a1_0, .int .i64 a1_1] 42 (0, 0))) ∧ Aside0 (Below w.heap.size w wc))
 case first => as_aux_lemma =>
  have H := HC3.out; clear HC3; replace H := Option.bind_eq_some_iff.mp H; obtain ⟨t172, A60, H⟩ := H; (try dsimp only at H); have A6 := Aside0.mk A60; clear A60
  by_cases c7 : t172 = true
  ·subst c7; rw [if_pos rfl] at H
   by_cases c8 : a1_0 < 0
   ·rw [if_pos c8] at H; have c8b0 : decide (a1_0 < 0) = true := decide_eq_true c8; clear c8
    (first | rw [c8b0] | (simp only [i64_w, i32_w]; rw [c8b0]) | skip)
    have H' := Aside0.mk H; clear H; have hnb9 := NB170_171.out; have hnc9 := NB171_170.out; have hcz10_0 : w5.cell? ⟨gb170, 0, none⟩ = some (.int .i64 a0_0) := bc BK170 0; have hcz10_1 : w5.cell? ⟨gb170, 1, none⟩ = some (.slice A0_1 l0_1.length c0_1) := bc BK170 1; have hfz10_0 := blk_frozen BK170.out 0; have hfz10_1 := blk_frozen BK170.out 1
    go_wp2_with (first | ((with_reducible refine gate_callee (f := 24) rfl ?_); refine gl_ (some 8) Tryd.func24 #[.agg #[.int .i64 a0_0, .slice A0_1 l0_1.length c0_1]] ?_; (with_reducible refine (simple_Valid.calls k a0_0 _ _ l0_1 true _ ?side1 ?side2 A6.out).mono ?_); (case side1 => repeat (first | exact (Kd.C_below HR0_1.out HB.out) | (with_reducible refine Kd.C_alloc ?_ _) | (with_reducible refine Kd.C_drewN ?_ _) | (with_reducible refine Kd.C_drew ?_))); (case side2 => exact HC0_1.out); rintro e w11 ⟨rfl, hb⟩; refine ⟨_, rfl, ?_⟩; replace BK170 := kx BK170 hb; replace BK171 := kx BK171 hb; replace HB := hs (hb2 HB GE170 GE171) hb; (try clear hb); (try clear hb2); (try clear hk); (try clear hi); have hcz12_0 : w11.cell? ⟨gb171, 0, none⟩ = some (.int .i64 a1_0) := bc BK171 0; have hcz12_1 : w11.cell? ⟨gb171, 1, none⟩ = some (.int .i64 a1_1) := bc BK171 1; have hfz12_0 := blk_frozen BK171.out 0; have hfz12_1 := blk_frozen BK171.out 1))
    go_meet
    case rel => exact ⟨_, (true), (by first | rfl | (simp; done) | (simp [*]; done)), H', ⟨by first | omega | exact Nat.le_refl _⟩, ⟨bx BK170⟩, ⟨bx BK171⟩, ⟨hb2 HB GE170 GE171⟩⟩
   ·rw [if_neg c8] at H; have c8b0 : decide (a1_0 < 0) = false := decide_eq_false c8; clear c8
    (first | rw [c8b0] | (simp only [i64_w, i32_w]; rw [c8b0]) | skip)
    by_cases c13 : a1_1 < 0
    ·rw [if_pos c13] at H; have c13b0 : decide (a1_1 < 0) = true := decide_eq_true c13; clear c13; have H' := Aside0.mk H; clear H; have hnb14 := NB170_171.out; have hnc14 := NB171_170.out; have hcz15_0 : w5.cell? ⟨gb170, 0, none⟩ = some (.int .i64 a0_0) := bc BK170 0; have hcz15_1 : w5.cell? ⟨gb170, 1, none⟩ = some (.slice A0_1 l0_1.length c0_1) := bc BK170 1; have hfz15_0 := blk_frozen BK170.out 0; have hfz15_1 := blk_frozen BK170.out 1
     go_wp2_with (first | ((with_reducible refine gate_callee (f := 24) rfl ?_); refine gl_ (some 8) Tryd.func24 #[.agg #[.int .i64 a0_0, .slice A0_1 l0_1.length c0_1]] ?_; (with_reducible refine (simple_Valid.calls k a0_0 _ _ l0_1 true _ ?side1 ?side2 A6.out).mono ?_); (case side1 => repeat (first | exact (Kd.C_below HR0_1.out HB.out) | (with_reducible refine Kd.C_alloc ?_ _) | (with_reducible refine Kd.C_drewN ?_ _) | (with_reducible refine Kd.C_drew ?_))); (case side2 => exact HC0_1.out); rintro e w16 ⟨rfl, hb⟩; refine ⟨_, rfl, ?_⟩; replace BK170 := kx BK170 hb; replace BK171 := kx BK171 hb; replace HB := hs (hb2 HB GE170 GE171) hb; (try clear hb); (try clear hb2); (try clear hk); (try clear hi); have hcz17_0 : w16.cell? ⟨gb171, 0, none⟩ = some (.int .i64 a1_0) := bc BK171 0; have hcz17_1 : w16.cell? ⟨gb171, 1, none⟩ = some (.int .i64 a1_1) := bc BK171 1; have hfz17_0 := blk_frozen BK171.out 0; have hfz17_1 := blk_frozen BK171.out 1))
     go_meet
     case rel => exact ⟨_, (true), (by first | rfl | (simp; done) | (simp [*]; done)), H', ⟨by first | omega | exact Nat.le_refl _⟩, ⟨bx BK170⟩, ⟨bx BK171⟩, ⟨hb2 HB GE170 GE171⟩⟩
    ·rw [if_neg c13] at H; have c13b0 : decide (a1_1 < 0) = false := decide_eq_false c13; clear c13
     by_cases c18 : a1_0 ≥ a0_0
     ·rw [if_pos c18] at H; have c18b0 : decide (a0_0 ≤ a1_0) = true := decide_eq_true c18; clear c18; have H' := Aside0.mk H; clear H; have hnb19 := NB170_171.out; have hnc19 := NB171_170.out; have hcz20_0 : w5.cell? ⟨gb170, 0, none⟩ = some (.int .i64 a0_0) := bc BK170 0; have hcz20_1 : w5.cell? ⟨gb170, 1, none⟩ = some (.slice A0_1 l0_1.length c0_1) := bc BK170 1; have hfz20_0 := blk_frozen BK170.out 0; have hfz20_1 := blk_frozen BK170.out 1
      go_wp2_with (first | ((with_reducible refine gate_callee (f := 24) rfl ?_); refine gl_ (some 8) Tryd.func24 #[.agg #[.int .i64 a0_0, .slice A0_1 l0_1.length c0_1]] ?_; (with_reducible refine (simple_Valid.calls k a0_0 _ _ l0_1 true _ ?side1 ?side2 A6.out).mono ?_); (case side1 => repeat (first | exact (Kd.C_below HR0_1.out HB.out) | (with_reducible refine Kd.C_alloc ?_ _) | (with_reducible refine Kd.C_drewN ?_ _) | (with_reducible refine Kd.C_drew ?_))); (case side2 => exact HC0_1.out); rintro e w21 ⟨rfl, hb⟩; refine ⟨_, rfl, ?_⟩; replace BK170 := kx BK170 hb; replace BK171 := kx BK171 hb; replace HB := hs (hb2 HB GE170 GE171) hb; (try clear hb); (try clear hb2); (try clear hk); (try clear hi); have hcz22_0 : w21.cell? ⟨gb171, 0, none⟩ = some (.int .i64 a1_0) := bc BK171 0; have hcz22_1 : w21.cell? ⟨gb171, 1, none⟩ = some (.int .i64 a1_1) := bc BK171 1; have hfz22_0 := blk_frozen BK171.out 0; have hfz22_1 := blk_frozen BK171.out 1; have hcz23_0 : w21.cell? ⟨gb170, 0, none⟩ = some (.int .i64 a0_0) := bc BK170 0; have hcz23_1 : w21.cell? ⟨gb170, 1, none⟩ = some (.slice A0_1 l0_1.length c0_1) := bc BK170 1; have hfz23_0 := blk_frozen BK170.out 0; have hfz23_1 := blk_frozen BK170.out 1))
      go_meet
      case rel => exact ⟨_, (true), (by first | rfl | (simp; done) | (simp [*]; done)), H', ⟨by first | omega | exact Nat.le_refl _⟩, ⟨bx BK170⟩, ⟨bx BK171⟩, ⟨hb2 HB GE170 GE171⟩⟩
     ·rw [if_neg c18] at H; have c18b0 : decide (a0_0 ≤ a1_0) = false := decide_eq_false c18; clear c18; have H' := Aside0.mk H; clear H; have hnb24 := NB170_171.out; have hnc24 := NB171_170.out; have hcz25_0 : w5.cell? ⟨gb170, 0, none⟩ = some (.int .i64 a0_0) := bc BK170 0; have hcz25_1 : w5.cell? ⟨gb170, 1, none⟩ = some (.slice A0_1 l0_1.length c0_1) := bc BK170 1; have hfz25_0 := blk_frozen BK170.out 0; have hfz25_1 := blk_frozen BK170.out 1
      go_wp2_with (first | ((with_reducible refine gate_callee (f := 24) rfl ?_); refine gl_ (some 8) Tryd.func24 #[.agg #[.int .i64 a0_0, .slice A0_1 l0_1.length c0_1]] ?_; (with_reducible refine (simple_Valid.calls k a0_0 _ _ l0_1 true _ ?side1 ?side2 A6.out).mono ?_); (case side1 => repeat (first | exact (Kd.C_below HR0_1.out HB.out) | (with_reducible refine Kd.C_alloc ?_ _) | (with_reducible refine Kd.C_drewN ?_ _) | (with_reducible refine Kd.C_drew ?_))); (case side2 => exact HC0_1.out); rintro e w26 ⟨rfl, hb⟩; refine ⟨_, rfl, ?_⟩; replace BK170 := kx BK170 hb; replace BK171 := kx BK171 hb; replace HB := hs (hb2 HB GE170 GE171) hb; (try clear hb); (try clear hb2); (try clear hk); (try clear hi); have hcz27_0 : w26.cell? ⟨gb171, 0, none⟩ = some (.int .i64 a1_0) := bc BK171 0; have hcz27_1 : w26.cell? ⟨gb171, 1, none⟩ = some (.int .i64 a1_1) := bc BK171 1; have hfz27_0 := blk_frozen BK171.out 0; have hfz27_1 := blk_frozen BK171.out 1; have hcz28_0 : w26.cell? ⟨gb170, 0, none⟩ = some (.int .i64 a0_0) := bc BK170 0; have hcz28_1 : w26.cell? ⟨gb170, 1, none⟩ = some (.slice A0_1 l0_1.length c0_1) := bc BK170 1; have hfz28_0 := blk_frozen BK170.out 0; have hfz28_1 := blk_frozen BK170.out 1))
      go_meet
      case rel => exact ⟨_, (decide (a1_1 ≥ a0_0)), (by first | rfl | (simp; done) | (simp [*]; done)), H', ⟨by first | omega | exact Nat.le_refl _⟩, ⟨bx BK170⟩, ⟨bx BK171⟩, ⟨hb2 HB GE170 GE171⟩⟩
  ·replace c7 := Bool.eq_false_iff.mpr c7; subst c7; rw [if_neg (show ¬ (false = true) by decide)] at H; have H' := Aside0.mk H; clear H; have hnb29 := NB170_171.out; have hnc29 := NB171_170.out; have hcz30_0 : w5.cell? ⟨gb170, 0, none⟩ = some (.int .i64 a0_0) := bc BK170 0; have hcz30_1 : w5.cell? ⟨gb170, 1, none⟩ = some (.slice A0_1 l0_1.length c0_1) := bc BK170 1; have hfz30_0 := blk_frozen BK170.out 0; have hfz30_1 := blk_frozen BK170.out 1
   go_wp2_with (first | ((with_reducible refine gate_callee (f := 24) rfl ?_); refine gl_ (some 8) Tryd.func24 #[.agg #[.int .i64 a0_0, .slice A0_1 l0_1.length c0_1]] ?_; (with_reducible refine (simple_Valid.calls k a0_0 _ _ l0_1 false _ ?side1 ?side2 A6.out).mono ?_); (case side1 => repeat (first | exact (Kd.C_below HR0_1.out HB.out) | (with_reducible refine Kd.C_alloc ?_ _) | (with_reducible refine Kd.C_drewN ?_ _) | (with_reducible refine Kd.C_drew ?_))); (case side2 => exact HC0_1.out); rintro e w31 ⟨rfl, hb⟩; refine ⟨_, rfl, ?_⟩; replace BK170 := kx BK170 hb; replace BK171 := kx BK171 hb; replace HB := hs (hb2 HB GE170 GE171) hb; (try clear hb); (try clear hb2); (try clear hk); (try clear hi)))
   go_meet
   case rel => exact ⟨_, (true), (by first | rfl | (simp; done) | (simp [*]; done)), H', ⟨by first | omega | exact Nat.le_refl _⟩, ⟨bx BK170⟩, ⟨bx BK171⟩, ⟨hb2 HB GE170 GE171⟩⟩
 case rest => as_aux_lemma =>
  clear HC3
  try clear c1
  try clear c2
  try clear p2
  try clear c7
  try clear c8
  try clear c8b0
  try clear c9
  try clear c13
  try clear c13b0
  try clear c14
  try clear c18
  try clear c18b0
  try clear c19
  try clear c24
  try clear c26
  try clear c29
  try clear hcz10_0
  try clear hcz10_1
  try clear hcz12_0
  try clear hcz12_1
  try clear hcz15_0
  try clear hcz15_1
  try clear hcz17_0
  try clear hcz17_1
  try clear hcz20_0
  try clear hcz20_1
  try clear hcz22_0
  try clear hcz22_1
  try clear hcz23_0
  try clear hcz23_1
  try clear hcz25_0
  try clear hcz25_1
  try clear hcz27_0
  try clear hcz27_1
  try clear hcz28_0
  try clear hcz28_1
  try clear hcz30_0
  try clear hcz30_1
  try clear hfz10_0
  try clear hfz10_1
  try clear hfz12_0
  try clear hfz12_1
  try clear hfz15_0
  try clear hfz15_1
  try clear hfz17_0
  try clear hfz17_1
  try clear hfz20_0
  try clear hfz20_1
  try clear hfz22_0
  try clear hfz22_1
  try clear hfz23_0
  try clear hfz23_1
  try clear hfz25_0
  try clear hfz25_1
  try clear hfz27_0
  try clear hfz27_1
  try clear hfz28_0
  try clear hfz28_1
  try clear hfz30_0
  try clear hfz30_1
  obtain ⟨kq, x33_2, rfl, HA, HJ2, BK170, BK171, HB⟩ := hcut
  cases kq with
  | zero => exact absurd HA.out (by simp [simple_Find.j0])
  | succ kj2 =>
   have H := HA.out; clear HA; simp only [simple_Find.j0] at H
   by_cases c32 : x33_2 = true
   ·subst c32; rw [if_pos rfl] at H; obtain rfl := Option.some.inj H
    go_wp2
    go_ret
    exact ⟨by first | rfl | (simp [errW_none, errW_some] <;> rfl) | (simp [*, errW_none, errW_some] <;> rfl), hb2 HB GE170 GE171⟩
   ·replace c32 := Bool.eq_false_iff.mpr c32; subst c32; rw [if_neg (show ¬ (false = true) by decide)] at H; replace H := Option.bind_eq_some_iff.mp H; obtain ⟨⟨t173, t174⟩, A330, H⟩ := H; (try dsimp only at H); have A33 := Aside0.mk A330; clear A330
    by_cases c34 : t174 = true
    ·subst c34; rw [if_pos rfl] at H; obtain rfl := Option.some.inj H; have hnb35 := NB170_171.out; have hnc35 := NB171_170.out; have hcz36_0 : wc.cell? ⟨gb170, 0, none⟩ = some (.int .i64 a0_0) := bc BK170 0; have hcz36_1 : wc.cell? ⟨gb170, 1, none⟩ = some (.slice A0_1 l0_1.length c0_1) := bc BK170 1; have hfz36_0 := blk_frozen BK170.out 0; have hfz36_1 := blk_frozen BK170.out 1; have hcz37_0 : wc.cell? ⟨gb171, 0, none⟩ = some (.int .i64 a1_0) := bc BK171 0; have hcz37_1 : wc.cell? ⟨gb171, 1, none⟩ = some (.int .i64 a1_1) := bc BK171 1; have hfz37_0 := blk_frozen BK171.out 0; have hfz37_1 := blk_frozen BK171.out 1
     go_wp2_with (first | ((with_reducible refine gate_callee (f := 46) rfl ?_); refine gl_ (some 38) Tryd.func46 #[.slice A0_1 l0_1.length c0_1, .agg #[.int .i64 a1_0, .int .i64 a1_1], .func (Fn.func 37) #[] #[]] ?_; (with_reducible refine (api_Edge_46.calls kj2 _ _ l0_1 a1_0 a1_1 0 t173 true _ ?side1 ?side2 A33.out).mono ?_); (case side1 => repeat (first | exact (Kd.C_below HR0_1.out HB.out) | (with_reducible refine Kd.C_alloc ?_ _) | (with_reducible refine Kd.C_drewN ?_ _) | (with_reducible refine Kd.C_drew ?_))); (case side2 => exact HC0_1.out); rintro e w38 ⟨rfl, hb⟩; refine ⟨_, rfl, ?_⟩; replace BK170 := kx BK170 hb; replace BK171 := kx BK171 hb; replace HB := hs (hb2 HB GE170 GE171) hb; (try clear hb); (try clear hb2); (try clear hk); (try clear hi)))
     go_ret
     exact ⟨by first | rfl | (simp [errW_none, errW_some] <;> rfl) | (simp [*, errW_none, errW_some] <;> rfl), hb2 HB GE170 GE171⟩
    ·replace c34 := Bool.eq_false_iff.mpr c34; subst c34; rw [if_neg (show ¬ (false = true) by decide)] at H; obtain rfl := Option.some.inj H; have hnb39 := NB170_171.out; have hnc39 := NB171_170.out; have hcz40_0 : wc.cell? ⟨gb170, 0, none⟩ = some (.int .i64 a0_0) := bc BK170 0; have hcz40_1 : wc.cell? ⟨gb170, 1, none⟩ = some (.slice A0_1 l0_1.length c0_1) := bc BK170 1; have hfz40_0 := blk_frozen BK170.out 0; have hfz40_1 := blk_frozen BK170.out 1; have hcz41_0 : wc.cell? ⟨gb171, 0, none⟩ = some (.int .i64 a1_0) := bc BK171 0; have hcz41_1 : wc.cell? ⟨gb171, 1, none⟩ = some (.int .i64 a1_1) := bc BK171 1; have hfz41_0 := blk_frozen BK171.out 0; have hfz41_1 := blk_frozen BK171.out 1
     go_wp2_with (first | ((with_reducible refine gate_callee (f := 46) rfl ?_); refine gl_ (some 38) Tryd.func46 #[.slice A0_1 l0_1.length c0_1, .agg #[.int .i64 a1_0, .int .i64 a1_1], .func (Fn.func 37) #[] #[]] ?_; (with_reducible refine (api_Edge_46.calls kj2 _ _ l0_1 a1_0 a1_1 0 t173 false _ ?side1 ?side2 A33.out).mono ?_); (case side1 => repeat (first | exact (Kd.C_below HR0_1.out HB.out) | (with_reducible refine Kd.C_alloc ?_ _) | (with_reducible refine Kd.C_drewN ?_ _) | (with_reducible refine Kd.C_drew ?_))); (case side2 => exact HC0_1.out); rintro e w42 ⟨rfl, hb⟩; refine ⟨_, rfl, ?_⟩; replace BK170 := kx BK170 hb; replace BK171 := kx BK171 hb; replace HB := hs (hb2 HB GE170 GE171) hb; (try clear hb); (try clear hb2); (try clear hk); (try clear hi)))
     go_ret
     exact ⟨by first | rfl | (simp [errW_none, errW_some] <;> rfl) | (simp [*, errW_none, errW_some] <;> rfl), hb2 HB GE170 GE171⟩

end Go.Proofs.YthejafdcdcchbaaDoor.PSimA
