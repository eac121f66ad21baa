-- PRINTED by print.py (a twelfth state) out of the translation. Not trusted: Lean checks it.
import Derived.Test.YthejafdcdcchbaaDoorZPSimAx0
import Derived.Test.YthejafdcdcchbaaDoorZPSimAx8
namespace Go.Proofs.YthejafdcdcchbaaDoor.PSimA
open Go.RowKit Go.Proofs.YthejafdcdcchbaaDoorW.PrintWords Go.Proofs.YthejafdcdcchbaaDoorW.PrintLast Go.Proofs.YthejafdcdcchbaaDoorW.PrintMore
open Go.Proofs.YthejafdcdcchbaaDoorX
attribute [local go_sem] max2_int min2_int max_two min_two max_three min_three max_four min_four   -- for this text's walks alone
set_option linter.unusedVariables false
set_option linter.unusedSimpArgs false

/-! ### simple_Ends: function 19 -/
def simple_Ends.j0 : Nat → Int → Bool → Int → List (S42) → Option (Int × Int × Bool)
 | 0, _, _, _, _ => none
 | k + 1, x1, x22, x162000, x162001 => if x22 = true then (some (0, 0, false)) else (if 0 ≤ (wrap64 (Int.tdiv x1 2)) then (if (wrap64 (Int.tdiv x1 2)) < (x162001.length : Int) then (if (Int.tmod x1 2) = 1 then (some ((rd_T42 x162001 (wrap64 (Int.tdiv x1 2))).f1, (rd_T42 x162001 (wrap64 (Int.tdiv x1 2))).f0, true)) else (some ((rd_T42 x162001 (wrap64 (Int.tdiv x1 2))).f0, (rd_T42 x162001 (wrap64 (Int.tdiv x1 2))).f1, true))) else (none)) else (none))
def simple_Ends.f (k : Nat) (a0_0 : Int) (l0_1 : List (S42)) (a1 : Int) : Option (Int × Int × Bool) := (simple_Valid.f k a0_0 l0_1).bind fun t162 => (if t162 = true then (if a1 < 0 then (simple_Ends.j0 k a1 true a0_0 l0_1) else (simple_Ends.j0 k a1 (decide (a1 ≥ (wrap64 (2 * (l0_1.length : Int))))) a0_0 l0_1)) else (simple_Ends.j0 k a1 true a0_0 l0_1))
theorem simple_Ends.mono_l : ∀ k, (∀ y0 y1 y2 y3, LeO (simple_Ends.j0 k y0 y1 y2 y3) (simple_Ends.j0 (k + 1) y0 y1 y2 y3))
 | 0 => fun _ _ _ _ r h => by simp [simple_Ends.j0] at h
 | k + 1 => by
  have ih0 := simple_Ends.mono_l k
  ·intro y0 y1 y2 y3
   unfold simple_Ends.j0
   repeat' first
   | (with_reducible exact ih0 _ _ _ _)
   | (with_reducible exact simple_Valid.mono _ _ _)
   | (with_reducible exact LeO.refl _)
   | (with_reducible exact LeO.none _)
   | (with_reducible refine LeO.ite ?_ ?_)
   | (with_reducible refine LeO.bind ?_ (fun _ => ?_))
   | exact ih0 _ _ _ _
   | exact simple_Valid.mono _ _ _
   | exact LeO.none _
   | refine LeO.ite ?_ ?_
   | refine LeO.bind ?_ (fun _ => ?_)
theorem simple_Ends.mono : ∀ a0 a1 a2 k, LeO (simple_Ends.f k a0 a1 a2) (simple_Ends.f (k + 1) a0 a1 a2) := by
 intro a0 a1 a2 k; have ih0 := simple_Ends.mono_l k
 unfold simple_Ends.f
 repeat' first
   | (with_reducible exact ih0 _ _ _ _)
   | (with_reducible exact simple_Valid.mono _ _ _)
   | (with_reducible exact LeO.refl _)
   | (with_reducible exact LeO.none _)
   | (with_reducible refine LeO.ite ?_ ?_)
   | (with_reducible refine LeO.bind ?_ (fun _ => ?_))
   | exact ih0 _ _ _ _
   | exact simple_Valid.mono _ _ _
   | exact LeO.none _
   | refine LeO.ite ?_ ?_
   | refine LeO.bind ?_ (fun _ => ?_)
set_option maxHeartbeats 8000000 in
set_option maxRecDepth 100000 in
theorem simple_Ends.calls (k : Nat) (a0_0 : Int) (A0_1 : Option Addr) (c0_1 : Nat) (l0_1 : List (S42)) (a1 : Int) (r1 : Int) (r2 : Int) (r3 : Bool) (w : World) (hr0_1 : Kd.C k42 w A0_1 l0_1.length l0_1) (hc0_1 : l0_1.length ≤ c0_1) (h : simple_Ends.f k a0_0 l0_1 a1 = some (r1, r2, r3)) :
  Calls Tryd.prog 19 #[.agg #[.int .i64 a0_0, .slice A0_1 l0_1.length c0_1], .int .i64 a1] w fun e w' => e = .returned (.tuple #[.int .i64 r1, .int .i64 r2, .bool r3]) ∧ Below w.heap.size w w' := by
 have hu26 := Tryd.underlying26; have hu42 := Tryd.underlying42; have HR0_1 := Aside0.mk hr0_1; have HC0_1 := Aside0.mk hc0_1; clear hr0_1 hc0_1; have HB := Aside0.mk (Below.refl w.heap.size w); have H : ((simple_Valid.f k a0_0 l0_1).bind fun t162 => (if t162 = true then (if a1 < 0 then (simple_Ends.j0 k a1 true a0_0 l0_1) else (simple_Ends.j0 k a1 (decide (a1 ≥ (wrap64 (2 * (l0_1.length : Int))))) a0_0 l0_1)) else (simple_Ends.j0 k a1 true a0_0 l0_1))) = some (r1, r2, r3) := h; clear h; have HC3 := Aside0.mk H; clear H
 go_enter Tryd.func19, Tryd.ntmps19
 go_upto_region 1 with (first | ((with_reducible refine gate_dst (N := 2) rfl ?_); (try (refine gate_guard (by rfl) ?_; dsimp only)); refine be_ 2 #[.int .i64 a0_0, .slice A0_1 l0_1.length c0_1] 26 ?_; intro gb161 hg w4 hbox hb; have BK161 := Aside0.mk (hbox); have GW161 := wq (hb0 HB) hg; have GE161 := wq (hb0 HB) hg; replace HB := hs (hb0 HB) hb; clear hb hbox hg))
 repeat (go_quiet (first | ((with_reducible refine gate_dst (N := 2) rfl ?_); (try (refine gate_guard (by rfl) ?_; dsimp only)); refine be_ 2 #[.int .i64 a0_0, .slice A0_1 l0_1.length c0_1] 26 ?_; intro gb161 hg w4 hbox hb; have BK161 := Aside0.mk (hbox); have GW161 := wq (hb0 HB) hg; have GE161 := wq (hb0 HB) hg; replace HB := hs (hb0 HB) hb; clear hb hbox hg)); go_upto_region 1 with (first | ((with_reducible refine gate_dst (N := 2) rfl ?_); (try (refine gate_guard (by rfl) ?_; dsimp only)); refine be_ 2 #[.int .i64 a0_0, .slice A0_1 l0_1.length c0_1] 26 ?_; intro gb161 hg w4 hbox hb; have BK161 := Aside0.mk (hbox); have GW161 := wq (hb0 HB) hg; have GE161 := wq (hb0 HB) hg; replace HB := hs (hb0 HB) hb; clear hb hbox hg)))
 (try simp only [Act.put, List.setIfInBounds_toArray, List.set_cons_zero, List.set_cons_succ])
 go_cut [22] (fun v22 wc => ∃ (kq : Nat) (x22_2 : Bool), v22 = .bool x22_2 ∧ Aside0 (simple_Ends.j0 kq a1 x22_2 a0_0 l0_1 = some (r1, r2, r3)) ∧ Aside0 (kq ≤ k) ∧ Aside0 (wc.heap[gb161]? = some (.cells #[.int .i64 a0_0, (.slice A0_1 l0_1.length c0_1)] 26 (0, 0))) ∧ Aside0 (Below w.heap.size w wc))
 case first => as_aux_lemma =>
  have H := HC3.out; clear HC3; replace H := Option.bind_eq_some_iff.mp H; obtain ⟨t162, A50, H⟩ := H; replace H : (if t162 = true then (if a1 < 0 then (simple_Ends.j0 k a1 true a0_0 l0_1) else (simple_Ends.j0 k a1 (decide (a1 ≥ (wrap64 (2 * (l0_1.length : Int))))) a0_0 l0_1)) else (simple_Ends.j0 k a1 true a0_0 l0_1)) = some (r1, r2, r3) := H; have A5 := Aside0.mk A50; clear A50
  by_cases c6 : t162 = true
  ·subst c6; have H1 : (if a1 < 0 then (simple_Ends.j0 k a1 true a0_0 l0_1) else (simple_Ends.j0 k a1 (decide (a1 ≥ (wrap64 (2 * (l0_1.length : Int))))) a0_0 l0_1)) = some (r1, r2, r3) := by rw [if_pos rfl] at H; exact H
   clear H; have H := H1; clear H1
   by_cases c7 : a1 < 0
   ·rw [if_pos c7] at H; have c7b0 : decide (a1 < 0) = true := decide_eq_true c7; clear c7
    (first | rw [c7b0] | (simp only [i64_w, i32_w]; rw [c7b0]) | skip)
    have H' := Aside0.mk H; clear H; have hcz8_0 : w4.cell? ⟨gb161, 0, none⟩ = some (.int .i64 a0_0) := bc BK161 0; have hcz8_1 : w4.cell? ⟨gb161, 1, none⟩ = some (.slice A0_1 l0_1.length c0_1) := bc BK161 1; have hfz8_0 := blk_frozen BK161.out 0; have hfz8_1 := blk_frozen BK161.out 1
    go_wp2_with (first | (go_at_call 24; (with_reducible refine (simple_Valid.calls k a0_0 _ _ l0_1 true _ ?side1 ?side2 A5.out).mono ?_); (case side1 => repeat (first | exact (Kd.C_below HR0_1.out HB.out) | (with_reducible refine Kd.C_alloc ?_ _) | (with_reducible refine Kd.C_drewN ?_ _) | (with_reducible refine Kd.C_drew ?_))); (case side2 => exact HC0_1.out); rintro e w9 ⟨rfl, hb⟩; replace BK161 := kx BK161 hb; replace HB := hs (hb1 HB GE161) hb; (try clear hb); (try clear hb2); (try clear hk); (try clear hi)))
    repeat (go_quiet (first | (go_at_call 24; (with_reducible refine (simple_Valid.calls k a0_0 _ _ l0_1 true _ ?side1 ?side2 A5.out).mono ?_); (case side1 => repeat (first | exact (Kd.C_below HR0_1.out HB.out) | (with_reducible refine Kd.C_alloc ?_ _) | (with_reducible refine Kd.C_drewN ?_ _) | (with_reducible refine Kd.C_drew ?_))); (case side2 => exact HC0_1.out); rintro e w9 ⟨rfl, hb⟩; replace BK161 := kx BK161 hb; replace HB := hs (hb1 HB GE161) hb; (try clear hb); (try clear hb2); (try clear hk); (try clear hi))); try go_wp2_with (first | (go_at_call 24; (with_reducible refine (simple_Valid.calls k a0_0 _ _ l0_1 true _ ?side1 ?side2 A5.out).mono ?_); (case side1 => repeat (first | exact (Kd.C_below HR0_1.out HB.out) | (with_reducible refine Kd.C_alloc ?_ _) | (with_reducible refine Kd.C_drewN ?_ _) | (with_reducible refine Kd.C_drew ?_))); (case side2 => exact HC0_1.out); rintro e w9 ⟨rfl, hb⟩; replace BK161 := kx BK161 hb; replace HB := hs (hb1 HB GE161) hb; (try clear hb); (try clear hb2); (try clear hk); (try clear hi))))
    go_meet
    case rel => exact ⟨_, (true), (by first | rfl | (simp; done) | (simp [*]; done)), H', ⟨by first | omega | exact Nat.le_refl _⟩, ⟨bx BK161⟩, ⟨hb1 HB GE161⟩⟩
   ·rw [if_neg c7] at H; have c7b0 : decide (a1 < 0) = false := decide_eq_false c7; clear c7
    (first | rw [c7b0] | (simp only [i64_w, i32_w]; rw [c7b0]) | skip)
    have H' := Aside0.mk H; clear H; have hcz10_0 : w4.cell? ⟨gb161, 0, none⟩ = some (.int .i64 a0_0) := bc BK161 0; have hcz10_1 : w4.cell? ⟨gb161, 1, none⟩ = some (.slice A0_1 l0_1.length c0_1) := bc BK161 1; have hfz10_0 := blk_frozen BK161.out 0; have hfz10_1 := blk_frozen BK161.out 1
    go_wp2_with (first | (go_at_call 24; (with_reducible refine (simple_Valid.calls k a0_0 _ _ l0_1 true _ ?side1 ?side2 A5.out).mono ?_); (case side1 => repeat (first | exact (Kd.C_below HR0_1.out HB.out) | (with_reducible refine Kd.C_alloc ?_ _) | (with_reducible refine Kd.C_drewN ?_ _) | (with_reducible refine Kd.C_drew ?_))); (case side2 => exact HC0_1.out); rintro e w11 ⟨rfl, hb⟩; replace BK161 := kx BK161 hb; replace HB := hs (hb1 HB GE161) hb; (try clear hb); (try clear hb2); (try clear hk); (try clear hi); have hcz12_0 : w11.cell? ⟨gb161, 0, none⟩ = some (.int .i64 a0_0) := bc BK161 0; have hcz12_1 : w11.cell? ⟨gb161, 1, none⟩ = some (.slice A0_1 l0_1.length c0_1) := bc BK161 1; have hfz12_0 := blk_frozen BK161.out 0; have hfz12_1 := blk_frozen BK161.out 1))
    repeat (go_quiet (first | (go_at_call 24; (with_reducible refine (simple_Valid.calls k a0_0 _ _ l0_1 true _ ?side1 ?side2 A5.out).mono ?_); (case side1 => repeat (first | exact (Kd.C_below HR0_1.out HB.out) | (with_reducible refine Kd.C_alloc ?_ _) | (with_reducible refine Kd.C_drewN ?_ _) | (with_reducible refine Kd.C_drew ?_))); (case side2 => exact HC0_1.out); rintro e w11 ⟨rfl, hb⟩; replace BK161 := kx BK161 hb; replace HB := hs (hb1 HB GE161) hb; (try clear hb); (try clear hb2); (try clear hk); (try clear hi); have hcz12_0 : w11.cell? ⟨gb161, 0, none⟩ = some (.int .i64 a0_0) := bc BK161 0; have hcz12_1 : w11.cell? ⟨gb161, 1, none⟩ = some (.slice A0_1 l0_1.length c0_1) := bc BK161 1; have hfz12_0 := blk_frozen BK161.out 0; have hfz12_1 := blk_frozen BK161.out 1)); try go_wp2_with (first | (go_at_call 24; (with_reducible refine (simple_Valid.calls k a0_0 _ _ l0_1 true _ ?side1 ?side2 A5.out).mono ?_); (case side1 => repeat (first | exact (Kd.C_below HR0_1.out HB.out) | (with_reducible refine Kd.C_alloc ?_ _) | (with_reducible refine Kd.C_drewN ?_ _) | (with_reducible refine Kd.C_drew ?_))); (case side2 => exact HC0_1.out); rintro e w11 ⟨rfl, hb⟩; replace BK161 := kx BK161 hb; replace HB := hs (hb1 HB GE161) hb; (try clear hb); (try clear hb2); (try clear hk); (try clear hi); have hcz12_0 : w11.cell? ⟨gb161, 0, none⟩ = some (.int .i64 a0_0) := bc BK161 0; have hcz12_1 : w11.cell? ⟨gb161, 1, none⟩ = some (.slice A0_1 l0_1.length c0_1) := bc BK161 1; have hfz12_0 := blk_frozen BK161.out 0; have hfz12_1 := blk_frozen BK161.out 1)))
    go_meet
    case rel => exact ⟨_, (decide (a1 ≥ (wrap64 (2 * (l0_1.length : Int))))), (by first | rfl | (simp; done) | (simp [*]; done)), H', ⟨by first | omega | exact Nat.le_refl _⟩, ⟨bx BK161⟩, ⟨hb1 HB GE161⟩⟩
  ·replace c6 := Bool.eq_false_iff.mpr c6; subst c6; have H1 : (simple_Ends.j0 k a1 true a0_0 l0_1) = some (r1, r2, r3) := by rw [if_neg (show ¬ (false = true) by decide)] at H; exact H
   clear H; have H := H1; clear H1; have H' := Aside0.mk H; clear H; have hcz13_0 : w4.cell? ⟨gb161, 0, none⟩ = some (.int .i64 a0_0) := bc BK161 0; have hcz13_1 : w4.cell? ⟨gb161, 1, none⟩ = some (.slice A0_1 l0_1.length c0_1) := bc BK161 1; have hfz13_0 := blk_frozen BK161.out 0; have hfz13_1 := blk_frozen BK161.out 1
   go_wp2_with (first | (go_at_call 24; (with_reducible refine (simple_Valid.calls k a0_0 _ _ l0_1 false _ ?side1 ?side2 A5.out).mono ?_); (case side1 => repeat (first | exact (Kd.C_below HR0_1.out HB.out) | (with_reducible refine Kd.C_alloc ?_ _) | (with_reducible refine Kd.C_drewN ?_ _) | (with_reducible refine Kd.C_drew ?_))); (case side2 => exact HC0_1.out); rintro e w14 ⟨rfl, hb⟩; replace BK161 := kx BK161 hb; replace HB := hs (hb1 HB GE161) hb; (try clear hb); (try clear hb2); (try clear hk); (try clear hi)))
   repeat (go_quiet (first | (go_at_call 24; (with_reducible refine (simple_Valid.calls k a0_0 _ _ l0_1 false _ ?side1 ?side2 A5.out).mono ?_); (case side1 => repeat (first | exact (Kd.C_below HR0_1.out HB.out) | (with_reducible refine Kd.C_alloc ?_ _) | (with_reducible refine Kd.C_drewN ?_ _) | (with_reducible refine Kd.C_drew ?_))); (case side2 => exact HC0_1.out); rintro e w14 ⟨rfl, hb⟩; replace BK161 := kx BK161 hb; replace HB := hs (hb1 HB GE161) hb; (try clear hb); (try clear hb2); (try clear hk); (try clear hi))); try go_wp2_with (first | (go_at_call 24; (with_reducible refine (simple_Valid.calls k a0_0 _ _ l0_1 false _ ?side1 ?side2 A5.out).mono ?_); (case side1 => repeat (first | exact (Kd.C_below HR0_1.out HB.out) | (with_reducible refine Kd.C_alloc ?_ _) | (with_reducible refine Kd.C_drewN ?_ _) | (with_reducible refine Kd.C_drew ?_))); (case side2 => exact HC0_1.out); rintro e w14 ⟨rfl, hb⟩; replace BK161 := kx BK161 hb; replace HB := hs (hb1 HB GE161) hb; (try clear hb); (try clear hb2); (try clear hk); (try clear hi))))
   go_meet
   case rel => exact ⟨_, (true), (by first | rfl | (simp; done) | (simp [*]; done)), H', ⟨by first | omega | exact Nat.le_refl _⟩, ⟨bx BK161⟩, ⟨hb1 HB GE161⟩⟩
 case rest => as_aux_lemma =>
  clear HC3
  try clear c1
  try clear p2
  try clear c6
  try clear p6
  try clear c7
  try clear c7b0
  try clear hcz10_0
  try clear hcz10_1
  try clear hcz12_0
  try clear hcz12_1
  try clear hcz13_0
  try clear hcz13_1
  try clear hcz8_0
  try clear hcz8_1
  try clear hfz10_0
  try clear hfz10_1
  try clear hfz12_0
  try clear hfz12_1
  try clear hfz13_0
  try clear hfz13_1
  try clear hfz8_0
  try clear hfz8_1
  obtain ⟨kq, x22_2, rfl, HA, HJ2, BK161, HB⟩ := hcut
  cases kq with
  | zero => exact absurd HA.out (by simp [simple_Ends.j0])
  | succ kj2 =>
   have H := HA.out; clear HA; simp only [simple_Ends.j0] at H
   by_cases c15 : x22_2 = true
   ·subst c15; have H1 : (some (0, 0, false)) = some (r1, r2, r3) := by rw [if_pos rfl] at H; exact H
    clear H; have H := H1; clear H1; simp only [Option.some.injEq, Prod.mk.injEq] at H; obtain ⟨rfl, rfl, rfl⟩ := H
    go_wp2
    repeat (go_quiet (fail); try go_wp2)
    go_ret3
    exact ⟨by first | rfl | (simp [errW_none, errW_some] <;> rfl) | (simp [*, errW_none, errW_some] <;> rfl), hb1 HB GE161⟩
   ·replace c15 := Bool.eq_false_iff.mpr c15; subst c15; have H1 : (if 0 ≤ (wrap64 (Int.tdiv a1 2)) then (if (wrap64 (Int.tdiv a1 2)) < (l0_1.length : Int) then (if (Int.tmod a1 2) = 1 then (some ((rd_T42 l0_1 (wrap64 (Int.tdiv a1 2))).f1, (rd_T42 l0_1 (wrap64 (Int.tdiv a1 2))).f0, true)) else (some ((rd_T42 l0_1 (wrap64 (Int.tdiv a1 2))).f0, (rd_T42 l0_1 (wrap64 (Int.tdiv a1 2))).f1, true))) else (none)) else (none)) = some (r1, r2, r3) := by rw [if_neg (show ¬ (false = true) by decide)] at H; exact H
    clear H; have H := H1; clear H1; obtain ⟨ji16, hji16⟩ : ∃ j_ : Int, (wrap64 (Int.tdiv a1 2)) = j_ := ⟨_, rfl⟩; replace H : (if 0 ≤ (ji16) then (if (ji16) < (l0_1.length : Int) then (if (Int.tmod a1 2) = 1 then (some ((rd_T42 l0_1 (ji16)).f1, (rd_T42 l0_1 (ji16)).f0, true)) else (some ((rd_T42 l0_1 (ji16)).f0, (rd_T42 l0_1 (ji16)).f1, true))) else (none)) else (none)) = some (r1, r2, r3) := by first | (rw [hji16] at H; exact H) | (simp only [hji16] at H ⊢; exact H)
    have hji16w : (IntKind.i64.wrap (Int.tdiv a1 2)) = ji16 := (i64_w _).trans hji16
    by_cases c17 : 0 ≤ (ji16)
    ·rw [if_pos c17] at H; have c17b0 : decide (0 ≤ (ji16)) = true := decide_eq_true c17; clear c17
     by_cases c18 : (ji16) < (l0_1.length : Int)
     ·rw [if_pos c18] at H; have c18b0 : decide ((ji16) < (l0_1.length : Int)) = true := decide_eq_true c18; clear c18
      by_cases c19 : (Int.tmod a1 2) = 1
      ·rw [if_pos c19] at H; have c19b0 : ((Int.tmod a1 2) == 1) = true := beq_iff_eq.mpr c19; have c19b1 : ((Int.tmod a1 2) != 1) = false := bne_eq_false_iff_eq.mpr c19; clear c19; simp only [Option.some.injEq, Prod.mk.injEq] at H; obtain ⟨rfl, rfl, rfl⟩ := H; have hcz20_0 : wc.cell? ⟨gb161, 0, none⟩ = some (.int .i64 a0_0) := bc BK161 0; have hcz20_1 : wc.cell? ⟨gb161, 1, none⟩ = some (.slice A0_1 l0_1.length c0_1) := bc BK161 1; have hfz20_0 := blk_frozen BK161.out 0; have hfz20_1 := blk_frozen BK161.out 1; have p163 : 0 ≤ ((ji16) : Int) := of_decide_eq_true (by first | (with_reducible assumption) | assumption); have q163 : (ji16) < (l0_1.length : Int) := of_decide_eq_true (by first | (with_reducible assumption) | assumption); obtain ⟨ad163, e163, hx163_0, hx163_1⟩ := at_T42 HR0_1.out (ji16) p163 q163
       cases e163
       replace hx163_0 := (HB.out.cell (World.block_lt_of_cell? w _ hx163_0)).trans hx163_0; replace hx163_1 := (HB.out.cell (World.block_lt_of_cell? w _ hx163_1)).trans hx163_1; replace p163 := eq_true p163; replace q163 := eq_true q163
       go_wp2_with (first | ((with_reducible refine gate_dst (N := 7) rfl ?_); (try (refine gate_guard (by rfl) ?_; dsimp only)); refine be_ 7 #[.int .i64 0, .int .i64 0] 42 ?_; intro gb164 hg w21 hbox hb; have BK164 := Aside0.mk (hbox); have GW164 := wq (hb1 HB GE161) hg; have GE164 := wq (hb1 HB GE161) hg; replace HB := hs (hb1 HB GE161) hb; have NB161_164 := lx BK161 hg; have NB164_161 := gx BK161 hg; replace BK161 := kx BK161 hb; clear hb hbox hg; have hnb22 := NB164_161.out; have hnc22 := NB161_164.out; have hcz23_0 : w21.cell? ⟨gb164, 0, none⟩ = some (.int .i64 0) := bc BK164 0; have hcz23_1 : w21.cell? ⟨gb164, 1, none⟩ = some (.int .i64 0) := bc BK164 1; have hfz23_0 := blk_frozen BK164.out 0; have hfz23_1 := blk_frozen BK164.out 1))
       repeat (go_quiet (first | ((with_reducible refine gate_dst (N := 7) rfl ?_); (try (refine gate_guard (by rfl) ?_; dsimp only)); refine be_ 7 #[.int .i64 0, .int .i64 0] 42 ?_; intro gb164 hg w21 hbox hb; have BK164 := Aside0.mk (hbox); have GW164 := wq (hb1 HB GE161) hg; have GE164 := wq (hb1 HB GE161) hg; replace HB := hs (hb1 HB GE161) hb; have NB161_164 := lx BK161 hg; have NB164_161 := gx BK161 hg; replace BK161 := kx BK161 hb; clear hb hbox hg; have hnb22 := NB164_161.out; have hnc22 := NB161_164.out; have hcz23_0 : w21.cell? ⟨gb164, 0, none⟩ = some (.int .i64 0) := bc BK164 0; have hcz23_1 : w21.cell? ⟨gb164, 1, none⟩ = some (.int .i64 0) := bc BK164 1; have hfz23_0 := blk_frozen BK164.out 0; have hfz23_1 := blk_frozen BK164.out 1)); try go_wp2_with (first | ((with_reducible refine gate_dst (N := 7) rfl ?_); (try (refine gate_guard (by rfl) ?_; dsimp only)); refine be_ 7 #[.int .i64 0, .int .i64 0] 42 ?_; intro gb164 hg w21 hbox hb; have BK164 := Aside0.mk (hbox); have GW164 := wq (hb1 HB GE161) hg; have GE164 := wq (hb1 HB GE161) hg; replace HB := hs (hb1 HB GE161) hb; have NB161_164 := lx BK161 hg; have NB164_161 := gx BK161 hg; replace BK161 := kx BK161 hb; clear hb hbox hg; have hnb22 := NB164_161.out; have hnc22 := NB161_164.out; have hcz23_0 : w21.cell? ⟨gb164, 0, none⟩ = some (.int .i64 0) := bc BK164 0; have hcz23_1 : w21.cell? ⟨gb164, 1, none⟩ = some (.int .i64 0) := bc BK164 1; have hfz23_0 := blk_frozen BK164.out 0; have hfz23_1 := blk_frozen BK164.out 1)))
       go_ret3
       exact ⟨by first | rfl | (simp [errW_none, errW_some] <;> rfl) | (simp only [← hji16]; first | rfl | (simp [errW_none, errW_some] <;> rfl)) | (simp [*, errW_none, errW_some] <;> rfl), hb2 HB GE161 GE164⟩
      ·rw [if_neg c19] at H; have c19b0 : ((Int.tmod a1 2) == 1) = false := beq_eq_false_iff_ne.mpr c19; have c19b1 : ((Int.tmod a1 2) != 1) = true := bne_iff_ne.mpr c19; simp only [Option.some.injEq, Prod.mk.injEq] at H; obtain ⟨rfl, rfl, rfl⟩ := H; have hcz24_0 : wc.cell? ⟨gb161, 0, none⟩ = some (.int .i64 a0_0) := bc BK161 0; have hcz24_1 : wc.cell? ⟨gb161, 1, none⟩ = some (.slice A0_1 l0_1.length c0_1) := bc BK161 1; have hfz24_0 := blk_frozen BK161.out 0; have hfz24_1 := blk_frozen BK161.out 1; have p163 : 0 ≤ ((ji16) : Int) := of_decide_eq_true (by first | (with_reducible assumption) | assumption); have q163 : (ji16) < (l0_1.length : Int) := of_decide_eq_true (by first | (with_reducible assumption) | assumption); obtain ⟨ad163, e163, hx163_0, hx163_1⟩ := at_T42 HR0_1.out (ji16) p163 q163
       cases e163
       replace hx163_0 := (HB.out.cell (World.block_lt_of_cell? w _ hx163_0)).trans hx163_0; replace hx163_1 := (HB.out.cell (World.block_lt_of_cell? w _ hx163_1)).trans hx163_1; replace p163 := eq_true p163; replace q163 := eq_true q163
       go_wp2_with (first | ((with_reducible refine gate_dst (N := 7) rfl ?_); (try (refine gate_guard (by rfl) ?_; dsimp only)); refine be_ 7 #[.int .i64 0, .int .i64 0] 42 ?_; intro gb164 hg w25 hbox hb; have BK164 := Aside0.mk (hbox); have GW164 := wq (hb1 HB GE161) hg; have GE164 := wq (hb1 HB GE161) hg; replace HB := hs (hb1 HB GE161) hb; have NB161_164 := lx BK161 hg; have NB164_161 := gx BK161 hg; replace BK161 := kx BK161 hb; clear hb hbox hg; have hnb26 := NB164_161.out; have hnc26 := NB161_164.out; have hcz27_0 : w25.cell? ⟨gb164, 0, none⟩ = some (.int .i64 0) := bc BK164 0; have hcz27_1 : w25.cell? ⟨gb164, 1, none⟩ = some (.int .i64 0) := bc BK164 1; have hfz27_0 := blk_frozen BK164.out 0; have hfz27_1 := blk_frozen BK164.out 1))
       repeat (go_quiet (first | ((with_reducible refine gate_dst (N := 7) rfl ?_); (try (refine gate_guard (by rfl) ?_; dsimp only)); refine be_ 7 #[.int .i64 0, .int .i64 0] 42 ?_; intro gb164 hg w25 hbox hb; have BK164 := Aside0.mk (hbox); have GW164 := wq (hb1 HB GE161) hg; have GE164 := wq (hb1 HB GE161) hg; replace HB := hs (hb1 HB GE161) hb; have NB161_164 := lx BK161 hg; have NB164_161 := gx BK161 hg; replace BK161 := kx BK161 hb; clear hb hbox hg; have hnb26 := NB164_161.out; have hnc26 := NB161_164.out; have hcz27_0 : w25.cell? ⟨gb164, 0, none⟩ = some (.int .i64 0) := bc BK164 0; have hcz27_1 : w25.cell? ⟨gb164, 1, none⟩ = some (.int .i64 0) := bc BK164 1; have hfz27_0 := blk_frozen BK164.out 0; have hfz27_1 := blk_frozen BK164.out 1)); try go_wp2_with (first | ((with_reducible refine gate_dst (N := 7) rfl ?_); (try (refine gate_guard (by rfl) ?_; dsimp only)); refine be_ 7 #[.int .i64 0, .int .i64 0] 42 ?_; intro gb164 hg w25 hbox hb; have BK164 := Aside0.mk (hbox); have GW164 := wq (hb1 HB GE161) hg; have GE164 := wq (hb1 HB GE161) hg; replace HB := hs (hb1 HB GE161) hb; have NB161_164 := lx BK161 hg; have NB164_161 := gx BK161 hg; replace BK161 := kx BK161 hb; clear hb hbox hg; have hnb26 := NB164_161.out; have hnc26 := NB161_164.out; have hcz27_0 : w25.cell? ⟨gb164, 0, none⟩ = some (.int .i64 0) := bc BK164 0; have hcz27_1 : w25.cell? ⟨gb164, 1, none⟩ = some (.int .i64 0) := bc BK164 1; have hfz27_0 := blk_frozen BK164.out 0; have hfz27_1 := blk_frozen BK164.out 1)))
       go_ret3
       exact ⟨by first | rfl | (simp [errW_none, errW_some] <;> rfl) | (simp only [← hji16]; first | rfl | (simp [errW_none, errW_some] <;> rfl)) | (simp [*, errW_none, errW_some] <;> rfl), hb2 HB GE161 GE164⟩
     ·rw [if_neg c18] at H; exact absurd H (by simp)
    ·rw [if_neg c17] at H; exact absurd H (by simp)

end Go.Proofs.YthejafdcdcchbaaDoor.PSimA
