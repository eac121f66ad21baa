-- PRINTED by print.py (a twelfth state) out of the translation. Not trusted: Lean checks it.
import Derived.Test.YthejafdcdcchbaaDoorZPSimAx0
import Derived.Test.YthejafdcdcchbaaDoorZPSimAx8
import Derived.Test.YthejafdcdcchbaaDoorZPSimAx14
namespace Go.Proofs.YthejafdcdcchbaaDoor.PSimA
open Go.RowKit Go.Proofs.YthejafdcdcchbaaDoorW.PrintWords Go.Proofs.YthejafdcdcchbaaDoorW.PrintLast Go.Proofs.YthejafdcdcchbaaDoorW.PrintMore
open Go.Proofs.YthejafdcdcchbaaDoorX
attribute [local go_sem] max2_int min2_int max_two min_two max_three min_three max_four min_four   -- for this text's walks alone
set_option linter.unusedVariables false
set_option linter.unusedSimpArgs false

/-! ### simple_Find: function 26 -/
def simple_Find.j0 : Nat → Bool → Int → List (S42) → Int → Int → Option (Int)
 | 0, _, _, _, _, _ => none
 | k + 1, x33, x171000, x171001, x172000, x172001 => if x33 = true then (some (-1)) else ((api_Edge_46.f k x171001 x172000 x172001 0).bind fun bt173 => (if bt173.2 = true then (some bt173.1) else (some (-1))))
def simple_Find.f (k : Nat) (a0_0 : Int) (l0_1 : List (S42)) (a1_0 : Int) (a1_1 : Int) : Option (Int) := (simple_Valid.f k a0_0 l0_1).bind fun t172 => (if t172 = true then (if a1_0 < 0 then (simple_Find.j0 k true a0_0 l0_1 a1_0 a1_1) else (if a1_1 < 0 then (simple_Find.j0 k true a0_0 l0_1 a1_0 a1_1) else (if a1_0 ≥ a0_0 then (simple_Find.j0 k true a0_0 l0_1 a1_0 a1_1) else (simple_Find.j0 k (decide (a1_1 ≥ a0_0)) a0_0 l0_1 a1_0 a1_1)))) else (simple_Find.j0 k true a0_0 l0_1 a1_0 a1_1))
theorem simple_Find.mono_l : ∀ k, (∀ y0 y1 y2 y3 y4, LeO (simple_Find.j0 k y0 y1 y2 y3 y4) (simple_Find.j0 (k + 1) y0 y1 y2 y3 y4))
 | 0 => fun _ _ _ _ _ r h => by simp [simple_Find.j0] at h
 | k + 1 => by
  have ih0 := simple_Find.mono_l k
  ·intro y0 y1 y2 y3 y4
   unfold simple_Find.j0
   repeat' first
   | (with_reducible exact ih0 _ _ _ _ _)
   | (with_reducible exact api_Edge_46.mono _ _ _ _ _)
   | (with_reducible exact simple_Valid.mono _ _ _)
   | (with_reducible exact LeO.refl _)
   | (with_reducible exact LeO.none _)
   | (with_reducible refine LeO.ite ?_ ?_)
   | (with_reducible refine LeO.bind ?_ (fun _ => ?_))
   | exact ih0 _ _ _ _ _
   | exact api_Edge_46.mono _ _ _ _ _
   | exact simple_Valid.mono _ _ _
   | exact LeO.none _
   | refine LeO.ite ?_ ?_
   | refine LeO.bind ?_ (fun _ => ?_)
theorem simple_Find.mono : ∀ a0 a1 a2 a3 k, LeO (simple_Find.f k a0 a1 a2 a3) (simple_Find.f (k + 1) a0 a1 a2 a3) := by
 intro a0 a1 a2 a3 k; have ih0 := simple_Find.mono_l k
 unfold simple_Find.f
 repeat' first
   | (with_reducible exact ih0 _ _ _ _ _)
   | (with_reducible exact api_Edge_46.mono _ _ _ _ _)
   | (with_reducible exact simple_Valid.mono _ _ _)
   | (with_reducible exact LeO.refl _)
   | (with_reducible exact LeO.none _)
   | (with_reducible refine LeO.ite ?_ ?_)
   | (with_reducible refine LeO.bind ?_ (fun _ => ?_))
   | exact ih0 _ _ _ _ _
   | exact api_Edge_46.mono _ _ _ _ _
   | exact simple_Valid.mono _ _ _
   | exact LeO.none _
   | refine LeO.ite ?_ ?_
   | refine LeO.bind ?_ (fun _ => ?_)
set_option maxHeartbeats 8000000 in
set_option maxRecDepth 100000 in
theorem simple_Find.calls (k : Nat) (a0_0 : Int) (A0_1 : Option Addr) (c0_1 : Nat) (l0_1 : List (S42)) (a1_0 : Int) (a1_1 : Int) (r : Int) (w : World) (hr0_1 : Kd.C k42 w A0_1 l0_1.length l0_1) (hc0_1 : l0_1.length ≤ c0_1) (h : simple_Find.f k a0_0 l0_1 a1_0 a1_1 = some r) :
  Calls Tryd.prog 26 #[.agg #[.int .i64 a0_0, .slice A0_1 l0_1.length c0_1], .agg #[.int .i64 a1_0, .int .i64 a1_1]] w fun e w' => e = .returned (.int .i64 r) ∧ Below w.heap.size w w' := by
 have hu26 := Tryd.underlying26; have hu42 := Tryd.underlying42; have HR0_1 := Aside0.mk hr0_1; have HC0_1 := Aside0.mk hc0_1; clear hr0_1 hc0_1; have HB := Aside0.mk (Below.refl w.heap.size w); have H : ((simple_Valid.f k a0_0 l0_1).bind fun t172 => (if t172 = true then (if a1_0 < 0 then (simple_Find.j0 k true a0_0 l0_1 a1_0 a1_1) else (if a1_1 < 0 then (simple_Find.j0 k true a0_0 l0_1 a1_0 a1_1) else (if a1_0 ≥ a0_0 then (simple_Find.j0 k true a0_0 l0_1 a1_0 a1_1) else (simple_Find.j0 k (decide (a1_1 ≥ a0_0)) a0_0 l0_1 a1_0 a1_1)))) else (simple_Find.j0 k true a0_0 l0_1 a1_0 a1_1))) = some r := h; clear h; have HC3 := Aside0.mk H; clear H
 go_enter Tryd.func26, Tryd.ntmps26
 go_upto_region 1 with (first | ((with_reducible refine gate_dst (N := 2) rfl ?_); refine be_ 2 #[.int .i64 a0_0, .slice A0_1 l0_1.length c0_1] 26 ?_; intro gb170 hg w4 hbox hb; have BK170 := Aside0.mk (hbox); have GW170 := wq (hb0 HB) hg; have GE170 := wq (hb0 HB) hg; replace HB := hs (hb0 HB) hb; clear hb hbox hg) | ((with_reducible refine gate_dst (N := 3) rfl ?_); refine be_ 3 #[.int .i64 a1_0, .int .i64 a1_1] 42 ?_; intro gb171 hg w5 hbox hb; have BK171 := Aside0.mk (hbox); have GW171 := wq (hb1 HB GE170) hg; have GE171 := wq (hb1 HB GE170) hg; replace HB := hs (hb1 HB GE170) hb; have NB170_171 := lx BK170 hg; have NB171_170 := gx BK170 hg; replace BK170 := kx BK170 hb; clear hb hbox hg))
 (try simp only [Act.put, List.setIfInBounds_toArray, List.set_cons_zero, List.set_cons_succ])
 go_cut [33] (fun v33 wc => ∃ (kq : Nat) (x33_2 : Bool), v33 = .bool x33_2 ∧ Aside0 (simple_Find.j0 kq x33_2 a0_0 l0_1 a1_0 a1_1 = some r) ∧ Aside0 (kq ≤ k) ∧ Aside0 (wc.heap[gb170]? = some (.cells #[.int .i64 a0_0, (.slice A0_1 l0_1.length c0_1)] 26 (0, 0))) ∧ Aside0 (wc.heap[gb171]? = some (.cells #[.int .i64 a1_0, .int .i64 a1_1] 42 (0, 0))) ∧ Aside0 (Below w.heap.size w wc))
 case first => as_aux_lemma =>
  have H := HC3.out; clear HC3; replace H := Option.bind_eq_some_iff.mp H; obtain ⟨t172, A60, H⟩ := H; (try dsimp only at H); have A6 := Aside0.mk A60; clear A60
  by_cases c7 : t172 = true
  ·subst c7; rw [if_pos rfl] at H
   by_cases c8 : a1_0 < 0
   ·rw [if_pos c8] at H; have c8b0 : decide (a1_0 < 0) = true := decide_eq_true c8; clear c8
    (first | rw [c8b0] | (simp only [i64_w, i32_w]; rw [c8b0]) | skip)
    have H' := Aside0.mk H; clear H; have hnb9 := NB170_171.out; have hnc9 := NB171_170.out; have hcz10_0 : w5.cell? ⟨gb170, 0, none⟩ = some (.int .i64 a0_0) := bc BK170 0; have hcz10_1 : w5.cell? ⟨gb170, 1, none⟩ = some (.slice A0_1 l0_1.length c0_1) := bc BK170 1; have hfz10_0 := blk_frozen BK170.out 0; have hfz10_1 := blk_frozen BK170.out 1
    go_wp2_with (first | ((with_reducible refine gate_callee (f := 24) rfl ?_); refine gl_ (some 8) Tryd.func24 #[.agg #[.int .i64 a0_0, .slice A0_1 l0_1.length c0_1]] ?_; (with_reducible refine (simple_Valid.calls k a0_0 _ _ l0_1 true _ ?side1 ?side2 A6.out).mono ?_); (case side1 => repeat (first | exact (Kd.C_below HR0_1.out HB.out) | (with_reducible refine Kd.C_alloc ?_ _) | (with_reducible refine Kd.C_drewN ?_ _) | (with_reducible refine Kd.C_drew ?_))); (case side2 => exact HC0_1.out); rintro e w11 ⟨rfl, hb⟩; refine ⟨_, rfl, ?_⟩; replace BK170 := kx BK170 hb; replace BK171 := kx BK171 hb; replace HB := hs (hb2 HB GE170 GE171) hb; (try clear hb); (try clear hb2); (try clear hk); (try clear hi); have hcz12_0 : w11.cell? ⟨gb171, 0, none⟩ = some (.int .i64 a1_0) := bc BK171 0; have hcz12_1 : w11.cell? ⟨gb171, 1, none⟩ = some (.int .i64 a1_1) := bc BK171 1; have hfz12_0 := blk_frozen BK171.out 0; have hfz12_1 := blk_frozen BK171.out 1))
    go_meet
    case rel => exact ⟨_, (true), (by first | rfl | (simp; done) | (simp [*]; done)), H', ⟨by first | omega | exact Nat.le_refl _⟩, ⟨bx BK170⟩, ⟨bx BK171⟩, ⟨hb2 HB GE170 GE171⟩⟩
   ·rw [if_neg c8] at H; have c8b0 : decide (a1_0 < 0) = false := decide_eq_false c8; clear c8
    (first | rw [c8b0] | (simp only [i64_w, i32_w]; rw [c8b0]) | skip)
    by_cases c13 : a1_1 < 0
    ·rw [if_pos c13] at H; have c13b0 : decide (a1_1 < 0) = true := decide_eq_true c13; clear c13; have H' := Aside0.mk H; clear H; have hnb14 := NB170_171.out; have hnc14 := NB171_170.out; have hcz15_0 : w5.cell? ⟨gb170, 0, none⟩ = some (.int .i64 a0_0) := bc BK170 0; have hcz15_1 : w5.cell? ⟨gb170, 1, none⟩ = some (.slice A0_1 l0_1.length c0_1) := bc BK170 1; have hfz15_0 := blk_frozen BK170.out 0; have hfz15_1 := blk_frozen BK170.out 1
     go_wp2_with (first | ((with_reducible refine gate_callee (f := 24) rfl ?_); refine gl_ (some 8) Tryd.func24 #[.agg #[.int .i64 a0_0, .slice A0_1 l0_1.length c0_1]] ?_; (with_reducible refine (simple_Valid.calls k a0_0 _ _ l0_1 true _ ?side1 ?side2 A6.out).mono ?_); (case side1 => repeat (first | exact (Kd.C_below HR0_1.out HB.out) | (with_reducible refine Kd.C_alloc ?_ _) | (with_reducible refine Kd.C_drewN ?_ _) | (with_reducible refine Kd.C_drew ?_))); (case side2 => exact HC0_1.out); rintro e w16 ⟨rfl, hb⟩; refine ⟨_, rfl, ?_⟩; replace BK170 := kx BK170 hb; replace BK171 := kx BK171 hb; replace HB := hs (hb2 HB GE170 GE171) hb; (try clear hb); (try clear hb2); (try clear hk); (try clear hi); have hcz17_0 : w16.cell? ⟨gb171, 0, none⟩ = some (.int .i64 a1_0) := bc BK171 0; have hcz17_1 : w16.cell? ⟨gb171, 1, none⟩ = some (.int .i64 a1_1) := bc BK171 1; have hfz17_0 := blk_frozen BK171.out 0; have hfz17_1 := blk_frozen BK171.out 1))
     go_meet
     case rel => exact ⟨_, (true), (by first | rfl | (simp; done) | (simp [*]; done)), H', ⟨by first | omega | exact Nat.le_refl _⟩, ⟨bx BK170⟩, ⟨bx BK171⟩, ⟨hb2 HB GE170 GE171⟩⟩
    ·rw [if_neg c13] at H; have c13b0 : decide (a1_1 < 0) = false := decide_eq_false c13; clear c13
     by_cases c18 : a1_0 ≥ a0_0
     ·rw [if_pos c18] at H; have c18b0 : decide (a0_0 ≤ a1_0) = true := decide_eq_true c18; clear c18; have H' := Aside0.mk H; clear H; have hnb19 := NB170_171.out; have hnc19 := NB171_170.out; have hcz20_0 : w5.cell? ⟨gb170, 0, none⟩ = some (.int .i64 a0_0) := bc BK170 0; have hcz20_1 : w5.cell? ⟨gb170, 1, none⟩ = some (.slice A0_1 l0_1.length c0_1) := bc BK170 1; have hfz20_0 := blk_frozen BK170.out 0; have hfz20_1 := blk_frozen BK170.out 1
      go_wp2_with (first | ((with_reducible refine gate_callee (f := 24) rfl ?_); refine gl_ (some 8) Tryd.func24 #[.agg #[.int .i64 a0_0, .slice A0_1 l0_1.length c0_1]] ?_; (with_reducible refine (simple_Valid.calls k a0_0 _ _ l0_1 true _ ?side1 ?side2 A6.out).mono ?_); (case side1 => repeat (first | exact (Kd.C_below HR0_1.out HB.out) | (with_reducible refine Kd.C_alloc ?_ _) | (with_reducible refine Kd.C_drewN ?_ _) | (with_reducible refine Kd.C_drew ?_))); (case side2 => exact HC0_1.out); rintro e w21 ⟨rfl, hb⟩; refine ⟨_, rfl, ?_⟩; replace BK170 := kx BK170 hb; replace BK171 := kx BK171 hb; replace HB := hs (hb2 HB GE170 GE171) hb; (try clear hb); (try clear hb2); (try clear hk); (try clear hi); have hcz22_0 : w21.cell? ⟨gb171, 0, none⟩ = some (.int .i64 a1_0) := bc BK171 0; have hcz22_1 : w21.cell? ⟨gb171, 1, none⟩ = some (.int .i64 a1_1) := bc BK171 1; have hfz22_0 := blk_frozen BK171.out 0; have hfz22_1 := blk_frozen BK171.out 1; have hcz23_0 : w21.cell? ⟨gb170, 0, none⟩ = some (.int .i64 a0_0) := bc BK170 0; have hcz23_1 : w21.cell? ⟨gb170, 1, none⟩ = some (.slice A0_1 l0_1.length c0_1) := bc BK170 1; have hfz23_0 := blk_frozen BK170.out 0; have hfz23_1 := blk_frozen BK170.out 1))
      go_meet
      case rel => exact ⟨_, (true), (by first | rfl | (simp; done) | (simp [*]; done)), H', ⟨by first | omega | exact Nat.le_refl _⟩, ⟨bx BK170⟩, ⟨bx BK171⟩, ⟨hb2 HB GE170 GE171⟩⟩
     ·rw [if_neg c18] at H; have c18b0 : decide (a0_0 ≤ a1_0) = false := decide_eq_false c18; clear c18; have H' := Aside0.mk H; clear H; have hnb24 := NB170_171.out; have hnc24 := NB171_170.out; have hcz25_0 : w5.cell? ⟨gb170, 0, none⟩ = some (.int .i64 a0_0) := bc BK170 0; have hcz25_1 : w5.cell? ⟨gb170, 1, none⟩ = some (.slice A0_1 l0_1.length c0_1) := bc BK170 1; have hfz25_0 := blk_frozen BK170.out 0; have hfz25_1 := blk_frozen BK170.out 1
      go_wp2_with (first | ((with_reducible refine gate_callee (f := 24) rfl ?_); refine gl_ (some 8) Tryd.func24 #[.agg #[.int .i64 a0_0, .slice A0_1 l0_1.length c0_1]] ?_; (with_reducible refine (simple_Valid.calls k a0_0 _ _ l0_1 true _ ?side1 ?side2 A6.out).mono ?_); (case side1 => repeat (first | exact (Kd.C_below HR0_1.out HB.out) | (with_reducible refine Kd.C_alloc ?_ _) | (with_reducible refine Kd.C_drewN ?_ _) | (with_reducible refine Kd.C_drew ?_))); (case side2 => exact HC0_1.out); rintro e w26 ⟨rfl, hb⟩; refine ⟨_, rfl, ?_⟩; replace BK170 := kx BK170 hb; replace BK171 := kx BK171 hb; replace HB := hs (hb2 HB GE170 GE171) hb; (try clear hb); (try clear hb2); (try clear hk); (try clear hi); have hcz27_0 : w26.cell? ⟨gb171, 0, none⟩ = some (.int .i64 a1_0) := bc BK171 0; have hcz27_1 : w26.cell? ⟨gb171, 1, none⟩ = some (.int .i64 a1_1) := bc BK171 1; have hfz27_0 := blk_frozen BK171.out 0; have hfz27_1 := blk_frozen BK171.out 1; have hcz28_0 : w26.cell? ⟨gb170, 0, none⟩ = some (.int .i64 a0_0) := bc BK170 0; have hcz28_1 : w26.cell? ⟨gb170, 1, none⟩ = some (.slice A0_1 l0_1.length c0_1) := bc BK170 1; have hfz28_0 := blk_frozen BK170.out 0; have hfz28_1 := blk_frozen BK170.out 1))
      go_meet
      case rel => exact ⟨_, (decide (a1_1 ≥ a0_0)), (by first | rfl | (simp; done) | (simp [*]; done)), H', ⟨by first | omega | exact Nat.le_refl _⟩, ⟨bx BK170⟩, ⟨bx BK171⟩, ⟨hb2 HB GE170 GE171⟩⟩
  ·replace c7 := Bool.eq_false_iff.mpr c7; subst c7; rw [if_neg (show ¬ (false = true) by decide)] at H; have H' := Aside0.mk H; clear H; have hnb29 := NB170_171.out; have hnc29 := NB171_170.out; have hcz30_0 : w5.cell? ⟨gb170, 0, none⟩ = some (.int .i64 a0_0) := bc BK170 0; have hcz30_1 : w5.cell? ⟨gb170, 1, none⟩ = some (.slice A0_1 l0_1.length c0_1) := bc BK170 1; have hfz30_0 := blk_frozen BK170.out 0; have hfz30_1 := blk_frozen BK170.out 1
   go_wp2_with (first | ((with_reducible refine gate_callee (f := 24) rfl ?_); refine gl_ (some 8) Tryd.func24 #[.agg #[.int .i64 a0_0, .slice A0_1 l0_1.length c0_1]] ?_; (with_reducible refine (simple_Valid.calls k a0_0 _ _ l0_1 false _ ?side1 ?side2 A6.out).mono ?_); (case side1 => repeat (first | exact (Kd.C_below HR0_1.out HB.out) | (with_reducible refine Kd.C_alloc ?_ _) | (with_reducible refine Kd.C_drewN ?_ _) | (with_reducible refine Kd.C_drew ?_))); (case side2 => exact HC0_1.out); rintro e w31 ⟨rfl, hb⟩; refine ⟨_, rfl, ?_⟩; replace BK170 := kx BK170 hb; replace BK171 := kx BK171 hb; replace HB := hs (hb2 HB GE170 GE171) hb; (try clear hb); (try clear hb2); (try clear hk); (try clear hi)))
   go_meet
   case rel => exact ⟨_, (true), (by first | rfl | (simp; done) | (simp [*]; done)), H', ⟨by first | omega | exact Nat.le_refl _⟩, ⟨bx BK170⟩, ⟨bx BK171⟩, ⟨hb2 HB GE170 GE171⟩⟩
 case rest => as_aux_lemma =>
  clear HC3
  try clear c1
  try clear c2
  try clear p2
  try clear c7
  try clear c8
  try clear c8b0
  try clear c9
  try clear c13
  try clear c13b0
  try clear c14
  try clear c18
  try clear c18b0
  try clear c19
  try clear c24
  try clear c26
  try clear c29
  try clear hcz10_0
  try clear hcz10_1
  try clear hcz12_0
  try clear hcz12_1
  try clear hcz15_0
  try clear hcz15_1
  try clear hcz17_0
  try clear hcz17_1
  try clear hcz20_0
  try clear hcz20_1
  try clear hcz22_0
  try clear hcz22_1
  try clear hcz23_0
  try clear hcz23_1
  try clear hcz25_0
  try clear hcz25_1
  try clear hcz27_0
  try clear hcz27_1
  try clear hcz28_0
  try clear hcz28_1
  try clear hcz30_0
  try clear hcz30_1
  try clear hfz10_0
  try clear hfz10_1
  try clear hfz12_0
  try clear hfz12_1
  try clear hfz15_0
  try clear hfz15_1
  try clear hfz17_0
  try clear hfz17_1
  try clear hfz20_0
  try clear hfz20_1
  try clear hfz22_0
  try clear hfz22_1
  try clear hfz23_0
  try clear hfz23_1
  try clear hfz25_0
  try clear hfz25_1
  try clear hfz27_0
  try clear hfz27_1
  try clear hfz28_0
  try clear hfz28_1
  try clear hfz30_0
  try clear hfz30_1
  obtain ⟨kq, x33_2, rfl, HA, HJ2, BK170, BK171, HB⟩ := hcut
  cases kq with
  | zero => exact absurd HA.out (by simp [simple_Find.j0])
  | succ kj2 =>
   have H := HA.out; clear HA; simp only [simple_Find.j0] at H
   by_cases c32 : x33_2 = true
   ·subst c32; rw [if_pos rfl] at H; obtain rfl := Option.some.inj H
    go_wp2
    go_ret
    exact ⟨by first | rfl | (simp [errW_none, errW_some] <;> rfl) | (simp [*, errW_none, errW_some] <;> rfl), hb2 HB GE170 GE171⟩
   ·replace c32 := Bool.eq_false_iff.mpr c32; subst c32; rw [if_neg (show ¬ (false = true) by decide)] at H; replace H := Option.bind_eq_some_iff.mp H; obtain ⟨⟨t173, t174⟩, A330, H⟩ := H; (try dsimp only at H); have A33 := Aside0.mk A330; clear A330
    by_cases c34 : t174 = true
    ·subst c34; rw [if_pos rfl] at H; obtain rfl := Option.some.inj H; have hnb35 := NB170_171.out; have hnc35 := NB171_170.out; have hcz36_0 : wc.cell? ⟨gb170, 0, none⟩ = some (.int .i64 a0_0) := bc BK170 0; have hcz36_1 : wc.cell? ⟨gb170, 1, none⟩ = some (.slice A0_1 l0_1.length c0_1) := bc BK170 1; have hfz36_0 := blk_frozen BK170.out 0; have hfz36_1 := blk_frozen BK170.out 1; have hcz37_0 : wc.cell? ⟨gb171, 0, none⟩ = some (.int .i64 a1_0) := bc BK171 0; have hcz37_1 : wc.cell? ⟨gb171, 1, none⟩ = some (.int .i64 a1_1) := bc BK171 1; have hfz37_0 := blk_frozen BK171.out 0; have hfz37_1 := blk_frozen BK171.out 1
     go_wp2_with (first | ((with_reducible refine gate_callee (f := 46) rfl ?_); refine gl_ (some 38) Tryd.func46 #[.slice A0_1 l0_1.length c0_1, .agg #[.int .i64 a1_0, .int .i64 a1_1], .func (Fn.func 37) #[] #[]] ?_; (with_reducible refine (api_Edge_46.calls kj2 _ _ l0_1 a1_0 a1_1 0 t173 true _ ?side1 ?side2 A33.out).mono ?_); (case side1 => repeat (first | exact (Kd.C_below HR0_1.out HB.out) | (with_reducible refine Kd.C_alloc ?_ _) | (with_reducible refine Kd.C_drewN ?_ _) | (with_reducible refine Kd.C_drew ?_))); (case side2 => exact HC0_1.out); rintro e w38 ⟨rfl, hb⟩; refine ⟨_, rfl, ?_⟩; replace BK170 := kx BK170 hb; replace BK171 := kx BK171 hb; replace HB := hs (hb2 HB GE170 GE171) hb; (try clear hb); (try clear hb2); (try clear hk); (try clear hi)))
     go_ret
     exact ⟨by first | rfl | (simp [errW_none, errW_some] <;> rfl) | (simp [*, errW_none, errW_some] <;> rfl), hb2 HB GE170 GE171⟩
    ·replace c34 := Bool.eq_false_iff.mpr c34; subst c34; rw [if_neg (show ¬ (false = true) by decide)] at H; obtain rfl := Option.some.inj H; have hnb39 := NB170_171.out; have hnc39 := NB171_170.out; have hcz40_0 : wc.cell? ⟨gb170, 0, none⟩ = some (.int .i64 a0_0) := bc BK170 0; have hcz40_1 : wc.cell? ⟨gb170, 1, none⟩ = some (.slice A0_1 l0_1.length c0_1) := bc BK170 1; have hfz40_0 := blk_frozen BK170.out 0; have hfz40_1 := blk_frozen BK170.out 1; have hcz41_0 : wc.cell? ⟨gb171, 0, none⟩ = some (.int .i64 a1_0) := bc BK171 0; have hcz41_1 : wc.cell? ⟨gb171, 1, none⟩ = some (.int .i64 a1_1) := bc BK171 1; have hfz41_0 := blk_frozen BK171.out 0; have hfz41_1 := blk_frozen BK171.out 1
     go_wp2_with (first | ((with_reducible refine gate_callee (f := 46) rfl ?_); refine gl_ (some 38) Tryd.func46 #[.slice A0_1 l0_1.length c0_1, .agg #[.int .i64 a1_0, .int .i64 a1_1], .func (Fn.func 37) #[] #[]] ?_; (with_reducible refine (api_Edge_46.calls kj2 _ _ l0_1 a1_0 a1_1 0 t173 false _ ?side1 ?side2 A33.out).mono ?_); (case side1 => repeat (first | exact (Kd.C_below HR0_1.out HB.out) | (with_reducible refine Kd.C_alloc ?_ _) | (with_reducible refine Kd.C_drewN ?_ _) | (with_reducible refine Kd.C_drew ?_))); (case side2 => exact HC0_1.out); rintro e w42 ⟨rfl, hb⟩; refine ⟨_, rfl, ?_⟩; replace BK170 := kx BK170 hb; replace BK171 := kx BK171 hb; replace HB := hs (hb2 HB GE170 GE171) hb; (try clear hb); (try clear hb2); (try clear hk); (try clear hi)))
     go_ret
     exact ⟨by first | rfl | (simp [errW_none, errW_some] <;> rfl) | (simp [*, errW_none, errW_some] <;> rfl), hb2 HB GE170 GE171⟩

end Go.Proofs.YthejafdcdcchbaaDoor.PSimA
