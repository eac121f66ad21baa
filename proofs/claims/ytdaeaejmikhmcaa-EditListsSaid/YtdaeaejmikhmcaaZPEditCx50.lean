-- PRINTED by print.py (a twelfth state) out of the translation. Not trusted: Lean checks it.
import Derived.Test.YtdaeaejmikhmcaaZPEditCx0
import Derived.Test.YtdaeaejmikhmcaaZPEditCx26
import Derived.Test.YtdaeaejmikhmcaaZPEditCx48
namespace Go.Proofs.Ytdaeaejmikhmcaa.PEditC
open Go.RowKit Go.Proofs.YtdaeaejmikhmcaaW.PrintWords Go.Proofs.YtdaeaejmikhmcaaW.PrintLast Go.Proofs.YtdaeaejmikhmcaaW.PrintMore
open Go.Proofs.YtdaeaejmikhmcaaX
attribute [local go_sem] max2_int min2_int max_two min_two max_three min_three max_four min_four   -- for this text's walks alone
set_option linter.unusedVariables false
set_option linter.unusedSimpArgs false

/-! ### tangramref14_Induced: function 25 -/
mutual
def tangramref14_Induced.l0 : Nat → List Int → List Int → Int → Int → List (S46) → Option (Int × (List (S46)) × Int)
 | 0, _, _, _, _, _ => none
 | k + 1, x1, x6, x7, x806000, x806001 => if x7 < x806000 then (if 0 ≤ x7 then (if x7 < (x6.length : Int) then (tangramref14_Induced.l0 k x1 (x6.set (x7 : Int).toNat (-1)) (wrap64 (x7 + 1)) x806000 x806001) else (none)) else (none)) else (tangramref14_Induced.l1 k x1 x6 0 x806000 x806001)
def tangramref14_Induced.l1 : Nat → List Int → List Int → Int → Int → List (S46) → Option (Int × (List (S46)) × Int)
 | 0, _, _, _, _, _ => none
 | k + 1, x1, x6, x8, x806000, x806001 => if x8 < (x1.length : Int) then (if 0 ≤ x8 then (if (rd x1 x8) < 0 then (some (0, ([] : List (S46)), 2)) else (if (rd x1 x8) ≥ x806000 then (some (0, ([] : List (S46)), 2)) else (if 0 ≤ (rd x1 x8) then (if (rd x1 x8) < (x6.length : Int) then (if (rd x6 (rd x1 x8)) ≥ 0 then (some (0, ([] : List (S46)), 2)) else (tangramref14_Induced.l1 k x1 (x6.set ((rd x1 x8) : Int).toNat x8) (wrap64 (x8 + 1)) x806000 x806001)) else (none)) else (none)))) else (none)) else ((tangramref14_Named.f k x806000 x806001 x6).bind fun t818 => (some ((x1.length : Int), t818, 0)))
end
def tangramref14_Induced.f (k : Nat) (a0_0 : Int) (l0_1 : List (S46)) (l1 : List Int) : Option (Int × (List (S46)) × Int) := (tangramref03_Valid.f k a0_0 l0_1).bind fun t807 => (if t807 = true then (if 0 ≤ a0_0 then (if (a0_0 : Int).toNat ≤ 35184372088832 then (tangramref14_Induced.l0 k l1 (List.replicate (a0_0 : Int).toNat 0) 0 a0_0 l0_1) else (none)) else (none)) else (some (0, ([] : List (S46)), 1)))
theorem tangramref14_Induced.mono_l : ∀ k, (∀ y0 y1 y2 y3 y4, LeO (tangramref14_Induced.l0 k y0 y1 y2 y3 y4) (tangramref14_Induced.l0 (k + 1) y0 y1 y2 y3 y4)) ∧ (∀ y0 y1 y2 y3 y4, LeO (tangramref14_Induced.l1 k y0 y1 y2 y3 y4) (tangramref14_Induced.l1 (k + 1) y0 y1 y2 y3 y4))
 | 0 => ⟨fun _ _ _ _ _ r h => by simp [tangramref14_Induced.l0] at h, fun _ _ _ _ _ r h => by simp [tangramref14_Induced.l1] at h⟩
 | k + 1 => by
  obtain ⟨ih0, ih1⟩ := tangramref14_Induced.mono_l k; refine ⟨?_, ?_⟩
  ·intro y0 y1 y2 y3 y4
   unfold tangramref14_Induced.l0
   repeat' first
   | (with_reducible exact ih0 _ _ _ _ _)
   | (with_reducible exact ih1 _ _ _ _ _)
   | (with_reducible exact tangramref03_Valid.mono _ _ _)
   | (with_reducible exact tangramref14_Named.mono _ _ _ _)
   | (with_reducible exact LeO.refl _)
   | (with_reducible exact LeO.none _)
   | (with_reducible refine LeO.ite ?_ ?_)
   | (with_reducible refine LeO.bind ?_ (fun _ => ?_))
   | exact ih0 _ _ _ _ _
   | exact ih1 _ _ _ _ _
   | exact tangramref03_Valid.mono _ _ _
   | exact tangramref14_Named.mono _ _ _ _
   | exact LeO.none _
   | refine LeO.ite ?_ ?_
   | refine LeO.bind ?_ (fun _ => ?_)
  ·intro y0 y1 y2 y3 y4
   unfold tangramref14_Induced.l1
   repeat' first
   | (with_reducible exact ih0 _ _ _ _ _)
   | (with_reducible exact ih1 _ _ _ _ _)
   | (with_reducible exact tangramref03_Valid.mono _ _ _)
   | (with_reducible exact tangramref14_Named.mono _ _ _ _)
   | (with_reducible exact LeO.refl _)
   | (with_reducible exact LeO.none _)
   | (with_reducible refine LeO.ite ?_ ?_)
   | (with_reducible refine LeO.bind ?_ (fun _ => ?_))
   | exact ih0 _ _ _ _ _
   | exact ih1 _ _ _ _ _
   | exact tangramref03_Valid.mono _ _ _
   | exact tangramref14_Named.mono _ _ _ _
   | exact LeO.none _
   | refine LeO.ite ?_ ?_
   | refine LeO.bind ?_ (fun _ => ?_)
theorem tangramref14_Induced.mono : ∀ a0 a1 a2 k, LeO (tangramref14_Induced.f k a0 a1 a2) (tangramref14_Induced.f (k + 1) a0 a1 a2) := by
 intro a0 a1 a2 k; obtain ⟨ih0, ih1⟩ := tangramref14_Induced.mono_l k
 unfold tangramref14_Induced.f
 repeat' first
   | (with_reducible exact ih0 _ _ _ _ _)
   | (with_reducible exact ih1 _ _ _ _ _)
   | (with_reducible exact tangramref03_Valid.mono _ _ _)
   | (with_reducible exact tangramref14_Named.mono _ _ _ _)
   | (with_reducible exact LeO.refl _)
   | (with_reducible exact LeO.none _)
   | (with_reducible refine LeO.ite ?_ ?_)
   | (with_reducible refine LeO.bind ?_ (fun _ => ?_))
   | exact ih0 _ _ _ _ _
   | exact ih1 _ _ _ _ _
   | exact tangramref03_Valid.mono _ _ _
   | exact tangramref14_Named.mono _ _ _ _
   | exact LeO.none _
   | refine LeO.ite ?_ ?_
   | refine LeO.bind ?_ (fun _ => ?_)
set_option maxHeartbeats 8000000 in
set_option maxRecDepth 100000 in
theorem tangramref14_Induced.calls (k : Nat) (a0_0 : Int) (A0_1 : Option Addr) (c0_1 : Nat) (l0_1 : List (S46)) (A1 : Option Addr) (c1 : Nat) (l1 : List Int) (r1 : Int) (r2 : List (S46)) (r3 : Int) (w : World) (hr0_1 : Kd.C k46 w A0_1 l0_1.length l0_1) (hc0_1 : l0_1.length ≤ c0_1) (hr1 : Kd.C (Kd.int .i64) w A1 l1.length l1) (hc1 : l1.length ≤ c1) (h : tangramref14_Induced.f k a0_0 l0_1 l1 = some (r1, r2, r3)) :
  Calls Try.prog 25 #[.agg #[.int .i64 a0_0, .slice A0_1 l0_1.length c0_1], .slice A1 l1.length c1] w fun e w' => ∃ v1_ : Value, e = .returned (.tuple #[.agg #[.int .i64 r1, v1_], .int .i64 r3]) ∧ Kd.R k46 46 w' w.heap.size (fun _ => True) v1_ r2 ∧ Below w.heap.size w w' := by
 have hu25 := Try.underlying25; have HR0_1 := Aside0.mk hr0_1; have HC0_1 := Aside0.mk hc0_1; clear hr0_1 hc0_1; have HR1 := Aside0.mk hr1; have HC1 := Aside0.mk hc1; clear hr1 hc1; have HB := Aside0.mk (Below.refl w.heap.size w); have H : ((tangramref03_Valid.f k a0_0 l0_1).bind fun t807 => (if t807 = true then (if 0 ≤ a0_0 then (if (a0_0 : Int).toNat ≤ 35184372088832 then (tangramref14_Induced.l0 k l1 (List.replicate (a0_0 : Int).toNat 0) 0 a0_0 l0_1) else (none)) else (none)) else (some (0, ([] : List (S46)), 1)))) = some (r1, r2, r3) := h; clear h; replace H := Option.bind_eq_some_iff.mp H; obtain ⟨t807, A30, H⟩ := H; replace H : (if t807 = true then (if 0 ≤ a0_0 then (if (a0_0 : Int).toNat ≤ 35184372088832 then (tangramref14_Induced.l0 k l1 (List.replicate (a0_0 : Int).toNat 0) 0 a0_0 l0_1) else (none)) else (none)) else (some (0, ([] : List (S46)), 1))) = some (r1, r2, r3) := H; have A3 := Aside0.mk A30; clear A30
 by_cases c4 : t807 = true
 ·subst c4; have H1 : (if 0 ≤ a0_0 then (if (a0_0 : Int).toNat ≤ 35184372088832 then (tangramref14_Induced.l0 k l1 (List.replicate (a0_0 : Int).toNat 0) 0 a0_0 l0_1) else (none)) else (none)) = some (r1, r2, r3) := by rw [if_pos rfl] at H; exact H
  clear H; have H := H1; clear H1
  by_cases c5 : 0 ≤ a0_0
  ·rw [if_pos c5] at H; have c5b0 := eq_true c5; have c5b1 : decide (0 ≤ a0_0) = true := decide_eq_true c5; clear c5
   by_cases c6 : (a0_0 : Int).toNat ≤ 35184372088832
   ·rw [if_pos c6] at H; have c6b0 := eq_true c6; have c6b1 : decide ((a0_0 : Int).toNat ≤ 35184372088832) = true := decide_eq_true c6; clear c6; obtain ⟨y808, hy808⟩ : ∃ y_ : List Int, y_ = (List.replicate (a0_0 : Int).toNat 0) := ⟨_, rfl⟩; replace H : (tangramref14_Induced.l0 k l1 y808 0 a0_0 l0_1) = some (r1, r2, r3) := by first | (rw [hy808]; with_reducible exact H) | (have H2_ := (Option.bind_some _ _).symm.trans H; rw [hy808]; with_reducible exact H2_) | (have H2_ := (Option.bind_some _ _).symm.trans H; with_reducible exact H2_) | with_reducible exact H | (rw [hy808]; exact H) | exact H
    have Ny808 := Aside0.mk hy808; clear hy808; have H' := Aside0.mk H; clear H
    go_enter Try.func25, Try.ntmps25
    go_wp2_with (first | ((with_reducible refine gate_dst (N := 2) rfl ?_); refine be_ 2 #[.int .i64 a0_0, .slice A0_1 l0_1.length c0_1] 25 ?_; intro gb805 hg w7 hbox hb; have BK805 := Aside0.mk (hbox); have GW805 := wq (hb0 HB) hg; have GE805 := wq (hb0 HB) hg; replace HB := hs (hb0 HB) hb; clear hb hbox hg) | ((with_reducible refine gate_dst (N := 4) rfl ?_); refine be_ 4 #[.int .i64 0, .slice none 0 0] 25 ?_; intro gb806 hg w8 hbox hb; have BK806 := Aside0.mk (hbox); have GW806 := wq (hb1 HB GE805) hg; have GE806 := wq (hb1 HB GE805) hg; replace HB := hs (hb1 HB GE805) hb; have NB805_806 := lx BK805 hg; have NB806_805 := gx BK805 hg; replace BK805 := kx BK805 hb; clear hb hbox hg; have hnb9 := NB805_806.out; have hnc9 := NB806_805.out; have hcz10_0 : w8.cell? ⟨gb805, 0, none⟩ = some (.int .i64 a0_0) := bc BK805 0; have hcz10_1 : w8.cell? ⟨gb805, 1, none⟩ = some (.slice A0_1 l0_1.length c0_1) := bc BK805 1; have hfz10_0 := blk_frozen BK805.out 0; have hfz10_1 := blk_frozen BK805.out 1) | (go_at_call 11; (with_reducible refine (tangramref03_Valid.calls k a0_0 _ _ l0_1 true _ ?side1 ?side2 A3.out).mono ?_); (case side1 => repeat (first | exact (Kd.C_below HR0_1.out HB.out) | (with_reducible refine Kd.C_alloc ?_ _) | (with_reducible refine Kd.C_drewN ?_ _) | (with_reducible refine Kd.C_drew ?_))); (case side2 => exact HC0_1.out); rintro e w11 ⟨rfl, hb⟩; replace BK805 := kx BK805 hb; replace BK806 := kx BK806 hb; replace HB := hs (hb2 HB GE805 GE806) hb; (try clear hb); (try clear hb2); (try clear hk); (try clear hi); have hcz12_0 : w11.cell? ⟨gb805, 0, none⟩ = some (.int .i64 a0_0) := bc BK805 0; have hcz12_1 : w11.cell? ⟨gb805, 1, none⟩ = some (.slice A0_1 l0_1.length c0_1) := bc BK805 1; have hfz12_0 := blk_frozen BK805.out 0; have hfz12_1 := blk_frozen BK805.out 1) | ((with_reducible refine gate_dst (N := 15) rfl ?_); refine Kd.R_make (Kd.int .i64) _ 3 rfl (N := 15) rfl 26 _ _ rfl a0_0 rfl rfl Try.underlying26 (.int .i64 0) 8 info3 rfl (by decide) (by omega) 0 (ok := fun _ => True) (okp := fun _ => True) rfl (fun _ hk => hk) trivial (of_decide_eq_true (by first | (with_reducible assumption) | assumption)) (Nat.le_trans (Nat.mul_le_mul_right _ (of_decide_eq_true (by first | (with_reducible assumption) | assumption) : a0_0.toNat ≤ 35184372088832)) (by omega)) (Below.refl _ _) (Nat.le_refl _) ?_; intro v809 w13 ho14 hb hg_ hnew_; clear hg_ hnew_; (first | rw [← Ny808.out] at ho14 | (simp only [Int.reduceToNat] at ho14; rw [← Ny808.out] at ho14)); have HO810 := Aside0.mk (Kd.R_lower ho14 (below_size (hb2 HB GE805 GE806))); replace BK805 := kx BK805 hb; replace BK806 := kx BK806 hb; replace HB := hs (hb2 HB GE805 GE806) hb; clear hb ho14))
    repeat (go_quiet (first | ((with_reducible refine gate_dst (N := 2) rfl ?_); refine be_ 2 #[.int .i64 a0_0, .slice A0_1 l0_1.length c0_1] 25 ?_; intro gb805 hg w7 hbox hb; have BK805 := Aside0.mk (hbox); have GW805 := wq (hb0 HB) hg; have GE805 := wq (hb0 HB) hg; replace HB := hs (hb0 HB) hb; clear hb hbox hg) | ((with_reducible refine gate_dst (N := 4) rfl ?_); refine be_ 4 #[.int .i64 0, .slice none 0 0] 25 ?_; intro gb806 hg w8 hbox hb; have BK806 := Aside0.mk (hbox); have GW806 := wq (hb1 HB GE805) hg; have GE806 := wq (hb1 HB GE805) hg; replace HB := hs (hb1 HB GE805) hb; have NB805_806 := lx BK805 hg; have NB806_805 := gx BK805 hg; replace BK805 := kx BK805 hb; clear hb hbox hg; have hnb9 := NB805_806.out; have hnc9 := NB806_805.out; have hcz10_0 : w8.cell? ⟨gb805, 0, none⟩ = some (.int .i64 a0_0) := bc BK805 0; have hcz10_1 : w8.cell? ⟨gb805, 1, none⟩ = some (.slice A0_1 l0_1.length c0_1) := bc BK805 1; have hfz10_0 := blk_frozen BK805.out 0; have hfz10_1 := blk_frozen BK805.out 1) | (go_at_call 11; (with_reducible refine (tangramref03_Valid.calls k a0_0 _ _ l0_1 true _ ?side1 ?side2 A3.out).mono ?_); (case side1 => repeat (first | exact (Kd.C_below HR0_1.out HB.out) | (with_reducible refine Kd.C_alloc ?_ _) | (with_reducible refine Kd.C_drewN ?_ _) | (with_reducible refine Kd.C_drew ?_))); (case side2 => exact HC0_1.out); rintro e w11 ⟨rfl, hb⟩; replace BK805 := kx BK805 hb; replace BK806 := kx BK806 hb; replace HB := hs (hb2 HB GE805 GE806) hb; (try clear hb); (try clear hb2); (try clear hk); (try clear hi); have hcz12_0 : w11.cell? ⟨gb805, 0, none⟩ = some (.int .i64 a0_0) := bc BK805 0; have hcz12_1 : w11.cell? ⟨gb805, 1, none⟩ = some (.slice A0_1 l0_1.length c0_1) := bc BK805 1; have hfz12_0 := blk_frozen BK805.out 0; have hfz12_1 := blk_frozen BK805.out 1) | ((with_reducible refine gate_dst (N := 15) rfl ?_); refine Kd.R_make (Kd.int .i64) _ 3 rfl (N := 15) rfl 26 _ _ rfl a0_0 rfl rfl Try.underlying26 (.int .i64 0) 8 info3 rfl (by decide) (by omega) 0 (ok := fun _ => True) (okp := fun _ => True) rfl (fun _ hk => hk) trivial (of_decide_eq_true (by first | (with_reducible assumption) | assumption)) (Nat.le_trans (Nat.mul_le_mul_right _ (of_decide_eq_true (by first | (with_reducible assumption) | assumption) : a0_0.toNat ≤ 35184372088832)) (by omega)) (Below.refl _ _) (Nat.le_refl _) ?_; intro v809 w13 ho14 hb hg_ hnew_; clear hg_ hnew_; (first | rw [← Ny808.out] at ho14 | (simp only [Int.reduceToNat] at ho14; rw [← Ny808.out] at ho14)); have HO810 := Aside0.mk (Kd.R_lower ho14 (below_size (hb2 HB GE805 GE806))); replace BK805 := kx BK805 hb; replace BK806 := kx BK806 hb; replace HB := hs (hb2 HB GE805 GE806) hb; clear hb ho14)); try go_wp2_with (first | ((with_reducible refine gate_dst (N := 2) rfl ?_); refine be_ 2 #[.int .i64 a0_0, .slice A0_1 l0_1.length c0_1] 25 ?_; intro gb805 hg w7 hbox hb; have BK805 := Aside0.mk (hbox); have GW805 := wq (hb0 HB) hg; have GE805 := wq (hb0 HB) hg; replace HB := hs (hb0 HB) hb; clear hb hbox hg) | ((with_reducible refine gate_dst (N := 4) rfl ?_); refine be_ 4 #[.int .i64 0, .slice none 0 0] 25 ?_; intro gb806 hg w8 hbox hb; have BK806 := Aside0.mk (hbox); have GW806 := wq (hb1 HB GE805) hg; have GE806 := wq (hb1 HB GE805) hg; replace HB := hs (hb1 HB GE805) hb; have NB805_806 := lx BK805 hg; have NB806_805 := gx BK805 hg; replace BK805 := kx BK805 hb; clear hb hbox hg; have hnb9 := NB805_806.out; have hnc9 := NB806_805.out; have hcz10_0 : w8.cell? ⟨gb805, 0, none⟩ = some (.int .i64 a0_0) := bc BK805 0; have hcz10_1 : w8.cell? ⟨gb805, 1, none⟩ = some (.slice A0_1 l0_1.length c0_1) := bc BK805 1; have hfz10_0 := blk_frozen BK805.out 0; have hfz10_1 := blk_frozen BK805.out 1) | (go_at_call 11; (with_reducible refine (tangramref03_Valid.calls k a0_0 _ _ l0_1 true _ ?side1 ?side2 A3.out).mono ?_); (case side1 => repeat (first | exact (Kd.C_below HR0_1.out HB.out) | (with_reducible refine Kd.C_alloc ?_ _) | (with_reducible refine Kd.C_drewN ?_ _) | (with_reducible refine Kd.C_drew ?_))); (case side2 => exact HC0_1.out); rintro e w11 ⟨rfl, hb⟩; replace BK805 := kx BK805 hb; replace BK806 := kx BK806 hb; replace HB := hs (hb2 HB GE805 GE806) hb; (try clear hb); (try clear hb2); (try clear hk); (try clear hi); have hcz12_0 : w11.cell? ⟨gb805, 0, none⟩ = some (.int .i64 a0_0) := bc BK805 0; have hcz12_1 : w11.cell? ⟨gb805, 1, none⟩ = some (.slice A0_1 l0_1.length c0_1) := bc BK805 1; have hfz12_0 := blk_frozen BK805.out 0; have hfz12_1 := blk_frozen BK805.out 1) | ((with_reducible refine gate_dst (N := 15) rfl ?_); refine Kd.R_make (Kd.int .i64) _ 3 rfl (N := 15) rfl 26 _ _ rfl a0_0 rfl rfl Try.underlying26 (.int .i64 0) 8 info3 rfl (by decide) (by omega) 0 (ok := fun _ => True) (okp := fun _ => True) rfl (fun _ hk => hk) trivial (of_decide_eq_true (by first | (with_reducible assumption) | assumption)) (Nat.le_trans (Nat.mul_le_mul_right _ (of_decide_eq_true (by first | (with_reducible assumption) | assumption) : a0_0.toNat ≤ 35184372088832)) (by omega)) (Below.refl _ _) (Nat.le_refl _) ?_; intro v809 w13 ho14 hb hg_ hnew_; clear hg_ hnew_; (first | rw [← Ny808.out] at ho14 | (simp only [Int.reduceToNat] at ho14; rw [← Ny808.out] at ho14)); have HO810 := Aside0.mk (Kd.R_lower ho14 (below_size (hb2 HB GE805 GE806))); replace BK805 := kx BK805 hb; replace BK806 := kx BK806 hb; replace HB := hs (hb2 HB GE805 GE806) hb; clear hb ho14)))
    go_loopg [7] k (fun kq v7 w' => ∃ (x6_1 : List Int) (x7_1 : Int), v7 = .int .i64 x7_1 ∧ Aside0 (tangramref14_Induced.l0 kq l1 x6_1 x7_1 a0_0 l0_1 = some (r1, r2, r3)) ∧ Aside0 (kq ≤ k) ∧ Aside0 (Kd.R (Kd.int .i64) 3 w' w.heap.size (fun _ => True) v809 x6_1) ∧ Aside0 (w'.heap[gb805]? = some (.cells #[.int .i64 a0_0, (.slice A0_1 l0_1.length c0_1)] 25 (0, 0))) ∧ Aside0 (w'.heap[gb806]? = some (.cells #[.int .i64 0, (.slice none 0 0)] 25 (0, 0))) ∧ Aside0 (Below w.heap.size w w'))
    case atStart => exact ⟨(y808), (0), (by first | rfl | (simp; done) | (simp [*]; done)), H', ⟨Nat.le_refl _⟩, ⟨rx HO810⟩, ⟨bx BK805⟩, ⟨bx BK806⟩, ⟨hb2 HB GE805 GE806⟩⟩
    case round =>
     clear H'
     try clear c1
     try clear c2
     try clear p2
     try clear c4
     try clear c5
     try clear c5b0
     try clear c5b1
     try clear c6
     try clear c6b0
     try clear c6b1
     try clear c9
     try clear hcz10_0
     try clear hcz10_1
     try clear hcz12_0
     try clear hcz12_1
     try clear hfz10_0
     try clear hfz10_1
     try clear hfz12_0
     try clear hfz12_1
     obtain ⟨x6_1, x7_1, rfl, HA, HK1, HO_6, BK805, BK806, HB⟩ := hrel
     cases gk with
     | zero => exact absurd HA.out (by simp [tangramref14_Induced.l0])
     | succ k1 =>
      have H := HA.out; clear HA; simp only [tangramref14_Induced.l0] at H
      by_cases c15 : x7_1 < a0_0
      ·rw [if_pos c15] at H; have c15b0 : decide (x7_1 < a0_0) = true := decide_eq_true c15; clear c15
       by_cases c16 : 0 ≤ x7_1
       ·rw [if_pos c16] at H; have c16b0 : decide (0 ≤ x7_1) = true := decide_eq_true c16; clear c16
        by_cases c17 : x7_1 < (x6_1.length : Int)
        ·rw [if_pos c17] at H; have c17b0 : decide (x7_1 < (x6_1.length : Int)) = true := decide_eq_true c17; clear c17; obtain ⟨y811, hy811⟩ : ∃ y_ : List Int, y_ = (x6_1.set (x7_1 : Int).toNat (-1)) := ⟨_, rfl⟩; replace H : (tangramref14_Induced.l0 k1 l1 y811 (wrap64 (x7_1 + 1)) a0_0 l0_1) = some (r1, r2, r3) := by first | (rw [hy811]; with_reducible exact H) | (have H2_ := (Option.bind_some _ _).symm.trans H; rw [hy811]; with_reducible exact H2_) | (have H2_ := (Option.bind_some _ _).symm.trans H; with_reducible exact H2_) | with_reducible exact H | (rw [hy811]; exact H) | exact H
         have Ny811 := Aside0.mk hy811; clear hy811; have H' := Aside0.mk H; clear H; have hnb19 := NB805_806.out; have hnc19 := NB806_805.out; have hcz20_0 : wr.cell? ⟨gb805, 0, none⟩ = some (.int .i64 a0_0) := bc BK805 0; have hcz20_1 : wr.cell? ⟨gb805, 1, none⟩ = some (.slice A0_1 l0_1.length c0_1) := bc BK805 1; have hfz20_0 := blk_frozen BK805.out 0; have hfz20_1 := blk_frozen BK805.out 1; have p18 : 0 ≤ (x7_1 : Int) := of_decide_eq_true (by first | (with_reducible assumption) | assumption); have q18 : (x7_1 : Int) < ((x6_1.length : Int) : Int) := of_decide_eq_true (by first | (with_reducible assumption) | assumption); obtain ⟨go18, co18, eo18, gb18, gl18, cl18, HG18⟩ := Kd.R_form HO_6.out (by omega)
         (first | cases eo18 | (injection eo18 with ea_ en_ ec_; (first | subst ea_ | (injection ea_ with ea_; subst ea_)); subst ec_; clear en_))
         have GB18 := Aside0.mk gb18; have GG18 := Aside0.mk HG18; clear gb18 gl18 HG18; obtain ⟨hx18_0, hf18_0⟩ := Kd.R_celln 0 HO_6.out (x7_1 : Int) p18 q18; replace p18 := eq_true p18; replace q18 := eq_true q18; have HP21 := Kd.R_putg HO_6.out (x7_1 : Int) (-1)
         go_wp2_with (first | ((with_reducible refine gate_store (t := 3) (p := 24) rfl ?_); (try (rw [drewN_self wr]; generalize hq_ : World.drewN wr _ = wr; have n0_ := Aside0.mk (Kd.R_at hq_ HO_6.out); have n1_ := Aside0.mk (blk_at hq_ BK805.out); have n2_ := Aside0.mk (blk_at hq_ BK806.out); have n3_ := Aside0.mk (below_at hq_ HB.out); clear hq_ HO_6 BK805 BK806 HB; have HO_6 := n0_; have BK805 := n1_; have BK806 := n2_; have HB := n3_; clear n0_ n1_ n2_ n3_; (try (have HP21 := Kd.R_putg HO_6.out (x7_1 : Int) (-1))))); refine store_event (t := 3) (p := 24) (v := ?vo_w22) (w1 := (wr.setCell ⟨go18, (x7_1 : Int).toNat, none⟩ (.int .i64 (-1)))) ?hg ?ho ?hn ?hr ?_; (case ho => rfl); (case hg => rfl); (case hn => rfl); (case hr => first | (go_simp; done) | (go_simp; rfl)); intro w22 hw; have hg : wr.grownBy w22 (some go18) := (by rw [hw]; exact HP21.2); have hp_ : Kd.R (Kd.int .i64) 3 w22 w.heap.size (fun _ => True) (.slice (some ⟨go18, 0, none⟩) x6_1.length co18) y811 := (by rw [hw, Ny811.out]; exact HP21.1); clear HP21; replace BK805 := Aside0.mk (blk_grown (bx BK805) hg (Kd.R_ne HO_6.out BK805.out (by decide))); replace BK806 := Aside0.mk (blk_grown (bx BK806) hg (Kd.R_ne HO_6.out BK806.out (by decide))); replace HO_6 := Aside0.mk (hp_); replace HB := Aside0.mk ((by rw [hw]; exact below_set (HB.out) GB18.out : Below w.heap.size w w22)); clear hg hw hp_))
         repeat (go_quiet (first | ((with_reducible refine gate_store (t := 3) (p := 24) rfl ?_); (try (rw [drewN_self wr]; generalize hq_ : World.drewN wr _ = wr; have n0_ := Aside0.mk (Kd.R_at hq_ HO_6.out); have n1_ := Aside0.mk (blk_at hq_ BK805.out); have n2_ := Aside0.mk (blk_at hq_ BK806.out); have n3_ := Aside0.mk (below_at hq_ HB.out); clear hq_ HO_6 BK805 BK806 HB; have HO_6 := n0_; have BK805 := n1_; have BK806 := n2_; have HB := n3_; clear n0_ n1_ n2_ n3_; (try (have HP21 := Kd.R_putg HO_6.out (x7_1 : Int) (-1))))); refine store_event (t := 3) (p := 24) (v := ?vo_w22) (w1 := (wr.setCell ⟨go18, (x7_1 : Int).toNat, none⟩ (.int .i64 (-1)))) ?hg ?ho ?hn ?hr ?_; (case ho => rfl); (case hg => rfl); (case hn => rfl); (case hr => first | (go_simp; done) | (go_simp; rfl)); intro w22 hw; have hg : wr.grownBy w22 (some go18) := (by rw [hw]; exact HP21.2); have hp_ : Kd.R (Kd.int .i64) 3 w22 w.heap.size (fun _ => True) (.slice (some ⟨go18, 0, none⟩) x6_1.length co18) y811 := (by rw [hw, Ny811.out]; exact HP21.1); clear HP21; replace BK805 := Aside0.mk (blk_grown (bx BK805) hg (Kd.R_ne HO_6.out BK805.out (by decide))); replace BK806 := Aside0.mk (blk_grown (bx BK806) hg (Kd.R_ne HO_6.out BK806.out (by decide))); replace HO_6 := Aside0.mk (hp_); replace HB := Aside0.mk ((by rw [hw]; exact below_set (HB.out) GB18.out : Below w.heap.size w w22)); clear hg hw hp_)); try go_wp2_with (first | ((with_reducible refine gate_store (t := 3) (p := 24) rfl ?_); (try (rw [drewN_self wr]; generalize hq_ : World.drewN wr _ = wr; have n0_ := Aside0.mk (Kd.R_at hq_ HO_6.out); have n1_ := Aside0.mk (blk_at hq_ BK805.out); have n2_ := Aside0.mk (blk_at hq_ BK806.out); have n3_ := Aside0.mk (below_at hq_ HB.out); clear hq_ HO_6 BK805 BK806 HB; have HO_6 := n0_; have BK805 := n1_; have BK806 := n2_; have HB := n3_; clear n0_ n1_ n2_ n3_; (try (have HP21 := Kd.R_putg HO_6.out (x7_1 : Int) (-1))))); refine store_event (t := 3) (p := 24) (v := ?vo_w22) (w1 := (wr.setCell ⟨go18, (x7_1 : Int).toNat, none⟩ (.int .i64 (-1)))) ?hg ?ho ?hn ?hr ?_; (case ho => rfl); (case hg => rfl); (case hn => rfl); (case hr => first | (go_simp; done) | (go_simp; rfl)); intro w22 hw; have hg : wr.grownBy w22 (some go18) := (by rw [hw]; exact HP21.2); have hp_ : Kd.R (Kd.int .i64) 3 w22 w.heap.size (fun _ => True) (.slice (some ⟨go18, 0, none⟩) x6_1.length co18) y811 := (by rw [hw, Ny811.out]; exact HP21.1); clear HP21; replace BK805 := Aside0.mk (blk_grown (bx BK805) hg (Kd.R_ne HO_6.out BK805.out (by decide))); replace BK806 := Aside0.mk (blk_grown (bx BK806) hg (Kd.R_ne HO_6.out BK806.out (by decide))); replace HO_6 := Aside0.mk (hp_); replace HB := Aside0.mk ((by rw [hw]; exact below_set (HB.out) GB18.out : Below w.heap.size w w22)); clear hg hw hp_)))
         go_roundg k1
         case measure => have := HK1.out; omega
         case rel => exact ⟨(y811), (wrap64 (x7_1 + 1)), (by first | rfl | (simp; done) | (simp [*]; done)), H', ⟨by have := HK1.out; omega⟩, ⟨rx HO_6⟩, ⟨bx BK805⟩, ⟨bx BK806⟩, ⟨hb2 HB GE805 GE806⟩⟩
        ·rw [if_neg c17] at H; exact absurd H (by simp)
       ·rw [if_neg c16] at H; exact absurd H (by simp)
      ·rw [if_neg c15] at H; have c15b0 : decide (x7_1 < a0_0) = false := decide_eq_false c15; clear c15; have H' := Aside0.mk H; clear H; have hnb23 := NB805_806.out; have hnc23 := NB806_805.out; have hcz24_0 : wr.cell? ⟨gb805, 0, none⟩ = some (.int .i64 a0_0) := bc BK805 0; have hcz24_1 : wr.cell? ⟨gb805, 1, none⟩ = some (.slice A0_1 l0_1.length c0_1) := bc BK805 1; have hfz24_0 := blk_frozen BK805.out 0; have hfz24_1 := blk_frozen BK805.out 1
       go_wp2
       repeat (go_quiet (fail); try go_wp2)
       go_loopg [8] k1 (fun kq v8 w' => ∃ (x6_2 : List Int) (x8_2 : Int) (x807000_2 : Int), v8 = .int .i64 x8_2 ∧ Aside0 (tangramref14_Induced.l1 kq l1 x6_2 x8_2 a0_0 l0_1 = some (r1, r2, r3)) ∧ Aside0 (kq ≤ k1) ∧ Aside0 (Kd.R (Kd.int .i64) 3 w' w.heap.size (fun _ => True) v809 x6_2) ∧ Aside0 (w'.heap[gb805]? = some (.cells #[.int .i64 a0_0, (.slice A0_1 l0_1.length c0_1)] 25 (0, 0))) ∧ Aside0 (w'.heap[gb806]? = some (.cells #[.int .i64 x807000_2, (.slice none 0 0)] 25 (0, 0))) ∧ Aside0 (Below w.heap.size w w'))
       case atStart => exact ⟨(x6_1), (0), (0), (by first | rfl | (simp; done) | (simp [*]; done)), H', ⟨Nat.le_refl _⟩, ⟨rx HO_6⟩, ⟨bx BK805⟩, ⟨bx BK806⟩, ⟨hb2 HB GE805 GE806⟩⟩
       case round =>
        clear H'
        try clear c1
        try clear p1
        try clear q1
        try clear hx1
        try clear c2
        try clear p2
        try clear c4
        try clear c5
        try clear c5b0
        try clear c5b1
        try clear c6
        try clear c6b0
        try clear c6b1
        try clear p6
        try clear c9
        try clear c15
        try clear c15b0
        try clear c16
        try clear c16b0
        try clear c17
        try clear c17b0
        try clear p18
        try clear q18
        try clear hx18
        try clear hf18
        try clear c19
        try clear c23
        try clear hcz10_0
        try clear hcz10_1
        try clear hcz12_0
        try clear hcz12_1
        try clear hcz20_0
        try clear hcz20_1
        try clear hcz24_0
        try clear hcz24_1
        try clear hfz10_0
        try clear hfz10_1
        try clear hfz12_0
        try clear hfz12_1
        try clear hfz20_0
        try clear hfz20_1
        try clear hfz24_0
        try clear hfz24_1
        try clear hx18_0
        try clear p18
        try clear p2
        try clear q18
        obtain ⟨x6_2, x8_2, x807000_2, rfl, HA, HK2, HO_6, BK805, BK806, HB⟩ := hrel
        cases gk with
        | zero => exact absurd HA.out (by simp [tangramref14_Induced.l1])
        | succ k2 =>
         have H := HA.out; clear HA; simp only [tangramref14_Induced.l1] at H
         by_cases c25 : x8_2 < (l1.length : Int)
         ·rw [if_pos c25] at H; have c25b0 : decide (x8_2 < (l1.length : Int)) = true := decide_eq_true c25; clear c25
          by_cases c26 : 0 ≤ x8_2
          ·rw [if_pos c26] at H; have c26b0 : decide (0 ≤ x8_2) = true := decide_eq_true c26; clear c26
           by_cases c27 : (rd l1 x8_2) < 0
           ·rw [if_pos c27] at H; have c27b0 : decide ((rd l1 x8_2) < 0) = true := decide_eq_true c27; clear c27; simp only [Option.some.injEq, Prod.mk.injEq] at H; obtain ⟨rfl, rfl, rfl⟩ := H; have p812 : 0 ≤ (x8_2 : Int) := of_decide_eq_true (by first | (with_reducible assumption) | assumption); have q812 : x8_2 < (l1.length : Int) := of_decide_eq_true (by first | (with_reducible assumption) | assumption); obtain ⟨ad812, e812, hx812_0⟩ := Kd.at_int HR1.out x8_2 p812 q812
            cases e812
            replace hx812_0 := (HB.out.cell (World.block_lt_of_cell? w _ hx812_0)).trans hx812_0; replace p812 := eq_true p812; replace q812 := eq_true q812; have hnb28 := NB806_805.out; have hnc28 := NB805_806.out; have hcz29_0 : wr.cell? ⟨gb806, 0, none⟩ = some (.int .i64 x807000_2) := bc BK806 0; have hcz29_1 : wr.cell? ⟨gb806, 1, none⟩ = some (.slice none 0 0) := bc BK806 1; have hfz29_0 := blk_frozen BK806.out 0; have hfz29_1 := blk_frozen BK806.out 1
            go_wp2
            repeat (go_quiet (fail); try go_wp2)
            refine bodyPost_ret (results_ct rfl _ _ gb806 25 #[.int .i64 0, .slice none 0 0] (0, 0) _ rfl (bp BK806) Try.underlying25 rfl (by kernel_rfl)) rfl ?_; exact ⟨_, by first | rfl | (simp [errW_none, errW_some] <;> rfl) | (simp [*, errW_none, errW_some] <;> rfl), by first | exact Kd.R_nil _ _ _ _ _ | exact Kd.N_nil _ _ _ _ _ | exact Kd.V_nil _ _ _ _ _ | exact Kd.Q_nil _ _ _ _ _ | exact Kd.S_nil _ _ _ _ _, hb2 HB GE805 GE806⟩
           ·rw [if_neg c27] at H; have c27b0 : decide ((rd l1 x8_2) < 0) = false := decide_eq_false c27; clear c27
            by_cases c30 : (rd l1 x8_2) ≥ a0_0
            ·rw [if_pos c30] at H; have c30b0 : decide (a0_0 ≤ (rd l1 x8_2)) = true := decide_eq_true c30; clear c30; simp only [Option.some.injEq, Prod.mk.injEq] at H; obtain ⟨rfl, rfl, rfl⟩ := H; have p812 : 0 ≤ (x8_2 : Int) := of_decide_eq_true (by first | (with_reducible assumption) | assumption); have q812 : x8_2 < (l1.length : Int) := of_decide_eq_true (by first | (with_reducible assumption) | assumption); obtain ⟨ad812, e812, hx812_0⟩ := Kd.at_int HR1.out x8_2 p812 q812
             cases e812
             replace hx812_0 := (HB.out.cell (World.block_lt_of_cell? w _ hx812_0)).trans hx812_0; replace p812 := eq_true p812; replace q812 := eq_true q812; have p813 : 0 ≤ (x8_2 : Int) := of_decide_eq_true (by first | (with_reducible assumption) | assumption); have q813 : x8_2 < (l1.length : Int) := of_decide_eq_true (by first | (with_reducible assumption) | assumption); obtain ⟨ad813, e813, hx813_0⟩ := Kd.at_int HR1.out x8_2 p813 q813; obtain rfl : ad812 = ad813 := (by injection e813); replace hx813_0 := (HB.out.cell (World.block_lt_of_cell? w _ hx813_0)).trans hx813_0; replace p813 := eq_true p813; replace q813 := eq_true q813; have hnb31 := NB805_806.out; have hnc31 := NB806_805.out; have hcz32_0 : wr.cell? ⟨gb805, 0, none⟩ = some (.int .i64 a0_0) := bc BK805 0; have hcz32_1 : wr.cell? ⟨gb805, 1, none⟩ = some (.slice A0_1 l0_1.length c0_1) := bc BK805 1; have hfz32_0 := blk_frozen BK805.out 0; have hfz32_1 := blk_frozen BK805.out 1; have hcz33_0 : wr.cell? ⟨gb806, 0, none⟩ = some (.int .i64 x807000_2) := bc BK806 0; have hcz33_1 : wr.cell? ⟨gb806, 1, none⟩ = some (.slice none 0 0) := bc BK806 1; have hfz33_0 := blk_frozen BK806.out 0; have hfz33_1 := blk_frozen BK806.out 1
             go_wp2
             repeat (go_quiet (fail); try go_wp2)
             refine bodyPost_ret (results_ct rfl _ _ gb806 25 #[.int .i64 0, .slice none 0 0] (0, 0) _ rfl (bp BK806) Try.underlying25 rfl (by kernel_rfl)) rfl ?_; exact ⟨_, by first | rfl | (simp [errW_none, errW_some] <;> rfl) | (simp [*, errW_none, errW_some] <;> rfl), by first | exact Kd.R_nil _ _ _ _ _ | exact Kd.N_nil _ _ _ _ _ | exact Kd.V_nil _ _ _ _ _ | exact Kd.Q_nil _ _ _ _ _ | exact Kd.S_nil _ _ _ _ _, hb2 HB GE805 GE806⟩
            ·rw [if_neg c30] at H; have c30b0 : decide (a0_0 ≤ (rd l1 x8_2)) = false := decide_eq_false c30; clear c30
             by_cases c34 : 0 ≤ (rd l1 x8_2)
             ·rw [if_pos c34] at H; have c34b0 : decide (0 ≤ (rd l1 x8_2)) = true := decide_eq_true c34; clear c34
              by_cases c35 : (rd l1 x8_2) < (x6_2.length : Int)
              ·rw [if_pos c35] at H; have c35b0 : decide ((rd l1 x8_2) < (x6_2.length : Int)) = true := decide_eq_true c35; clear c35
               by_cases c36 : (rd x6_2 (rd l1 x8_2)) ≥ 0
               ·rw [if_pos c36] at H; have c36b0 : decide (0 ≤ (rd x6_2 (rd l1 x8_2))) = true := decide_eq_true c36; clear c36; simp only [Option.some.injEq, Prod.mk.injEq] at H; obtain ⟨rfl, rfl, rfl⟩ := H; have p812 : 0 ≤ (x8_2 : Int) := of_decide_eq_true (by first | (with_reducible assumption) | assumption); have q812 : x8_2 < (l1.length : Int) := of_decide_eq_true (by first | (with_reducible assumption) | assumption); obtain ⟨ad812, e812, hx812_0⟩ := Kd.at_int HR1.out x8_2 p812 q812
                cases e812
                replace hx812_0 := (HB.out.cell (World.block_lt_of_cell? w _ hx812_0)).trans hx812_0; replace p812 := eq_true p812; replace q812 := eq_true q812; have p813 : 0 ≤ (x8_2 : Int) := of_decide_eq_true (by first | (with_reducible assumption) | assumption); have q813 : x8_2 < (l1.length : Int) := of_decide_eq_true (by first | (with_reducible assumption) | assumption); obtain ⟨ad813, e813, hx813_0⟩ := Kd.at_int HR1.out x8_2 p813 q813; obtain rfl : ad812 = ad813 := (by injection e813); replace hx813_0 := (HB.out.cell (World.block_lt_of_cell? w _ hx813_0)).trans hx813_0; replace p813 := eq_true p813; replace q813 := eq_true q813; have hnb37 := NB805_806.out; have hnc37 := NB806_805.out; have hcz38_0 : wr.cell? ⟨gb805, 0, none⟩ = some (.int .i64 a0_0) := bc BK805 0; have hcz38_1 : wr.cell? ⟨gb805, 1, none⟩ = some (.slice A0_1 l0_1.length c0_1) := bc BK805 1; have hfz38_0 := blk_frozen BK805.out 0; have hfz38_1 := blk_frozen BK805.out 1; have p814 : 0 ≤ (x8_2 : Int) := of_decide_eq_true (by first | (with_reducible assumption) | assumption); have q814 : x8_2 < (l1.length : Int) := of_decide_eq_true (by first | (with_reducible assumption) | assumption); obtain ⟨ad814, e814, hx814_0⟩ := Kd.at_int HR1.out x8_2 p814 q814; obtain rfl : ad812 = ad814 := (by injection e814); replace hx814_0 := (HB.out.cell (World.block_lt_of_cell? w _ hx814_0)).trans hx814_0; replace p814 := eq_true p814; replace q814 := eq_true q814; obtain ⟨Ao39, co39, eo39⟩ := Kd.R_slice HO_6.out; subst eo39; have p815 : 0 ≤ ((rd l1 x8_2) : Int) := of_decide_eq_true (by first | (with_reducible assumption) | assumption)
                have q815 : (rd l1 x8_2) < (x6_2.length : Int) := of_decide_eq_true (by first | (with_reducible assumption) | assumption); obtain ⟨ad815, e815, hx815_0⟩ := Kd.at_int (Kd.R_reads' HO_6.out).2.2 (rd l1 x8_2) p815 q815
                cases e815
                replace p815 := eq_true p815; replace q815 := eq_true q815; have hcz40_0 : wr.cell? ⟨gb806, 0, none⟩ = some (.int .i64 x807000_2) := bc BK806 0; have hcz40_1 : wr.cell? ⟨gb806, 1, none⟩ = some (.slice none 0 0) := bc BK806 1; have hfz40_0 := blk_frozen BK806.out 0; have hfz40_1 := blk_frozen BK806.out 1
                go_wp2
                repeat (go_quiet (fail); try go_wp2)
                refine bodyPost_ret (results_ct rfl _ _ gb806 25 #[.int .i64 0, .slice none 0 0] (0, 0) _ rfl (bp BK806) Try.underlying25 rfl (by kernel_rfl)) rfl ?_; exact ⟨_, by first | rfl | (simp [errW_none, errW_some] <;> rfl) | (simp [*, errW_none, errW_some] <;> rfl), by first | exact Kd.R_nil _ _ _ _ _ | exact Kd.N_nil _ _ _ _ _ | exact Kd.V_nil _ _ _ _ _ | exact Kd.Q_nil _ _ _ _ _ | exact Kd.S_nil _ _ _ _ _, hb2 HB GE805 GE806⟩
               ·rw [if_neg c36] at H; have c36b0 : decide (0 ≤ (rd x6_2 (rd l1 x8_2))) = false := decide_eq_false c36; clear c36; obtain ⟨y817, hy817⟩ : ∃ y_ : List Int, y_ = (x6_2.set ((rd l1 x8_2) : Int).toNat x8_2) := ⟨_, rfl⟩; replace H : (tangramref14_Induced.l1 k2 l1 y817 (wrap64 (x8_2 + 1)) a0_0 l0_1) = some (r1, r2, r3) := by first | (rw [hy817]; with_reducible exact H) | (have H2_ := (Option.bind_some _ _).symm.trans H; rw [hy817]; with_reducible exact H2_) | (have H2_ := (Option.bind_some _ _).symm.trans H; with_reducible exact H2_) | with_reducible exact H | (rw [hy817]; exact H) | exact H
                have Ny817 := Aside0.mk hy817; clear hy817; have H' := Aside0.mk H; clear H; have p812 : 0 ≤ (x8_2 : Int) := of_decide_eq_true (by first | (with_reducible assumption) | assumption); have q812 : x8_2 < (l1.length : Int) := of_decide_eq_true (by first | (with_reducible assumption) | assumption); obtain ⟨ad812, e812, hx812_0⟩ := Kd.at_int HR1.out x8_2 p812 q812
                cases e812
                replace hx812_0 := (HB.out.cell (World.block_lt_of_cell? w _ hx812_0)).trans hx812_0; replace p812 := eq_true p812; replace q812 := eq_true q812; have p813 : 0 ≤ (x8_2 : Int) := of_decide_eq_true (by first | (with_reducible assumption) | assumption); have q813 : x8_2 < (l1.length : Int) := of_decide_eq_true (by first | (with_reducible assumption) | assumption); obtain ⟨ad813, e813, hx813_0⟩ := Kd.at_int HR1.out x8_2 p813 q813; obtain rfl : ad812 = ad813 := (by injection e813); replace hx813_0 := (HB.out.cell (World.block_lt_of_cell? w _ hx813_0)).trans hx813_0; replace p813 := eq_true p813; replace q813 := eq_true q813; have hnb42 := NB805_806.out; have hnc42 := NB806_805.out; have hcz43_0 : wr.cell? ⟨gb805, 0, none⟩ = some (.int .i64 a0_0) := bc BK805 0; have hcz43_1 : wr.cell? ⟨gb805, 1, none⟩ = some (.slice A0_1 l0_1.length c0_1) := bc BK805 1; have hfz43_0 := blk_frozen BK805.out 0; have hfz43_1 := blk_frozen BK805.out 1; have p814 : 0 ≤ (x8_2 : Int) := of_decide_eq_true (by first | (with_reducible assumption) | assumption); have q814 : x8_2 < (l1.length : Int) := of_decide_eq_true (by first | (with_reducible assumption) | assumption); obtain ⟨ad814, e814, hx814_0⟩ := Kd.at_int HR1.out x8_2 p814 q814; obtain rfl : ad812 = ad814 := (by injection e814); replace hx814_0 := (HB.out.cell (World.block_lt_of_cell? w _ hx814_0)).trans hx814_0; replace p814 := eq_true p814; replace q814 := eq_true q814; obtain ⟨Ao44, co44, eo44⟩ := Kd.R_slice HO_6.out; subst eo44; have p815 : 0 ≤ ((rd l1 x8_2) : Int) := of_decide_eq_true (by first | (with_reducible assumption) | assumption)
                have q815 : (rd l1 x8_2) < (x6_2.length : Int) := of_decide_eq_true (by first | (with_reducible assumption) | assumption); obtain ⟨ad815, e815, hx815_0⟩ := Kd.at_int (Kd.R_reads' HO_6.out).2.2 (rd l1 x8_2) p815 q815
                cases e815
                replace p815 := eq_true p815; replace q815 := eq_true q815; have p816 : 0 ≤ (x8_2 : Int) := of_decide_eq_true (by first | (with_reducible assumption) | assumption); have q816 : x8_2 < (l1.length : Int) := of_decide_eq_true (by first | (with_reducible assumption) | assumption); obtain ⟨ad816, e816, hx816_0⟩ := Kd.at_int HR1.out x8_2 p816 q816; obtain rfl : ad812 = ad816 := (by injection e816); replace hx816_0 := (HB.out.cell (World.block_lt_of_cell? w _ hx816_0)).trans hx816_0; replace p816 := eq_true p816; replace q816 := eq_true q816; have p41 : 0 ≤ ((rd l1 x8_2) : Int) := of_decide_eq_true (by first | (with_reducible assumption) | assumption); have q41 : ((rd l1 x8_2) : Int) < ((x6_2.length : Int) : Int) := of_decide_eq_true (by first | (with_reducible assumption) | assumption); obtain ⟨go41, co41, eo41, gb41, gl41, cl41, HG41⟩ := Kd.R_form HO_6.out (by omega)
                (first | cases eo41 | (injection eo41 with ea_ en_ ec_; (first | subst ea_ | (injection ea_ with ea_; subst ea_)); subst ec_; clear en_))
                have GB41 := Aside0.mk gb41; have GG41 := Aside0.mk HG41; clear gb41 gl41 HG41
                (first | simp only [add_plain] at hx815_0 | skip)
                obtain ⟨hx41_0, hf41_0⟩ := Kd.R_celln 0 HO_6.out ((rd l1 x8_2) : Int) p41 q41; replace p41 := eq_true p41; replace q41 := eq_true q41; have HP45 := Kd.R_putg HO_6.out ((rd l1 x8_2) : Int) x8_2
                go_wp2_with (first | ((with_reducible refine gate_store (t := 3) (p := 62) rfl ?_); (try (rw [drewN_self wr]; generalize hq_ : World.drewN wr _ = wr; have n0_ := Aside0.mk (Kd.R_at hq_ HO_6.out); have n1_ := Aside0.mk (blk_at hq_ BK805.out); have n2_ := Aside0.mk (blk_at hq_ BK806.out); have n3_ := Aside0.mk (below_at hq_ HB.out); clear hq_ HO_6 BK805 BK806 HB; have HO_6 := n0_; have BK805 := n1_; have BK806 := n2_; have HB := n3_; clear n0_ n1_ n2_ n3_; (try (have HP45 := Kd.R_putg HO_6.out ((rd l1 x8_2) : Int) x8_2)))); refine store_event (t := 3) (p := 62) (v := ?vo_w46) (w1 := (wr.setCell ⟨go41, ((rd l1 x8_2) : Int).toNat, none⟩ (.int .i64 x8_2))) ?hg ?ho ?hn ?hr ?_; (case ho => rfl); (case hg => rfl); (case hn => rfl); (case hr => first | (go_simp; done) | (go_simp; rfl)); intro w46 hw; have hg : wr.grownBy w46 (some go41) := (by rw [hw]; exact HP45.2); have hp_ : Kd.R (Kd.int .i64) 3 w46 w.heap.size (fun _ => True) (.slice (some ⟨go41, 0, none⟩) x6_2.length co44) y817 := (by rw [hw, Ny817.out]; exact HP45.1); clear HP45; replace BK805 := Aside0.mk (blk_grown (bx BK805) hg (Kd.R_ne HO_6.out BK805.out (by decide))); replace BK806 := Aside0.mk (blk_grown (bx BK806) hg (Kd.R_ne HO_6.out BK806.out (by decide))); replace HO_6 := Aside0.mk (hp_); replace HB := Aside0.mk ((by rw [hw]; exact below_set (HB.out) GB41.out : Below w.heap.size w w46)); clear hg hw hp_))
                go_quiet (fail)
                replace HO_6 := Aside0.mk (Kd.R_drewN HO_6.out nq); replace BK805 := Aside0.mk (blk_drewN BK805.out nq); replace BK806 := Aside0.mk (blk_drewN BK806.out nq); replace HB := Aside0.mk (pw_below_drewN HB.out nq); have hxq_ := hx816_0
                change (World.drewN wr nq).cell? _ = _ at hxq_
                clear HP45 hx41_0 hf41_0; generalize World.drewN wr nq = wq_ at HO_6 BK805 BK806 HB hxq_ ⊢; obtain ⟨hx41_0, hf41_0⟩ := Kd.R_celln 0 HO_6.out ((rd l1 x8_2) : Int) (of_eq_true p41) (of_eq_true q41); have HP45 := Kd.R_putg HO_6.out ((rd l1 x8_2) : Int) x8_2
                go_wp2_with (first | ((with_reducible refine gate_store (t := 3) (p := 62) rfl ?_); refine store_event (t := 3) (p := 62) (v := ?vo_w46) (w1 := (wq_.setCell ⟨go41, ((rd l1 x8_2) : Int).toNat, none⟩ (.int .i64 x8_2))) ?hg ?ho ?hn ?hr ?_; (case ho => rfl); (case hg => rfl); (case hn => rfl); (case hr => first | (go_simp; done) | (go_simp; rfl)); intro w46 hw; have hg : wq_.grownBy w46 (some go41) := (by rw [hw]; exact HP45.2); have hp_ : Kd.R (Kd.int .i64) 3 w46 w.heap.size (fun _ => True) (.slice (some ⟨go41, 0, none⟩) x6_2.length co44) y817 := (by rw [hw, Ny817.out]; exact HP45.1); clear HP45; replace BK805 := Aside0.mk (blk_grown (bx BK805) hg (Kd.R_ne HO_6.out BK805.out (by decide))); replace BK806 := Aside0.mk (blk_grown (bx BK806) hg (Kd.R_ne HO_6.out BK806.out (by decide))); replace HO_6 := Aside0.mk (hp_); replace HB := Aside0.mk ((by rw [hw]; exact below_set (HB.out) GB41.out : Below w.heap.size w w46)); clear hg hw hp_))
                go_roundg k2
                case measure => have := HK1.out; have := HK2.out; omega
                case rel => exact ⟨(y817), (wrap64 (x8_2 + 1)), (x807000_2), (by first | rfl | (simp; done) | (simp [*]; done)), H', ⟨by have := HK1.out; have := HK2.out; omega⟩, ⟨rx HO_6⟩, ⟨bx BK805⟩, ⟨bx BK806⟩, ⟨hb2 HB GE805 GE806⟩⟩
              ·rw [if_neg c35] at H; exact absurd H (by simp)
             ·rw [if_neg c34] at H; exact absurd H (by simp)
          ·rw [if_neg c26] at H; exact absurd H (by simp)
         ·rw [if_neg c25] at H; have c25b0 : decide (x8_2 < (l1.length : Int)) = false := decide_eq_false c25; clear c25; replace H := Option.bind_eq_some_iff.mp H; obtain ⟨t818, A470, H⟩ := H; replace H : (some ((l1.length : Int), t818, 0)) = some (r1, r2, r3) := H; have A47 := Aside0.mk A470; clear A470; simp only [Option.some.injEq, Prod.mk.injEq] at H; obtain ⟨rfl, rfl, rfl⟩ := H; have hnb48 := NB805_806.out; have hnc48 := NB806_805.out; have hcz49_0 : wr.cell? ⟨gb805, 0, none⟩ = some (.int .i64 a0_0) := bc BK805 0; have hcz49_1 : wr.cell? ⟨gb805, 1, none⟩ = some (.slice A0_1 l0_1.length c0_1) := bc BK805 1; have hfz49_0 := blk_frozen BK805.out 0; have hfz49_1 := blk_frozen BK805.out 1; obtain ⟨Ao50, co50, eo50⟩ := Kd.R_slice HO_6.out; subst eo50
          go_wp2_with (first | (go_at_call 44; (with_reducible refine (tangramref14_Named.calls k2 a0_0 _ _ l0_1 _ _ x6_2 t818 _ ?side1 ?side2 ?side3 ?side4 A47.out).mono ?_); (case side1 => repeat (first | exact (Kd.C_below HR0_1.out HB.out) | (with_reducible refine Kd.C_alloc ?_ _) | (with_reducible refine Kd.C_drewN ?_ _) | (with_reducible refine Kd.C_drew ?_))); (case side2 => exact HC0_1.out); (case side3 => exact cr HO_6); (case side4 => exact (Kd.R_reads' HO_6.out).2.1); rintro e w51 ⟨v819, rfl, ho0, hb⟩; replace HO_6 := ry HO_6 hb; have HO820 := Aside0.mk (Kd.R_lower ho0 (below_size (hb2 HB GE805 GE806))); replace BK805 := kx BK805 hb; replace BK806 := kx BK806 hb; replace HB := hs (hb2 HB GE805 GE806) hb; (try clear hb); (try clear hb2); (try clear hk); (try clear hi); (try clear ho0); obtain ⟨Ao52, co52, eo52⟩ := Kd.R_slice HO820.out; subst eo52; have hcz53_0 : w51.cell? ⟨gb806, 0, none⟩ = some (.int .i64 x807000_2) := bc BK806 0; have hcz53_1 : w51.cell? ⟨gb806, 1, none⟩ = some (.slice none 0 0) := bc BK806 1; have hfz53_0 := blk_frozen BK806.out 0; have hfz53_1 := blk_frozen BK806.out 1))
          repeat (go_quiet (first | (go_at_call 44; (with_reducible refine (tangramref14_Named.calls k2 a0_0 _ _ l0_1 _ _ x6_2 t818 _ ?side1 ?side2 ?side3 ?side4 A47.out).mono ?_); (case side1 => repeat (first | exact (Kd.C_below HR0_1.out HB.out) | (with_reducible refine Kd.C_alloc ?_ _) | (with_reducible refine Kd.C_drewN ?_ _) | (with_reducible refine Kd.C_drew ?_))); (case side2 => exact HC0_1.out); (case side3 => exact cr HO_6); (case side4 => exact (Kd.R_reads' HO_6.out).2.1); rintro e w51 ⟨v819, rfl, ho0, hb⟩; replace HO_6 := ry HO_6 hb; have HO820 := Aside0.mk (Kd.R_lower ho0 (below_size (hb2 HB GE805 GE806))); replace BK805 := kx BK805 hb; replace BK806 := kx BK806 hb; replace HB := hs (hb2 HB GE805 GE806) hb; (try clear hb); (try clear hb2); (try clear hk); (try clear hi); (try clear ho0); obtain ⟨Ao52, co52, eo52⟩ := Kd.R_slice HO820.out; subst eo52; have hcz53_0 : w51.cell? ⟨gb806, 0, none⟩ = some (.int .i64 x807000_2) := bc BK806 0; have hcz53_1 : w51.cell? ⟨gb806, 1, none⟩ = some (.slice none 0 0) := bc BK806 1; have hfz53_0 := blk_frozen BK806.out 0; have hfz53_1 := blk_frozen BK806.out 1)); try go_wp2_with (first | (go_at_call 44; (with_reducible refine (tangramref14_Named.calls k2 a0_0 _ _ l0_1 _ _ x6_2 t818 _ ?side1 ?side2 ?side3 ?side4 A47.out).mono ?_); (case side1 => repeat (first | exact (Kd.C_below HR0_1.out HB.out) | (with_reducible refine Kd.C_alloc ?_ _) | (with_reducible refine Kd.C_drewN ?_ _) | (with_reducible refine Kd.C_drew ?_))); (case side2 => exact HC0_1.out); (case side3 => exact cr HO_6); (case side4 => exact (Kd.R_reads' HO_6.out).2.1); rintro e w51 ⟨v819, rfl, ho0, hb⟩; replace HO_6 := ry HO_6 hb; have HO820 := Aside0.mk (Kd.R_lower ho0 (below_size (hb2 HB GE805 GE806))); replace BK805 := kx BK805 hb; replace BK806 := kx BK806 hb; replace HB := hs (hb2 HB GE805 GE806) hb; (try clear hb); (try clear hb2); (try clear hk); (try clear hi); (try clear ho0); obtain ⟨Ao52, co52, eo52⟩ := Kd.R_slice HO820.out; subst eo52; have hcz53_0 : w51.cell? ⟨gb806, 0, none⟩ = some (.int .i64 x807000_2) := bc BK806 0; have hcz53_1 : w51.cell? ⟨gb806, 1, none⟩ = some (.slice none 0 0) := bc BK806 1; have hfz53_0 := blk_frozen BK806.out 0; have hfz53_1 := blk_frozen BK806.out 1)))
          refine bodyPost_ret (results_ct rfl _ _ gb806 25 #[.int .i64 (l1.length : Int), .slice Ao52 t818.length co52] (0, 0) _ rfl (bp BK806) Try.underlying25 rfl (by kernel_rfl)) rfl ?_; exact ⟨_, by first | rfl | (simp [errW_none, errW_some] <;> rfl) | (simp [*, errW_none, errW_some] <;> rfl), Kd.R_mono (rf HO820 BK806) (fun _ hk => trivial), hb2 HB GE805 GE806⟩
   ·rw [if_neg c6] at H; exact absurd H (by simp)
  ·rw [if_neg c5] at H; exact absurd H (by simp)
 ·replace c4 := Bool.eq_false_iff.mpr c4; subst c4; have H1 : (some (0, ([] : List (S46)), 1)) = some (r1, r2, r3) := by rw [if_neg (show ¬ (false = true) by decide)] at H; exact H
  clear H; have H := H1; clear H1; simp only [Option.some.injEq, Prod.mk.injEq] at H; obtain ⟨rfl, rfl, rfl⟩ := H
  go_enter Try.func25, Try.ntmps25
  go_wp2_with (first | ((with_reducible refine gate_dst (N := 2) rfl ?_); refine be_ 2 #[.int .i64 a0_0, .slice A0_1 l0_1.length c0_1] 25 ?_; intro gb805 hg w54 hbox hb; have BK805 := Aside0.mk (hbox); have GW805 := wq (hb0 HB) hg; have GE805 := wq (hb0 HB) hg; replace HB := hs (hb0 HB) hb; clear hb hbox hg) | ((with_reducible refine gate_dst (N := 4) rfl ?_); refine be_ 4 #[.int .i64 0, .slice none 0 0] 25 ?_; intro gb806 hg w55 hbox hb; have BK806 := Aside0.mk (hbox); have GW806 := wq (hb1 HB GE805) hg; have GE806 := wq (hb1 HB GE805) hg; replace HB := hs (hb1 HB GE805) hb; have NB805_806 := lx BK805 hg; have NB806_805 := gx BK805 hg; replace BK805 := kx BK805 hb; clear hb hbox hg; have hnb56 := NB805_806.out; have hnc56 := NB806_805.out; have hcz57_0 : w55.cell? ⟨gb805, 0, none⟩ = some (.int .i64 a0_0) := bc BK805 0; have hcz57_1 : w55.cell? ⟨gb805, 1, none⟩ = some (.slice A0_1 l0_1.length c0_1) := bc BK805 1; have hfz57_0 := blk_frozen BK805.out 0; have hfz57_1 := blk_frozen BK805.out 1) | (go_at_call 11; (with_reducible refine (tangramref03_Valid.calls k a0_0 _ _ l0_1 false _ ?side1 ?side2 A3.out).mono ?_); (case side1 => repeat (first | exact (Kd.C_below HR0_1.out HB.out) | (with_reducible refine Kd.C_alloc ?_ _) | (with_reducible refine Kd.C_drewN ?_ _) | (with_reducible refine Kd.C_drew ?_))); (case side2 => exact HC0_1.out); rintro e w58 ⟨rfl, hb⟩; replace BK805 := kx BK805 hb; replace BK806 := kx BK806 hb; replace HB := hs (hb2 HB GE805 GE806) hb; (try clear hb); (try clear hb2); (try clear hk); (try clear hi); have hcz59_0 : w58.cell? ⟨gb806, 0, none⟩ = some (.int .i64 0) := bc BK806 0; have hcz59_1 : w58.cell? ⟨gb806, 1, none⟩ = some (.slice none 0 0) := bc BK806 1; have hfz59_0 := blk_frozen BK806.out 0; have hfz59_1 := blk_frozen BK806.out 1))
  repeat (go_quiet (first | ((with_reducible refine gate_dst (N := 2) rfl ?_); refine be_ 2 #[.int .i64 a0_0, .slice A0_1 l0_1.length c0_1] 25 ?_; intro gb805 hg w54 hbox hb; have BK805 := Aside0.mk (hbox); have GW805 := wq (hb0 HB) hg; have GE805 := wq (hb0 HB) hg; replace HB := hs (hb0 HB) hb; clear hb hbox hg) | ((with_reducible refine gate_dst (N := 4) rfl ?_); refine be_ 4 #[.int .i64 0, .slice none 0 0] 25 ?_; intro gb806 hg w55 hbox hb; have BK806 := Aside0.mk (hbox); have GW806 := wq (hb1 HB GE805) hg; have GE806 := wq (hb1 HB GE805) hg; replace HB := hs (hb1 HB GE805) hb; have NB805_806 := lx BK805 hg; have NB806_805 := gx BK805 hg; replace BK805 := kx BK805 hb; clear hb hbox hg; have hnb56 := NB805_806.out; have hnc56 := NB806_805.out; have hcz57_0 : w55.cell? ⟨gb805, 0, none⟩ = some (.int .i64 a0_0) := bc BK805 0; have hcz57_1 : w55.cell? ⟨gb805, 1, none⟩ = some (.slice A0_1 l0_1.length c0_1) := bc BK805 1; have hfz57_0 := blk_frozen BK805.out 0; have hfz57_1 := blk_frozen BK805.out 1) | (go_at_call 11; (with_reducible refine (tangramref03_Valid.calls k a0_0 _ _ l0_1 false _ ?side1 ?side2 A3.out).mono ?_); (case side1 => repeat (first | exact (Kd.C_below HR0_1.out HB.out) | (with_reducible refine Kd.C_alloc ?_ _) | (with_reducible refine Kd.C_drewN ?_ _) | (with_reducible refine Kd.C_drew ?_))); (case side2 => exact HC0_1.out); rintro e w58 ⟨rfl, hb⟩; replace BK805 := kx BK805 hb; replace BK806 := kx BK806 hb; replace HB := hs (hb2 HB GE805 GE806) hb; (try clear hb); (try clear hb2); (try clear hk); (try clear hi); have hcz59_0 : w58.cell? ⟨gb806, 0, none⟩ = some (.int .i64 0) := bc BK806 0; have hcz59_1 : w58.cell? ⟨gb806, 1, none⟩ = some (.slice none 0 0) := bc BK806 1; have hfz59_0 := blk_frozen BK806.out 0; have hfz59_1 := blk_frozen BK806.out 1)); try go_wp2_with (first | ((with_reducible refine gate_dst (N := 2) rfl ?_); refine be_ 2 #[.int .i64 a0_0, .slice A0_1 l0_1.length c0_1] 25 ?_; intro gb805 hg w54 hbox hb; have BK805 := Aside0.mk (hbox); have GW805 := wq (hb0 HB) hg; have GE805 := wq (hb0 HB) hg; replace HB := hs (hb0 HB) hb; clear hb hbox hg) | ((with_reducible refine gate_dst (N := 4) rfl ?_); refine be_ 4 #[.int .i64 0, .slice none 0 0] 25 ?_; intro gb806 hg w55 hbox hb; have BK806 := Aside0.mk (hbox); have GW806 := wq (hb1 HB GE805) hg; have GE806 := wq (hb1 HB GE805) hg; replace HB := hs (hb1 HB GE805) hb; have NB805_806 := lx BK805 hg; have NB806_805 := gx BK805 hg; replace BK805 := kx BK805 hb; clear hb hbox hg; have hnb56 := NB805_806.out; have hnc56 := NB806_805.out; have hcz57_0 : w55.cell? ⟨gb805, 0, none⟩ = some (.int .i64 a0_0) := bc BK805 0; have hcz57_1 : w55.cell? ⟨gb805, 1, none⟩ = some (.slice A0_1 l0_1.length c0_1) := bc BK805 1; have hfz57_0 := blk_frozen BK805.out 0; have hfz57_1 := blk_frozen BK805.out 1) | (go_at_call 11; (with_reducible refine (tangramref03_Valid.calls k a0_0 _ _ l0_1 false _ ?side1 ?side2 A3.out).mono ?_); (case side1 => repeat (first | exact (Kd.C_below HR0_1.out HB.out) | (with_reducible refine Kd.C_alloc ?_ _) | (with_reducible refine Kd.C_drewN ?_ _) | (with_reducible refine Kd.C_drew ?_))); (case side2 => exact HC0_1.out); rintro e w58 ⟨rfl, hb⟩; replace BK805 := kx BK805 hb; replace BK806 := kx BK806 hb; replace HB := hs (hb2 HB GE805 GE806) hb; (try clear hb); (try clear hb2); (try clear hk); (try clear hi); have hcz59_0 : w58.cell? ⟨gb806, 0, none⟩ = some (.int .i64 0) := bc BK806 0; have hcz59_1 : w58.cell? ⟨gb806, 1, none⟩ = some (.slice none 0 0) := bc BK806 1; have hfz59_0 := blk_frozen BK806.out 0; have hfz59_1 := blk_frozen BK806.out 1)))
  refine bodyPost_ret (results_ct rfl _ _ gb806 25 #[.int .i64 0, .slice none 0 0] (0, 0) _ rfl (bp BK806) Try.underlying25 rfl (by kernel_rfl)) rfl ?_; exact ⟨_, by first | rfl | (simp [errW_none, errW_some] <;> rfl) | (simp [*, errW_none, errW_some] <;> rfl), by first | exact Kd.R_nil _ _ _ _ _ | exact Kd.N_nil _ _ _ _ _ | exact Kd.V_nil _ _ _ _ _ | exact Kd.Q_nil _ _ _ _ _ | exact Kd.S_nil _ _ _ _ _, hb2 HB GE805 GE806⟩

end Go.Proofs.Ytdaeaejmikhmcaa.PEditC
