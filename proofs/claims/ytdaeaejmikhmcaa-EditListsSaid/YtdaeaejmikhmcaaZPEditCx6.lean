-- PRINTED by print.py (a twelfth state) out of the translation. Not trusted: Lean checks it.
import Derived.Test.YtdaeaejmikhmcaaZPEditCx0
import Derived.Test.YtdaeaejmikhmcaaZPEditCx3
import Derived.Test.YtdaeaejmikhmcaaZPEditCx5
namespace Go.Proofs.Ytdaeaejmikhmcaa.PEditC
open Go.RowKit Go.Proofs.YtdaeaejmikhmcaaW.PrintWords Go.Proofs.YtdaeaejmikhmcaaW.PrintLast Go.Proofs.YtdaeaejmikhmcaaW.PrintMore
open Go.Proofs.YtdaeaejmikhmcaaX
attribute [local go_sem] max2_int min2_int max_two min_two max_three min_three max_four min_four   -- for this text's walks alone
set_option linter.unusedVariables false
set_option linter.unusedSimpArgs false

/-! ### edit_Induced: function 14 -/
mutual
def edit_Induced.l0 : Nat → List Int → List Int → List Int → Int → Int → Int → List (S46) → Option (Int × (List (S46)) × Int)
 | 0, _, _, _, _, _, _, _ => none
 | k + 1, x1, x6, x19, x20, x21, x120000, x120001 => if x21 < x20 then (if 0 ≤ x21 then (if x21 < (x19.length : Int) then (if (rd x19 x21) < 0 then (some (0, ([] : List (S46)), 2)) else (if (rd x19 x21) ≥ x120000 then (some (0, ([] : List (S46)), 2)) else (if 0 ≤ (rd x19 x21) then (if (rd x19 x21) < (x6.length : Int) then (if (rd x6 (rd x19 x21)) > 0 then (some (0, ([] : List (S46)), 2)) else (edit_Induced.l0 k x1 (x6.set ((rd x19 x21) : Int).toNat (wrap64 (x21 + 1))) x19 x20 (wrap64 (x21 + 1)) x120000 x120001)) else (none)) else (none)))) else (none)) else (none)) else (edit_Induced.l1 k x1 x6 ([] : List (S46)) x120001 (x120001.length : Int) 0)
def edit_Induced.l1 : Nat → List Int → List Int → List (S46) → List (S46) → Int → Int → Option (Int × (List (S46)) × Int)
 | 0, _, _, _, _, _, _ => none
 | k + 1, x1, x6, x9, x49, x50, x51 => if x51 < x50 then (if 0 ≤ x51 then (if x51 < (x49.length : Int) then (if 0 ≤ ((rd_T46 x49 x51).f0) then (if ((rd_T46 x49 x51).f0) < (x6.length : Int) then (if (rd x6 ((rd_T46 x49 x51).f0)) > 0 then (if 0 ≤ ((rd_T46 x49 x51).f1) then (if ((rd_T46 x49 x51).f1) < (x6.length : Int) then (if (rd x6 ((rd_T46 x49 x51).f1)) > 0 then (if x9.length < 8796093022208 then (edit_Induced.l1 k x1 x6 (x9 ++ [(⟨wrap64 ((rd x6 ((rd_T46 x49 x51).f0)) - 1), wrap64 ((rd x6 ((rd_T46 x49 x51).f1)) - 1)⟩ : S46)]) x49 x50 (wrap64 (x51 + 1))) else (none)) else (edit_Induced.l1 k x1 x6 x9 x49 x50 (wrap64 (x51 + 1)))) else (none)) else (none)) else (edit_Induced.l1 k x1 x6 x9 x49 x50 (wrap64 (x51 + 1)))) else (none)) else (none)) else (none)) else (none)) else ((edit_made.f k (x1.length : Int) x9).bind fun bt137 => (some (bt137.1, bt137.2, 0)))
end
def edit_Induced.f (k : Nat) (a0_0 : Int) (l0_1 : List (S46)) (l1 : List Int) : Option (Int × (List (S46)) × Int) := (simple_Valid.f k a0_0 l0_1).bind fun t121 => (if t121 = true then (if 0 ≤ a0_0 then (if (a0_0 : Int).toNat ≤ 35184372088832 then (edit_Induced.l0 k l1 (List.replicate (a0_0 : Int).toNat 0) l1 (l1.length : Int) 0 a0_0 l0_1) else (none)) else (none)) else (some (0, ([] : List (S46)), 1)))
theorem edit_Induced.mono_l : ∀ k, (∀ y0 y1 y2 y3 y4 y5 y6, LeO (edit_Induced.l0 k y0 y1 y2 y3 y4 y5 y6) (edit_Induced.l0 (k + 1) y0 y1 y2 y3 y4 y5 y6)) ∧ (∀ y0 y1 y2 y3 y4 y5, LeO (edit_Induced.l1 k y0 y1 y2 y3 y4 y5) (edit_Induced.l1 (k + 1) y0 y1 y2 y3 y4 y5))
 | 0 => ⟨fun _ _ _ _ _ _ _ r h => by simp [edit_Induced.l0] at h, fun _ _ _ _ _ _ r h => by simp [edit_Induced.l1] at h⟩
 | k + 1 => by
  obtain ⟨ih0, ih1⟩ := edit_Induced.mono_l k; refine ⟨?_, ?_⟩
  ·intro y0 y1 y2 y3 y4 y5 y6
   unfold edit_Induced.l0
   repeat' first
   | (with_reducible exact ih0 _ _ _ _ _ _ _)
   | (with_reducible exact ih1 _ _ _ _ _ _)
   | (with_reducible exact edit_made.mono _ _ _)
   | (with_reducible exact simple_Valid.mono _ _ _)
   | (with_reducible exact LeO.refl _)
   | (with_reducible exact LeO.none _)
   | (with_reducible refine LeO.ite ?_ ?_)
   | (with_reducible refine LeO.bind ?_ (fun _ => ?_))
   | exact ih0 _ _ _ _ _ _ _
   | exact ih1 _ _ _ _ _ _
   | exact edit_made.mono _ _ _
   | exact simple_Valid.mono _ _ _
   | exact LeO.none _
   | refine LeO.ite ?_ ?_
   | refine LeO.bind ?_ (fun _ => ?_)
  ·intro y0 y1 y2 y3 y4 y5
   unfold edit_Induced.l1
   repeat' first
   | (with_reducible exact ih0 _ _ _ _ _ _ _)
   | (with_reducible exact ih1 _ _ _ _ _ _)
   | (with_reducible exact edit_made.mono _ _ _)
   | (with_reducible exact simple_Valid.mono _ _ _)
   | (with_reducible exact LeO.refl _)
   | (with_reducible exact LeO.none _)
   | (with_reducible refine LeO.ite ?_ ?_)
   | (with_reducible refine LeO.bind ?_ (fun _ => ?_))
   | exact ih0 _ _ _ _ _ _ _
   | exact ih1 _ _ _ _ _ _
   | exact edit_made.mono _ _ _
   | exact simple_Valid.mono _ _ _
   | exact LeO.none _
   | refine LeO.ite ?_ ?_
   | refine LeO.bind ?_ (fun _ => ?_)
theorem edit_Induced.mono : ∀ a0 a1 a2 k, LeO (edit_Induced.f k a0 a1 a2) (edit_Induced.f (k + 1) a0 a1 a2) := by
 intro a0 a1 a2 k; obtain ⟨ih0, ih1⟩ := edit_Induced.mono_l k
 unfold edit_Induced.f
 repeat' first
   | (with_reducible exact ih0 _ _ _ _ _ _ _)
   | (with_reducible exact ih1 _ _ _ _ _ _)
   | (with_reducible exact edit_made.mono _ _ _)
   | (with_reducible exact simple_Valid.mono _ _ _)
   | (with_reducible exact LeO.refl _)
   | (with_reducible exact LeO.none _)
   | (with_reducible refine LeO.ite ?_ ?_)
   | (with_reducible refine LeO.bind ?_ (fun _ => ?_))
   | exact ih0 _ _ _ _ _ _ _
   | exact ih1 _ _ _ _ _ _
   | exact edit_made.mono _ _ _
   | exact simple_Valid.mono _ _ _
   | exact LeO.none _
   | refine LeO.ite ?_ ?_
   | refine LeO.bind ?_ (fun _ => ?_)
def edit_Induced.T16 : Bool × List (List Nat × List Nat) := (true, [([], []), ([], []), ([], []), ([2], [2]), ([1, 3], [1, 3]), ([4], [4]), ([5], [5]), ([], []), ([], []), ([8], [8]), ([7, 9], [7, 9]), ([10], [10]), ([11], [11]), ([6, 12], [6, 12]), ([13], [13]), ([0, 14], [0, 14]), ([15, 15, 0, 1, 2, 3, 4, 5, 6, 7, 8, 9, 10, 11, 12, 13, 14, 15], [0, 15])])
def edit_Induced.B16 : List Nat := [0, 0, 0, 4, 14, 30, 62, 0, 0, 256, 896, 1920, 3968, 8190, 16382, 32767, 65535]
theorem edit_Induced.tab16 : rtab .any (opsOf Try.f14 16) = edit_Induced.T16 := by kernel_rfl
theorem edit_Induced.bits16 : waitsOk edit_Induced.T16.2 edit_Induced.B16 = true := by kernel_rfl
set_option maxHeartbeats 8000000 in
set_option maxRecDepth 100000 in
theorem edit_Induced.calls (k : Nat) (a0_0 : Int) (A0_1 : Option Addr) (c0_1 : Nat) (l0_1 : List (S46)) (A1 : Option Addr) (c1 : Nat) (l1 : List Int) (r1 : Int) (r2 : List (S46)) (r3 : Int) (w : World) (hr0_1 : Kd.C k46 w A0_1 l0_1.length l0_1) (hc0_1 : l0_1.length ≤ c0_1) (hr1 : Kd.C (Kd.int .i64) w A1 l1.length l1) (hc1 : l1.length ≤ c1) (h : edit_Induced.f k a0_0 l0_1 l1 = some (r1, r2, r3)) :
  Calls Try.prog 14 #[.agg #[.int .i64 a0_0, .slice A0_1 l0_1.length c0_1], .slice A1 l1.length c1] w fun e w' => ∃ v1_ : Value, e = .returned (.tuple #[.agg #[.int .i64 r1, v1_], .int .i64 r3]) ∧ Kd.R k46 46 w' w.heap.size (fun _ => True) v1_ r2 ∧ Below w.heap.size w w' := by
 have hu25 := Try.underlying25; have hu46 := Try.underlying46; have HR0_1 := Aside0.mk hr0_1; have HC0_1 := Aside0.mk hc0_1; clear hr0_1 hc0_1; have HR1 := Aside0.mk hr1; have HC1 := Aside0.mk hc1; clear hr1 hc1; have HB := Aside0.mk (Below.refl w.heap.size w); have H : ((simple_Valid.f k a0_0 l0_1).bind fun t121 => (if t121 = true then (if 0 ≤ a0_0 then (if (a0_0 : Int).toNat ≤ 35184372088832 then (edit_Induced.l0 k l1 (List.replicate (a0_0 : Int).toNat 0) l1 (l1.length : Int) 0 a0_0 l0_1) else (none)) else (none)) else (some (0, ([] : List (S46)), 1)))) = some (r1, r2, r3) := h; clear h; replace H := Option.bind_eq_some_iff.mp H; obtain ⟨t121, A30, H⟩ := H; replace H : (if t121 = true then (if 0 ≤ a0_0 then (if (a0_0 : Int).toNat ≤ 35184372088832 then (edit_Induced.l0 k l1 (List.replicate (a0_0 : Int).toNat 0) l1 (l1.length : Int) 0 a0_0 l0_1) else (none)) else (none)) else (some (0, ([] : List (S46)), 1))) = some (r1, r2, r3) := H; have A3 := Aside0.mk A30; clear A30
 by_cases c4 : t121 = true
 ·subst c4; have H1 : (if 0 ≤ a0_0 then (if (a0_0 : Int).toNat ≤ 35184372088832 then (edit_Induced.l0 k l1 (List.replicate (a0_0 : Int).toNat 0) l1 (l1.length : Int) 0 a0_0 l0_1) else (none)) else (none)) = some (r1, r2, r3) := by rw [if_pos rfl] at H; exact H
  clear H; have H := H1; clear H1
  by_cases c5 : 0 ≤ a0_0
  ·rw [if_pos c5] at H; have c5b0 := eq_true c5; have c5b1 : decide (0 ≤ a0_0) = true := decide_eq_true c5; clear c5
   by_cases c6 : (a0_0 : Int).toNat ≤ 35184372088832
   ·rw [if_pos c6] at H; have c6b0 := eq_true c6; have c6b1 : decide ((a0_0 : Int).toNat ≤ 35184372088832) = true := decide_eq_true c6; clear c6; obtain ⟨y122, hy122⟩ : ∃ y_ : List Int, y_ = (List.replicate (a0_0 : Int).toNat 0) := ⟨_, rfl⟩; replace H : (edit_Induced.l0 k l1 y122 l1 (l1.length : Int) 0 a0_0 l0_1) = some (r1, r2, r3) := by first | (rw [hy122]; with_reducible exact H) | (have H2_ := (Option.bind_some _ _).symm.trans H; rw [hy122]; with_reducible exact H2_) | (have H2_ := (Option.bind_some _ _).symm.trans H; with_reducible exact H2_) | with_reducible exact H | (rw [hy122]; exact H) | exact H
    have Ny122 := Aside0.mk hy122; clear hy122; have H' := Aside0.mk H; clear H
    go_enter Try.func14, Try.ntmps14
    go_wp2_with (first | ((with_reducible refine gate_dst (N := 2) rfl ?_); refine be_ 2 #[.int .i64 a0_0, .slice A0_1 l0_1.length c0_1] 25 ?_; intro gb119 hg w7 hbox hb; have BK119 := Aside0.mk (hbox); have GW119 := wq (hb0 HB) hg; have GE119 := wq (hb0 HB) hg; replace HB := hs (hb0 HB) hb; clear hb hbox hg) | ((with_reducible refine gate_dst (N := 4) rfl ?_); refine be_ 4 #[.int .i64 0, .slice none 0 0] 25 ?_; intro gb120 hg w8 hbox hb; have BK120 := Aside0.mk (hbox); have GW120 := wq (hb1 HB GE119) hg; have GE120 := wq (hb1 HB GE119) hg; replace HB := hs (hb1 HB GE119) hb; have NB119_120 := lx BK119 hg; have NB120_119 := gx BK119 hg; replace BK119 := kx BK119 hb; clear hb hbox hg; have hnb9 := NB119_120.out; have hnc9 := NB120_119.out; have hcz10_0 : w8.cell? ⟨gb119, 0, none⟩ = some (.int .i64 a0_0) := bc BK119 0; have hcz10_1 : w8.cell? ⟨gb119, 1, none⟩ = some (.slice A0_1 l0_1.length c0_1) := bc BK119 1; have hfz10_0 := blk_frozen BK119.out 0; have hfz10_1 := blk_frozen BK119.out 1) | ((with_reducible refine gate_callee (f := 37) rfl ?_); refine gl_ (some 13) Try.func37 #[.agg #[.int .i64 a0_0, .slice A0_1 l0_1.length c0_1]] ?_; (with_reducible refine (simple_Valid.calls k a0_0 _ _ l0_1 true _ ?side1 ?side2 A3.out).mono ?_); (case side1 => repeat (first | exact (Kd.C_below HR0_1.out HB.out) | (with_reducible refine Kd.C_alloc ?_ _) | (with_reducible refine Kd.C_drewN ?_ _) | (with_reducible refine Kd.C_drew ?_))); (case side2 => exact HC0_1.out); rintro e w11 ⟨rfl, hb⟩; refine ⟨_, rfl, ?_⟩; replace BK119 := kx BK119 hb; replace BK120 := kx BK120 hb; replace HB := hs (hb2 HB GE119 GE120) hb; (try clear hb); (try clear hb2); (try clear hk); (try clear hi); have hcz12_0 : w11.cell? ⟨gb119, 0, none⟩ = some (.int .i64 a0_0) := bc BK119 0; have hcz12_1 : w11.cell? ⟨gb119, 1, none⟩ = some (.slice A0_1 l0_1.length c0_1) := bc BK119 1; have hfz12_0 := blk_frozen BK119.out 0; have hfz12_1 := blk_frozen BK119.out 1) | ((with_reducible refine gate_dst (N := 18) rfl ?_); refine Kd.R_make (Kd.int .i64) _ 3 rfl (N := 18) rfl 26 _ _ rfl a0_0 rfl rfl Try.underlying26 (.int .i64 0) 8 info3 rfl (by decide) (by omega) 0 (ok := fun _ => True) (okp := fun _ => True) rfl (fun _ hk => hk) trivial (of_decide_eq_true (by first | (with_reducible assumption) | assumption)) (Nat.le_trans (Nat.mul_le_mul_right _ (of_decide_eq_true (by first | (with_reducible assumption) | assumption) : a0_0.toNat ≤ 35184372088832)) (by omega)) (Below.refl _ _) (Nat.le_refl _) ?_; intro v123 w13 ho14 hb hg_ hnew_; clear hg_ hnew_; (first | rw [← Ny122.out] at ho14 | (simp only [Int.reduceToNat] at ho14; rw [← Ny122.out] at ho14)); have HO124 := Aside0.mk (Kd.R_lower ho14 (below_size (hb2 HB GE119 GE120))); replace BK119 := kx BK119 hb; replace BK120 := kx BK120 hb; replace HB := hs (hb2 HB GE119 GE120) hb; clear hb ho14))
    go_loopg [21] k (fun kq v21 w' => ∃ (x6_1 : List Int) (x21_1 : Int) (x121000_1 : Int), v21 = .int .i64 x21_1 ∧ Aside0 (edit_Induced.l0 kq l1 x6_1 l1 (l1.length : Int) x21_1 a0_0 l0_1 = some (r1, r2, r3)) ∧ Aside0 (kq ≤ k) ∧ Aside0 (Kd.R (Kd.int .i64) 3 w' w.heap.size (fun _ => True) v123 x6_1) ∧ Aside0 (w'.heap[gb119]? = some (.cells #[.int .i64 a0_0, (.slice A0_1 l0_1.length c0_1)] 25 (0, 0))) ∧ Aside0 (w'.heap[gb120]? = some (.cells #[.int .i64 x121000_1, (.slice none 0 0)] 25 (0, 0))) ∧ Aside0 (Below w.heap.size w w'))
    case atStart => exact ⟨(y122), (0), (0), (by first | rfl | (simp; done) | (simp [*]; done)), H', ⟨Nat.le_refl _⟩, ⟨rx HO124⟩, ⟨bx BK119⟩, ⟨bx BK120⟩, ⟨hb2 HB GE119 GE120⟩⟩
    case round =>
     clear H'
     try clear c1
     try clear p2
     try clear c3
     try clear c4
     try clear c5
     try clear c5b0
     try clear c5b1
     try clear c6
     try clear c6b0
     try clear c6b1
     try clear c9
     try clear c14
     try clear hcz10_0
     try clear hcz10_1
     try clear hcz12_0
     try clear hcz12_1
     try clear hfz10_0
     try clear hfz10_1
     try clear hfz12_0
     try clear hfz12_1
     obtain ⟨x6_1, x21_1, x121000_1, rfl, HA, HK1, HO_6, BK119, BK120, HB⟩ := hrel
     cases gk with
     | zero => exact absurd HA.out (by simp [edit_Induced.l0])
     | succ k1 =>
      have H := HA.out; clear HA; simp only [edit_Induced.l0] at H
      by_cases c15 : x21_1 < (l1.length : Int)
      ·rw [if_pos c15] at H; have c15b0 : decide (x21_1 < (l1.length : Int)) = true := decide_eq_true c15; clear c15
       by_cases c16 : 0 ≤ x21_1
       ·rw [if_pos c16] at H; have c16b0 : decide (0 ≤ x21_1) = true := decide_eq_true c16; clear c16
        by_cases c17 : x21_1 < (l1.length : Int)
        ·rw [if_pos c17] at H; have c17b0 : decide (x21_1 < (l1.length : Int)) = true := decide_eq_true c17; clear c17
         by_cases c18 : (rd l1 x21_1) < 0
         ·rw [if_pos c18] at H; have c18b0 : decide ((rd l1 x21_1) < 0) = true := decide_eq_true c18; clear c18; simp only [Option.some.injEq, Prod.mk.injEq] at H; obtain ⟨rfl, rfl, rfl⟩ := H; have p125 : 0 ≤ (x21_1 : Int) := of_decide_eq_true (by first | (with_reducible assumption) | assumption); have q125 : x21_1 < (l1.length : Int) := of_decide_eq_true (by first | (with_reducible assumption) | assumption); obtain ⟨ad125, e125, hx125_0⟩ := Kd.at_int HR1.out x21_1 p125 q125
          cases e125
          replace hx125_0 := (HB.out.cell (World.block_lt_of_cell? w _ hx125_0)).trans hx125_0; replace p125 := eq_true p125; replace q125 := eq_true q125; have hnb19 := NB120_119.out; have hnc19 := NB119_120.out; have hcz20_0 : wr.cell? ⟨gb120, 0, none⟩ = some (.int .i64 x121000_1) := bc BK120 0; have hcz20_1 : wr.cell? ⟨gb120, 1, none⟩ = some (.slice none 0 0) := bc BK120 1; have hfz20_0 := blk_frozen BK120.out 0; have hfz20_1 := blk_frozen BK120.out 1
          go_wp2
          refine bodyPost_ret (results_ct rfl _ _ gb120 25 #[.int .i64 0, .slice none 0 0] (0, 0) _ rfl (bp BK120) Try.underlying25 rfl (by kernel_rfl)) rfl ?_; exact ⟨_, by first | rfl | (simp [errW_none, errW_some] <;> rfl) | (simp [*, errW_none, errW_some] <;> rfl), by first | exact Kd.R_nil _ _ _ _ _ | exact Kd.N_nil _ _ _ _ _ | exact Kd.V_nil _ _ _ _ _ | exact Kd.Q_nil _ _ _ _ _ | exact Kd.S_nil _ _ _ _ _, hb2 HB GE119 GE120⟩
         ·rw [if_neg c18] at H; have c18b0 : decide ((rd l1 x21_1) < 0) = false := decide_eq_false c18; clear c18
          by_cases c21 : (rd l1 x21_1) ≥ a0_0
          ·rw [if_pos c21] at H; have c21b0 : decide (a0_0 ≤ (rd l1 x21_1)) = true := decide_eq_true c21; clear c21; simp only [Option.some.injEq, Prod.mk.injEq] at H; obtain ⟨rfl, rfl, rfl⟩ := H; have p125 : 0 ≤ (x21_1 : Int) := of_decide_eq_true (by first | (with_reducible assumption) | assumption); have q125 : x21_1 < (l1.length : Int) := of_decide_eq_true (by first | (with_reducible assumption) | assumption); obtain ⟨ad125, e125, hx125_0⟩ := Kd.at_int HR1.out x21_1 p125 q125
           cases e125
           replace hx125_0 := (HB.out.cell (World.block_lt_of_cell? w _ hx125_0)).trans hx125_0; replace p125 := eq_true p125; replace q125 := eq_true q125; have hnb22 := NB119_120.out; have hnc22 := NB120_119.out; have hcz23_0 : wr.cell? ⟨gb119, 0, none⟩ = some (.int .i64 a0_0) := bc BK119 0; have hcz23_1 : wr.cell? ⟨gb119, 1, none⟩ = some (.slice A0_1 l0_1.length c0_1) := bc BK119 1; have hfz23_0 := blk_frozen BK119.out 0; have hfz23_1 := blk_frozen BK119.out 1; have hcz24_0 : wr.cell? ⟨gb120, 0, none⟩ = some (.int .i64 x121000_1) := bc BK120 0; have hcz24_1 : wr.cell? ⟨gb120, 1, none⟩ = some (.slice none 0 0) := bc BK120 1; have hfz24_0 := blk_frozen BK120.out 0; have hfz24_1 := blk_frozen BK120.out 1
           go_wp2
           refine bodyPost_ret (results_ct rfl _ _ gb120 25 #[.int .i64 0, .slice none 0 0] (0, 0) _ rfl (bp BK120) Try.underlying25 rfl (by kernel_rfl)) rfl ?_; exact ⟨_, by first | rfl | (simp [errW_none, errW_some] <;> rfl) | (simp [*, errW_none, errW_some] <;> rfl), by first | exact Kd.R_nil _ _ _ _ _ | exact Kd.N_nil _ _ _ _ _ | exact Kd.V_nil _ _ _ _ _ | exact Kd.Q_nil _ _ _ _ _ | exact Kd.S_nil _ _ _ _ _, hb2 HB GE119 GE120⟩
          ·rw [if_neg c21] at H; have c21b0 : decide (a0_0 ≤ (rd l1 x21_1)) = false := decide_eq_false c21; clear c21
           by_cases c25 : 0 ≤ (rd l1 x21_1)
           ·rw [if_pos c25] at H; have c25b0 : decide (0 ≤ (rd l1 x21_1)) = true := decide_eq_true c25; clear c25
            by_cases c26 : (rd l1 x21_1) < (x6_1.length : Int)
            ·rw [if_pos c26] at H; have c26b0 : decide ((rd l1 x21_1) < (x6_1.length : Int)) = true := decide_eq_true c26; clear c26
             by_cases c27 : (rd x6_1 (rd l1 x21_1)) > 0
             ·rw [if_pos c27] at H; have c27b0 : decide (0 < (rd x6_1 (rd l1 x21_1))) = true := decide_eq_true c27; clear c27; simp only [Option.some.injEq, Prod.mk.injEq] at H; obtain ⟨rfl, rfl, rfl⟩ := H; have p125 : 0 ≤ (x21_1 : Int) := of_decide_eq_true (by first | (with_reducible assumption) | assumption); have q125 : x21_1 < (l1.length : Int) := of_decide_eq_true (by first | (with_reducible assumption) | assumption); obtain ⟨ad125, e125, hx125_0⟩ := Kd.at_int HR1.out x21_1 p125 q125
              cases e125
              replace hx125_0 := (HB.out.cell (World.block_lt_of_cell? w _ hx125_0)).trans hx125_0; replace p125 := eq_true p125; replace q125 := eq_true q125; have hnb28 := NB119_120.out; have hnc28 := NB120_119.out; have hcz29_0 : wr.cell? ⟨gb119, 0, none⟩ = some (.int .i64 a0_0) := bc BK119 0; have hcz29_1 : wr.cell? ⟨gb119, 1, none⟩ = some (.slice A0_1 l0_1.length c0_1) := bc BK119 1; have hfz29_0 := blk_frozen BK119.out 0; have hfz29_1 := blk_frozen BK119.out 1; obtain ⟨Ao30, co30, eo30⟩ := Kd.R_slice HO_6.out; subst eo30; have p126 : 0 ≤ ((rd l1 x21_1) : Int) := of_decide_eq_true (by first | (with_reducible assumption) | assumption); have q126 : (rd l1 x21_1) < (x6_1.length : Int) := of_decide_eq_true (by first | (with_reducible assumption) | assumption); obtain ⟨ad126, e126, hx126_0⟩ := Kd.at_int (Kd.R_reads' HO_6.out).2.2 (rd l1 x21_1) p126 q126
              cases e126
              replace p126 := eq_true p126; replace q126 := eq_true q126; have hcz31_0 : wr.cell? ⟨gb120, 0, none⟩ = some (.int .i64 x121000_1) := bc BK120 0; have hcz31_1 : wr.cell? ⟨gb120, 1, none⟩ = some (.slice none 0 0) := bc BK120 1; have hfz31_0 := blk_frozen BK120.out 0; have hfz31_1 := blk_frozen BK120.out 1
              go_wp2
              refine bodyPost_ret (results_ct rfl _ _ gb120 25 #[.int .i64 0, .slice none 0 0] (0, 0) _ rfl (bp BK120) Try.underlying25 rfl (by kernel_rfl)) rfl ?_; exact ⟨_, by first | rfl | (simp [errW_none, errW_some] <;> rfl) | (simp [*, errW_none, errW_some] <;> rfl), by first | exact Kd.R_nil _ _ _ _ _ | exact Kd.N_nil _ _ _ _ _ | exact Kd.V_nil _ _ _ _ _ | exact Kd.Q_nil _ _ _ _ _ | exact Kd.S_nil _ _ _ _ _, hb2 HB GE119 GE120⟩
             ·rw [if_neg c27] at H; have c27b0 : decide (0 < (rd x6_1 (rd l1 x21_1))) = false := decide_eq_false c27; clear c27; obtain ⟨y127, hy127⟩ : ∃ y_ : List Int, y_ = (x6_1.set ((rd l1 x21_1) : Int).toNat (wrap64 (x21_1 + 1))) := ⟨_, rfl⟩; replace H : (edit_Induced.l0 k1 l1 y127 l1 (l1.length : Int) (wrap64 (x21_1 + 1)) a0_0 l0_1) = some (r1, r2, r3) := by first | (rw [hy127]; with_reducible exact H) | (have H2_ := (Option.bind_some _ _).symm.trans H; rw [hy127]; with_reducible exact H2_) | (have H2_ := (Option.bind_some _ _).symm.trans H; with_reducible exact H2_) | with_reducible exact H | (rw [hy127]; exact H) | exact H
              have Ny127 := Aside0.mk hy127; clear hy127; have H' := Aside0.mk H; clear H; have p125 : 0 ≤ (x21_1 : Int) := of_decide_eq_true (by first | (with_reducible assumption) | assumption); have q125 : x21_1 < (l1.length : Int) := of_decide_eq_true (by first | (with_reducible assumption) | assumption); obtain ⟨ad125, e125, hx125_0⟩ := Kd.at_int HR1.out x21_1 p125 q125
              cases e125
              replace hx125_0 := (HB.out.cell (World.block_lt_of_cell? w _ hx125_0)).trans hx125_0; replace p125 := eq_true p125; replace q125 := eq_true q125; have hnb33 := NB119_120.out; have hnc33 := NB120_119.out; have hcz34_0 : wr.cell? ⟨gb119, 0, none⟩ = some (.int .i64 a0_0) := bc BK119 0; have hcz34_1 : wr.cell? ⟨gb119, 1, none⟩ = some (.slice A0_1 l0_1.length c0_1) := bc BK119 1; have hfz34_0 := blk_frozen BK119.out 0; have hfz34_1 := blk_frozen BK119.out 1; obtain ⟨Ao35, co35, eo35⟩ := Kd.R_slice HO_6.out; subst eo35; have p126 : 0 ≤ ((rd l1 x21_1) : Int) := of_decide_eq_true (by first | (with_reducible assumption) | assumption); have q126 : (rd l1 x21_1) < (x6_1.length : Int) := of_decide_eq_true (by first | (with_reducible assumption) | assumption); obtain ⟨ad126, e126, hx126_0⟩ := Kd.at_int (Kd.R_reads' HO_6.out).2.2 (rd l1 x21_1) p126 q126
              cases e126
              replace p126 := eq_true p126; replace q126 := eq_true q126; have p32 : 0 ≤ ((rd l1 x21_1) : Int) := of_decide_eq_true (by first | (with_reducible assumption) | assumption); have q32 : ((rd l1 x21_1) : Int) < ((x6_1.length : Int) : Int) := of_decide_eq_true (by first | (with_reducible assumption) | assumption); obtain ⟨go32, co32, eo32, gb32, gl32, cl32, HG32⟩ := Kd.R_form HO_6.out (by omega)
              (first | cases eo32 | (injection eo32 with ea_ en_ ec_; (first | subst ea_ | (injection ea_ with ea_; subst ea_)); subst ec_; clear en_))
              have GB32 := Aside0.mk gb32; have GG32 := Aside0.mk HG32; clear gb32 gl32 HG32
              (first | simp only [add_plain] at hx126_0 | skip)
              obtain ⟨hx32_0, hf32_0⟩ := Kd.R_celln 0 HO_6.out ((rd l1 x21_1) : Int) p32 q32; replace p32 := eq_true p32; replace q32 := eq_true q32; have HP36 := Kd.R_putg HO_6.out ((rd l1 x21_1) : Int) (wrap64 (x21_1 + 1))
              go_wp2_with (first | ((with_reducible refine gate_store (t := 3) (p := 46) rfl ?_); refine store_event (t := 3) (p := 46) (v := ?vo_w37) (w1 := (wr.setCell ⟨go32, ((rd l1 x21_1) : Int).toNat, none⟩ (.int .i64 (wrap64 (x21_1 + 1))))) ?hg ?ho ?hn ?hr ?_; (case ho => rfl); (case hg => rfl); (case hn => rfl); (case hr => first | (go_simp; done) | (go_simp; rfl)); intro w37 hw; have hg : wr.grownBy w37 (some go32) := (by rw [hw]; exact HP36.2); have hp_ : Kd.R (Kd.int .i64) 3 w37 w.heap.size (fun _ => True) (.slice (some ⟨go32, 0, none⟩) x6_1.length co35) y127 := (by rw [hw, Ny127.out]; exact HP36.1); clear HP36; replace BK119 := Aside0.mk (blk_grown (bx BK119) hg (Kd.R_ne HO_6.out BK119.out (by decide))); replace BK120 := Aside0.mk (blk_grown (bx BK120) hg (Kd.R_ne HO_6.out BK120.out (by decide))); replace HO_6 := Aside0.mk (hp_); replace HB := Aside0.mk ((by rw [hw]; exact below_set (HB.out) GB32.out : Below w.heap.size w w37)); clear hg hw hp_))
              go_roundg k1
              case measure => have := HK1.out; omega
              case rel => exact ⟨(y127), (wrap64 (x21_1 + 1)), (x121000_1), (by first | rfl | (simp; done) | (simp [*]; done)), H', ⟨by have := HK1.out; omega⟩, ⟨rx HO_6⟩, ⟨bx BK119⟩, ⟨bx BK120⟩, ⟨hb2 HB GE119 GE120⟩⟩
            ·rw [if_neg c26] at H; exact absurd H (by simp)
           ·rw [if_neg c25] at H; exact absurd H (by simp)
        ·rw [if_neg c17] at H; exact absurd H (by simp)
       ·rw [if_neg c16] at H; exact absurd H (by simp)
      ·rw [if_neg c15] at H; have c15b0 : decide (x21_1 < (l1.length : Int)) = false := decide_eq_false c15; clear c15; have H' := Aside0.mk H; clear H; have hnb38 := NB119_120.out; have hnc38 := NB120_119.out; have hcz39_0 : wr.cell? ⟨gb119, 0, none⟩ = some (.int .i64 a0_0) := bc BK119 0; have hcz39_1 : wr.cell? ⟨gb119, 1, none⟩ = some (.slice A0_1 l0_1.length c0_1) := bc BK119 1; have hfz39_0 := blk_frozen BK119.out 0; have hfz39_1 := blk_frozen BK119.out 1
       go_wp2
       go_loopg [9, 51] k1 (fun kq v9 v51 w' => ∃ (x9_2 : List (S46)) (x51_2 : Int), v51 = .int .i64 x51_2 ∧ Aside0 (edit_Induced.l1 kq l1 x6_1 x9_2 l0_1 (l0_1.length : Int) x51_2 = some (r1, r2, r3)) ∧ Aside0 (kq ≤ k1) ∧ Aside0 (Kd.R (Kd.int .i64) 3 w' w.heap.size (fun _ => True) v123 x6_1) ∧ Aside0 (Kd.R k46 46 w' w.heap.size (fun _ => True) v9 x9_2) ∧ Aside0 (w'.heap[gb119]? = some (.cells #[.int .i64 a0_0, (.slice A0_1 l0_1.length c0_1)] 25 (0, 0))) ∧ Aside0 (w'.heap[gb120]? = some (.cells #[.int .i64 x121000_1, (.slice none 0 0)] 25 (0, 0))) ∧ Aside0 (Below w.heap.size w w'))
       case atStart => exact ⟨(([] : List (S46))), (0), (by first | rfl | (simp; done) | (simp [*]; done)), H', ⟨Nat.le_refl _⟩, ⟨rx HO_6⟩, ⟨by first | exact Kd.R_nil _ _ _ _ _ | exact Kd.N_nil _ _ _ _ _ | exact Kd.V_nil _ _ _ _ _ | exact Kd.Q_nil _ _ _ _ _ | exact Kd.S_nil _ _ _ _ _⟩, ⟨bx BK119⟩, ⟨bx BK120⟩, ⟨hb2 HB GE119 GE120⟩⟩
       case round =>
        clear H'
        try clear c1
        try clear p1
        try clear q1
        try clear hx1
        try clear c2
        try clear p2
        try clear c3
        try clear p3
        try clear q3
        try clear hx3
        try clear hf3
        try clear c4
        try clear c5
        try clear c5b0
        try clear c5b1
        try clear c6
        try clear c6b0
        try clear c6b1
        try clear p6
        try clear c9
        try clear p12
        try clear q12
        try clear hx12
        try clear c14
        try clear c15
        try clear c15b0
        try clear c16
        try clear c16b0
        try clear c17
        try clear c17b0
        try clear c18
        try clear c18b0
        try clear c19
        try clear c21
        try clear c21b0
        try clear c22
        try clear c25
        try clear c25b0
        try clear c26
        try clear c26b0
        try clear c27
        try clear c27b0
        try clear c28
        try clear p32
        try clear q32
        try clear hx32
        try clear hf32
        try clear c33
        try clear c37
        try clear c38
        try clear hcz10_0
        try clear hcz10_1
        try clear hcz12_0
        try clear hcz12_1
        try clear hcz20_0
        try clear hcz20_1
        try clear hcz23_0
        try clear hcz23_1
        try clear hcz24_0
        try clear hcz24_1
        try clear hcz29_0
        try clear hcz29_1
        try clear hcz31_0
        try clear hcz31_1
        try clear hcz34_0
        try clear hcz34_1
        try clear hcz39_0
        try clear hcz39_1
        try clear hfz10_0
        try clear hfz10_1
        try clear hfz12_0
        try clear hfz12_1
        try clear hfz20_0
        try clear hfz20_1
        try clear hfz23_0
        try clear hfz23_1
        try clear hfz24_0
        try clear hfz24_1
        try clear hfz29_0
        try clear hfz29_1
        try clear hfz31_0
        try clear hfz31_1
        try clear hfz34_0
        try clear hfz34_1
        try clear hfz39_0
        try clear hfz39_1
        try clear hx125_0
        try clear hx126_0
        try clear hx32_0
        try clear p125
        try clear p126
        try clear p2
        try clear p32
        try clear q125
        try clear q126
        try clear q32
        obtain ⟨x9_2, x51_2, rfl, HA, HK2, HO_6, HO_9, BK119, BK120, HB⟩ := hrel
        cases gk with
        | zero => exact absurd HA.out (by simp [edit_Induced.l1])
        | succ k2 =>
         have H := HA.out; clear HA; simp only [edit_Induced.l1] at H
         by_cases c40 : x51_2 < (l0_1.length : Int)
         ·rw [if_pos c40] at H; have c40b0 : decide (x51_2 < (l0_1.length : Int)) = true := decide_eq_true c40; clear c40
          by_cases c41 : 0 ≤ x51_2
          ·rw [if_pos c41] at H; have c41b0 : decide (0 ≤ x51_2) = true := decide_eq_true c41; clear c41
           by_cases c42 : x51_2 < (l0_1.length : Int)
           ·rw [if_pos c42] at H; have c42b0 : decide (x51_2 < (l0_1.length : Int)) = true := decide_eq_true c42; clear c42
            by_cases c43 : 0 ≤ ((rd_T46 l0_1 x51_2).f0)
            ·rw [if_pos c43] at H; have c43b0 : decide (0 ≤ ((rd_T46 l0_1 x51_2).f0)) = true := decide_eq_true c43; clear c43
             by_cases c44 : ((rd_T46 l0_1 x51_2).f0) < (x6_1.length : Int)
             ·rw [if_pos c44] at H; have c44b0 : decide (((rd_T46 l0_1 x51_2).f0) < (x6_1.length : Int)) = true := decide_eq_true c44; clear c44
              by_cases c45 : (rd x6_1 ((rd_T46 l0_1 x51_2).f0)) > 0
              ·rw [if_pos c45] at H; have c45b0 : decide (0 < (rd x6_1 ((rd_T46 l0_1 x51_2).f0))) = true := decide_eq_true c45; clear c45
               by_cases c46 : 0 ≤ ((rd_T46 l0_1 x51_2).f1)
               ·rw [if_pos c46] at H; have c46b0 : decide (0 ≤ ((rd_T46 l0_1 x51_2).f1)) = true := decide_eq_true c46; clear c46
                by_cases c47 : ((rd_T46 l0_1 x51_2).f1) < (x6_1.length : Int)
                ·rw [if_pos c47] at H; have c47b0 : decide (((rd_T46 l0_1 x51_2).f1) < (x6_1.length : Int)) = true := decide_eq_true c47; clear c47
                 by_cases c48 : (rd x6_1 ((rd_T46 l0_1 x51_2).f1)) > 0
                 ·rw [if_pos c48] at H; have c48b0 : decide (0 < (rd x6_1 ((rd_T46 l0_1 x51_2).f1))) = true := decide_eq_true c48; clear c48
                  by_cases c49 : x9_2.length < 8796093022208
                  ·rw [if_pos c49] at H; have LMc49 := Aside0.mk c49; clear c49; obtain ⟨y134, hy134⟩ : ∃ y_ : List (S46), y_ = (x9_2 ++ [(⟨wrap64 ((rd x6_1 ((rd_T46 l0_1 x51_2).f0)) - 1), wrap64 ((rd x6_1 ((rd_T46 l0_1 x51_2).f1)) - 1)⟩ : S46)]) := ⟨_, rfl⟩; replace H : (edit_Induced.l1 k2 l1 x6_1 y134 l0_1 (l0_1.length : Int) (wrap64 (x51_2 + 1))) = some (r1, r2, r3) := by first | (rw [hy134]; with_reducible exact H) | (have H2_ := (Option.bind_some _ _).symm.trans H; rw [hy134]; with_reducible exact H2_) | (have H2_ := (Option.bind_some _ _).symm.trans H; with_reducible exact H2_) | with_reducible exact H | (rw [hy134]; exact H) | exact H
                   have Ny134 := Aside0.mk hy134; clear hy134; have H' := Aside0.mk H; clear H; have p128 : 0 ≤ (x51_2 : Int) := of_decide_eq_true (by first | (with_reducible assumption) | assumption); have q128 : x51_2 < (l0_1.length : Int) := of_decide_eq_true (by first | (with_reducible assumption) | assumption); obtain ⟨ad128, e128, hx128_0, hx128_1⟩ := at_T46 HR0_1.out x51_2 p128 q128
                   cases e128
                   replace hx128_0 := (HB.out.cell (World.block_lt_of_cell? w _ hx128_0)).trans hx128_0; replace hx128_1 := (HB.out.cell (World.block_lt_of_cell? w _ hx128_1)).trans hx128_1; replace p128 := eq_true p128; replace q128 := eq_true q128
                   try go_wp2_with (first | ((with_reducible refine gate_dst (N := 11) rfl ?_); refine be_ 11 #[.int .i64 0, .int .i64 0] 46 ?_; intro gb129 hg w50 hbox hb; replace HO_6 := ry HO_6 hb; replace HO_9 := Aside0.mk (Kd.R_below (Kd.R_elderB (rx HO_9) gb129 (Nat.le_of_eq hg.symm)) hb); have BK129 := Aside0.mk (hbox); have GW129 := wq (hb2 HB GE119 GE120) hg; have GE129 := wq (hb2 HB GE119 GE120) hg; replace HB := hs (hb2 HB GE119 GE120) hb; have NB119_129 := lx BK119 hg; have NB129_119 := gx BK119 hg; replace BK119 := kx BK119 hb; have NB120_129 := lx BK120 hg; have NB129_120 := gx BK120 hg; replace BK120 := kx BK120 hb; clear hb hbox hg; have hnb51 := NB129_119.out; have hnc51 := NB119_129.out; have hnb52 := NB129_120.out; have hnc52 := NB120_129.out; have hcz53_0 : w50.cell? ⟨gb129, 0, none⟩ = some (.int .i64 0) := bc BK129 0; have hcz53_1 : w50.cell? ⟨gb129, 1, none⟩ = some (.int .i64 0) := bc BK129 1; have hfz53_0 := blk_frozen BK129.out 0; have hfz53_1 := blk_frozen BK129.out 1; obtain ⟨Ao54, co54, eo54⟩ := Kd.R_slice HO_6.out; subst eo54; have p130 : 0 ≤ (((rd_T46 l0_1 x51_2).f0) : Int) := of_decide_eq_true (by first | (with_reducible assumption) | assumption); have q130 : ((rd_T46 l0_1 x51_2).f0) < (x6_1.length : Int) := of_decide_eq_true (by first | (with_reducible assumption) | assumption); obtain ⟨ad130, e130, hx130_0⟩ := Kd.at_int (Kd.R_reads' HO_6.out).2.2 ((rd_T46 l0_1 x51_2).f0) p130 q130; cases e130; have hn130_0 : ad130.block ≠ gb129 := Kd.own_blk (Kd.R_ne HO_6.out BK129.out (by decide)); have hn130_1 : ad130.block ≠ gb129 := Kd.own_blk (Kd.R_ne HO_6.out BK129.out (by decide)); replace hx130_0 := (cell_far (p := ⟨gb129, 0, none⟩) (by first | (rw [add_block]; exact hn130_0) | (show (Addr.add _ _).block ≠ _; rw [add_block]; exact hn130_0) | exact hn130_0) (.int .i64 ((rd_T46 l0_1 x51_2).f0))).trans hx130_0; replace hx130_0 := (cell_far (p := ⟨gb129, 1, none⟩) (by first | (rw [add_block]; exact hn130_1) | (show (Addr.add _ _).block ≠ _; rw [add_block]; exact hn130_1) | exact hn130_1) (.int .i64 ((rd_T46 l0_1 x51_2).f1))).trans hx130_0; clear hn130_0; clear hn130_1; replace p130 := eq_true p130; replace q130 := eq_true q130; have p131 : 0 ≤ (((rd_T46 l0_1 x51_2).f1) : Int) := of_decide_eq_true (by first | (with_reducible assumption) | assumption); have q131 : ((rd_T46 l0_1 x51_2).f1) < (x6_1.length : Int) := of_decide_eq_true (by first | (with_reducible assumption) | assumption); obtain ⟨ad131, e131, hx131_0⟩ := Kd.at_int (Kd.R_reads' HO_6.out).2.2 ((rd_T46 l0_1 x51_2).f1) p131 q131; obtain rfl : ad130 = ad131 := (by injection e131); have hn131_0 : ad130.block ≠ gb129 := Kd.own_blk (Kd.R_ne HO_6.out BK129.out (by decide)); have hn131_1 : ad130.block ≠ gb129 := Kd.own_blk (Kd.R_ne HO_6.out BK129.out (by decide)); replace hx131_0 := (cell_far (p := ⟨gb129, 0, none⟩) (by first | (rw [add_block]; exact hn131_0) | (show (Addr.add _ _).block ≠ _; rw [add_block]; exact hn131_0) | exact hn131_0) (.int .i64 ((rd_T46 l0_1 x51_2).f0))).trans hx131_0; replace hx131_0 := (cell_far (p := ⟨gb129, 1, none⟩) (by first | (rw [add_block]; exact hn131_1) | (show (Addr.add _ _).block ≠ _; rw [add_block]; exact hn131_1) | exact hn131_1) (.int .i64 ((rd_T46 l0_1 x51_2).f1))).trans hx131_0; clear hn131_0; clear hn131_1; replace p131 := eq_true p131; replace q131 := eq_true q131))
                   have n0_ : Aside0 (Kd.R (Kd.int .i64) 3 ((w50.setCell ⟨gb129, 0, none⟩ (.int .i64 ((rd_T46 l0_1 x51_2).f0))).setCell ⟨gb129, 1, none⟩ (.int .i64 ((rd_T46 l0_1 x51_2).f1))) w.heap.size (fun _ => True) (.slice (some ad130) x6_1.length co54) x6_1) := ⟨Kd.R_mono (rf HO_6 BK129) (fun _ hk => trivial)⟩; have n1_ : Aside0 (Kd.R k46 46 ((w50.setCell ⟨gb129, 0, none⟩ (.int .i64 ((rd_T46 l0_1 x51_2).f0))).setCell ⟨gb129, 1, none⟩ (.int .i64 ((rd_T46 l0_1 x51_2).f1))) w.heap.size (fun k_ => k_ ≠ gb129) u9 x9_2) := ⟨by (with_reducible repeat (first | apply Kd.R_alloc | apply Kd.R_drewN | apply Kd.R_drew)); exact Kd.R_mono (Kd.R_far (p := ⟨gb129, 1, none⟩) (Kd.R_far (p := ⟨gb129, 0, none⟩) (Kd.R_mono HO_9.out (fun k_ hk => (⟨hk, hk.2⟩ : _ ∧ k_ ≠ gb129))) (fun _ hk => hk.2) (.int .i64 ((rd_T46 l0_1 x51_2).f0))) (fun _ hk => hk.2) (.int .i64 ((rd_T46 l0_1 x51_2).f1))) (fun _ hk => hk.1.2)⟩; have n2_ : Aside0 (((w50.setCell ⟨gb129, 0, none⟩ (.int .i64 ((rd_T46 l0_1 x51_2).f0))).setCell ⟨gb129, 1, none⟩ (.int .i64 ((rd_T46 l0_1 x51_2).f1))).heap[gb119]? = some (.cells #[.int .i64 a0_0, .slice (some ad128) l0_1.length c0_1] 25 (0, 0))) := ⟨bx1 BK119 NB119_129⟩; have n3_ : Aside0 (((w50.setCell ⟨gb129, 0, none⟩ (.int .i64 ((rd_T46 l0_1 x51_2).f0))).setCell ⟨gb129, 1, none⟩ (.int .i64 ((rd_T46 l0_1 x51_2).f1))).heap[gb120]? = some (.cells #[.int .i64 x121000_1, .slice none 0 0] 25 (0, 0))) := ⟨bx1 BK120 NB120_129⟩; have n4_ : Aside0 (((w50.setCell ⟨gb129, 0, none⟩ (.int .i64 ((rd_T46 l0_1 x51_2).f0))).setCell ⟨gb129, 1, none⟩ (.int .i64 ((rd_T46 l0_1 x51_2).f1))).heap[gb129]? = some (.cells #[.int .i64 ((rd_T46 l0_1 x51_2).f0), .int .i64 ((rd_T46 l0_1 x51_2).f1)] 46 (0, 0))) := ⟨bp BK129⟩
                   have n5_ : Aside0 (Below w.heap.size w ((w50.setCell ⟨gb129, 0, none⟩ (.int .i64 ((rd_T46 l0_1 x51_2).f0))).setCell ⟨gb129, 1, none⟩ (.int .i64 ((rd_T46 l0_1 x51_2).f1)))) := ⟨hb3 HB GE119 GE120 GE129⟩
                   (try clear HO_6)
                   (try clear HO_9)
                   (try clear BK119)
                   (try clear BK120)
                   (try clear BK129)
                   (try clear HB)
                   generalize ((w50.setCell ⟨gb129, 0, none⟩ (.int .i64 ((rd_T46 l0_1 x51_2).f0))).setCell ⟨gb129, 1, none⟩ (.int .i64 ((rd_T46 l0_1 x51_2).f1))) = w55 at n0_ n1_ n2_ n3_ n4_ n5_ ⊢; have HO_6 := n0_; have HO_9 := n1_; have BK119 := n2_; have BK120 := n3_; have BK129 := n4_; have HB := n5_; clear n0_ n1_ n2_ n3_ n4_ n5_; replace HO_6 := rd HO_6; replace HO_9 := rd HO_9; replace BK119 := bd BK119; replace BK120 := bd BK120; replace BK129 := bd BK129; replace HB := Aside0.mk (below_drew1 HB.out); have p132 : 0 ≤ (((rd_T46 l0_1 x51_2).f0) : Int) := of_decide_eq_true (by first | (with_reducible assumption) | assumption); have q132 : ((rd_T46 l0_1 x51_2).f0) < (x6_1.length : Int) := of_decide_eq_true (by first | (with_reducible assumption) | assumption); obtain ⟨ad132, e132, hx132_0⟩ := Kd.at_int (Kd.R_reads' HO_6.out).2.2 ((rd_T46 l0_1 x51_2).f0) p132 q132; obtain rfl : ad130 = ad132 := (by injection e132); replace p132 := eq_true p132; replace q132 := eq_true q132; have p133 : 0 ≤ (((rd_T46 l0_1 x51_2).f1) : Int) := of_decide_eq_true (by first | (with_reducible assumption) | assumption); have q133 : ((rd_T46 l0_1 x51_2).f1) < (x6_1.length : Int) := of_decide_eq_true (by first | (with_reducible assumption) | assumption); obtain ⟨ad133, e133, hx133_0⟩ := Kd.at_int (Kd.R_reads' HO_6.out).2.2 ((rd_T46 l0_1 x51_2).f1) p133 q133; obtain rfl : ad130 = ad133 := (by injection e133); replace p133 := eq_true p133; replace q133 := eq_true q133; refine start_ (n := 17) (S := fun w' => w'.cell? ⟨gb129, 0, none⟩ = some (.int .i64 ((rd_T46 l0_1 x51_2).f0)) ∧ w'.cell? ⟨gb129, 1, none⟩ = some (.int .i64 ((rd_T46 l0_1 x51_2).f1)) ∧ w'.cell? (ad130.add (((rd_T46 l0_1 x51_2).f0)).toNat) = some (.int .i64 (rd x6_1 ((rd_T46 l0_1 x51_2).f0))) ∧ w'.cell? (ad130.add (((rd_T46 l0_1 x51_2).f1)).toNat) = some (.int .i64 (rd x6_1 ((rd_T46 l0_1 x51_2).f1)))) (ds := [14, 15]) (pf 0 17) (by kernel_rfl) rfl rfl ⟨bc BK129 0, bc BK129 1, hx132_0, hx133_0⟩ (fun hHeld => ?_); refine with_tabW edit_Induced.tab16 edit_Induced.bits16 (fun HT_ HW_ => ?_)
                   generalize w55.drew = w56 at HO_6 HO_9 BK119 BK120 BK129 HB hx132_0 hx133_0 hHeld ⊢; refine pu_ 0 (some 69) (pf 1 17) HT_ ?_; refine pu_ 1 (some 70) (pf 2 17) HT_ ?_; refine pu_ 2 (some 71) (pf 3 17) HT_ ?_; refine pu_ 7 (some 76) #[T_,T_,T_,F_,F_,F_,F_,T_,F_,F_,F_,F_,F_,F_,F_,F_,F_] HT_ ?_; refine pu_ 8 (some 77) #[T_,T_,T_,F_,F_,F_,F_,T_,T_,F_,F_,F_,F_,F_,F_,F_,F_] HT_ ?_; refine tk4_ 3 (some 72) #[T_,T_,T_,T_,F_,F_,F_,T_,T_,F_,F_,F_,F_,F_,F_,F_,F_] HT_ HW_ hHeld ?_; refine pu_ 4 (some 73) #[T_,T_,T_,T_,T_,F_,F_,T_,T_,F_,F_,F_,F_,F_,F_,F_,F_] HT_ ?_; refine tk4_ 5 (some 74) #[T_,T_,T_,T_,T_,T_,F_,T_,T_,F_,F_,F_,F_,F_,F_,F_,F_] HT_ HW_ hHeld ?_; refine pu_ 6 (some 75) (pf 9 17) HT_ ?_; refine tk4_ 9 (some 78) (pf 10 17) HT_ HW_ hHeld ?_; refine pu_ 10 (some 79) (pf 11 17) HT_ ?_; refine tk4_ 11 (some 80) (pf 12 17) HT_ HW_ hHeld ?_; refine pu_ 12 (some 81) (pf 13 17) HT_ ?_; refine pu_ 13 (some 82) (pf 14 17) HT_ ?_; refine last_ (i := 14) (N := some 83) (pf 15 17) rfl rfl (one_of HT_.out (by kernel_rfl)) (by decide) (fun K hK => ?_)
                   refine value_ (w1 := ?_) (v := ?_) (by rfl) rfl ?_ ?_; rotate_left 2
                   ·go_simp
                    constructor
                    ·rfl
                    ·rfl
                   refine hK.out _ _ ?_; clear hK K; refine nm_ (some 83) ?_; refine last_ (i := 15) (N := some 84) (pf 16 17) rfl rfl (one_of HT_.out (by kernel_rfl)) (by decide) (fun K hK => ?_); refine Kd.R_append_step k46 (w0 := w) w.heap.size (by rfl) (.tmp 69) (.tmp 83) 23 46 (.agg #[(.int .i64 0), (.int .i64 0)]) 16 rfl Try.underlying23 info46 rfl (by decide) (by omega) u9 x9_2 (⟨wrap64 ((rd x6_1 ((rd_T46 l0_1 x51_2).f0)) - 1), wrap64 ((rd x6_1 ((rd_T46 l0_1 x51_2).f1)) - 1)⟩ : S46) [.int .i64 (wrap64 ((rd x6_1 ((rd_T46 l0_1 x51_2).f0)) - 1)), .int .i64 (wrap64 ((rd x6_1 ((rd_T46 l0_1 x51_2).f1)) - 1))] (fun k_ => k_ ≠ gb129) (fun _ => False) rfl rfl ?aP (fun _ hk => hk.elim) ?aF ?aO ?aB ?aS ?aL ?_
                   (case aP => exact k46_mkM _ _ _ (⟨wrap64 ((rd x6_1 ((rd_T46 l0_1 x51_2).f0)) - 1), wrap64 ((rd x6_1 ((rd_T46 l0_1 x51_2).f1)) - 1)⟩ : S46))
                   (case aB => exact (hb3 HB GE119 GE120 GE129))
                   (case aF => exact (fun k_ hk => Kd.freshB (bx BK129) k_ hk))
                   (case aO => exact (rx HO_9))
                   (case aS => exact (below_size (hb3 HB GE119 GE120 GE129)))
                   (case aL => have := LMc49.out; omega)
                   intro v135 w57 ho hb hg hat; rw [← Ny134.out] at ho; have n0_ := Aside0.mk (Kd.R_over' (rx HO_6) (Kd.R_typed (rx HO_9)) (by decide) hg); have n1_ := Aside0.mk (blk_grown (bx BK119) hg (Kd.R_ne HO_9.out BK119.out (by decide))); have n2_ := Aside0.mk (blk_grown (bx BK120) hg (Kd.R_ne HO_9.out BK120.out (by decide))); have n3_ := Aside0.mk (blk_grown (bx BK129) hg (Kd.R_away HO_9.out (fun _ hk => hk))); have n4_ := Aside0.mk (hb); have n5_ := Aside0.mk (ho); clear HO_6 BK119 BK120 BK129 HB HO_9; have HO_6 := n0_; have BK119 := n1_; have BK120 := n2_; have BK129 := n3_; have HB := n4_; have HO136 := n5_; clear n0_ n1_ n2_ n3_ n4_ n5_ ho hb hg hat; refine hK.out _ _ ?_; clear hK K; refine nm_ (some 84) ?_; refine pu_ 16 (some 9) (pf 17 17) HT_ ?_; refine done_ (done_of HT_.out (by kernel_rfl)) ?_
                   try go_wp2
                   go_roundg k2
                   case measure => have := HK1.out; have := HK2.out; omega
                   case rel => exact ⟨(y134), (wrap64 (x51_2 + 1)), (by first | rfl | (simp; done) | (simp [*]; done)), H', ⟨by have := HK1.out; have := HK2.out; omega⟩, ⟨rx HO_6⟩, ⟨Kd.R_mono (rx HO136) (fun _ hk => trivial)⟩, ⟨bx BK119⟩, ⟨bx BK120⟩, ⟨hb3 HB GE119 GE120 GE129⟩⟩
                  ·rw [if_neg c49] at H; exact absurd H (by simp)
                 ·rw [if_neg c48] at H; have c48b0 : decide (0 < (rd x6_1 ((rd_T46 l0_1 x51_2).f1))) = false := decide_eq_false c48; clear c48; have H' := Aside0.mk H; clear H; have p128 : 0 ≤ (x51_2 : Int) := of_decide_eq_true (by first | (with_reducible assumption) | assumption); have q128 : x51_2 < (l0_1.length : Int) := of_decide_eq_true (by first | (with_reducible assumption) | assumption); obtain ⟨ad128, e128, hx128_0, hx128_1⟩ := at_T46 HR0_1.out x51_2 p128 q128
                  cases e128
                  replace hx128_0 := (HB.out.cell (World.block_lt_of_cell? w _ hx128_0)).trans hx128_0; replace hx128_1 := (HB.out.cell (World.block_lt_of_cell? w _ hx128_1)).trans hx128_1; replace p128 := eq_true p128; replace q128 := eq_true q128
                  go_wp2_with (first | ((with_reducible refine gate_dst (N := 11) rfl ?_); refine be_ 11 #[.int .i64 0, .int .i64 0] 46 ?_; intro gb129 hg w58 hbox hb; replace HO_6 := ry HO_6 hb; replace HO_9 := Aside0.mk (Kd.R_below (Kd.R_elderB (rx HO_9) gb129 (Nat.le_of_eq hg.symm)) hb); have BK129 := Aside0.mk (hbox); have GW129 := wq (hb2 HB GE119 GE120) hg; have GE129 := wq (hb2 HB GE119 GE120) hg; replace HB := hs (hb2 HB GE119 GE120) hb; have NB119_129 := lx BK119 hg; have NB129_119 := gx BK119 hg; replace BK119 := kx BK119 hb; have NB120_129 := lx BK120 hg; have NB129_120 := gx BK120 hg; replace BK120 := kx BK120 hb; clear hb hbox hg; have hnb59 := NB129_119.out; have hnc59 := NB119_129.out; have hnb60 := NB129_120.out; have hnc60 := NB120_129.out; have hcz61_0 : w58.cell? ⟨gb129, 0, none⟩ = some (.int .i64 0) := bc BK129 0; have hcz61_1 : w58.cell? ⟨gb129, 1, none⟩ = some (.int .i64 0) := bc BK129 1; have hfz61_0 := blk_frozen BK129.out 0; have hfz61_1 := blk_frozen BK129.out 1; obtain ⟨Ao62, co62, eo62⟩ := Kd.R_slice HO_6.out; subst eo62; have p130 : 0 ≤ (((rd_T46 l0_1 x51_2).f0) : Int) := of_decide_eq_true (by first | (with_reducible assumption) | assumption); have q130 : ((rd_T46 l0_1 x51_2).f0) < (x6_1.length : Int) := of_decide_eq_true (by first | (with_reducible assumption) | assumption); obtain ⟨ad130, e130, hx130_0⟩ := Kd.at_int (Kd.R_reads' HO_6.out).2.2 ((rd_T46 l0_1 x51_2).f0) p130 q130; cases e130; have hn130_0 : ad130.block ≠ gb129 := Kd.own_blk (Kd.R_ne HO_6.out BK129.out (by decide)); have hn130_1 : ad130.block ≠ gb129 := Kd.own_blk (Kd.R_ne HO_6.out BK129.out (by decide)); replace hx130_0 := (cell_far (p := ⟨gb129, 0, none⟩) (by first | (rw [add_block]; exact hn130_0) | (show (Addr.add _ _).block ≠ _; rw [add_block]; exact hn130_0) | exact hn130_0) (.int .i64 ((rd_T46 l0_1 x51_2).f0))).trans hx130_0; replace hx130_0 := (cell_far (p := ⟨gb129, 1, none⟩) (by first | (rw [add_block]; exact hn130_1) | (show (Addr.add _ _).block ≠ _; rw [add_block]; exact hn130_1) | exact hn130_1) (.int .i64 ((rd_T46 l0_1 x51_2).f1))).trans hx130_0; clear hn130_0; clear hn130_1; replace p130 := eq_true p130; replace q130 := eq_true q130; have p131 : 0 ≤ (((rd_T46 l0_1 x51_2).f1) : Int) := of_decide_eq_true (by first | (with_reducible assumption) | assumption); have q131 : ((rd_T46 l0_1 x51_2).f1) < (x6_1.length : Int) := of_decide_eq_true (by first | (with_reducible assumption) | assumption); obtain ⟨ad131, e131, hx131_0⟩ := Kd.at_int (Kd.R_reads' HO_6.out).2.2 ((rd_T46 l0_1 x51_2).f1) p131 q131; obtain rfl : ad130 = ad131 := (by injection e131); have hn131_0 : ad130.block ≠ gb129 := Kd.own_blk (Kd.R_ne HO_6.out BK129.out (by decide)); have hn131_1 : ad130.block ≠ gb129 := Kd.own_blk (Kd.R_ne HO_6.out BK129.out (by decide)); replace hx131_0 := (cell_far (p := ⟨gb129, 0, none⟩) (by first | (rw [add_block]; exact hn131_0) | (show (Addr.add _ _).block ≠ _; rw [add_block]; exact hn131_0) | exact hn131_0) (.int .i64 ((rd_T46 l0_1 x51_2).f0))).trans hx131_0; replace hx131_0 := (cell_far (p := ⟨gb129, 1, none⟩) (by first | (rw [add_block]; exact hn131_1) | (show (Addr.add _ _).block ≠ _; rw [add_block]; exact hn131_1) | exact hn131_1) (.int .i64 ((rd_T46 l0_1 x51_2).f1))).trans hx131_0; clear hn131_0; clear hn131_1; replace p131 := eq_true p131; replace q131 := eq_true q131))
                  go_roundg k2
                  case measure => have := HK1.out; have := HK2.out; omega
                  case rel => exact ⟨(x9_2), (wrap64 (x51_2 + 1)), (by first | rfl | (simp; done) | (simp [*]; done)), H', ⟨by have := HK1.out; have := HK2.out; omega⟩, ⟨Kd.R_mono (rf HO_6 BK129) (fun _ hk => trivial)⟩, ⟨by (with_reducible repeat (first | apply Kd.R_alloc | apply Kd.R_drewN | apply Kd.R_drew)); exact Kd.R_mono (Kd.R_far (p := ⟨gb129, 1, none⟩) (Kd.R_far (p := ⟨gb129, 0, none⟩) (Kd.R_mono HO_9.out (fun k_ hk => (⟨hk, hk.2⟩ : _ ∧ k_ ≠ gb129))) (fun _ hk => hk.2) (.int .i64 ((rd_T46 l0_1 x51_2).f0))) (fun _ hk => hk.2) (.int .i64 ((rd_T46 l0_1 x51_2).f1))) (fun _ hk => trivial)⟩, ⟨bx1 BK119 NB119_129⟩, ⟨bx1 BK120 NB120_129⟩, ⟨hb3 HB GE119 GE120 GE129⟩⟩
                ·rw [if_neg c47] at H; exact absurd H (by simp)
               ·rw [if_neg c46] at H; exact absurd H (by simp)
              ·rw [if_neg c45] at H; have c45b0 : decide (0 < (rd x6_1 ((rd_T46 l0_1 x51_2).f0))) = false := decide_eq_false c45; clear c45; have H' := Aside0.mk H; clear H; have p128 : 0 ≤ (x51_2 : Int) := of_decide_eq_true (by first | (with_reducible assumption) | assumption); have q128 : x51_2 < (l0_1.length : Int) := of_decide_eq_true (by first | (with_reducible assumption) | assumption); obtain ⟨ad128, e128, hx128_0, hx128_1⟩ := at_T46 HR0_1.out x51_2 p128 q128
               cases e128
               replace hx128_0 := (HB.out.cell (World.block_lt_of_cell? w _ hx128_0)).trans hx128_0; replace hx128_1 := (HB.out.cell (World.block_lt_of_cell? w _ hx128_1)).trans hx128_1; replace p128 := eq_true p128; replace q128 := eq_true q128
               go_wp2_with (first | ((with_reducible refine gate_dst (N := 11) rfl ?_); refine be_ 11 #[.int .i64 0, .int .i64 0] 46 ?_; intro gb129 hg w63 hbox hb; replace HO_6 := ry HO_6 hb; replace HO_9 := Aside0.mk (Kd.R_below (Kd.R_elderB (rx HO_9) gb129 (Nat.le_of_eq hg.symm)) hb); have BK129 := Aside0.mk (hbox); have GW129 := wq (hb2 HB GE119 GE120) hg; have GE129 := wq (hb2 HB GE119 GE120) hg; replace HB := hs (hb2 HB GE119 GE120) hb; have NB119_129 := lx BK119 hg; have NB129_119 := gx BK119 hg; replace BK119 := kx BK119 hb; have NB120_129 := lx BK120 hg; have NB129_120 := gx BK120 hg; replace BK120 := kx BK120 hb; clear hb hbox hg; have hnb64 := NB129_119.out; have hnc64 := NB119_129.out; have hnb65 := NB129_120.out; have hnc65 := NB120_129.out; have hcz66_0 : w63.cell? ⟨gb129, 0, none⟩ = some (.int .i64 0) := bc BK129 0; have hcz66_1 : w63.cell? ⟨gb129, 1, none⟩ = some (.int .i64 0) := bc BK129 1; have hfz66_0 := blk_frozen BK129.out 0; have hfz66_1 := blk_frozen BK129.out 1; obtain ⟨Ao67, co67, eo67⟩ := Kd.R_slice HO_6.out; subst eo67; have p130 : 0 ≤ (((rd_T46 l0_1 x51_2).f0) : Int) := of_decide_eq_true (by first | (with_reducible assumption) | assumption); have q130 : ((rd_T46 l0_1 x51_2).f0) < (x6_1.length : Int) := of_decide_eq_true (by first | (with_reducible assumption) | assumption); obtain ⟨ad130, e130, hx130_0⟩ := Kd.at_int (Kd.R_reads' HO_6.out).2.2 ((rd_T46 l0_1 x51_2).f0) p130 q130; cases e130; have hn130_0 : ad130.block ≠ gb129 := Kd.own_blk (Kd.R_ne HO_6.out BK129.out (by decide)); have hn130_1 : ad130.block ≠ gb129 := Kd.own_blk (Kd.R_ne HO_6.out BK129.out (by decide)); replace hx130_0 := (cell_far (p := ⟨gb129, 0, none⟩) (by first | (rw [add_block]; exact hn130_0) | (show (Addr.add _ _).block ≠ _; rw [add_block]; exact hn130_0) | exact hn130_0) (.int .i64 ((rd_T46 l0_1 x51_2).f0))).trans hx130_0; replace hx130_0 := (cell_far (p := ⟨gb129, 1, none⟩) (by first | (rw [add_block]; exact hn130_1) | (show (Addr.add _ _).block ≠ _; rw [add_block]; exact hn130_1) | exact hn130_1) (.int .i64 ((rd_T46 l0_1 x51_2).f1))).trans hx130_0; clear hn130_0; clear hn130_1; replace p130 := eq_true p130; replace q130 := eq_true q130))
               go_roundg k2
               case measure => have := HK1.out; have := HK2.out; omega
               case rel => exact ⟨(x9_2), (wrap64 (x51_2 + 1)), (by first | rfl | (simp; done) | (simp [*]; done)), H', ⟨by have := HK1.out; have := HK2.out; omega⟩, ⟨Kd.R_mono (rf HO_6 BK129) (fun _ hk => trivial)⟩, ⟨by (with_reducible repeat (first | apply Kd.R_alloc | apply Kd.R_drewN | apply Kd.R_drew)); exact Kd.R_mono (Kd.R_far (p := ⟨gb129, 1, none⟩) (Kd.R_far (p := ⟨gb129, 0, none⟩) (Kd.R_mono HO_9.out (fun k_ hk => (⟨hk, hk.2⟩ : _ ∧ k_ ≠ gb129))) (fun _ hk => hk.2) (.int .i64 ((rd_T46 l0_1 x51_2).f0))) (fun _ hk => hk.2) (.int .i64 ((rd_T46 l0_1 x51_2).f1))) (fun _ hk => trivial)⟩, ⟨bx1 BK119 NB119_129⟩, ⟨bx1 BK120 NB120_129⟩, ⟨hb3 HB GE119 GE120 GE129⟩⟩
             ·rw [if_neg c44] at H; exact absurd H (by simp)
            ·rw [if_neg c43] at H; exact absurd H (by simp)
           ·rw [if_neg c42] at H; exact absurd H (by simp)
          ·rw [if_neg c41] at H; exact absurd H (by simp)
         ·rw [if_neg c40] at H; have c40b0 : decide (x51_2 < (l0_1.length : Int)) = false := decide_eq_false c40; clear c40; replace H := Option.bind_eq_some_iff.mp H; obtain ⟨⟨t137, t138⟩, A680, H⟩ := H; replace H : (some (t137, t138, 0)) = some (r1, r2, r3) := H; have A68 := Aside0.mk A680; clear A680; simp only [Option.some.injEq, Prod.mk.injEq] at H; obtain ⟨rfl, rfl, rfl⟩ := H; obtain ⟨Ao69, co69, eo69⟩ := Kd.R_slice HO_9.out; subst eo69
          go_wp2_with (first | ((with_reducible refine gate_callee (f := 38) rfl ?_); refine gl_ (some 89) Try.func38 #[.int .i64 (l1.length : Int), .slice Ao69 x9_2.length co69] ?_; (with_reducible refine (edit_made.calls k2 (l1.length : Int) _ _ x9_2 t137 t138 _ ?side1 ?side2 A68.out).mono ?_); (case side1 => exact cr HO_9); (case side2 => exact (Kd.R_reads' HO_9.out).2.1); rintro e w70 ⟨v139, rfl, ho0, hb⟩; refine ⟨_, rfl, ?_⟩; replace HO_6 := ry HO_6 hb; have HO140 := Aside0.mk (Kd.R_lower (Kd.R_new' ho0 (Kd.R_lt (rx HO_9))) (below_size (hb2 HB GE119 GE120))); replace HO_9 := el (rx HO_9) ho0 hb; replace BK119 := kx BK119 hb; replace BK120 := kx BK120 hb; replace HB := hs (hb2 HB GE119 GE120) hb; (try clear hb); (try clear hb2); (try clear hk); (try clear hi); (try clear ho0); have hnb71 := NB120_119.out; have hnc71 := NB119_120.out; have hcz72_0 : w70.cell? ⟨gb120, 0, none⟩ = some (.int .i64 x121000_1) := bc BK120 0; have hcz72_1 : w70.cell? ⟨gb120, 1, none⟩ = some (.slice none 0 0) := bc BK120 1; have hfz72_0 := blk_frozen BK120.out 0; have hfz72_1 := blk_frozen BK120.out 1; obtain ⟨Ao73, co73, eo73⟩ := Kd.R_slice HO140.out; subst eo73))
          refine bodyPost_ret (results_ct rfl _ _ gb120 25 #[.int .i64 t137, .slice Ao73 t138.length co73] (0, 0) _ rfl (bp BK120) Try.underlying25 rfl (by kernel_rfl)) rfl ?_; exact ⟨_, by first | rfl | (simp [errW_none, errW_some] <;> rfl) | (simp [*, errW_none, errW_some] <;> rfl), Kd.R_mono (rf HO140 BK120) (fun _ hk => trivial), hb2 HB GE119 GE120⟩
   ·rw [if_neg c6] at H; exact absurd H (by simp)
  ·rw [if_neg c5] at H; exact absurd H (by simp)
 ·replace c4 := Bool.eq_false_iff.mpr c4; subst c4; have H1 : (some (0, ([] : List (S46)), 1)) = some (r1, r2, r3) := by rw [if_neg (show ¬ (false = true) by decide)] at H; exact H
  clear H; have H := H1; clear H1; simp only [Option.some.injEq, Prod.mk.injEq] at H; obtain ⟨rfl, rfl, rfl⟩ := H
  go_enter Try.func14, Try.ntmps14
  go_wp2_with (first | ((with_reducible refine gate_dst (N := 2) rfl ?_); refine be_ 2 #[.int .i64 a0_0, .slice A0_1 l0_1.length c0_1] 25 ?_; intro gb119 hg w74 hbox hb; have BK119 := Aside0.mk (hbox); have GW119 := wq (hb0 HB) hg; have GE119 := wq (hb0 HB) hg; replace HB := hs (hb0 HB) hb; clear hb hbox hg) | ((with_reducible refine gate_dst (N := 4) rfl ?_); refine be_ 4 #[.int .i64 0, .slice none 0 0] 25 ?_; intro gb120 hg w75 hbox hb; have BK120 := Aside0.mk (hbox); have GW120 := wq (hb1 HB GE119) hg; have GE120 := wq (hb1 HB GE119) hg; replace HB := hs (hb1 HB GE119) hb; have NB119_120 := lx BK119 hg; have NB120_119 := gx BK119 hg; replace BK119 := kx BK119 hb; clear hb hbox hg; have hnb76 := NB119_120.out; have hnc76 := NB120_119.out; have hcz77_0 : w75.cell? ⟨gb119, 0, none⟩ = some (.int .i64 a0_0) := bc BK119 0; have hcz77_1 : w75.cell? ⟨gb119, 1, none⟩ = some (.slice A0_1 l0_1.length c0_1) := bc BK119 1; have hfz77_0 := blk_frozen BK119.out 0; have hfz77_1 := blk_frozen BK119.out 1) | ((with_reducible refine gate_callee (f := 37) rfl ?_); refine gl_ (some 13) Try.func37 #[.agg #[.int .i64 a0_0, .slice A0_1 l0_1.length c0_1]] ?_; (with_reducible refine (simple_Valid.calls k a0_0 _ _ l0_1 false _ ?side1 ?side2 A3.out).mono ?_); (case side1 => repeat (first | exact (Kd.C_below HR0_1.out HB.out) | (with_reducible refine Kd.C_alloc ?_ _) | (with_reducible refine Kd.C_drewN ?_ _) | (with_reducible refine Kd.C_drew ?_))); (case side2 => exact HC0_1.out); rintro e w78 ⟨rfl, hb⟩; refine ⟨_, rfl, ?_⟩; replace BK119 := kx BK119 hb; replace BK120 := kx BK120 hb; replace HB := hs (hb2 HB GE119 GE120) hb; (try clear hb); (try clear hb2); (try clear hk); (try clear hi); have hcz79_0 : w78.cell? ⟨gb120, 0, none⟩ = some (.int .i64 0) := bc BK120 0; have hcz79_1 : w78.cell? ⟨gb120, 1, none⟩ = some (.slice none 0 0) := bc BK120 1; have hfz79_0 := blk_frozen BK120.out 0; have hfz79_1 := blk_frozen BK120.out 1))
  refine bodyPost_ret (results_ct rfl _ _ gb120 25 #[.int .i64 0, .slice none 0 0] (0, 0) _ rfl (bp BK120) Try.underlying25 rfl (by kernel_rfl)) rfl ?_; exact ⟨_, by first | rfl | (simp [errW_none, errW_some] <;> rfl) | (simp [*, errW_none, errW_some] <;> rfl), by first | exact Kd.R_nil _ _ _ _ _ | exact Kd.N_nil _ _ _ _ _ | exact Kd.V_nil _ _ _ _ _ | exact Kd.Q_nil _ _ _ _ _ | exact Kd.S_nil _ _ _ _ _, hb2 HB GE119 GE120⟩

end Go.Proofs.Ytdaeaejmikhmcaa.PEditC
