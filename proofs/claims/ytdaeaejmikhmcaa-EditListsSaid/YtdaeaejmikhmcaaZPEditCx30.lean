-- PRINTED by print.py (a twelfth state) out of the translation. Not trusted: Lean checks it.
import Derived.Test.YtdaeaejmikhmcaaZPEditCx0
import Derived.Test.YtdaeaejmikhmcaaZPEditCx3
import Derived.Test.YtdaeaejmikhmcaaZPEditCx5
namespace Go.Proofs.Ytdaeaejmikhmcaa.PEditC
open Go.RowKit Go.Proofs.YtdaeaejmikhmcaaW.PrintWords Go.Proofs.YtdaeaejmikhmcaaW.PrintLast Go.Proofs.YtdaeaejmikhmcaaW.PrintMore
open Go.Proofs.YtdaeaejmikhmcaaX
attribute [local go_sem] max2_int min2_int max_two min_two max_three min_three max_four min_four   -- for this text's walks alone
set_option linter.unusedVariables false
set_option linter.unusedSimpArgs false

/-! ### edit_Relabel: function 12 -/
mutual
def edit_Relabel.l0 : Nat → List Int → List Bool → List Int → Int → Int → Int → List (S46) → Option (Int × (List (S46)) × Int)
 | 0, _, _, _, _, _, _, _ => none
 | k + 1, x1, x6, x25, x26, x27, x366000, x366001 => if x27 < x26 then (if 0 ≤ x27 then (if x27 < (x25.length : Int) then (if (rd x25 x27) < 0 then (some (0, ([] : List (S46)), 2)) else (if (rd x25 x27) ≥ x366000 then (some (0, ([] : List (S46)), 2)) else (if 0 ≤ (rd x25 x27) then (if (rd x25 x27) < (x6.length : Int) then (if rdOf false x6 (rd x25 x27) = true then (some (0, ([] : List (S46)), 2)) else (edit_Relabel.l0 k x1 (x6.set ((rd x25 x27) : Int).toNat true) x25 x26 (wrap64 (x27 + 1)) x366000 x366001)) else (none)) else (none)))) else (none)) else (none)) else (edit_Relabel.l1 k x1 ([] : List (S46)) x366001 (x366001.length : Int) 0 x366000 x366001)
def edit_Relabel.l1 : Nat → List Int → List (S46) → List (S46) → Int → Int → Int → List (S46) → Option (Int × (List (S46)) × Int)
 | 0, _, _, _, _, _, _, _ => none
 | k + 1, x1, x9, x51, x52, x53, x366000, x366001 => if x53 < x52 then (if 0 ≤ x53 then (if x53 < (x51.length : Int) then (if 0 ≤ ((rd_T46 x51 x53).f0) then (if ((rd_T46 x51 x53).f0) < (x1.length : Int) then (if 0 ≤ ((rd_T46 x51 x53).f1) then (if ((rd_T46 x51 x53).f1) < (x1.length : Int) then (if x9.length < 8796093022208 then (edit_Relabel.l1 k x1 (x9 ++ [(⟨rd x1 ((rd_T46 x51 x53).f0), rd x1 ((rd_T46 x51 x53).f1)⟩ : S46)]) x51 x52 (wrap64 (x53 + 1)) x366000 x366001) else (none)) else (none)) else (none)) else (none)) else (none)) else (none)) else (none)) else ((edit_made.f k x366000 x9).bind fun bt381 => (some (bt381.1, bt381.2, 0)))
end
def edit_Relabel.f (k : Nat) (a0_0 : Int) (l0_1 : List (S46)) (l1 : List Int) : Option (Int × (List (S46)) × Int) := (simple_Valid.f k a0_0 l0_1).bind fun t367 => (if t367 = true then (if (l1.length : Int) = a0_0 then (if 0 ≤ a0_0 then (if (a0_0 : Int).toNat ≤ 281474976710656 then (edit_Relabel.l0 k l1 (List.replicate (a0_0 : Int).toNat false) l1 (l1.length : Int) 0 a0_0 l0_1) else (none)) else (none)) else (some (0, ([] : List (S46)), 2))) else (some (0, ([] : List (S46)), 1)))
theorem edit_Relabel.mono_l : ∀ k, (∀ y0 y1 y2 y3 y4 y5 y6, LeO (edit_Relabel.l0 k y0 y1 y2 y3 y4 y5 y6) (edit_Relabel.l0 (k + 1) y0 y1 y2 y3 y4 y5 y6)) ∧ (∀ y0 y1 y2 y3 y4 y5 y6, LeO (edit_Relabel.l1 k y0 y1 y2 y3 y4 y5 y6) (edit_Relabel.l1 (k + 1) y0 y1 y2 y3 y4 y5 y6))
 | 0 => ⟨fun _ _ _ _ _ _ _ r h => by simp [edit_Relabel.l0] at h, fun _ _ _ _ _ _ _ r h => by simp [edit_Relabel.l1] at h⟩
 | k + 1 => by
  obtain ⟨ih0, ih1⟩ := edit_Relabel.mono_l k; refine ⟨?_, ?_⟩
  ·intro y0 y1 y2 y3 y4 y5 y6
   unfold edit_Relabel.l0
   repeat' first
   | (with_reducible exact ih0 _ _ _ _ _ _ _)
   | (with_reducible exact ih1 _ _ _ _ _ _ _)
   | (with_reducible exact edit_made.mono _ _ _)
   | (with_reducible exact simple_Valid.mono _ _ _)
   | (with_reducible exact LeO.refl _)
   | (with_reducible exact LeO.none _)
   | (with_reducible refine LeO.ite ?_ ?_)
   | (with_reducible refine LeO.bind ?_ (fun _ => ?_))
   | exact ih0 _ _ _ _ _ _ _
   | exact ih1 _ _ _ _ _ _ _
   | exact edit_made.mono _ _ _
   | exact simple_Valid.mono _ _ _
   | exact LeO.none _
   | refine LeO.ite ?_ ?_
   | refine LeO.bind ?_ (fun _ => ?_)
  ·intro y0 y1 y2 y3 y4 y5 y6
   unfold edit_Relabel.l1
   repeat' first
   | (with_reducible exact ih0 _ _ _ _ _ _ _)
   | (with_reducible exact ih1 _ _ _ _ _ _ _)
   | (with_reducible exact edit_made.mono _ _ _)
   | (with_reducible exact simple_Valid.mono _ _ _)
   | (with_reducible exact LeO.refl _)
   | (with_reducible exact LeO.none _)
   | (with_reducible refine LeO.ite ?_ ?_)
   | (with_reducible refine LeO.bind ?_ (fun _ => ?_))
   | exact ih0 _ _ _ _ _ _ _
   | exact ih1 _ _ _ _ _ _ _
   | exact edit_made.mono _ _ _
   | exact simple_Valid.mono _ _ _
   | exact LeO.none _
   | refine LeO.ite ?_ ?_
   | refine LeO.bind ?_ (fun _ => ?_)
theorem edit_Relabel.mono : ∀ a0 a1 a2 k, LeO (edit_Relabel.f k a0 a1 a2) (edit_Relabel.f (k + 1) a0 a1 a2) := by
 intro a0 a1 a2 k; obtain ⟨ih0, ih1⟩ := edit_Relabel.mono_l k
 unfold edit_Relabel.f
 repeat' first
   | (with_reducible exact ih0 _ _ _ _ _ _ _)
   | (with_reducible exact ih1 _ _ _ _ _ _ _)
   | (with_reducible exact edit_made.mono _ _ _)
   | (with_reducible exact simple_Valid.mono _ _ _)
   | (with_reducible exact LeO.refl _)
   | (with_reducible exact LeO.none _)
   | (with_reducible refine LeO.ite ?_ ?_)
   | (with_reducible refine LeO.bind ?_ (fun _ => ?_))
   | exact ih0 _ _ _ _ _ _ _
   | exact ih1 _ _ _ _ _ _ _
   | exact edit_made.mono _ _ _
   | exact simple_Valid.mono _ _ _
   | exact LeO.none _
   | refine LeO.ite ?_ ?_
   | refine LeO.bind ?_ (fun _ => ?_)
def edit_Relabel.T17 : Bool × List (List Nat × List Nat) := (true, [([], []), ([], []), ([], []), ([2], [2]), ([1, 3], [1, 3]), ([4], [4]), ([], []), ([], []), ([7], [7]), ([6, 8], [6, 8]), ([9], [9]), ([5, 10], [5, 10]), ([11], [11]), ([0, 12], [0, 12]), ([13, 13, 0, 1, 2, 3, 4, 5, 6, 7, 8, 9, 10, 11, 12, 13], [0, 13])])
def edit_Relabel.B17 : List Nat := [0, 0, 0, 4, 14, 30, 0, 0, 128, 448, 960, 2046, 4094, 8191, 16383]
theorem edit_Relabel.tab17 : rtab .any (opsOf Try.f12 17) = edit_Relabel.T17 := by kernel_rfl
theorem edit_Relabel.bits17 : waitsOk edit_Relabel.T17.2 edit_Relabel.B17 = true := by kernel_rfl
set_option maxHeartbeats 8000000 in
set_option maxRecDepth 100000 in
theorem edit_Relabel.calls (k : Nat) (a0_0 : Int) (A0_1 : Option Addr) (c0_1 : Nat) (l0_1 : List (S46)) (A1 : Option Addr) (c1 : Nat) (l1 : List Int) (r1 : Int) (r2 : List (S46)) (r3 : Int) (w : World) (hr0_1 : Kd.C k46 w A0_1 l0_1.length l0_1) (hc0_1 : l0_1.length ≤ c0_1) (hr1 : Kd.C (Kd.int .i64) w A1 l1.length l1) (hc1 : l1.length ≤ c1) (h : edit_Relabel.f k a0_0 l0_1 l1 = some (r1, r2, r3)) :
  Calls Try.prog 12 #[.agg #[.int .i64 a0_0, .slice A0_1 l0_1.length c0_1], .slice A1 l1.length c1] w fun e w' => ∃ v1_ : Value, e = .returned (.tuple #[.agg #[.int .i64 r1, v1_], .int .i64 r3]) ∧ Kd.R k46 46 w' w.heap.size (fun _ => True) v1_ r2 ∧ Below w.heap.size w w' := by
 have hu25 := Try.underlying25; have hu46 := Try.underlying46; have HR0_1 := Aside0.mk hr0_1; have HC0_1 := Aside0.mk hc0_1; clear hr0_1 hc0_1; have HR1 := Aside0.mk hr1; have HC1 := Aside0.mk hc1; clear hr1 hc1; have HB := Aside0.mk (Below.refl w.heap.size w); have H : ((simple_Valid.f k a0_0 l0_1).bind fun t367 => (if t367 = true then (if (l1.length : Int) = a0_0 then (if 0 ≤ a0_0 then (if (a0_0 : Int).toNat ≤ 281474976710656 then (edit_Relabel.l0 k l1 (List.replicate (a0_0 : Int).toNat false) l1 (l1.length : Int) 0 a0_0 l0_1) else (none)) else (none)) else (some (0, ([] : List (S46)), 2))) else (some (0, ([] : List (S46)), 1)))) = some (r1, r2, r3) := h; clear h; replace H := Option.bind_eq_some_iff.mp H; obtain ⟨t367, A30, H⟩ := H; replace H : (if t367 = true then (if (l1.length : Int) = a0_0 then (if 0 ≤ a0_0 then (if (a0_0 : Int).toNat ≤ 281474976710656 then (edit_Relabel.l0 k l1 (List.replicate (a0_0 : Int).toNat false) l1 (l1.length : Int) 0 a0_0 l0_1) else (none)) else (none)) else (some (0, ([] : List (S46)), 2))) else (some (0, ([] : List (S46)), 1))) = some (r1, r2, r3) := H; have A3 := Aside0.mk A30; clear A30
 by_cases c4 : t367 = true
 ·subst c4; have H1 : (if (l1.length : Int) = a0_0 then (if 0 ≤ a0_0 then (if (a0_0 : Int).toNat ≤ 281474976710656 then (edit_Relabel.l0 k l1 (List.replicate (a0_0 : Int).toNat false) l1 (l1.length : Int) 0 a0_0 l0_1) else (none)) else (none)) else (some (0, ([] : List (S46)), 2))) = some (r1, r2, r3) := by rw [if_pos rfl] at H; exact H
  clear H; have H := H1; clear H1
  by_cases c5 : (l1.length : Int) = a0_0
  ·rw [if_pos c5] at H; have c5b0 : ((l1.length : Int) == a0_0) = true := beq_iff_eq.mpr c5; have c5b1 : ((l1.length : Int) != a0_0) = false := bne_eq_false_iff_eq.mpr c5; clear c5
   by_cases c6 : 0 ≤ a0_0
   ·rw [if_pos c6] at H; have c6b0 := eq_true c6; have c6b1 : decide (0 ≤ a0_0) = true := decide_eq_true c6; clear c6
    by_cases c7 : (a0_0 : Int).toNat ≤ 281474976710656
    ·rw [if_pos c7] at H; have c7b0 := eq_true c7; have c7b1 : decide ((a0_0 : Int).toNat ≤ 281474976710656) = true := decide_eq_true c7; clear c7; obtain ⟨y368, hy368⟩ : ∃ y_ : List Bool, y_ = (List.replicate (a0_0 : Int).toNat false) := ⟨_, rfl⟩; replace H : (edit_Relabel.l0 k l1 y368 l1 (l1.length : Int) 0 a0_0 l0_1) = some (r1, r2, r3) := by first | (rw [hy368]; with_reducible exact H) | (have H2_ := (Option.bind_some _ _).symm.trans H; rw [hy368]; with_reducible exact H2_) | (have H2_ := (Option.bind_some _ _).symm.trans H; with_reducible exact H2_) | with_reducible exact H | (rw [hy368]; exact H) | exact H
     have Ny368 := Aside0.mk hy368; clear hy368; have H' := Aside0.mk H; clear H
     go_enter Try.func12, Try.ntmps12
     go_wp2_with (first | ((with_reducible refine gate_dst (N := 2) rfl ?_); refine be_ 2 #[.int .i64 a0_0, .slice A0_1 l0_1.length c0_1] 25 ?_; intro gb365 hg w8 hbox hb; have BK365 := Aside0.mk (hbox); have GW365 := wq (hb0 HB) hg; have GE365 := wq (hb0 HB) hg; replace HB := hs (hb0 HB) hb; clear hb hbox hg) | ((with_reducible refine gate_dst (N := 4) rfl ?_); refine be_ 4 #[.int .i64 0, .slice none 0 0] 25 ?_; intro gb366 hg w9 hbox hb; have BK366 := Aside0.mk (hbox); have GW366 := wq (hb1 HB GE365) hg; have GE366 := wq (hb1 HB GE365) hg; replace HB := hs (hb1 HB GE365) hb; have NB365_366 := lx BK365 hg; have NB366_365 := gx BK365 hg; replace BK365 := kx BK365 hb; clear hb hbox hg; have hnb10 := NB365_366.out; have hnc10 := NB366_365.out; have hcz11_0 : w9.cell? ⟨gb365, 0, none⟩ = some (.int .i64 a0_0) := bc BK365 0; have hcz11_1 : w9.cell? ⟨gb365, 1, none⟩ = some (.slice A0_1 l0_1.length c0_1) := bc BK365 1; have hfz11_0 := blk_frozen BK365.out 0; have hfz11_1 := blk_frozen BK365.out 1) | ((with_reducible refine gate_callee (f := 37) rfl ?_); refine gl_ (some 13) Try.func37 #[.agg #[.int .i64 a0_0, .slice A0_1 l0_1.length c0_1]] ?_; (with_reducible refine (simple_Valid.calls k a0_0 _ _ l0_1 true _ ?side1 ?side2 A3.out).mono ?_); (case side1 => repeat (first | exact (Kd.C_below HR0_1.out HB.out) | (with_reducible refine Kd.C_alloc ?_ _) | (with_reducible refine Kd.C_drewN ?_ _) | (with_reducible refine Kd.C_drew ?_))); (case side2 => exact HC0_1.out); rintro e w12 ⟨rfl, hb⟩; refine ⟨_, rfl, ?_⟩; replace BK365 := kx BK365 hb; replace BK366 := kx BK366 hb; replace HB := hs (hb2 HB GE365 GE366) hb; (try clear hb); (try clear hb2); (try clear hk); (try clear hi); have hcz13_0 : w12.cell? ⟨gb365, 0, none⟩ = some (.int .i64 a0_0) := bc BK365 0; have hcz13_1 : w12.cell? ⟨gb365, 1, none⟩ = some (.slice A0_1 l0_1.length c0_1) := bc BK365 1; have hfz13_0 := blk_frozen BK365.out 0; have hfz13_1 := blk_frozen BK365.out 1) | ((with_reducible refine gate_dst (N := 24) rfl ?_); refine Kd.R_make Kd.bool _ 4 rfl (N := 24) rfl 62 _ _ rfl a0_0 rfl rfl Try.underlying62 (.bool false) 1 info4 rfl (by decide) (by omega) false (ok := fun _ => True) (okp := fun _ => True) rfl (fun _ hk => hk) trivial (of_decide_eq_true (by first | (with_reducible assumption) | assumption)) (Nat.le_trans (Nat.mul_le_mul_right _ (of_decide_eq_true (by first | (with_reducible assumption) | assumption) : a0_0.toNat ≤ 281474976710656)) (by omega)) (Below.refl _ _) (Nat.le_refl _) ?_; intro v369 w14 ho15 hb hg_ hnew_; clear hg_ hnew_; (first | rw [← Ny368.out] at ho15 | (simp only [Int.reduceToNat] at ho15; rw [← Ny368.out] at ho15)); have HO370 := Aside0.mk (Kd.R_lower ho15 (below_size (hb2 HB GE365 GE366))); replace BK365 := kx BK365 hb; replace BK366 := kx BK366 hb; replace HB := hs (hb2 HB GE365 GE366) hb; clear hb ho15))
     go_loopg [27] k (fun kq v27 w' => ∃ (x6_1 : List Bool) (x27_1 : Int) (x367000_1 : Int), v27 = .int .i64 x27_1 ∧ Aside0 (edit_Relabel.l0 kq l1 x6_1 l1 (l1.length : Int) x27_1 a0_0 l0_1 = some (r1, r2, r3)) ∧ Aside0 (kq ≤ k) ∧ Aside0 (Kd.R Kd.bool 4 w' w.heap.size (fun _ => True) v369 x6_1) ∧ Aside0 (w'.heap[gb365]? = some (.cells #[.int .i64 a0_0, (.slice A0_1 l0_1.length c0_1)] 25 (0, 0))) ∧ Aside0 (w'.heap[gb366]? = some (.cells #[.int .i64 x367000_1, (.slice none 0 0)] 25 (0, 0))) ∧ Aside0 (Below w.heap.size w w'))
     case atStart => exact ⟨(y368), (0), (0), (by first | rfl | (simp; done) | (simp [*]; done)), H', ⟨Nat.le_refl _⟩, ⟨rx HO370⟩, ⟨bx BK365⟩, ⟨bx BK366⟩, ⟨hb2 HB GE365 GE366⟩⟩
     case round =>
      clear H'
      try clear c1
      try clear p2
      try clear c3
      try clear c4
      try clear c5
      try clear c5b0
      try clear c5b1
      try clear c6
      try clear c6b0
      try clear c6b1
      try clear c7
      try clear c7b0
      try clear c7b1
      try clear c10
      try clear c12
      try clear hcz11_0
      try clear hcz11_1
      try clear hcz13_0
      try clear hcz13_1
      try clear hfz11_0
      try clear hfz11_1
      try clear hfz13_0
      try clear hfz13_1
      obtain ⟨x6_1, x27_1, x367000_1, rfl, HA, HK1, HO_6, BK365, BK366, HB⟩ := hrel
      cases gk with
      | zero => exact absurd HA.out (by simp [edit_Relabel.l0])
      | succ k1 =>
       have H := HA.out; clear HA; simp only [edit_Relabel.l0] at H
       by_cases c16 : x27_1 < (l1.length : Int)
       ·rw [if_pos c16] at H; have c16b0 : decide (x27_1 < (l1.length : Int)) = true := decide_eq_true c16; clear c16
        by_cases c17 : 0 ≤ x27_1
        ·rw [if_pos c17] at H; have c17b0 : decide (0 ≤ x27_1) = true := decide_eq_true c17; clear c17
         by_cases c18 : x27_1 < (l1.length : Int)
         ·rw [if_pos c18] at H; have c18b0 : decide (x27_1 < (l1.length : Int)) = true := decide_eq_true c18; clear c18
          by_cases c19 : (rd l1 x27_1) < 0
          ·rw [if_pos c19] at H; have c19b0 : decide ((rd l1 x27_1) < 0) = true := decide_eq_true c19; clear c19; simp only [Option.some.injEq, Prod.mk.injEq] at H; obtain ⟨rfl, rfl, rfl⟩ := H; have p371 : 0 ≤ (x27_1 : Int) := of_decide_eq_true (by first | (with_reducible assumption) | assumption); have q371 : x27_1 < (l1.length : Int) := of_decide_eq_true (by first | (with_reducible assumption) | assumption); obtain ⟨ad371, e371, hx371_0⟩ := Kd.at_int HR1.out x27_1 p371 q371
           cases e371
           replace hx371_0 := (HB.out.cell (World.block_lt_of_cell? w _ hx371_0)).trans hx371_0; replace p371 := eq_true p371; replace q371 := eq_true q371; have hnb20 := NB366_365.out; have hnc20 := NB365_366.out; have hcz21_0 : wr.cell? ⟨gb366, 0, none⟩ = some (.int .i64 x367000_1) := bc BK366 0; have hcz21_1 : wr.cell? ⟨gb366, 1, none⟩ = some (.slice none 0 0) := bc BK366 1; have hfz21_0 := blk_frozen BK366.out 0; have hfz21_1 := blk_frozen BK366.out 1
           go_wp2
           refine bodyPost_ret (results_ct rfl _ _ gb366 25 #[.int .i64 0, .slice none 0 0] (0, 0) _ rfl (bp BK366) Try.underlying25 rfl (by kernel_rfl)) rfl ?_; exact ⟨_, by first | rfl | (simp [errW_none, errW_some] <;> rfl) | (simp [*, errW_none, errW_some] <;> rfl), by first | exact Kd.R_nil _ _ _ _ _ | exact Kd.N_nil _ _ _ _ _ | exact Kd.V_nil _ _ _ _ _ | exact Kd.Q_nil _ _ _ _ _ | exact Kd.S_nil _ _ _ _ _, hb2 HB GE365 GE366⟩
          ·rw [if_neg c19] at H; have c19b0 : decide ((rd l1 x27_1) < 0) = false := decide_eq_false c19; clear c19
           by_cases c22 : (rd l1 x27_1) ≥ a0_0
           ·rw [if_pos c22] at H; have c22b0 : decide (a0_0 ≤ (rd l1 x27_1)) = true := decide_eq_true c22; clear c22; simp only [Option.some.injEq, Prod.mk.injEq] at H; obtain ⟨rfl, rfl, rfl⟩ := H; have p371 : 0 ≤ (x27_1 : Int) := of_decide_eq_true (by first | (with_reducible assumption) | assumption); have q371 : x27_1 < (l1.length : Int) := of_decide_eq_true (by first | (with_reducible assumption) | assumption); obtain ⟨ad371, e371, hx371_0⟩ := Kd.at_int HR1.out x27_1 p371 q371
            cases e371
            replace hx371_0 := (HB.out.cell (World.block_lt_of_cell? w _ hx371_0)).trans hx371_0; replace p371 := eq_true p371; replace q371 := eq_true q371; have hnb23 := NB365_366.out; have hnc23 := NB366_365.out; have hcz24_0 : wr.cell? ⟨gb365, 0, none⟩ = some (.int .i64 a0_0) := bc BK365 0; have hcz24_1 : wr.cell? ⟨gb365, 1, none⟩ = some (.slice A0_1 l0_1.length c0_1) := bc BK365 1; have hfz24_0 := blk_frozen BK365.out 0; have hfz24_1 := blk_frozen BK365.out 1; have hcz25_0 : wr.cell? ⟨gb366, 0, none⟩ = some (.int .i64 x367000_1) := bc BK366 0; have hcz25_1 : wr.cell? ⟨gb366, 1, none⟩ = some (.slice none 0 0) := bc BK366 1; have hfz25_0 := blk_frozen BK366.out 0; have hfz25_1 := blk_frozen BK366.out 1
            go_wp2
            refine bodyPost_ret (results_ct rfl _ _ gb366 25 #[.int .i64 0, .slice none 0 0] (0, 0) _ rfl (bp BK366) Try.underlying25 rfl (by kernel_rfl)) rfl ?_; exact ⟨_, by first | rfl | (simp [errW_none, errW_some] <;> rfl) | (simp [*, errW_none, errW_some] <;> rfl), by first | exact Kd.R_nil _ _ _ _ _ | exact Kd.N_nil _ _ _ _ _ | exact Kd.V_nil _ _ _ _ _ | exact Kd.Q_nil _ _ _ _ _ | exact Kd.S_nil _ _ _ _ _, hb2 HB GE365 GE366⟩
           ·rw [if_neg c22] at H; have c22b0 : decide (a0_0 ≤ (rd l1 x27_1)) = false := decide_eq_false c22; clear c22
            by_cases c26 : 0 ≤ (rd l1 x27_1)
            ·rw [if_pos c26] at H; have c26b0 : decide (0 ≤ (rd l1 x27_1)) = true := decide_eq_true c26; clear c26
             by_cases c27 : (rd l1 x27_1) < (x6_1.length : Int)
             ·rw [if_pos c27] at H; have c27b0 : decide ((rd l1 x27_1) < (x6_1.length : Int)) = true := decide_eq_true c27; clear c27; obtain ⟨bq28, hbq28⟩ : ∃ b_ : Bool, b_ = (rdOf false x6_1 (rd l1 x27_1)) := ⟨_, rfl⟩; replace H : (if bq28 = true then (some (0, ([] : List (S46)), 2)) else (edit_Relabel.l0 k1 l1 (x6_1.set ((rd l1 x27_1) : Int).toNat true) l1 (l1.length : Int) (wrap64 (x27_1 + 1)) a0_0 l0_1)) = some (r1, r2, r3) := by rw [← hbq28] at H; exact H
              have Nbq28 := Aside0.mk hbq28; clear hbq28
              by_cases c29 : bq28 = true
              ·subst c29; have H1 : (some (0, ([] : List (S46)), 2)) = some (r1, r2, r3) := by rw [if_pos rfl] at H; exact H
               clear H; have H := H1; clear H1; simp only [Option.some.injEq, Prod.mk.injEq] at H; obtain ⟨rfl, rfl, rfl⟩ := H; have p371 : 0 ≤ (x27_1 : Int) := of_decide_eq_true (by first | (with_reducible assumption) | assumption); have q371 : x27_1 < (l1.length : Int) := of_decide_eq_true (by first | (with_reducible assumption) | assumption); obtain ⟨ad371, e371, hx371_0⟩ := Kd.at_int HR1.out x27_1 p371 q371
               cases e371
               replace hx371_0 := (HB.out.cell (World.block_lt_of_cell? w _ hx371_0)).trans hx371_0; replace p371 := eq_true p371; replace q371 := eq_true q371; have hnb30 := NB365_366.out; have hnc30 := NB366_365.out; have hcz31_0 : wr.cell? ⟨gb365, 0, none⟩ = some (.int .i64 a0_0) := bc BK365 0; have hcz31_1 : wr.cell? ⟨gb365, 1, none⟩ = some (.slice A0_1 l0_1.length c0_1) := bc BK365 1; have hfz31_0 := blk_frozen BK365.out 0; have hfz31_1 := blk_frozen BK365.out 1; obtain ⟨Ao32, co32, eo32⟩ := Kd.R_slice HO_6.out; subst eo32; have p372 : 0 ≤ ((rd l1 x27_1) : Int) := of_decide_eq_true (by first | (with_reducible assumption) | assumption); have q372 : (rd l1 x27_1) < (x6_1.length : Int) := of_decide_eq_true (by first | (with_reducible assumption) | assumption); obtain ⟨ad372, e372, hx372_0⟩ := Kd.at_bool (Kd.R_reads' HO_6.out).2.2 (rd l1 x27_1) p372 q372
               (try rw [← Nbq28.out] at hx372_0)
               cases e372
               replace p372 := eq_true p372; replace q372 := eq_true q372; have hcz33_0 : wr.cell? ⟨gb366, 0, none⟩ = some (.int .i64 x367000_1) := bc BK366 0; have hcz33_1 : wr.cell? ⟨gb366, 1, none⟩ = some (.slice none 0 0) := bc BK366 1; have hfz33_0 := blk_frozen BK366.out 0; have hfz33_1 := blk_frozen BK366.out 1
               go_wp2
               refine bodyPost_ret (results_ct rfl _ _ gb366 25 #[.int .i64 0, .slice none 0 0] (0, 0) _ rfl (bp BK366) Try.underlying25 rfl (by kernel_rfl)) rfl ?_; exact ⟨_, by first | rfl | (simp [errW_none, errW_some] <;> rfl) | (simp [*, errW_none, errW_some] <;> rfl), by first | exact Kd.R_nil _ _ _ _ _ | exact Kd.N_nil _ _ _ _ _ | exact Kd.V_nil _ _ _ _ _ | exact Kd.Q_nil _ _ _ _ _ | exact Kd.S_nil _ _ _ _ _, hb2 HB GE365 GE366⟩
              ·replace c29 := Bool.eq_false_iff.mpr c29; subst c29; have H1 : (edit_Relabel.l0 k1 l1 (x6_1.set ((rd l1 x27_1) : Int).toNat true) l1 (l1.length : Int) (wrap64 (x27_1 + 1)) a0_0 l0_1) = some (r1, r2, r3) := by rw [if_neg (show ¬ (false = true) by decide)] at H; exact H
               clear H; have H := H1; clear H1; obtain ⟨y373, hy373⟩ : ∃ y_ : List Bool, y_ = (x6_1.set ((rd l1 x27_1) : Int).toNat true) := ⟨_, rfl⟩; replace H : (edit_Relabel.l0 k1 l1 y373 l1 (l1.length : Int) (wrap64 (x27_1 + 1)) a0_0 l0_1) = some (r1, r2, r3) := by first | (rw [hy373]; with_reducible exact H) | (have H2_ := (Option.bind_some _ _).symm.trans H; rw [hy373]; with_reducible exact H2_) | (have H2_ := (Option.bind_some _ _).symm.trans H; with_reducible exact H2_) | with_reducible exact H | (rw [hy373]; exact H) | exact H
               have Ny373 := Aside0.mk hy373; clear hy373; have H' := Aside0.mk H; clear H; have p371 : 0 ≤ (x27_1 : Int) := of_decide_eq_true (by first | (with_reducible assumption) | assumption); have q371 : x27_1 < (l1.length : Int) := of_decide_eq_true (by first | (with_reducible assumption) | assumption); obtain ⟨ad371, e371, hx371_0⟩ := Kd.at_int HR1.out x27_1 p371 q371
               cases e371
               replace hx371_0 := (HB.out.cell (World.block_lt_of_cell? w _ hx371_0)).trans hx371_0; replace p371 := eq_true p371; replace q371 := eq_true q371; have hnb35 := NB365_366.out; have hnc35 := NB366_365.out; have hcz36_0 : wr.cell? ⟨gb365, 0, none⟩ = some (.int .i64 a0_0) := bc BK365 0; have hcz36_1 : wr.cell? ⟨gb365, 1, none⟩ = some (.slice A0_1 l0_1.length c0_1) := bc BK365 1; have hfz36_0 := blk_frozen BK365.out 0; have hfz36_1 := blk_frozen BK365.out 1; obtain ⟨Ao37, co37, eo37⟩ := Kd.R_slice HO_6.out; subst eo37; have p372 : 0 ≤ ((rd l1 x27_1) : Int) := of_decide_eq_true (by first | (with_reducible assumption) | assumption); have q372 : (rd l1 x27_1) < (x6_1.length : Int) := of_decide_eq_true (by first | (with_reducible assumption) | assumption); obtain ⟨ad372, e372, hx372_0⟩ := Kd.at_bool (Kd.R_reads' HO_6.out).2.2 (rd l1 x27_1) p372 q372
               (try rw [← Nbq28.out] at hx372_0)
               cases e372
               replace p372 := eq_true p372; replace q372 := eq_true q372; have p34 : 0 ≤ ((rd l1 x27_1) : Int) := of_decide_eq_true (by first | (with_reducible assumption) | assumption); have q34 : ((rd l1 x27_1) : Int) < ((x6_1.length : Int) : Int) := of_decide_eq_true (by first | (with_reducible assumption) | assumption); obtain ⟨go34, co34, eo34, gb34, gl34, cl34, HG34⟩ := Kd.R_form HO_6.out (by omega)
               (first | cases eo34 | (injection eo34 with ea_ en_ ec_; (first | subst ea_ | (injection ea_ with ea_; subst ea_)); subst ec_; clear en_))
               have GB34 := Aside0.mk gb34; have GG34 := Aside0.mk HG34; clear gb34 gl34 HG34
               (first | simp only [add_plain] at hx372_0 | skip)
               obtain ⟨hx34_0, hf34_0⟩ := Kd.R_celln false HO_6.out ((rd l1 x27_1) : Int) p34 q34; replace p34 := eq_true p34; replace q34 := eq_true q34; have HP38 := Kd.R_putg HO_6.out ((rd l1 x27_1) : Int) true
               go_wp2_with (first | ((with_reducible refine gate_store (t := 4) (p := 48) rfl ?_); refine store_event (t := 4) (p := 48) (v := ?vo_w39) (w1 := (wr.setCell ⟨go34, ((rd l1 x27_1) : Int).toNat, none⟩ (.bool true))) ?hg ?ho ?hn ?hr ?_; (case ho => rfl); (case hg => rfl); (case hn => rfl); (case hr => first | (go_simp; done) | (go_simp; rfl)); intro w39 hw; have hg : wr.grownBy w39 (some go34) := (by rw [hw]; exact HP38.2); have hp_ : Kd.R Kd.bool 4 w39 w.heap.size (fun _ => True) (.slice (some ⟨go34, 0, none⟩) x6_1.length co37) y373 := (by rw [hw, Ny373.out]; exact HP38.1); clear HP38; replace BK365 := Aside0.mk (blk_grown (bx BK365) hg (Kd.R_ne HO_6.out BK365.out (by decide))); replace BK366 := Aside0.mk (blk_grown (bx BK366) hg (Kd.R_ne HO_6.out BK366.out (by decide))); replace HO_6 := Aside0.mk (hp_); replace HB := Aside0.mk ((by rw [hw]; exact below_set (HB.out) GB34.out : Below w.heap.size w w39)); clear hg hw hp_))
               go_roundg k1
               case measure => have := HK1.out; omega
               case rel => exact ⟨(y373), (wrap64 (x27_1 + 1)), (x367000_1), (by first | rfl | (simp; done) | (simp [*]; done)), H', ⟨by have := HK1.out; omega⟩, ⟨rx HO_6⟩, ⟨bx BK365⟩, ⟨bx BK366⟩, ⟨hb2 HB GE365 GE366⟩⟩
             ·rw [if_neg c27] at H; exact absurd H (by simp)
            ·rw [if_neg c26] at H; exact absurd H (by simp)
         ·rw [if_neg c18] at H; exact absurd H (by simp)
        ·rw [if_neg c17] at H; exact absurd H (by simp)
       ·rw [if_neg c16] at H; have c16b0 : decide (x27_1 < (l1.length : Int)) = false := decide_eq_false c16; clear c16; have H' := Aside0.mk H; clear H; have hnb40 := NB365_366.out; have hnc40 := NB366_365.out; have hcz41_0 : wr.cell? ⟨gb365, 0, none⟩ = some (.int .i64 a0_0) := bc BK365 0; have hcz41_1 : wr.cell? ⟨gb365, 1, none⟩ = some (.slice A0_1 l0_1.length c0_1) := bc BK365 1; have hfz41_0 := blk_frozen BK365.out 0; have hfz41_1 := blk_frozen BK365.out 1
        go_wp2
        go_loopg [9, 53] k1 (fun kq v9 v53 w' => ∃ (x9_2 : List (S46)) (x53_2 : Int), v53 = .int .i64 x53_2 ∧ Aside0 (edit_Relabel.l1 kq l1 x9_2 l0_1 (l0_1.length : Int) x53_2 a0_0 l0_1 = some (r1, r2, r3)) ∧ Aside0 (kq ≤ k1) ∧ Aside0 (Kd.R k46 46 w' w.heap.size (fun _ => True) v9 x9_2) ∧ Aside0 (w'.heap[gb365]? = some (.cells #[.int .i64 a0_0, (.slice A0_1 l0_1.length c0_1)] 25 (0, 0))) ∧ Aside0 (w'.heap[gb366]? = some (.cells #[.int .i64 x367000_1, (.slice none 0 0)] 25 (0, 0))) ∧ Aside0 (Below w.heap.size w w'))
        case atStart => exact ⟨(([] : List (S46))), (0), (by first | rfl | (simp; done) | (simp [*]; done)), H', ⟨Nat.le_refl _⟩, ⟨by first | exact Kd.R_nil _ _ _ _ _ | exact Kd.N_nil _ _ _ _ _ | exact Kd.V_nil _ _ _ _ _ | exact Kd.Q_nil _ _ _ _ _ | exact Kd.S_nil _ _ _ _ _⟩, ⟨bx BK365⟩, ⟨bx BK366⟩, ⟨hb2 HB GE365 GE366⟩⟩
        case round =>
         clear H'
         try clear c1
         try clear c2
         try clear p2
         try clear q2
         try clear c3
         try clear p3
         try clear q3
         try clear hx3
         try clear hf3
         try clear c4
         try clear c5
         try clear c5b0
         try clear c5b1
         try clear c6
         try clear c6b0
         try clear c6b1
         try clear p6
         try clear c7
         try clear c7b0
         try clear c7b1
         try clear c10
         try clear c12
         try clear c16
         try clear c16b0
         try clear c17
         try clear c17b0
         try clear c18
         try clear c18b0
         try clear c19
         try clear c19b0
         try clear c20
         try clear c22
         try clear c22b0
         try clear c23
         try clear c26
         try clear c26b0
         try clear c27
         try clear c27b0
         try clear q28
         try clear c29
         try clear c30
         try clear p34
         try clear q34
         try clear hx34
         try clear hf34
         try clear c35
         try clear c37
         try clear p37
         try clear q37
         try clear hx37
         try clear c40
         try clear hcz11_0
         try clear hcz11_1
         try clear hcz13_0
         try clear hcz13_1
         try clear hcz21_0
         try clear hcz21_1
         try clear hcz24_0
         try clear hcz24_1
         try clear hcz25_0
         try clear hcz25_1
         try clear hcz31_0
         try clear hcz31_1
         try clear hcz33_0
         try clear hcz33_1
         try clear hcz36_0
         try clear hcz36_1
         try clear hcz41_0
         try clear hcz41_1
         try clear hfz11_0
         try clear hfz11_1
         try clear hfz13_0
         try clear hfz13_1
         try clear hfz21_0
         try clear hfz21_1
         try clear hfz24_0
         try clear hfz24_1
         try clear hfz25_0
         try clear hfz25_1
         try clear hfz31_0
         try clear hfz31_1
         try clear hfz33_0
         try clear hfz33_1
         try clear hfz36_0
         try clear hfz36_1
         try clear hfz41_0
         try clear hfz41_1
         try clear hx34_0
         try clear hx371_0
         try clear hx372_0
         try clear p2
         try clear p34
         try clear p371
         try clear p372
         try clear q34
         try clear q371
         try clear q372
         obtain ⟨x9_2, x53_2, rfl, HA, HK2, HO_9, BK365, BK366, HB⟩ := hrel
         cases gk with
         | zero => exact absurd HA.out (by simp [edit_Relabel.l1])
         | succ k2 =>
          have H := HA.out; clear HA; simp only [edit_Relabel.l1] at H
          by_cases c42 : x53_2 < (l0_1.length : Int)
          ·rw [if_pos c42] at H; have c42b0 : decide (x53_2 < (l0_1.length : Int)) = true := decide_eq_true c42; clear c42
           by_cases c43 : 0 ≤ x53_2
           ·rw [if_pos c43] at H; have c43b0 : decide (0 ≤ x53_2) = true := decide_eq_true c43; clear c43
            by_cases c44 : x53_2 < (l0_1.length : Int)
            ·rw [if_pos c44] at H; have c44b0 : decide (x53_2 < (l0_1.length : Int)) = true := decide_eq_true c44; clear c44
             by_cases c45 : 0 ≤ ((rd_T46 l0_1 x53_2).f0)
             ·rw [if_pos c45] at H; have c45b0 : decide (0 ≤ ((rd_T46 l0_1 x53_2).f0)) = true := decide_eq_true c45; clear c45
              by_cases c46 : ((rd_T46 l0_1 x53_2).f0) < (l1.length : Int)
              ·rw [if_pos c46] at H; have c46b0 : decide (((rd_T46 l0_1 x53_2).f0) < (l1.length : Int)) = true := decide_eq_true c46; clear c46
               by_cases c47 : 0 ≤ ((rd_T46 l0_1 x53_2).f1)
               ·rw [if_pos c47] at H; have c47b0 : decide (0 ≤ ((rd_T46 l0_1 x53_2).f1)) = true := decide_eq_true c47; clear c47
                by_cases c48 : ((rd_T46 l0_1 x53_2).f1) < (l1.length : Int)
                ·rw [if_pos c48] at H; have c48b0 : decide (((rd_T46 l0_1 x53_2).f1) < (l1.length : Int)) = true := decide_eq_true c48; clear c48
                 by_cases c49 : x9_2.length < 8796093022208
                 ·rw [if_pos c49] at H; have LMc49 := Aside0.mk c49; clear c49; obtain ⟨y378, hy378⟩ : ∃ y_ : List (S46), y_ = (x9_2 ++ [(⟨rd l1 ((rd_T46 l0_1 x53_2).f0), rd l1 ((rd_T46 l0_1 x53_2).f1)⟩ : S46)]) := ⟨_, rfl⟩; replace H : (edit_Relabel.l1 k2 l1 y378 l0_1 (l0_1.length : Int) (wrap64 (x53_2 + 1)) a0_0 l0_1) = some (r1, r2, r3) := by first | (rw [hy378]; with_reducible exact H) | (have H2_ := (Option.bind_some _ _).symm.trans H; rw [hy378]; with_reducible exact H2_) | (have H2_ := (Option.bind_some _ _).symm.trans H; with_reducible exact H2_) | with_reducible exact H | (rw [hy378]; exact H) | exact H
                  have Ny378 := Aside0.mk hy378; clear hy378; have H' := Aside0.mk H; clear H; have p374 : 0 ≤ (x53_2 : Int) := of_decide_eq_true (by first | (with_reducible assumption) | assumption); have q374 : x53_2 < (l0_1.length : Int) := of_decide_eq_true (by first | (with_reducible assumption) | assumption); obtain ⟨ad374, e374, hx374_0, hx374_1⟩ := at_T46 HR0_1.out x53_2 p374 q374
                  cases e374
                  replace hx374_0 := (HB.out.cell (World.block_lt_of_cell? w _ hx374_0)).trans hx374_0; replace hx374_1 := (HB.out.cell (World.block_lt_of_cell? w _ hx374_1)).trans hx374_1; replace p374 := eq_true p374; replace q374 := eq_true q374
                  try go_wp2_with (first | ((with_reducible refine gate_dst (N := 11) rfl ?_); refine be_ 11 #[.int .i64 0, .int .i64 0] 46 ?_; intro gb375 hg w50 hbox hb; replace HO_9 := Aside0.mk (Kd.R_below (Kd.R_elderB (rx HO_9) gb375 (Nat.le_of_eq hg.symm)) hb); have BK375 := Aside0.mk (hbox); have GW375 := wq (hb2 HB GE365 GE366) hg; have GE375 := wq (hb2 HB GE365 GE366) hg; replace HB := hs (hb2 HB GE365 GE366) hb; have NB365_375 := lx BK365 hg; have NB375_365 := gx BK365 hg; replace BK365 := kx BK365 hb; have NB366_375 := lx BK366 hg; have NB375_366 := gx BK366 hg; replace BK366 := kx BK366 hb; clear hb hbox hg; have hnb51 := NB375_365.out; have hnc51 := NB365_375.out; have hnb52 := NB375_366.out; have hnc52 := NB366_375.out; have hcz53_0 : w50.cell? ⟨gb375, 0, none⟩ = some (.int .i64 0) := bc BK375 0; have hcz53_1 : w50.cell? ⟨gb375, 1, none⟩ = some (.int .i64 0) := bc BK375 1; have hfz53_0 := blk_frozen BK375.out 0; have hfz53_1 := blk_frozen BK375.out 1))
                  have n0_ : Aside0 (Kd.R k46 46 ((w50.setCell ⟨gb375, 0, none⟩ (.int .i64 ((rd_T46 l0_1 x53_2).f0))).setCell ⟨gb375, 1, none⟩ (.int .i64 ((rd_T46 l0_1 x53_2).f1))) w.heap.size (fun k_ => k_ ≠ gb375) u9 x9_2) := ⟨by (with_reducible repeat (first | apply Kd.R_alloc | apply Kd.R_drewN | apply Kd.R_drew)); exact Kd.R_mono (Kd.R_far (p := ⟨gb375, 1, none⟩) (Kd.R_far (p := ⟨gb375, 0, none⟩) (Kd.R_mono HO_9.out (fun k_ hk => (⟨hk, hk.2⟩ : _ ∧ k_ ≠ gb375))) (fun _ hk => hk.2) (.int .i64 ((rd_T46 l0_1 x53_2).f0))) (fun _ hk => hk.2) (.int .i64 ((rd_T46 l0_1 x53_2).f1))) (fun _ hk => hk.1.2)⟩; have n1_ : Aside0 (((w50.setCell ⟨gb375, 0, none⟩ (.int .i64 ((rd_T46 l0_1 x53_2).f0))).setCell ⟨gb375, 1, none⟩ (.int .i64 ((rd_T46 l0_1 x53_2).f1))).heap[gb365]? = some (.cells #[.int .i64 a0_0, .slice (some ad374) l0_1.length c0_1] 25 (0, 0))) := ⟨bx1 BK365 NB365_375⟩; have n2_ : Aside0 (((w50.setCell ⟨gb375, 0, none⟩ (.int .i64 ((rd_T46 l0_1 x53_2).f0))).setCell ⟨gb375, 1, none⟩ (.int .i64 ((rd_T46 l0_1 x53_2).f1))).heap[gb366]? = some (.cells #[.int .i64 x367000_1, .slice none 0 0] 25 (0, 0))) := ⟨bx1 BK366 NB366_375⟩; have n3_ : Aside0 (((w50.setCell ⟨gb375, 0, none⟩ (.int .i64 ((rd_T46 l0_1 x53_2).f0))).setCell ⟨gb375, 1, none⟩ (.int .i64 ((rd_T46 l0_1 x53_2).f1))).heap[gb375]? = some (.cells #[.int .i64 ((rd_T46 l0_1 x53_2).f0), .int .i64 ((rd_T46 l0_1 x53_2).f1)] 46 (0, 0))) := ⟨bp BK375⟩; have n4_ : Aside0 (Below w.heap.size w ((w50.setCell ⟨gb375, 0, none⟩ (.int .i64 ((rd_T46 l0_1 x53_2).f0))).setCell ⟨gb375, 1, none⟩ (.int .i64 ((rd_T46 l0_1 x53_2).f1)))) := ⟨hb3 HB GE365 GE366 GE375⟩
                  (try clear HO_9)
                  (try clear BK365)
                  (try clear BK366)
                  (try clear BK375)
                  (try clear HB)
                  generalize ((w50.setCell ⟨gb375, 0, none⟩ (.int .i64 ((rd_T46 l0_1 x53_2).f0))).setCell ⟨gb375, 1, none⟩ (.int .i64 ((rd_T46 l0_1 x53_2).f1))) = w54 at n0_ n1_ n2_ n3_ n4_ ⊢; have HO_9 := n0_; have BK365 := n1_; have BK366 := n2_; have BK375 := n3_; have HB := n4_; clear n0_ n1_ n2_ n3_ n4_; replace HO_9 := rd HO_9; replace BK365 := bd BK365; replace BK366 := bd BK366; replace BK375 := bd BK375; replace HB := Aside0.mk (below_drew1 HB.out); have p376 : 0 ≤ (((rd_T46 l0_1 x53_2).f0) : Int) := of_decide_eq_true (by first | (with_reducible assumption) | assumption); have q376 : ((rd_T46 l0_1 x53_2).f0) < (l1.length : Int) := of_decide_eq_true (by first | (with_reducible assumption) | assumption); obtain ⟨ad376, e376, hx376_0⟩ := Kd.at_int HR1.out ((rd_T46 l0_1 x53_2).f0) p376 q376; have hw376_0 := hx376_0
                  cases e376
                  replace hx376_0 := (HB.out.cell (World.block_lt_of_cell? w _ hx376_0)).trans hx376_0; replace p376 := eq_true p376; replace q376 := eq_true q376; have p377 : 0 ≤ (((rd_T46 l0_1 x53_2).f1) : Int) := of_decide_eq_true (by first | (with_reducible assumption) | assumption); have q377 : ((rd_T46 l0_1 x53_2).f1) < (l1.length : Int) := of_decide_eq_true (by first | (with_reducible assumption) | assumption); obtain ⟨ad377, e377, hx377_0⟩ := Kd.at_int HR1.out ((rd_T46 l0_1 x53_2).f1) p377 q377; have hw377_0 := hx377_0; obtain rfl : ad376 = ad377 := (by injection e377); replace hx377_0 := (HB.out.cell (World.block_lt_of_cell? w _ hx377_0)).trans hx377_0; replace p377 := eq_true p377; replace q377 := eq_true q377; refine start_ (n := 15) (S := fun w' => w'.cell? ⟨gb375, 0, none⟩ = some (.int .i64 ((rd_T46 l0_1 x53_2).f0)) ∧ w'.cell? ⟨gb375, 1, none⟩ = some (.int .i64 ((rd_T46 l0_1 x53_2).f1)) ∧ w'.cell? (ad376.add (((rd_T46 l0_1 x53_2).f0)).toNat) = some (.int .i64 (rd l1 ((rd_T46 l0_1 x53_2).f0))) ∧ w'.cell? (ad376.add (((rd_T46 l0_1 x53_2).f1)).toNat) = some (.int .i64 (rd l1 ((rd_T46 l0_1 x53_2).f1)))) (ds := []) (pf 0 15) (by kernel_rfl) rfl rfl ⟨bc BK375 0, bc BK375 1, ((HB.out.cell (World.block_lt_of_cell? w _ hw376_0)).trans hw376_0), ((HB.out.cell (World.block_lt_of_cell? w _ hw377_0)).trans hw377_0)⟩ (fun hHeld => ?_); refine with_tabW edit_Relabel.tab17 edit_Relabel.bits17 (fun HT_ HW_ => ?_); generalize w54.drew = w55 at HO_9 BK365 BK366 BK375 HB hx376_0 hx377_0 hHeld ⊢
                  refine pu_ 0 (some 57) (pf 1 15) HT_ ?_; refine pu_ 1 (some 58) (pf 2 15) HT_ ?_; refine pu_ 2 (some 59) (pf 3 15) HT_ ?_; refine pu_ 6 (some 63) #[T_,T_,T_,F_,F_,F_,T_,F_,F_,F_,F_,F_,F_,F_,F_] HT_ ?_; refine pu_ 7 (some 64) #[T_,T_,T_,F_,F_,F_,T_,T_,F_,F_,F_,F_,F_,F_,F_] HT_ ?_; refine tk4_ 3 (some 60) #[T_,T_,T_,T_,F_,F_,T_,T_,F_,F_,F_,F_,F_,F_,F_] HT_ HW_ hHeld ?_; refine pu_ 4 (some 61) #[T_,T_,T_,T_,T_,F_,T_,T_,F_,F_,F_,F_,F_,F_,F_] HT_ ?_; refine tk4_ 5 (some 62) (pf 8 15) HT_ HW_ hHeld ?_; refine tk4_ 8 (some 65) (pf 9 15) HT_ HW_ hHeld ?_; refine pu_ 9 (some 66) (pf 10 15) HT_ ?_; refine tk4_ 10 (some 67) (pf 11 15) HT_ HW_ hHeld ?_; refine pu_ 11 (some 68) (pf 12 15) HT_ ?_; refine on_ 12 (some 69) (pf 13 15) HT_ (fun K hK => ?_); refine value_ (w1 := ?_) (v := ?_) (by rfl) rfl ?_ ?_; rotate_left 2
                  ·go_simp
                   constructor
                   ·rfl
                   ·rfl
                  refine hK.out _ _ ⟨(blk_cell (blk_alloc BK375.out _) 0).trans rfl, (blk_cell (blk_alloc BK375.out _) 1).trans rfl, (World.cell?_alloc_lt _ _ _ (World.block_lt_of_cell? _ _ (((HB.out.cell (World.block_lt_of_cell? w _ hw376_0)).trans hw376_0)))).trans (((HB.out.cell (World.block_lt_of_cell? w _ hw376_0)).trans hw376_0)), (World.cell?_alloc_lt _ _ _ (World.block_lt_of_cell? _ _ (((HB.out.cell (World.block_lt_of_cell? w _ hw377_0)).trans hw377_0)))).trans (((HB.out.cell (World.block_lt_of_cell? w _ hw377_0)).trans hw377_0))⟩ (fun hHeld => ?_); clear hK K; refine nm_ (some 69) ?_; refine on_ 13 (some 70) (pf 14 15) HT_ (fun K hK => ?_); refine Kd.R_append_step k46 (w0 := w) w.heap.size (by rfl) (.tmp 57) (.tmp 69) 23 46 (.agg #[(.int .i64 0), (.int .i64 0)]) 16 rfl Try.underlying23 info46 rfl (by decide) (by omega) u9 x9_2 (⟨rd l1 ((rd_T46 l0_1 x53_2).f0), rd l1 ((rd_T46 l0_1 x53_2).f1)⟩ : S46) [.int .i64 (rd l1 ((rd_T46 l0_1 x53_2).f0)), .int .i64 (rd l1 ((rd_T46 l0_1 x53_2).f1))] (fun k_ => k_ ≠ gb375) (fun _ => False) rfl rfl ?aP (fun _ hk => hk.elim) ?aF ?aO ?aB ?aS ?aL ?_
                  (case aP => exact k46_mkM _ _ _ (⟨rd l1 ((rd_T46 l0_1 x53_2).f0), rd l1 ((rd_T46 l0_1 x53_2).f1)⟩ : S46))
                  (case aB => exact (hb3 HB GE365 GE366 GE375))
                  (case aF => exact (fun k_ hk => Kd.freshB (bx BK375) k_ hk))
                  (case aO => exact (rx HO_9))
                  (case aS => exact (below_size (hb3 HB GE365 GE366 GE375)))
                  (case aL => have := LMc49.out; omega)
                  intro v379 w56 ho hb hg hat; rw [← Ny378.out] at ho; have n0_ := Aside0.mk (blk_grown (bx BK365) hg (Kd.R_ne HO_9.out BK365.out (by decide))); have n1_ := Aside0.mk (blk_grown (bx BK366) hg (Kd.R_ne HO_9.out BK366.out (by decide))); have n2_ := Aside0.mk (blk_grown (bx BK375) hg (Kd.R_away HO_9.out (fun _ hk => hk))); have n3_ := Aside0.mk (hb); have n4_ := Aside0.mk (ho); clear BK365 BK366 BK375 HB HO_9; have BK365 := n0_; have BK366 := n1_; have BK375 := n2_; have HB := n3_; have HO380 := n4_; clear n0_ n1_ n2_ n3_ n4_ ho hb hg hat; refine hK.out _ _ ⟨bc BK375 0, bc BK375 1, ((HB.out.cell (World.block_lt_of_cell? w _ hw376_0)).trans hw376_0), ((HB.out.cell (World.block_lt_of_cell? w _ hw377_0)).trans hw377_0)⟩ (fun hHeld => ?_); clear hK K; refine nm_ (some 70) ?_; refine pu_ 14 (some 9) (pf 15 15) HT_ ?_; refine done_ (done_of HT_.out (by kernel_rfl)) ?_
                  try go_wp2
                  go_roundg k2
                  case measure => have := HK1.out; have := HK2.out; omega
                  case rel => exact ⟨(y378), (wrap64 (x53_2 + 1)), (by first | rfl | (simp; done) | (simp [*]; done)), H', ⟨by have := HK1.out; have := HK2.out; omega⟩, ⟨Kd.R_mono (rx HO380) (fun _ hk => trivial)⟩, ⟨bx BK365⟩, ⟨bx BK366⟩, ⟨hb3 HB GE365 GE366 GE375⟩⟩
                 ·rw [if_neg c49] at H; exact absurd H (by simp)
                ·rw [if_neg c48] at H; exact absurd H (by simp)
               ·rw [if_neg c47] at H; exact absurd H (by simp)
              ·rw [if_neg c46] at H; exact absurd H (by simp)
             ·rw [if_neg c45] at H; exact absurd H (by simp)
            ·rw [if_neg c44] at H; exact absurd H (by simp)
           ·rw [if_neg c43] at H; exact absurd H (by simp)
          ·rw [if_neg c42] at H; have c42b0 : decide (x53_2 < (l0_1.length : Int)) = false := decide_eq_false c42; clear c42; replace H := Option.bind_eq_some_iff.mp H; obtain ⟨⟨t381, t382⟩, A570, H⟩ := H; replace H : (some (t381, t382, 0)) = some (r1, r2, r3) := H; have A57 := Aside0.mk A570; clear A570; simp only [Option.some.injEq, Prod.mk.injEq] at H; obtain ⟨rfl, rfl, rfl⟩ := H; have hnb58 := NB365_366.out; have hnc58 := NB366_365.out; have hcz59_0 : wr.cell? ⟨gb365, 0, none⟩ = some (.int .i64 a0_0) := bc BK365 0; have hcz59_1 : wr.cell? ⟨gb365, 1, none⟩ = some (.slice A0_1 l0_1.length c0_1) := bc BK365 1; have hfz59_0 := blk_frozen BK365.out 0; have hfz59_1 := blk_frozen BK365.out 1; obtain ⟨Ao60, co60, eo60⟩ := Kd.R_slice HO_9.out; subst eo60
           go_wp2_with (first | ((with_reducible refine gate_callee (f := 38) rfl ?_); refine gl_ (some 75) Try.func38 #[.int .i64 a0_0, .slice Ao60 x9_2.length co60] ?_; (with_reducible refine (edit_made.calls k2 a0_0 _ _ x9_2 t381 t382 _ ?side1 ?side2 A57.out).mono ?_); (case side1 => exact cr HO_9); (case side2 => exact (Kd.R_reads' HO_9.out).2.1); rintro e w61 ⟨v383, rfl, ho0, hb⟩; refine ⟨_, rfl, ?_⟩; have HO384 := Aside0.mk (Kd.R_lower (Kd.R_new' ho0 (Kd.R_lt (rx HO_9))) (below_size (hb2 HB GE365 GE366))); replace HO_9 := el (rx HO_9) ho0 hb; replace BK365 := kx BK365 hb; replace BK366 := kx BK366 hb; replace HB := hs (hb2 HB GE365 GE366) hb; (try clear hb); (try clear hb2); (try clear hk); (try clear hi); (try clear ho0); have hcz62_0 : w61.cell? ⟨gb366, 0, none⟩ = some (.int .i64 x367000_1) := bc BK366 0; have hcz62_1 : w61.cell? ⟨gb366, 1, none⟩ = some (.slice none 0 0) := bc BK366 1; have hfz62_0 := blk_frozen BK366.out 0; have hfz62_1 := blk_frozen BK366.out 1; obtain ⟨Ao63, co63, eo63⟩ := Kd.R_slice HO384.out; subst eo63))
           refine bodyPost_ret (results_ct rfl _ _ gb366 25 #[.int .i64 t381, .slice Ao63 t382.length co63] (0, 0) _ rfl (bp BK366) Try.underlying25 rfl (by kernel_rfl)) rfl ?_; exact ⟨_, by first | rfl | (simp [errW_none, errW_some] <;> rfl) | (simp [*, errW_none, errW_some] <;> rfl), Kd.R_mono (rf HO384 BK366) (fun _ hk => trivial), hb2 HB GE365 GE366⟩
    ·rw [if_neg c7] at H; exact absurd H (by simp)
   ·rw [if_neg c6] at H; exact absurd H (by simp)
  ·rw [if_neg c5] at H; have c5b0 : ((l1.length : Int) == a0_0) = false := beq_eq_false_iff_ne.mpr c5; have c5b1 : ((l1.length : Int) != a0_0) = true := bne_iff_ne.mpr c5; simp only [Option.some.injEq, Prod.mk.injEq] at H; obtain ⟨rfl, rfl, rfl⟩ := H
   go_enter Try.func12, Try.ntmps12
   go_wp2_with (first | ((with_reducible refine gate_dst (N := 2) rfl ?_); refine be_ 2 #[.int .i64 a0_0, .slice A0_1 l0_1.length c0_1] 25 ?_; intro gb365 hg w64 hbox hb; have BK365 := Aside0.mk (hbox); have GW365 := wq (hb0 HB) hg; have GE365 := wq (hb0 HB) hg; replace HB := hs (hb0 HB) hb; clear hb hbox hg) | ((with_reducible refine gate_dst (N := 4) rfl ?_); refine be_ 4 #[.int .i64 0, .slice none 0 0] 25 ?_; intro gb366 hg w65 hbox hb; have BK366 := Aside0.mk (hbox); have GW366 := wq (hb1 HB GE365) hg; have GE366 := wq (hb1 HB GE365) hg; replace HB := hs (hb1 HB GE365) hb; have NB365_366 := lx BK365 hg; have NB366_365 := gx BK365 hg; replace BK365 := kx BK365 hb; clear hb hbox hg; have hnb66 := NB365_366.out; have hnc66 := NB366_365.out; have hcz67_0 : w65.cell? ⟨gb365, 0, none⟩ = some (.int .i64 a0_0) := bc BK365 0; have hcz67_1 : w65.cell? ⟨gb365, 1, none⟩ = some (.slice A0_1 l0_1.length c0_1) := bc BK365 1; have hfz67_0 := blk_frozen BK365.out 0; have hfz67_1 := blk_frozen BK365.out 1) | ((with_reducible refine gate_callee (f := 37) rfl ?_); refine gl_ (some 13) Try.func37 #[.agg #[.int .i64 a0_0, .slice A0_1 l0_1.length c0_1]] ?_; (with_reducible refine (simple_Valid.calls k a0_0 _ _ l0_1 true _ ?side1 ?side2 A3.out).mono ?_); (case side1 => repeat (first | exact (Kd.C_below HR0_1.out HB.out) | (with_reducible refine Kd.C_alloc ?_ _) | (with_reducible refine Kd.C_drewN ?_ _) | (with_reducible refine Kd.C_drew ?_))); (case side2 => exact HC0_1.out); rintro e w68 ⟨rfl, hb⟩; refine ⟨_, rfl, ?_⟩; replace BK365 := kx BK365 hb; replace BK366 := kx BK366 hb; replace HB := hs (hb2 HB GE365 GE366) hb; (try clear hb); (try clear hb2); (try clear hk); (try clear hi); have hcz69_0 : w68.cell? ⟨gb365, 0, none⟩ = some (.int .i64 a0_0) := bc BK365 0; have hcz69_1 : w68.cell? ⟨gb365, 1, none⟩ = some (.slice A0_1 l0_1.length c0_1) := bc BK365 1; have hfz69_0 := blk_frozen BK365.out 0; have hfz69_1 := blk_frozen BK365.out 1; have hcz70_0 : w68.cell? ⟨gb366, 0, none⟩ = some (.int .i64 0) := bc BK366 0; have hcz70_1 : w68.cell? ⟨gb366, 1, none⟩ = some (.slice none 0 0) := bc BK366 1; have hfz70_0 := blk_frozen BK366.out 0; have hfz70_1 := blk_frozen BK366.out 1))
   refine bodyPost_ret (results_ct rfl _ _ gb366 25 #[.int .i64 0, .slice none 0 0] (0, 0) _ rfl (bp BK366) Try.underlying25 rfl (by kernel_rfl)) rfl ?_; exact ⟨_, by first | rfl | (simp [errW_none, errW_some] <;> rfl) | (simp [*, errW_none, errW_some] <;> rfl), by first | exact Kd.R_nil _ _ _ _ _ | exact Kd.N_nil _ _ _ _ _ | exact Kd.V_nil _ _ _ _ _ | exact Kd.Q_nil _ _ _ _ _ | exact Kd.S_nil _ _ _ _ _, hb2 HB GE365 GE366⟩
 ·replace c4 := Bool.eq_false_iff.mpr c4; subst c4; have H1 : (some (0, ([] : List (S46)), 1)) = some (r1, r2, r3) := by rw [if_neg (show ¬ (false = true) by decide)] at H; exact H
  clear H; have H := H1; clear H1; simp only [Option.some.injEq, Prod.mk.injEq] at H; obtain ⟨rfl, rfl, rfl⟩ := H
  go_enter Try.func12, Try.ntmps12
  go_wp2_with (first | ((with_reducible refine gate_dst (N := 2) rfl ?_); refine be_ 2 #[.int .i64 a0_0, .slice A0_1 l0_1.length c0_1] 25 ?_; intro gb365 hg w71 hbox hb; have BK365 := Aside0.mk (hbox); have GW365 := wq (hb0 HB) hg; have GE365 := wq (hb0 HB) hg; replace HB := hs (hb0 HB) hb; clear hb hbox hg) | ((with_reducible refine gate_dst (N := 4) rfl ?_); refine be_ 4 #[.int .i64 0, .slice none 0 0] 25 ?_; intro gb366 hg w72 hbox hb; have BK366 := Aside0.mk (hbox); have GW366 := wq (hb1 HB GE365) hg; have GE366 := wq (hb1 HB GE365) hg; replace HB := hs (hb1 HB GE365) hb; have NB365_366 := lx BK365 hg; have NB366_365 := gx BK365 hg; replace BK365 := kx BK365 hb; clear hb hbox hg; have hnb73 := NB365_366.out; have hnc73 := NB366_365.out; have hcz74_0 : w72.cell? ⟨gb365, 0, none⟩ = some (.int .i64 a0_0) := bc BK365 0; have hcz74_1 : w72.cell? ⟨gb365, 1, none⟩ = some (.slice A0_1 l0_1.length c0_1) := bc BK365 1; have hfz74_0 := blk_frozen BK365.out 0; have hfz74_1 := blk_frozen BK365.out 1) | ((with_reducible refine gate_callee (f := 37) rfl ?_); refine gl_ (some 13) Try.func37 #[.agg #[.int .i64 a0_0, .slice A0_1 l0_1.length c0_1]] ?_; (with_reducible refine (simple_Valid.calls k a0_0 _ _ l0_1 false _ ?side1 ?side2 A3.out).mono ?_); (case side1 => repeat (first | exact (Kd.C_below HR0_1.out HB.out) | (with_reducible refine Kd.C_alloc ?_ _) | (with_reducible refine Kd.C_drewN ?_ _) | (with_reducible refine Kd.C_drew ?_))); (case side2 => exact HC0_1.out); rintro e w75 ⟨rfl, hb⟩; refine ⟨_, rfl, ?_⟩; replace BK365 := kx BK365 hb; replace BK366 := kx BK366 hb; replace HB := hs (hb2 HB GE365 GE366) hb; (try clear hb); (try clear hb2); (try clear hk); (try clear hi); have hcz76_0 : w75.cell? ⟨gb366, 0, none⟩ = some (.int .i64 0) := bc BK366 0; have hcz76_1 : w75.cell? ⟨gb366, 1, none⟩ = some (.slice none 0 0) := bc BK366 1; have hfz76_0 := blk_frozen BK366.out 0; have hfz76_1 := blk_frozen BK366.out 1))
  refine bodyPost_ret (results_ct rfl _ _ gb366 25 #[.int .i64 0, .slice none 0 0] (0, 0) _ rfl (bp BK366) Try.underlying25 rfl (by kernel_rfl)) rfl ?_; exact ⟨_, by first | rfl | (simp [errW_none, errW_some] <;> rfl) | (simp [*, errW_none, errW_some] <;> rfl), by first | exact Kd.R_nil _ _ _ _ _ | exact Kd.N_nil _ _ _ _ _ | exact Kd.V_nil _ _ _ _ _ | exact Kd.Q_nil _ _ _ _ _ | exact Kd.S_nil _ _ _ _ _, hb2 HB GE365 GE366⟩

end Go.Proofs.Ytdaeaejmikhmcaa.PEditC
