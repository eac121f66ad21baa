-- PRINTED by print.py (a twelfth state) out of the translation. Not trusted: Lean checks it.
import Derived.Test.YtdaeaejmikhmcaaZPEditCx0
import Derived.Test.YtdaeaejmikhmcaaZPEditCx26
namespace Go.Proofs.Ytdaeaejmikhmcaa.PEditC
open Go.RowKit Go.Proofs.YtdaeaejmikhmcaaW.PrintWords Go.Proofs.YtdaeaejmikhmcaaW.PrintLast Go.Proofs.YtdaeaejmikhmcaaW.PrintMore
open Go.Proofs.YtdaeaejmikhmcaaX
attribute [local go_sem] max2_int min2_int max_two min_two max_three min_three max_four min_four   -- for this text's walks alone
set_option linter.unusedVariables false
set_option linter.unusedSimpArgs false

/-! ### tangramref14_Sub: function 23 -/
mutual
def tangramref14_Sub.l0 : Nat → List Int → List Bool → Int → Int → List (S46) → Option (Int × (List (S46)) × Int)
 | 0, _, _, _, _, _ => none
 | k + 1, x1, x6, x7, x767000, x767001 => if x7 < (x1.length : Int) then (if 0 ≤ x7 then (if (rd x1 x7) < 0 then (some (0, ([] : List (S46)), 2)) else (if (rd x1 x7) ≥ (x6.length : Int) then (some (0, ([] : List (S46)), 2)) else (if 0 ≤ (rd x1 x7) then (if (rd x1 x7) < (x6.length : Int) then (tangramref14_Sub.l0 k x1 (x6.set ((rd x1 x7) : Int).toNat true) (wrap64 (x7 + 1)) x767000 x767001) else (none)) else (none)))) else (none)) else (tangramref14_Sub.l1 k x6 0 x767000 x767001 x767000 ([] : List (S46)))
def tangramref14_Sub.l1 : Nat → List Bool → Int → Int → List (S46) → Int → List (S46) → Option (Int × (List (S46)) × Int)
 | 0, _, _, _, _, _, _ => none
 | k + 1, x6, x9, x767000, x767001, x777000, x777001 => if x9 < (x6.length : Int) then (if 0 ≤ x9 then (if rdOf false x6 x9 = true then (if x9 < (x767001.length : Int) then (if x777001.length < 8796093022208 then (tangramref14_Sub.l1 k x6 (wrap64 (x9 + 1)) x767000 x767001 x777000 (x777001 ++ [(⟨(rd_T46 x767001 x9).f0, (rd_T46 x767001 x9).f1⟩ : S46)])) else (none)) else (none)) else (tangramref14_Sub.l1 k x6 (wrap64 (x9 + 1)) x767000 x767001 x777000 x777001)) else (none)) else (some (x777000, x777001, 0))
end
def tangramref14_Sub.f (k : Nat) (a0_0 : Int) (l0_1 : List (S46)) (l1 : List Int) : Option (Int × (List (S46)) × Int) := (tangramref03_Valid.f k a0_0 l0_1).bind fun t768 => (if t768 = true then (if 0 ≤ (l0_1.length : Int) then (if ((l0_1.length : Int) : Int).toNat ≤ 281474976710656 then (tangramref14_Sub.l0 k l1 (List.replicate ((l0_1.length : Int) : Int).toNat false) 0 a0_0 l0_1) else (none)) else (none)) else (some (0, ([] : List (S46)), 1)))
theorem tangramref14_Sub.mono_l : ∀ k, (∀ y0 y1 y2 y3 y4, LeO (tangramref14_Sub.l0 k y0 y1 y2 y3 y4) (tangramref14_Sub.l0 (k + 1) y0 y1 y2 y3 y4)) ∧ (∀ y0 y1 y2 y3 y4 y5, LeO (tangramref14_Sub.l1 k y0 y1 y2 y3 y4 y5) (tangramref14_Sub.l1 (k + 1) y0 y1 y2 y3 y4 y5))
 | 0 => ⟨fun _ _ _ _ _ r h => by simp [tangramref14_Sub.l0] at h, fun _ _ _ _ _ _ r h => by simp [tangramref14_Sub.l1] at h⟩
 | k + 1 => by
  obtain ⟨ih0, ih1⟩ := tangramref14_Sub.mono_l k; refine ⟨?_, ?_⟩
  ·intro y0 y1 y2 y3 y4
   unfold tangramref14_Sub.l0
   repeat' first
   | (with_reducible exact ih0 _ _ _ _ _)
   | (with_reducible exact ih1 _ _ _ _ _ _)
   | (with_reducible exact tangramref03_Valid.mono _ _ _)
   | (with_reducible exact LeO.refl _)
   | (with_reducible exact LeO.none _)
   | (with_reducible refine LeO.ite ?_ ?_)
   | (with_reducible refine LeO.bind ?_ (fun _ => ?_))
   | exact ih0 _ _ _ _ _
   | exact ih1 _ _ _ _ _ _
   | exact tangramref03_Valid.mono _ _ _
   | exact LeO.none _
   | refine LeO.ite ?_ ?_
   | refine LeO.bind ?_ (fun _ => ?_)
  ·intro y0 y1 y2 y3 y4 y5
   unfold tangramref14_Sub.l1
   repeat' first
   | (with_reducible exact ih0 _ _ _ _ _)
   | (with_reducible exact ih1 _ _ _ _ _ _)
   | (with_reducible exact tangramref03_Valid.mono _ _ _)
   | (with_reducible exact LeO.refl _)
   | (with_reducible exact LeO.none _)
   | (with_reducible refine LeO.ite ?_ ?_)
   | (with_reducible refine LeO.bind ?_ (fun _ => ?_))
   | exact ih0 _ _ _ _ _
   | exact ih1 _ _ _ _ _ _
   | exact tangramref03_Valid.mono _ _ _
   | exact LeO.none _
   | refine LeO.ite ?_ ?_
   | refine LeO.bind ?_ (fun _ => ?_)
theorem tangramref14_Sub.mono : ∀ a0 a1 a2 k, LeO (tangramref14_Sub.f k a0 a1 a2) (tangramref14_Sub.f (k + 1) a0 a1 a2) := by
 intro a0 a1 a2 k; obtain ⟨ih0, ih1⟩ := tangramref14_Sub.mono_l k
 unfold tangramref14_Sub.f
 repeat' first
   | (with_reducible exact ih0 _ _ _ _ _)
   | (with_reducible exact ih1 _ _ _ _ _ _)
   | (with_reducible exact tangramref03_Valid.mono _ _ _)
   | (with_reducible exact LeO.refl _)
   | (with_reducible exact LeO.none _)
   | (with_reducible refine LeO.ite ?_ ?_)
   | (with_reducible refine LeO.bind ?_ (fun _ => ?_))
   | exact ih0 _ _ _ _ _
   | exact ih1 _ _ _ _ _ _
   | exact tangramref03_Valid.mono _ _ _
   | exact LeO.none _
   | refine LeO.ite ?_ ?_
   | refine LeO.bind ?_ (fun _ => ?_)
def tangramref14_Sub.T15 : Bool × List (List Nat × List Nat) := (true, [([], []), ([0], [0]), ([], []), ([2], [2]), ([], []), ([3, 4], [3, 4]), ([5], [5]), ([6], [6]), ([1, 7], [1, 7]), ([0, 1, 2, 3, 4, 5, 6, 7, 8], []), ([9, 8, 8, 0, 1, 2, 3, 4, 5, 6, 7, 8], [8, 9])])
def tangramref14_Sub.B15 : List Nat := [0, 1, 0, 4, 0, 28, 60, 124, 255, 511, 1023]
theorem tangramref14_Sub.tab15 : rtab .any (opsOf Try.f23 15) = tangramref14_Sub.T15 := by kernel_rfl
theorem tangramref14_Sub.bits15 : waitsOk tangramref14_Sub.T15.2 tangramref14_Sub.B15 = true := by kernel_rfl
set_option maxHeartbeats 8000000 in
set_option maxRecDepth 100000 in
theorem tangramref14_Sub.calls (k : Nat) (a0_0 : Int) (A0_1 : Option Addr) (c0_1 : Nat) (l0_1 : List (S46)) (A1 : Option Addr) (c1 : Nat) (l1 : List Int) (r1 : Int) (r2 : List (S46)) (r3 : Int) (w : World) (hr0_1 : Kd.C k46 w A0_1 l0_1.length l0_1) (hc0_1 : l0_1.length ≤ c0_1) (hr1 : Kd.C (Kd.int .i64) w A1 l1.length l1) (hc1 : l1.length ≤ c1) (h : tangramref14_Sub.f k a0_0 l0_1 l1 = some (r1, r2, r3)) :
  Calls Try.prog 23 #[.agg #[.int .i64 a0_0, .slice A0_1 l0_1.length c0_1], .slice A1 l1.length c1] w fun e w' => ∃ v1_ : Value, e = .returned (.tuple #[.agg #[.int .i64 r1, v1_], .int .i64 r3]) ∧ Kd.R k46 46 w' w.heap.size (fun _ => True) v1_ r2 ∧ Below w.heap.size w w' := by
 have hu25 := Try.underlying25; have hu46 := Try.underlying46; have HR0_1 := Aside0.mk hr0_1; have HC0_1 := Aside0.mk hc0_1; clear hr0_1 hc0_1; have HR1 := Aside0.mk hr1; have HC1 := Aside0.mk hc1; clear hr1 hc1; have HB := Aside0.mk (Below.refl w.heap.size w); have H : ((tangramref03_Valid.f k a0_0 l0_1).bind fun t768 => (if t768 = true then (if 0 ≤ (l0_1.length : Int) then (if ((l0_1.length : Int) : Int).toNat ≤ 281474976710656 then (tangramref14_Sub.l0 k l1 (List.replicate ((l0_1.length : Int) : Int).toNat false) 0 a0_0 l0_1) else (none)) else (none)) else (some (0, ([] : List (S46)), 1)))) = some (r1, r2, r3) := h; clear h; replace H := Option.bind_eq_some_iff.mp H; obtain ⟨t768, A30, H⟩ := H; replace H : (if t768 = true then (if 0 ≤ (l0_1.length : Int) then (if ((l0_1.length : Int) : Int).toNat ≤ 281474976710656 then (tangramref14_Sub.l0 k l1 (List.replicate ((l0_1.length : Int) : Int).toNat false) 0 a0_0 l0_1) else (none)) else (none)) else (some (0, ([] : List (S46)), 1))) = some (r1, r2, r3) := H; have A3 := Aside0.mk A30; clear A30
 by_cases c4 : t768 = true
 ·subst c4; have H1 : (if 0 ≤ (l0_1.length : Int) then (if ((l0_1.length : Int) : Int).toNat ≤ 281474976710656 then (tangramref14_Sub.l0 k l1 (List.replicate ((l0_1.length : Int) : Int).toNat false) 0 a0_0 l0_1) else (none)) else (none)) = some (r1, r2, r3) := by rw [if_pos rfl] at H; exact H
  clear H; have H := H1; clear H1
  by_cases c5 : 0 ≤ (l0_1.length : Int)
  ·rw [if_pos c5] at H; have c5b0 := eq_true c5; have c5b1 : decide (0 ≤ (l0_1.length : Int)) = true := decide_eq_true c5; clear c5
   by_cases c6 : ((l0_1.length : Int) : Int).toNat ≤ 281474976710656
   ·rw [if_pos c6] at H; have c6b0 := eq_true c6; have c6b1 : decide (((l0_1.length : Int) : Int).toNat ≤ 281474976710656) = true := decide_eq_true c6; clear c6; obtain ⟨y769, hy769⟩ : ∃ y_ : List Bool, y_ = (List.replicate ((l0_1.length : Int) : Int).toNat false) := ⟨_, rfl⟩; replace H : (tangramref14_Sub.l0 k l1 y769 0 a0_0 l0_1) = some (r1, r2, r3) := by first | (rw [hy769]; with_reducible exact H) | (have H2_ := (Option.bind_some _ _).symm.trans H; rw [hy769]; with_reducible exact H2_) | (have H2_ := (Option.bind_some _ _).symm.trans H; with_reducible exact H2_) | with_reducible exact H | (rw [hy769]; exact H) | exact H
    have Ny769 := Aside0.mk hy769; clear hy769; have H' := Aside0.mk H; clear H
    go_enter Try.func23, Try.ntmps23
    go_wp2_with (first | ((with_reducible refine gate_dst (N := 2) rfl ?_); (try (refine gate_guard (by rfl) ?_; dsimp only)); refine be_ 2 #[.int .i64 a0_0, .slice A0_1 l0_1.length c0_1] 25 ?_; intro gb766 hg w7 hbox hb; have BK766 := Aside0.mk (hbox); have GW766 := wq (hb0 HB) hg; have GE766 := wq (hb0 HB) hg; replace HB := hs (hb0 HB) hb; clear hb hbox hg) | ((with_reducible refine gate_dst (N := 4) rfl ?_); (try (refine gate_guard (by rfl) ?_; dsimp only)); refine be_ 4 #[.int .i64 0, .slice none 0 0] 25 ?_; intro gb767 hg w8 hbox hb; have BK767 := Aside0.mk (hbox); have GW767 := wq (hb1 HB GE766) hg; have GE767 := wq (hb1 HB GE766) hg; replace HB := hs (hb1 HB GE766) hb; have NB766_767 := lx BK766 hg; have NB767_766 := gx BK766 hg; replace BK766 := kx BK766 hb; clear hb hbox hg; have hnb9 := NB766_767.out; have hnc9 := NB767_766.out; have hcz10_0 : w8.cell? ⟨gb766, 0, none⟩ = some (.int .i64 a0_0) := bc BK766 0; have hcz10_1 : w8.cell? ⟨gb766, 1, none⟩ = some (.slice A0_1 l0_1.length c0_1) := bc BK766 1; have hfz10_0 := blk_frozen BK766.out 0; have hfz10_1 := blk_frozen BK766.out 1) | ((with_reducible refine gate_callee (f := 11) rfl ?_); refine gl_ (some 11) Try.func11 #[.agg #[.int .i64 a0_0, .slice A0_1 l0_1.length c0_1]] ?_; (with_reducible refine (tangramref03_Valid.calls k a0_0 _ _ l0_1 true _ ?side1 ?side2 A3.out).mono ?_); (case side1 => repeat (first | exact (Kd.C_below HR0_1.out HB.out) | (with_reducible refine Kd.C_alloc ?_ _) | (with_reducible refine Kd.C_drewN ?_ _) | (with_reducible refine Kd.C_drew ?_))); (case side2 => exact HC0_1.out); rintro e w11 ⟨rfl, hb⟩; refine ⟨_, rfl, ?_⟩; replace BK766 := kx BK766 hb; replace BK767 := kx BK767 hb; replace HB := hs (hb2 HB GE766 GE767) hb; (try clear hb); (try clear hb2); (try clear hk); (try clear hi); have hcz12_0 : w11.cell? ⟨gb766, 0, none⟩ = some (.int .i64 a0_0) := bc BK766 0; have hcz12_1 : w11.cell? ⟨gb766, 1, none⟩ = some (.slice A0_1 l0_1.length c0_1) := bc BK766 1; have hfz12_0 := blk_frozen BK766.out 0; have hfz12_1 := blk_frozen BK766.out 1) | ((with_reducible refine gate_dst (N := 17) rfl ?_); (try (refine gate_guard (by rfl) ?_; dsimp only)); refine Kd.R_make Kd.bool _ 4 rfl (N := 17) rfl 62 _ _ rfl (l0_1.length : Int) rfl rfl Try.underlying62 (.bool false) 1 info4 rfl (by decide) (by omega) false (ok := fun _ => True) (okp := fun _ => True) rfl (fun _ hk => hk) trivial (of_decide_eq_true (by first | (with_reducible assumption) | assumption)) (Nat.le_trans (Nat.mul_le_mul_right _ (of_decide_eq_true (by first | (with_reducible assumption) | assumption) : (l0_1.length : Int).toNat ≤ 281474976710656)) (by omega)) (Below.refl _ _) (Nat.le_refl _) ?_; intro v770 w13 ho14 hb hg_ hnew_; clear hg_ hnew_; (first | rw [← Ny769.out] at ho14 | (simp only [Int.reduceToNat] at ho14; rw [← Ny769.out] at ho14)); have HO771 := Aside0.mk (Kd.R_lower ho14 (below_size (hb2 HB GE766 GE767))); replace BK766 := kx BK766 hb; replace BK767 := kx BK767 hb; replace HB := hs (hb2 HB GE766 GE767) hb; clear hb ho14))
    go_loopg [7] k (fun kq v7 w' => ∃ (x6_1 : List Bool) (x7_1 : Int) (x768000_1 : Int), v7 = .int .i64 x7_1 ∧ Aside0 (tangramref14_Sub.l0 kq l1 x6_1 x7_1 a0_0 l0_1 = some (r1, r2, r3)) ∧ Aside0 (kq ≤ k) ∧ Aside0 (Kd.R Kd.bool 4 w' w.heap.size (fun _ => True) v770 x6_1) ∧ Aside0 (w'.heap[gb766]? = some (.cells #[.int .i64 a0_0, (.slice A0_1 l0_1.length c0_1)] 25 (0, 0))) ∧ Aside0 (w'.heap[gb767]? = some (.cells #[.int .i64 x768000_1, (.slice none 0 0)] 25 (0, 0))) ∧ Aside0 (Below w.heap.size w w'))
    case atStart => exact ⟨(y769), (0), (0), (by first | rfl | (simp; done) | (simp [*]; done)), H', ⟨Nat.le_refl _⟩, ⟨rx HO771⟩, ⟨bx BK766⟩, ⟨bx BK767⟩, ⟨hb2 HB GE766 GE767⟩⟩
    case round =>
     clear H'
     try clear c1
     try clear c2
     try clear p2
     try clear c4
     try clear c5
     try clear c5b0
     try clear c5b1
     try clear c6
     try clear c6b0
     try clear c6b1
     try clear c9
     try clear c11
     try clear hcz10_0
     try clear hcz10_1
     try clear hcz12_0
     try clear hcz12_1
     try clear hfz10_0
     try clear hfz10_1
     try clear hfz12_0
     try clear hfz12_1
     obtain ⟨x6_1, x7_1, x768000_1, rfl, HA, HK1, HO_6, BK766, BK767, HB⟩ := hrel
     cases gk with
     | zero => exact absurd HA.out (by simp [tangramref14_Sub.l0])
     | succ k1 =>
      have H := HA.out; clear HA; simp only [tangramref14_Sub.l0] at H
      by_cases c15 : x7_1 < (l1.length : Int)
      ·rw [if_pos c15] at H; have c15b0 : decide (x7_1 < (l1.length : Int)) = true := decide_eq_true c15; clear c15
       by_cases c16 : 0 ≤ x7_1
       ·rw [if_pos c16] at H; have c16b0 : decide (0 ≤ x7_1) = true := decide_eq_true c16; clear c16
        by_cases c17 : (rd l1 x7_1) < 0
        ·rw [if_pos c17] at H; have c17b0 : decide ((rd l1 x7_1) < 0) = true := decide_eq_true c17; clear c17; simp only [Option.some.injEq, Prod.mk.injEq] at H; obtain ⟨rfl, rfl, rfl⟩ := H; have p772 : 0 ≤ (x7_1 : Int) := of_decide_eq_true (by first | (with_reducible assumption) | assumption); have q772 : x7_1 < (l1.length : Int) := of_decide_eq_true (by first | (with_reducible assumption) | assumption); obtain ⟨ad772, e772, hx772_0⟩ := Kd.at_int HR1.out x7_1 p772 q772
         cases e772
         replace hx772_0 := (HB.out.cell (World.block_lt_of_cell? w _ hx772_0)).trans hx772_0; replace p772 := eq_true p772; replace q772 := eq_true q772; have hnb18 := NB767_766.out; have hnc18 := NB766_767.out; have hcz19_0 : wr.cell? ⟨gb767, 0, none⟩ = some (.int .i64 x768000_1) := bc BK767 0; have hcz19_1 : wr.cell? ⟨gb767, 1, none⟩ = some (.slice none 0 0) := bc BK767 1; have hfz19_0 := blk_frozen BK767.out 0; have hfz19_1 := blk_frozen BK767.out 1
         go_wp2
         refine bodyPost_ret (results_ct rfl _ _ gb767 25 #[.int .i64 0, .slice none 0 0] (0, 0) _ rfl (bp BK767) Try.underlying25 rfl (by kernel_rfl)) rfl ?_; exact ⟨_, by first | rfl | (simp [errW_none, errW_some] <;> rfl) | (simp [*, errW_none, errW_some] <;> rfl), by first | exact Kd.R_nil _ _ _ _ _ | exact Kd.N_nil _ _ _ _ _ | exact Kd.V_nil _ _ _ _ _ | exact Kd.Q_nil _ _ _ _ _ | exact Kd.S_nil _ _ _ _ _, hb2 HB GE766 GE767⟩
        ·rw [if_neg c17] at H; have c17b0 : decide ((rd l1 x7_1) < 0) = false := decide_eq_false c17; clear c17
         by_cases c20 : (rd l1 x7_1) ≥ (x6_1.length : Int)
         ·rw [if_pos c20] at H; have c20b0 : decide ((x6_1.length : Int) ≤ (rd l1 x7_1)) = true := decide_eq_true c20; clear c20; simp only [Option.some.injEq, Prod.mk.injEq] at H; obtain ⟨rfl, rfl, rfl⟩ := H; have p772 : 0 ≤ (x7_1 : Int) := of_decide_eq_true (by first | (with_reducible assumption) | assumption); have q772 : x7_1 < (l1.length : Int) := of_decide_eq_true (by first | (with_reducible assumption) | assumption); obtain ⟨ad772, e772, hx772_0⟩ := Kd.at_int HR1.out x7_1 p772 q772
          cases e772
          replace hx772_0 := (HB.out.cell (World.block_lt_of_cell? w _ hx772_0)).trans hx772_0; replace p772 := eq_true p772; replace q772 := eq_true q772; have p773 : 0 ≤ (x7_1 : Int) := of_decide_eq_true (by first | (with_reducible assumption) | assumption); have q773 : x7_1 < (l1.length : Int) := of_decide_eq_true (by first | (with_reducible assumption) | assumption); obtain ⟨ad773, e773, hx773_0⟩ := Kd.at_int HR1.out x7_1 p773 q773; obtain rfl : ad772 = ad773 := (by injection e773); replace hx773_0 := (HB.out.cell (World.block_lt_of_cell? w _ hx773_0)).trans hx773_0; replace p773 := eq_true p773; replace q773 := eq_true q773; obtain ⟨Ao21, co21, eo21⟩ := Kd.R_slice HO_6.out; subst eo21; have hnb22 := NB767_766.out; have hnc22 := NB766_767.out; have hcz23_0 : wr.cell? ⟨gb767, 0, none⟩ = some (.int .i64 x768000_1) := bc BK767 0; have hcz23_1 : wr.cell? ⟨gb767, 1, none⟩ = some (.slice none 0 0) := bc BK767 1; have hfz23_0 := blk_frozen BK767.out 0; have hfz23_1 := blk_frozen BK767.out 1
          go_wp2
          refine bodyPost_ret (results_ct rfl _ _ gb767 25 #[.int .i64 0, .slice none 0 0] (0, 0) _ rfl (bp BK767) Try.underlying25 rfl (by kernel_rfl)) rfl ?_; exact ⟨_, by first | rfl | (simp [errW_none, errW_some] <;> rfl) | (simp [*, errW_none, errW_some] <;> rfl), by first | exact Kd.R_nil _ _ _ _ _ | exact Kd.N_nil _ _ _ _ _ | exact Kd.V_nil _ _ _ _ _ | exact Kd.Q_nil _ _ _ _ _ | exact Kd.S_nil _ _ _ _ _, hb2 HB GE766 GE767⟩
         ·rw [if_neg c20] at H; have c20b0 : decide ((x6_1.length : Int) ≤ (rd l1 x7_1)) = false := decide_eq_false c20; clear c20
          by_cases c24 : 0 ≤ (rd l1 x7_1)
          ·rw [if_pos c24] at H; have c24b0 : decide (0 ≤ (rd l1 x7_1)) = true := decide_eq_true c24; clear c24
           by_cases c25 : (rd l1 x7_1) < (x6_1.length : Int)
           ·rw [if_pos c25] at H; have c25b0 : decide ((rd l1 x7_1) < (x6_1.length : Int)) = true := decide_eq_true c25; clear c25; obtain ⟨y775, hy775⟩ : ∃ y_ : List Bool, y_ = (x6_1.set ((rd l1 x7_1) : Int).toNat true) := ⟨_, rfl⟩; replace H : (tangramref14_Sub.l0 k1 l1 y775 (wrap64 (x7_1 + 1)) a0_0 l0_1) = some (r1, r2, r3) := by first | (rw [hy775]; with_reducible exact H) | (have H2_ := (Option.bind_some _ _).symm.trans H; rw [hy775]; with_reducible exact H2_) | (have H2_ := (Option.bind_some _ _).symm.trans H; with_reducible exact H2_) | with_reducible exact H | (rw [hy775]; exact H) | exact H
            have Ny775 := Aside0.mk hy775; clear hy775; have H' := Aside0.mk H; clear H; have p772 : 0 ≤ (x7_1 : Int) := of_decide_eq_true (by first | (with_reducible assumption) | assumption); have q772 : x7_1 < (l1.length : Int) := of_decide_eq_true (by first | (with_reducible assumption) | assumption); obtain ⟨ad772, e772, hx772_0⟩ := Kd.at_int HR1.out x7_1 p772 q772
            cases e772
            replace hx772_0 := (HB.out.cell (World.block_lt_of_cell? w _ hx772_0)).trans hx772_0; replace p772 := eq_true p772; replace q772 := eq_true q772; have p773 : 0 ≤ (x7_1 : Int) := of_decide_eq_true (by first | (with_reducible assumption) | assumption); have q773 : x7_1 < (l1.length : Int) := of_decide_eq_true (by first | (with_reducible assumption) | assumption); obtain ⟨ad773, e773, hx773_0⟩ := Kd.at_int HR1.out x7_1 p773 q773; obtain rfl : ad772 = ad773 := (by injection e773); replace hx773_0 := (HB.out.cell (World.block_lt_of_cell? w _ hx773_0)).trans hx773_0; replace p773 := eq_true p773; replace q773 := eq_true q773; obtain ⟨Ao27, co27, eo27⟩ := Kd.R_slice HO_6.out; subst eo27; have p774 : 0 ≤ (x7_1 : Int) := of_decide_eq_true (by first | (with_reducible assumption) | assumption); have q774 : x7_1 < (l1.length : Int) := of_decide_eq_true (by first | (with_reducible assumption) | assumption); obtain ⟨ad774, e774, hx774_0⟩ := Kd.at_int HR1.out x7_1 p774 q774; obtain rfl : ad772 = ad774 := (by injection e774); replace hx774_0 := (HB.out.cell (World.block_lt_of_cell? w _ hx774_0)).trans hx774_0; replace p774 := eq_true p774; replace q774 := eq_true q774; have p26 : 0 ≤ ((rd l1 x7_1) : Int) := of_decide_eq_true (by first | (with_reducible assumption) | assumption); have q26 : ((rd l1 x7_1) : Int) < ((x6_1.length : Int) : Int) := of_decide_eq_true (by first | (with_reducible assumption) | assumption); obtain ⟨go26, co26, eo26, gb26, gl26, cl26, HG26⟩ := Kd.R_form HO_6.out (by omega)
            (first | cases eo26 | (injection eo26 with ea_ en_ ec_; (first | subst ea_ | (injection ea_ with ea_; subst ea_)); subst ec_; clear en_))
            have GB26 := Aside0.mk gb26; have GG26 := Aside0.mk HG26; clear gb26 gl26 HG26; obtain ⟨hx26_0, hf26_0⟩ := Kd.R_celln false HO_6.out ((rd l1 x7_1) : Int) p26 q26; replace p26 := eq_true p26; replace q26 := eq_true q26; have HP28 := Kd.R_putg HO_6.out ((rd l1 x7_1) : Int) true
            go_wp2_with (first | ((with_reducible refine gate_store (t := 4) (p := 44) rfl ?_); refine store_event (t := 4) (p := 44) (v := ?vo_w29) (w1 := (wr.setCell ⟨go26, ((rd l1 x7_1) : Int).toNat, none⟩ (.bool true))) ?hg ?ho ?hn ?hr ?_; (case ho => rfl); (case hg => rfl); (case hn => rfl); (case hr => first | (go_simp; done) | (go_simp; rfl)); intro w29 hw; have hg : wr.grownBy w29 (some go26) := (by rw [hw]; exact HP28.2); have hp_ : Kd.R Kd.bool 4 w29 w.heap.size (fun _ => True) (.slice (some ⟨go26, 0, none⟩) x6_1.length co27) y775 := (by rw [hw, Ny775.out]; exact HP28.1); clear HP28; replace BK766 := Aside0.mk (blk_grown (bx BK766) hg (Kd.R_ne HO_6.out BK766.out (by decide))); replace BK767 := Aside0.mk (blk_grown (bx BK767) hg (Kd.R_ne HO_6.out BK767.out (by decide))); replace HO_6 := Aside0.mk (hp_); replace HB := Aside0.mk ((by rw [hw]; exact below_set (HB.out) GB26.out : Below w.heap.size w w29)); clear hg hw hp_))
            go_roundg k1
            case measure => have := HK1.out; omega
            case rel => exact ⟨(y775), (wrap64 (x7_1 + 1)), (x768000_1), (by first | rfl | (simp; done) | (simp [*]; done)), H', ⟨by have := HK1.out; omega⟩, ⟨rx HO_6⟩, ⟨bx BK766⟩, ⟨bx BK767⟩, ⟨hb2 HB GE766 GE767⟩⟩
           ·rw [if_neg c25] at H; exact absurd H (by simp)
          ·rw [if_neg c24] at H; exact absurd H (by simp)
       ·rw [if_neg c16] at H; exact absurd H (by simp)
      ·rw [if_neg c15] at H; have c15b0 : decide (x7_1 < (l1.length : Int)) = false := decide_eq_false c15; clear c15; have H' := Aside0.mk H; clear H; have hnb30 := NB766_767.out; have hnc30 := NB767_766.out; have hcz31_0 : wr.cell? ⟨gb766, 0, none⟩ = some (.int .i64 a0_0) := bc BK766 0; have hcz31_1 : wr.cell? ⟨gb766, 1, none⟩ = some (.slice A0_1 l0_1.length c0_1) := bc BK766 1; have hfz31_0 := blk_frozen BK766.out 0; have hfz31_1 := blk_frozen BK766.out 1
       go_wp2_with (first | ((with_reducible refine gate_dst (N := 8) rfl ?_); (try (refine gate_guard (by rfl) ?_; dsimp only)); refine be_ 8 #[.int .i64 0, .slice none 0 0] 25 ?_; intro gb776 hg w32 hbox hb; replace HO_6 := ry HO_6 hb; have BK776 := Aside0.mk (hbox); have GW776 := wq (hb2 HB GE766 GE767) hg; have GE776 := wq (hb2 HB GE766 GE767) hg; replace HB := hs (hb2 HB GE766 GE767) hb; have NB766_776 := lx BK766 hg; have NB776_766 := gx BK766 hg; replace BK766 := kx BK766 hb; have NB767_776 := lx BK767 hg; have NB776_767 := gx BK767 hg; replace BK767 := kx BK767 hb; clear hb hbox hg; have hnb33 := NB776_766.out; have hnc33 := NB766_776.out; have hnb34 := NB776_767.out; have hnc34 := NB767_776.out; have hcz35_0 : w32.cell? ⟨gb776, 0, none⟩ = some (.int .i64 0) := bc BK776 0; have hcz35_1 : w32.cell? ⟨gb776, 1, none⟩ = some (.slice none 0 0) := bc BK776 1; have hfz35_0 := blk_frozen BK776.out 0; have hfz35_1 := blk_frozen BK776.out 1))
       go_loopg [9] k1 (fun kq v9 w' => ∃ (x9_2 : Int) (x777001_2 : List (S46)) (u777001 : Value), v9 = .int .i64 x9_2 ∧ Aside0 (tangramref14_Sub.l1 kq x6_1 x9_2 a0_0 l0_1 a0_0 x777001_2 = some (r1, r2, r3)) ∧ Aside0 (kq ≤ k1) ∧ Aside0 (Kd.R Kd.bool 4 w' w.heap.size (fun _ => True) v770 x6_1) ∧ Aside0 (Kd.R k46 46 w' w.heap.size (fun _ => True) u777001 x777001_2) ∧ Aside0 (w'.heap[gb766]? = some (.cells #[.int .i64 a0_0, (.slice A0_1 l0_1.length c0_1)] 25 (0, 0))) ∧ Aside0 (w'.heap[gb767]? = some (.cells #[.int .i64 x768000_1, (.slice none 0 0)] 25 (0, 0))) ∧ Aside0 (w'.heap[gb776]? = some (.cells #[.int .i64 a0_0, u777001] 25 (0, 0))) ∧ Aside0 (Below w.heap.size w w'))
       case atStart => exact ⟨(0), (([] : List (S46))), (.slice none 0 0), (by first | rfl | (simp; done) | (simp [*]; done)), H', ⟨Nat.le_refl _⟩, ⟨Kd.R_mono (rf HO_6 BK776) (fun _ hk => trivial)⟩, ⟨by first | exact Kd.R_nil _ _ _ _ _ | exact Kd.N_nil _ _ _ _ _ | exact Kd.V_nil _ _ _ _ _ | exact Kd.Q_nil _ _ _ _ _ | exact Kd.S_nil _ _ _ _ _⟩, ⟨bx1 BK766 NB766_776⟩, ⟨bx1 BK767 NB767_776⟩, ⟨bp BK776⟩, ⟨hb3 HB GE766 GE767 GE776⟩⟩
       case round =>
        clear H'
        try clear c1
        try clear c2
        try clear p2
        try clear q2
        try clear hx2
        try clear hf2
        try clear c3
        try clear c4
        try clear c5
        try clear c5b0
        try clear c5b1
        try clear c6
        try clear c6b0
        try clear c6b1
        try clear p6
        try clear p7
        try clear q7
        try clear hx7
        try clear c9
        try clear c11
        try clear c15
        try clear c15b0
        try clear c16
        try clear c16b0
        try clear c17
        try clear c17b0
        try clear c18
        try clear c20
        try clear c20b0
        try clear c22
        try clear c23
        try clear c24
        try clear c24b0
        try clear c25
        try clear c25b0
        try clear p26
        try clear q26
        try clear hx26
        try clear hf26
        try clear c30
        try clear c33
        try clear c34
        try clear hcz10_0
        try clear hcz10_1
        try clear hcz12_0
        try clear hcz12_1
        try clear hcz19_0
        try clear hcz19_1
        try clear hcz23_0
        try clear hcz23_1
        try clear hcz31_0
        try clear hcz31_1
        try clear hcz35_0
        try clear hcz35_1
        try clear hfz10_0
        try clear hfz10_1
        try clear hfz12_0
        try clear hfz12_1
        try clear hfz19_0
        try clear hfz19_1
        try clear hfz23_0
        try clear hfz23_1
        try clear hfz31_0
        try clear hfz31_1
        try clear hfz35_0
        try clear hfz35_1
        try clear hx26_0
        try clear hx772_0
        try clear hx773_0
        try clear hx774_0
        try clear p2
        try clear p26
        try clear p772
        try clear p773
        try clear p774
        try clear q26
        try clear q772
        try clear q773
        try clear q774
        obtain ⟨x9_2, x777001_2, u777001, rfl, HA, HK2, HO_6, HO_777001, BK766, BK767, BK776, HB⟩ := hrel
        cases gk with
        | zero => exact absurd HA.out (by simp [tangramref14_Sub.l1])
        | succ k2 =>
         have H := HA.out; clear HA; simp only [tangramref14_Sub.l1] at H
         by_cases c36 : x9_2 < (x6_1.length : Int)
         ·rw [if_pos c36] at H; have c36b0 : decide (x9_2 < (x6_1.length : Int)) = true := decide_eq_true c36; clear c36
          by_cases c37 : 0 ≤ x9_2
          ·rw [if_pos c37] at H; have c37b0 : decide (0 ≤ x9_2) = true := decide_eq_true c37; clear c37; obtain ⟨bq38, hbq38⟩ : ∃ b_ : Bool, b_ = (rdOf false x6_1 x9_2) := ⟨_, rfl⟩; replace H : (if bq38 = true then (if x9_2 < (l0_1.length : Int) then (if x777001_2.length < 8796093022208 then (tangramref14_Sub.l1 k2 x6_1 (wrap64 (x9_2 + 1)) a0_0 l0_1 a0_0 (x777001_2 ++ [(⟨(rd_T46 l0_1 x9_2).f0, (rd_T46 l0_1 x9_2).f1⟩ : S46)])) else (none)) else (none)) else (tangramref14_Sub.l1 k2 x6_1 (wrap64 (x9_2 + 1)) a0_0 l0_1 a0_0 x777001_2)) = some (r1, r2, r3) := by rw [← hbq38] at H; exact H
           have Nbq38 := Aside0.mk hbq38; clear hbq38
           by_cases c39 : bq38 = true
           ·subst c39; have H1 : (if x9_2 < (l0_1.length : Int) then (if x777001_2.length < 8796093022208 then (tangramref14_Sub.l1 k2 x6_1 (wrap64 (x9_2 + 1)) a0_0 l0_1 a0_0 (x777001_2 ++ [(⟨(rd_T46 l0_1 x9_2).f0, (rd_T46 l0_1 x9_2).f1⟩ : S46)])) else (none)) else (none)) = some (r1, r2, r3) := by rw [if_pos rfl] at H; exact H
            clear H; have H := H1; clear H1
            by_cases c40 : x9_2 < (l0_1.length : Int)
            ·rw [if_pos c40] at H; have c40b0 : decide (x9_2 < (l0_1.length : Int)) = true := decide_eq_true c40; clear c40
             by_cases c41 : x777001_2.length < 8796093022208
             ·rw [if_pos c41] at H; have LMc41 := Aside0.mk c41; clear c41; obtain ⟨y779, hy779⟩ : ∃ y_ : List (S46), y_ = (x777001_2 ++ [(⟨(rd_T46 l0_1 x9_2).f0, (rd_T46 l0_1 x9_2).f1⟩ : S46)]) := ⟨_, rfl⟩; replace H : (tangramref14_Sub.l1 k2 x6_1 (wrap64 (x9_2 + 1)) a0_0 l0_1 a0_0 y779) = some (r1, r2, r3) := by first | (rw [hy779]; with_reducible exact H) | (have H2_ := (Option.bind_some _ _).symm.trans H; rw [hy779]; with_reducible exact H2_) | (have H2_ := (Option.bind_some _ _).symm.trans H; with_reducible exact H2_) | with_reducible exact H | (rw [hy779]; exact H) | exact H
              have Ny779 := Aside0.mk hy779; clear hy779; have H' := Aside0.mk H; clear H; obtain ⟨Ao42, co42, eo42⟩ := Kd.R_slice HO_6.out; subst eo42; have p777 : 0 ≤ (x9_2 : Int) := of_decide_eq_true (by first | (with_reducible assumption) | assumption); have q777 : x9_2 < (x6_1.length : Int) := of_decide_eq_true (by first | (with_reducible assumption) | assumption); obtain ⟨ad777, e777, hx777_0⟩ := Kd.at_bool (Kd.R_reads' HO_6.out).2.2 x9_2 p777 q777
              (try rw [← Nbq38.out] at hx777_0)
              cases e777
              replace p777 := eq_true p777; replace q777 := eq_true q777
              try go_wp2
              replace HO_6 := rd HO_6; replace HO_777001 := rd HO_777001; replace BK766 := bd BK766; replace BK767 := bd BK767; replace BK776 := bd BK776; replace HB := Aside0.mk (below_drew1 HB.out); have p778 : 0 ≤ (x9_2 : Int) := of_decide_eq_true (by first | (with_reducible assumption) | assumption); have q778 : x9_2 < (l0_1.length : Int) := of_decide_eq_true (by first | (with_reducible assumption) | assumption); obtain ⟨ad778, e778, hx778_0, hx778_1⟩ := at_T46 HR0_1.out x9_2 p778 q778; have hw778_1 := hx778_1; have hw778_0 := hx778_0
              cases e778
              replace hx778_0 := (HB.out.cell (World.block_lt_of_cell? w _ hx778_0)).trans hx778_0; replace hx778_1 := (HB.out.cell (World.block_lt_of_cell? w _ hx778_1)).trans hx778_1; replace p778 := eq_true p778; replace q778 := eq_true q778; refine start_ (n := 11) (S := fun w' => w'.cell? ⟨gb776, 0, none⟩ = some (.int .i64 a0_0) ∧ w'.cell? ⟨gb776, 1, none⟩ = some (u777001) ∧ w'.cell? ⟨gb766, 0, none⟩ = some (.int .i64 a0_0) ∧ w'.cell? ⟨gb766, 1, none⟩ = some (.slice (some ad778) l0_1.length c0_1) ∧ w'.cell? (ad778.add ((x9_2).toNat * 2)) = some (.int .i64 ((rd_T46 l0_1 x9_2).f0)) ∧ w'.cell? ⟨(ad778.add ((x9_2).toNat * 2)).block, (ad778.add ((x9_2).toNat * 2)).off + 1, none⟩ = some (.int .i64 ((rd_T46 l0_1 x9_2).f1))) (ds := [10]) (pf 0 11) (by kernel_rfl) rfl rfl ⟨bc BK776 0, bc BK776 1, bc BK766 0, bc BK766 1, ((HB.out.cell (World.block_lt_of_cell? w _ hw778_0)).trans hw778_0), ((HB.out.cell (World.block_lt_of_cell? w _ hw778_1)).trans hw778_1)⟩ (fun hHeld => ?_); refine with_tabW tangramref14_Sub.tab15 tangramref14_Sub.bits15 (fun HT_ HW_ => ?_); generalize wr.drew = w43 at HO_6 HO_777001 BK766 BK767 BK776 HB hx778_0 hx778_1 hHeld ⊢; refine pu_ 0 (some 58) (pf 1 11) HT_ ?_; refine pu_ 2 (some 60) #[T_,F_,T_,F_,F_,F_,F_,F_,F_,F_,F_] HT_ ?_; refine pu_ 4 (some 62) #[T_,F_,T_,F_,T_,F_,F_,F_,F_,F_,F_] HT_ ?_; refine tk6_ 1 (some 59) #[T_,T_,T_,F_,T_,F_,F_,F_,F_,F_,F_] HT_ HW_ hHeld ?_; refine tk6_ 3 (some 61) (pf 5 11) HT_ HW_ hHeld ?_
              refine pu_ 5 (some 63) (pf 6 11) HT_ ?_; refine tk6_ 6 (some 64) (pf 7 11) HT_ HW_ hHeld ?_; refine on_ 7 (some 65) (pf 8 11) HT_ (fun K hK => ?_); refine value_ (w1 := ?_) (v := ?_) (by rfl) rfl ?_ ?_; rotate_left 2
              ·go_simp
               constructor
               ·rfl
               ·rfl
              refine hK.out _ _ ⟨(blk_cell (blk_alloc BK776.out _) 0).trans rfl, (blk_cell (blk_alloc BK776.out _) 1).trans rfl, (blk_cell (blk_alloc BK766.out _) 0).trans rfl, (blk_cell (blk_alloc BK766.out _) 1).trans rfl, (World.cell?_alloc_lt _ _ _ (World.block_lt_of_cell? _ _ (((HB.out.cell (World.block_lt_of_cell? w _ hw778_0)).trans hw778_0)))).trans (((HB.out.cell (World.block_lt_of_cell? w _ hw778_0)).trans hw778_0)), (World.cell?_alloc_lt _ _ _ (World.block_lt_of_cell? _ _ (((HB.out.cell (World.block_lt_of_cell? w _ hw778_1)).trans hw778_1)))).trans (((HB.out.cell (World.block_lt_of_cell? w _ hw778_1)).trans hw778_1))⟩ (fun hHeld => ?_); clear hK K; refine nm_ (some 65) ?_; refine on_ 8 (some 66) (pf 9 11) HT_ (fun K hK => ?_); refine Kd.R_append_step k46 (w0 := w) w.heap.size (by rfl) (.tmp 59) (.tmp 65) 23 46 (.agg #[(.int .i64 0), (.int .i64 0)]) 16 rfl Try.underlying23 info46 rfl (by decide) (by omega) u777001 x777001_2 (⟨(rd_T46 l0_1 x9_2).f0, (rd_T46 l0_1 x9_2).f1⟩ : S46) [.int .i64 ((rd_T46 l0_1 x9_2).f0), .int .i64 ((rd_T46 l0_1 x9_2).f1)] (fun _ => True) (fun _ => False) rfl rfl ?aP (fun _ hk => hk.elim) ?aF ?aO ?aB ?aS ?aL ?_
              (case aP => exact k46_mkM _ _ _ (⟨(rd_T46 l0_1 x9_2).f0, (rd_T46 l0_1 x9_2).f1⟩ : S46))
              (case aB => exact (hb3 HB GE766 GE767 GE776))
              (case aF => exact (fun _ _ => trivial))
              (case aO => exact (rx HO_777001))
              (case aS => exact (below_size (hb3 HB GE766 GE767 GE776)))
              (case aL => have := LMc41.out; omega)
              intro v780 w44 ho hb hg hat; rw [← Ny779.out] at ho; have n0_ := Aside0.mk (Kd.R_over' (rx HO_6) (Kd.R_typed (rx HO_777001)) (by decide) hg); have n1_ := Aside0.mk (blk_grown (bx BK766) hg (Kd.R_ne HO_777001.out BK766.out (by decide))); have n2_ := Aside0.mk (blk_grown (bx BK767) hg (Kd.R_ne HO_777001.out BK767.out (by decide))); have n3_ := Aside0.mk (blk_grown (bx BK776) hg (Kd.R_ne HO_777001.out BK776.out (by decide))); have n4_ := Aside0.mk (hb); have n5_ := Aside0.mk (ho); clear HO_6 BK766 BK767 BK776 HB HO_777001; have HO_6 := n0_; have BK766 := n1_; have BK767 := n2_; have BK776 := n3_; have HB := n4_; have HO781 := n5_; clear n0_ n1_ n2_ n3_ n4_ n5_ ho hb hg hat; obtain ⟨Ao45, co45, eo45⟩ := Kd.R_slice HO781.out
              (first | subst eo45 | obtain ⟨rfl, rfl⟩ := sx eo45)
              refine hK.out _ _ ⟨bc BK776 0, bc BK776 1, bc BK766 0, bc BK766 1, ((HB.out.cell (World.block_lt_of_cell? w _ hw778_0)).trans hw778_0), ((HB.out.cell (World.block_lt_of_cell? w _ hw778_1)).trans hw778_1)⟩ (fun hHeld => ?_); clear hK K; refine nm_ (some 66) ?_; refine pu_ 9 (some 67) (pf 10 11) HT_ ?_; refine last_ (i := 10) (N := none) (pf 11 11) rfl rfl (one_of HT_.out (by kernel_rfl)) (by decide) (fun K hK => ?_); have hs46 : w44.cell? ⟨gb776, 1, none⟩ = some (u777001) := bc BK776 1; have hfs46 := blk_frozen BK776.out 1; have hns46_0 := NB766_776.out; have hns46_1 := NB767_776.out; have hms46_0 := NB776_766.out; have hms46_1 := NB776_767.out; refine skip_ (w1 := ?_) (by rfl) rfl ?_ ?_; rotate_left
              ·go_simp; rfl
              refine hK.out _ _ ?_; clear hK K; refine done_ (done_of HT_.out (by kernel_rfl)) ?_
              try go_wp2
              go_roundg k2
              case measure => have := HK1.out; have := HK2.out; omega
              case rel => exact ⟨(wrap64 (x9_2 + 1)), (y779), (.slice Ao45 y779.length co45), (by first | rfl | (simp; done) | (simp [*]; done)), H', ⟨by have := HK1.out; have := HK2.out; omega⟩, ⟨Kd.R_mono (rf HO_6 BK776) (fun _ hk => trivial)⟩, ⟨Kd.R_mono (rf HO781 BK776) (fun _ hk => trivial)⟩, ⟨bx1 BK766 NB766_776⟩, ⟨bx1 BK767 NB767_776⟩, ⟨bp BK776⟩, ⟨hb3 HB GE766 GE767 GE776⟩⟩
             ·rw [if_neg c41] at H; exact absurd H (by simp)
            ·rw [if_neg c40] at H; exact absurd H (by simp)
           ·replace c39 := Bool.eq_false_iff.mpr c39; subst c39; have H1 : (tangramref14_Sub.l1 k2 x6_1 (wrap64 (x9_2 + 1)) a0_0 l0_1 a0_0 x777001_2) = some (r1, r2, r3) := by rw [if_neg (show ¬ (false = true) by decide)] at H; exact H
            clear H; have H := H1; clear H1; have H' := Aside0.mk H; clear H; obtain ⟨Ao47, co47, eo47⟩ := Kd.R_slice HO_6.out; subst eo47; have p777 : 0 ≤ (x9_2 : Int) := of_decide_eq_true (by first | (with_reducible assumption) | assumption); have q777 : x9_2 < (x6_1.length : Int) := of_decide_eq_true (by first | (with_reducible assumption) | assumption); obtain ⟨ad777, e777, hx777_0⟩ := Kd.at_bool (Kd.R_reads' HO_6.out).2.2 x9_2 p777 q777
            (try rw [← Nbq38.out] at hx777_0)
            cases e777
            replace p777 := eq_true p777; replace q777 := eq_true q777
            go_wp2
            go_roundg k2
            case measure => have := HK1.out; have := HK2.out; omega
            case rel => exact ⟨(wrap64 (x9_2 + 1)), (x777001_2), (u777001), (by first | rfl | (simp; done) | (simp [*]; done)), H', ⟨by have := HK1.out; have := HK2.out; omega⟩, ⟨rx HO_6⟩, ⟨rx HO_777001⟩, ⟨bx BK766⟩, ⟨bx BK767⟩, ⟨bx BK776⟩, ⟨hb3 HB GE766 GE767 GE776⟩⟩
          ·rw [if_neg c37] at H; exact absurd H (by simp)
         ·rw [if_neg c36] at H; have c36b0 : decide (x9_2 < (x6_1.length : Int)) = false := decide_eq_false c36; clear c36; simp only [Option.some.injEq, Prod.mk.injEq] at H; obtain ⟨rfl, rfl, rfl⟩ := H; obtain ⟨Ao48, co48, eo48⟩ := Kd.R_slice HO_6.out; subst eo48; have hnb49 := NB776_766.out; have hnc49 := NB766_776.out; have hnb50 := NB776_767.out; have hnc50 := NB767_776.out; have hcz51_0 : wr.cell? ⟨gb776, 0, none⟩ = some (.int .i64 a0_0) := bc BK776 0; have hcz51_1 : wr.cell? ⟨gb776, 1, none⟩ = some (u777001) := bc BK776 1; have hfz51_0 := blk_frozen BK776.out 0; have hfz51_1 := blk_frozen BK776.out 1; have hnb52 := NB767_766.out; have hnc52 := NB766_767.out; have hcz53_0 : wr.cell? ⟨gb767, 0, none⟩ = some (.int .i64 x768000_1) := bc BK767 0; have hcz53_1 : wr.cell? ⟨gb767, 1, none⟩ = some (.slice none 0 0) := bc BK767 1; have hfz53_0 := blk_frozen BK767.out 0; have hfz53_1 := blk_frozen BK767.out 1; obtain ⟨Ao54, co54, eo54⟩ := Kd.R_slice HO_777001.out; subst eo54
          go_wp2
          refine bodyPost_ret (results_ct rfl _ _ gb767 25 #[.int .i64 a0_0, .slice Ao54 x777001_2.length co54] (0, 0) _ rfl (bp BK767) Try.underlying25 rfl (by kernel_rfl)) rfl ?_; exact ⟨_, by first | rfl | (simp [errW_none, errW_some] <;> rfl) | (simp [*, errW_none, errW_some] <;> rfl), Kd.R_mono (rf HO_777001 BK767) (fun _ hk => trivial), hb3 HB GE766 GE767 GE776⟩
   ·rw [if_neg c6] at H; exact absurd H (by simp)
  ·rw [if_neg c5] at H; exact absurd H (by simp)
 ·replace c4 := Bool.eq_false_iff.mpr c4; subst c4; have H1 : (some (0, ([] : List (S46)), 1)) = some (r1, r2, r3) := by rw [if_neg (show ¬ (false = true) by decide)] at H; exact H
  clear H; have H := H1; clear H1; simp only [Option.some.injEq, Prod.mk.injEq] at H; obtain ⟨rfl, rfl, rfl⟩ := H
  go_enter Try.func23, Try.ntmps23
  go_wp2_with (first | ((with_reducible refine gate_dst (N := 2) rfl ?_); (try (refine gate_guard (by rfl) ?_; dsimp only)); refine be_ 2 #[.int .i64 a0_0, .slice A0_1 l0_1.length c0_1] 25 ?_; intro gb766 hg w55 hbox hb; have BK766 := Aside0.mk (hbox); have GW766 := wq (hb0 HB) hg; have GE766 := wq (hb0 HB) hg; replace HB := hs (hb0 HB) hb; clear hb hbox hg) | ((with_reducible refine gate_dst (N := 4) rfl ?_); (try (refine gate_guard (by rfl) ?_; dsimp only)); refine be_ 4 #[.int .i64 0, .slice none 0 0] 25 ?_; intro gb767 hg w56 hbox hb; have BK767 := Aside0.mk (hbox); have GW767 := wq (hb1 HB GE766) hg; have GE767 := wq (hb1 HB GE766) hg; replace HB := hs (hb1 HB GE766) hb; have NB766_767 := lx BK766 hg; have NB767_766 := gx BK766 hg; replace BK766 := kx BK766 hb; clear hb hbox hg; have hnb57 := NB766_767.out; have hnc57 := NB767_766.out; have hcz58_0 : w56.cell? ⟨gb766, 0, none⟩ = some (.int .i64 a0_0) := bc BK766 0; have hcz58_1 : w56.cell? ⟨gb766, 1, none⟩ = some (.slice A0_1 l0_1.length c0_1) := bc BK766 1; have hfz58_0 := blk_frozen BK766.out 0; have hfz58_1 := blk_frozen BK766.out 1) | ((with_reducible refine gate_callee (f := 11) rfl ?_); refine gl_ (some 11) Try.func11 #[.agg #[.int .i64 a0_0, .slice A0_1 l0_1.length c0_1]] ?_; (with_reducible refine (tangramref03_Valid.calls k a0_0 _ _ l0_1 false _ ?side1 ?side2 A3.out).mono ?_); (case side1 => repeat (first | exact (Kd.C_below HR0_1.out HB.out) | (with_reducible refine Kd.C_alloc ?_ _) | (with_reducible refine Kd.C_drewN ?_ _) | (with_reducible refine Kd.C_drew ?_))); (case side2 => exact HC0_1.out); rintro e w59 ⟨rfl, hb⟩; refine ⟨_, rfl, ?_⟩; replace BK766 := kx BK766 hb; replace BK767 := kx BK767 hb; replace HB := hs (hb2 HB GE766 GE767) hb; (try clear hb); (try clear hb2); (try clear hk); (try clear hi); have hcz60_0 : w59.cell? ⟨gb767, 0, none⟩ = some (.int .i64 0) := bc BK767 0; have hcz60_1 : w59.cell? ⟨gb767, 1, none⟩ = some (.slice none 0 0) := bc BK767 1; have hfz60_0 := blk_frozen BK767.out 0; have hfz60_1 := blk_frozen BK767.out 1))
  refine bodyPost_ret (results_ct rfl _ _ gb767 25 #[.int .i64 0, .slice none 0 0] (0, 0) _ rfl (bp BK767) Try.underlying25 rfl (by kernel_rfl)) rfl ?_; exact ⟨_, by first | rfl | (simp [errW_none, errW_some] <;> rfl) | (simp [*, errW_none, errW_some] <;> rfl), by first | exact Kd.R_nil _ _ _ _ _ | exact Kd.N_nil _ _ _ _ _ | exact Kd.V_nil _ _ _ _ _ | exact Kd.Q_nil _ _ _ _ _ | exact Kd.S_nil _ _ _ _ _, hb2 HB GE766 GE767⟩

end Go.Proofs.Ytdaeaejmikhmcaa.PEditC
