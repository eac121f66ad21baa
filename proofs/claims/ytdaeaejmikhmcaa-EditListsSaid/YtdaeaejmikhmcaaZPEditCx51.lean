-- PRINTED by print.py (a twelfth state) out of the translation. Not trusted: Lean checks it.
import Derived.Test.YtdaeaejmikhmcaaZPEditCx0
import Derived.Test.YtdaeaejmikhmcaaZPEditCx26
import Derived.Test.YtdaeaejmikhmcaaZPEditCx48
namespace Go.Proofs.Ytdaeaejmikhmcaa.PEditC
open Go.RowKit Go.Proofs.YtdaeaejmikhmcaaW.PrintWords Go.Proofs.YtdaeaejmikhmcaaW.PrintLast Go.Proofs.YtdaeaejmikhmcaaW.PrintMore
open Go.Proofs.YtdaeaejmikhmcaaX
attribute [local go_sem] max2_int min2_int max_two min_two max_three min_three max_four min_four   -- for this text's walks alone
set_option linter.unusedVariables false
set_option linter.unusedSimpArgs false

/-! ### tangramref14_Bare: function 26 -/
mutual
def tangramref14_Bare.l0 : Nat → List Int → Int → Int → List (S46) → Option (Int × (List (S46)) × List Int × Int)
 | 0, _, _, _, _ => none
 | k + 1, x5, x6, x822000, x822001 => if x6 < (x822001.length : Int) then (if 0 ≤ x6 then (if 0 ≤ ((rd_T46 x822001 x6).f0) then (if ((rd_T46 x822001 x6).f0) < (x5.length : Int) then (if 0 ≤ ((rd_T46 x822001 x6).f1) then (if ((rd_T46 x822001 x6).f1) < (x5.length : Int) then (tangramref14_Bare.l0 k ((x5.set (((rd_T46 x822001 x6).f0) : Int).toNat 1).set (((rd_T46 x822001 x6).f1) : Int).toNat 1) (wrap64 (x6 + 1)) x822000 x822001) else (none)) else (none)) else (none)) else (none)) else (none)) else (tangramref14_Bare.l1 k x5 ([] : List Int) 0 x822000 x822001)
def tangramref14_Bare.l1 : Nat → List Int → List Int → Int → Int → List (S46) → Option (Int × (List (S46)) × List Int × Int)
 | 0, _, _, _, _, _ => none
 | k + 1, x5, x7, x8, x822000, x822001 => if x8 < x822000 then (if 0 ≤ x8 then (if x8 < (x5.length : Int) then (if (rd x5 x8) = 0 then (tangramref14_Bare.l1 k (x5.set (x8 : Int).toNat (-1)) x7 (wrap64 (x8 + 1)) x822000 x822001) else (if x7.length < 17592186044416 then (tangramref14_Bare.l1 k (x5.set (x8 : Int).toNat (x7.length : Int)) (x7 ++ [x8]) (wrap64 (x8 + 1)) x822000 x822001) else (none))) else (none)) else (none)) else ((tangramref14_Named.f k x822000 x822001 x5).bind fun t837 => (some ((x7.length : Int), t837, x7, 0)))
end
def tangramref14_Bare.f (k : Nat) (a0_0 : Int) (l0_1 : List (S46)) : Option (Int × (List (S46)) × List Int × Int) := (tangramref03_Valid.f k a0_0 l0_1).bind fun t823 => (if t823 = true then (if 0 ≤ a0_0 then (if (a0_0 : Int).toNat ≤ 35184372088832 then (tangramref14_Bare.l0 k (List.replicate (a0_0 : Int).toNat 0) 0 a0_0 l0_1) else (none)) else (none)) else (some (0, ([] : List (S46)), ([] : List Int), 1)))
theorem tangramref14_Bare.mono_l : ∀ k, (∀ y0 y1 y2 y3, LeO (tangramref14_Bare.l0 k y0 y1 y2 y3) (tangramref14_Bare.l0 (k + 1) y0 y1 y2 y3)) ∧ (∀ y0 y1 y2 y3 y4, LeO (tangramref14_Bare.l1 k y0 y1 y2 y3 y4) (tangramref14_Bare.l1 (k + 1) y0 y1 y2 y3 y4))
 | 0 => ⟨fun _ _ _ _ r h => by simp [tangramref14_Bare.l0] at h, fun _ _ _ _ _ r h => by simp [tangramref14_Bare.l1] at h⟩
 | k + 1 => by
  obtain ⟨ih0, ih1⟩ := tangramref14_Bare.mono_l k; refine ⟨?_, ?_⟩
  ·intro y0 y1 y2 y3
   unfold tangramref14_Bare.l0
   repeat' first
   | (with_reducible exact ih0 _ _ _ _)
   | (with_reducible exact ih1 _ _ _ _ _)
   | (with_reducible exact tangramref03_Valid.mono _ _ _)
   | (with_reducible exact tangramref14_Named.mono _ _ _ _)
   | (with_reducible exact LeO.refl _)
   | (with_reducible exact LeO.none _)
   | (with_reducible refine LeO.ite ?_ ?_)
   | (with_reducible refine LeO.bind ?_ (fun _ => ?_))
   | exact ih0 _ _ _ _
   | exact ih1 _ _ _ _ _
   | exact tangramref03_Valid.mono _ _ _
   | exact tangramref14_Named.mono _ _ _ _
   | exact LeO.none _
   | refine LeO.ite ?_ ?_
   | refine LeO.bind ?_ (fun _ => ?_)
  ·intro y0 y1 y2 y3 y4
   unfold tangramref14_Bare.l1
   repeat' first
   | (with_reducible exact ih0 _ _ _ _)
   | (with_reducible exact ih1 _ _ _ _ _)
   | (with_reducible exact tangramref03_Valid.mono _ _ _)
   | (with_reducible exact tangramref14_Named.mono _ _ _ _)
   | (with_reducible exact LeO.refl _)
   | (with_reducible exact LeO.none _)
   | (with_reducible refine LeO.ite ?_ ?_)
   | (with_reducible refine LeO.bind ?_ (fun _ => ?_))
   | exact ih0 _ _ _ _
   | exact ih1 _ _ _ _ _
   | exact tangramref03_Valid.mono _ _ _
   | exact tangramref14_Named.mono _ _ _ _
   | exact LeO.none _
   | refine LeO.ite ?_ ?_
   | refine LeO.bind ?_ (fun _ => ?_)
theorem tangramref14_Bare.mono : ∀ a0 a1 k, LeO (tangramref14_Bare.f k a0 a1) (tangramref14_Bare.f (k + 1) a0 a1) := by
 intro a0 a1 k; obtain ⟨ih0, ih1⟩ := tangramref14_Bare.mono_l k
 unfold tangramref14_Bare.f
 repeat' first
   | (with_reducible exact ih0 _ _ _ _)
   | (with_reducible exact ih1 _ _ _ _ _)
   | (with_reducible exact tangramref03_Valid.mono _ _ _)
   | (with_reducible exact tangramref14_Named.mono _ _ _ _)
   | (with_reducible exact LeO.refl _)
   | (with_reducible exact LeO.none _)
   | (with_reducible refine LeO.ite ?_ ?_)
   | (with_reducible refine LeO.bind ?_ (fun _ => ?_))
   | exact ih0 _ _ _ _
   | exact ih1 _ _ _ _ _
   | exact tangramref03_Valid.mono _ _ _
   | exact tangramref14_Named.mono _ _ _ _
   | exact LeO.none _
   | refine LeO.ite ?_ ?_
   | refine LeO.bind ?_ (fun _ => ?_)
set_option maxHeartbeats 8000000 in
set_option maxRecDepth 100000 in
theorem tangramref14_Bare.calls (k : Nat) (a0_0 : Int) (A0_1 : Option Addr) (c0_1 : Nat) (l0_1 : List (S46)) (r1 : Int) (r2 : List (S46)) (r3 : List Int) (r4 : Int) (w : World) (hr0_1 : Kd.C k46 w A0_1 l0_1.length l0_1) (hc0_1 : l0_1.length ≤ c0_1) (h : tangramref14_Bare.f k a0_0 l0_1 = some (r1, r2, r3, r4)) :
  Calls Try.prog 26 #[.agg #[.int .i64 a0_0, .slice A0_1 l0_1.length c0_1]] w fun e w' => ∃ v1_ v2_ : Value, e = .returned (.tuple #[.agg #[.int .i64 r1, v1_], v2_, .int .i64 r4]) ∧ Kd.R k46 46 w' w.heap.size (fun _ => True) v1_ r2 ∧ Kd.R (Kd.int .i64) 3 w' w.heap.size (fun _ => True) v2_ r3 ∧ Below w.heap.size w w' := by
 have hu25 := Try.underlying25; have HR0_1 := Aside0.mk hr0_1; have HC0_1 := Aside0.mk hc0_1; clear hr0_1 hc0_1; have HB := Aside0.mk (Below.refl w.heap.size w); have H : ((tangramref03_Valid.f k a0_0 l0_1).bind fun t823 => (if t823 = true then (if 0 ≤ a0_0 then (if (a0_0 : Int).toNat ≤ 35184372088832 then (tangramref14_Bare.l0 k (List.replicate (a0_0 : Int).toNat 0) 0 a0_0 l0_1) else (none)) else (none)) else (some (0, ([] : List (S46)), ([] : List Int), 1)))) = some (r1, r2, r3, r4) := h; clear h; replace H := Option.bind_eq_some_iff.mp H; obtain ⟨t823, A20, H⟩ := H; replace H : (if t823 = true then (if 0 ≤ a0_0 then (if (a0_0 : Int).toNat ≤ 35184372088832 then (tangramref14_Bare.l0 k (List.replicate (a0_0 : Int).toNat 0) 0 a0_0 l0_1) else (none)) else (none)) else (some (0, ([] : List (S46)), ([] : List Int), 1))) = some (r1, r2, r3, r4) := H; have A2 := Aside0.mk A20; clear A20
 by_cases c3 : t823 = true
 ·subst c3; have H1 : (if 0 ≤ a0_0 then (if (a0_0 : Int).toNat ≤ 35184372088832 then (tangramref14_Bare.l0 k (List.replicate (a0_0 : Int).toNat 0) 0 a0_0 l0_1) else (none)) else (none)) = some (r1, r2, r3, r4) := by rw [if_pos rfl] at H; exact H
  clear H; have H := H1; clear H1
  by_cases c4 : 0 ≤ a0_0
  ·rw [if_pos c4] at H; have c4b0 := eq_true c4; have c4b1 : decide (0 ≤ a0_0) = true := decide_eq_true c4; clear c4
   by_cases c5 : (a0_0 : Int).toNat ≤ 35184372088832
   ·rw [if_pos c5] at H; have c5b0 := eq_true c5; have c5b1 : decide ((a0_0 : Int).toNat ≤ 35184372088832) = true := decide_eq_true c5; clear c5; obtain ⟨y824, hy824⟩ : ∃ y_ : List Int, y_ = (List.replicate (a0_0 : Int).toNat 0) := ⟨_, rfl⟩; replace H : (tangramref14_Bare.l0 k y824 0 a0_0 l0_1) = some (r1, r2, r3, r4) := by first | (rw [hy824]; with_reducible exact H) | (have H2_ := (Option.bind_some _ _).symm.trans H; rw [hy824]; with_reducible exact H2_) | (have H2_ := (Option.bind_some _ _).symm.trans H; with_reducible exact H2_) | with_reducible exact H | (rw [hy824]; exact H) | exact H
    have Ny824 := Aside0.mk hy824; clear hy824; have H' := Aside0.mk H; clear H
    go_enter Try.func26, Try.ntmps26
    go_wp2_with (first | ((with_reducible refine gate_dst (N := 1) rfl ?_); refine be_ 1 #[.int .i64 a0_0, .slice A0_1 l0_1.length c0_1] 25 ?_; intro gb821 hg w6 hbox hb; have BK821 := Aside0.mk (hbox); have GW821 := wq (hb0 HB) hg; have GE821 := wq (hb0 HB) hg; replace HB := hs (hb0 HB) hb; clear hb hbox hg) | ((with_reducible refine gate_dst (N := 2) rfl ?_); refine be_ 2 #[.int .i64 0, .slice none 0 0] 25 ?_; intro gb822 hg w7 hbox hb; have BK822 := Aside0.mk (hbox); have GW822 := wq (hb1 HB GE821) hg; have GE822 := wq (hb1 HB GE821) hg; replace HB := hs (hb1 HB GE821) hb; have NB821_822 := lx BK821 hg; have NB822_821 := gx BK821 hg; replace BK821 := kx BK821 hb; clear hb hbox hg; have hnb8 := NB821_822.out; have hnc8 := NB822_821.out; have hcz9_0 : w7.cell? ⟨gb821, 0, none⟩ = some (.int .i64 a0_0) := bc BK821 0; have hcz9_1 : w7.cell? ⟨gb821, 1, none⟩ = some (.slice A0_1 l0_1.length c0_1) := bc BK821 1; have hfz9_0 := blk_frozen BK821.out 0; have hfz9_1 := blk_frozen BK821.out 1) | ((with_reducible refine gate_callee (f := 11) rfl ?_); refine gl_ (some 10) Try.func11 #[.agg #[.int .i64 a0_0, .slice A0_1 l0_1.length c0_1]] ?_; (with_reducible refine (tangramref03_Valid.calls k a0_0 _ _ l0_1 true _ ?side1 ?side2 A2.out).mono ?_); (case side1 => repeat (first | exact (Kd.C_below HR0_1.out HB.out) | (with_reducible refine Kd.C_alloc ?_ _) | (with_reducible refine Kd.C_drewN ?_ _) | (with_reducible refine Kd.C_drew ?_))); (case side2 => exact HC0_1.out); rintro e w10 ⟨rfl, hb⟩; refine ⟨_, rfl, ?_⟩; replace BK821 := kx BK821 hb; replace BK822 := kx BK822 hb; replace HB := hs (hb2 HB GE821 GE822) hb; (try clear hb); (try clear hb2); (try clear hk); (try clear hi); have hcz11_0 : w10.cell? ⟨gb821, 0, none⟩ = some (.int .i64 a0_0) := bc BK821 0; have hcz11_1 : w10.cell? ⟨gb821, 1, none⟩ = some (.slice A0_1 l0_1.length c0_1) := bc BK821 1; have hfz11_0 := blk_frozen BK821.out 0; have hfz11_1 := blk_frozen BK821.out 1) | ((with_reducible refine gate_dst (N := 15) rfl ?_); refine Kd.R_make (Kd.int .i64) _ 3 rfl (N := 15) rfl 26 _ _ rfl a0_0 rfl rfl Try.underlying26 (.int .i64 0) 8 info3 rfl (by decide) (by omega) 0 (ok := fun _ => True) (okp := fun _ => True) rfl (fun _ hk => hk) trivial (of_decide_eq_true (by first | (with_reducible assumption) | assumption)) (Nat.le_trans (Nat.mul_le_mul_right _ (of_decide_eq_true (by first | (with_reducible assumption) | assumption) : a0_0.toNat ≤ 35184372088832)) (by omega)) (Below.refl _ _) (Nat.le_refl _) ?_; intro v825 w12 ho13 hb hg_ hnew_; clear hg_ hnew_; (first | rw [← Ny824.out] at ho13 | (simp only [Int.reduceToNat] at ho13; rw [← Ny824.out] at ho13)); have HO826 := Aside0.mk (Kd.R_lower ho13 (below_size (hb2 HB GE821 GE822))); replace BK821 := kx BK821 hb; replace BK822 := kx BK822 hb; replace HB := hs (hb2 HB GE821 GE822) hb; clear hb ho13))
    go_loopg [6] k (fun kq v6 w' => ∃ (x5_1 : List Int) (x6_1 : Int), v6 = .int .i64 x6_1 ∧ Aside0 (tangramref14_Bare.l0 kq x5_1 x6_1 a0_0 l0_1 = some (r1, r2, r3, r4)) ∧ Aside0 (kq ≤ k) ∧ Aside0 (Kd.R (Kd.int .i64) 3 w' w.heap.size (fun _ => True) v825 x5_1) ∧ Aside0 (w'.heap[gb821]? = some (.cells #[.int .i64 a0_0, (.slice A0_1 l0_1.length c0_1)] 25 (0, 0))) ∧ Aside0 (w'.heap[gb822]? = some (.cells #[.int .i64 0, (.slice none 0 0)] 25 (0, 0))) ∧ Aside0 (Below w.heap.size w w'))
    case atStart => exact ⟨(y824), (0), (by first | rfl | (simp; done) | (simp [*]; done)), H', ⟨Nat.le_refl _⟩, ⟨rx HO826⟩, ⟨bx BK821⟩, ⟨bx BK822⟩, ⟨hb2 HB GE821 GE822⟩⟩
    case round =>
     clear H'
     try clear c1
     try clear c2
     try clear p2
     try clear c3
     try clear c4
     try clear c4b0
     try clear c4b1
     try clear c5
     try clear c5b0
     try clear c5b1
     try clear c8
     try clear c11
     try clear hcz11_0
     try clear hcz11_1
     try clear hcz9_0
     try clear hcz9_1
     try clear hfz11_0
     try clear hfz11_1
     try clear hfz9_0
     try clear hfz9_1
     obtain ⟨x5_1, x6_1, rfl, HA, HK1, HO_5, BK821, BK822, HB⟩ := hrel
     cases gk with
     | zero => exact absurd HA.out (by simp [tangramref14_Bare.l0])
     | succ k1 =>
      have H := HA.out; clear HA; simp only [tangramref14_Bare.l0] at H
      by_cases c14 : x6_1 < (l0_1.length : Int)
      ·rw [if_pos c14] at H; have c14b0 : decide (x6_1 < (l0_1.length : Int)) = true := decide_eq_true c14; clear c14
       by_cases c15 : 0 ≤ x6_1
       ·rw [if_pos c15] at H; have c15b0 : decide (0 ≤ x6_1) = true := decide_eq_true c15; clear c15
        by_cases c16 : 0 ≤ ((rd_T46 l0_1 x6_1).f0)
        ·rw [if_pos c16] at H; have c16b0 : decide (0 ≤ ((rd_T46 l0_1 x6_1).f0)) = true := decide_eq_true c16; clear c16
         by_cases c17 : ((rd_T46 l0_1 x6_1).f0) < (x5_1.length : Int)
         ·rw [if_pos c17] at H; have c17b0 : decide (((rd_T46 l0_1 x6_1).f0) < (x5_1.length : Int)) = true := decide_eq_true c17; clear c17; obtain ⟨y828, hy828⟩ : ∃ y_ : List Int, y_ = (x5_1.set (((rd_T46 l0_1 x6_1).f0) : Int).toNat 1) := ⟨_, rfl⟩; replace H : (if 0 ≤ ((rd_T46 l0_1 x6_1).f1) then (if ((rd_T46 l0_1 x6_1).f1) < (x5_1.length : Int) then (tangramref14_Bare.l0 k1 (y828.set (((rd_T46 l0_1 x6_1).f1) : Int).toNat 1) (wrap64 (x6_1 + 1)) a0_0 l0_1) else (none)) else (none)) = some (r1, r2, r3, r4) := by first | (rw [hy828]; with_reducible exact H) | (have H2_ := (Option.bind_some _ _).symm.trans H; rw [hy828]; with_reducible exact H2_) | (have H2_ := (Option.bind_some _ _).symm.trans H; with_reducible exact H2_) | with_reducible exact H | (rw [hy828]; exact H) | exact H
          have Ny828 := Aside0.mk hy828; clear hy828
          by_cases c19 : 0 ≤ ((rd_T46 l0_1 x6_1).f1)
          ·rw [if_pos c19] at H; have c19b0 : decide (0 ≤ ((rd_T46 l0_1 x6_1).f1)) = true := decide_eq_true c19; clear c19
           by_cases c20 : ((rd_T46 l0_1 x6_1).f1) < (x5_1.length : Int)
           ·rw [if_pos c20] at H; have c20b0 : decide (((rd_T46 l0_1 x6_1).f1) < (x5_1.length : Int)) = true := decide_eq_true c20; clear c20; obtain ⟨y830, hy830⟩ : ∃ y_ : List Int, y_ = (y828.set (((rd_T46 l0_1 x6_1).f1) : Int).toNat 1) := ⟨_, rfl⟩; replace H : (tangramref14_Bare.l0 k1 y830 (wrap64 (x6_1 + 1)) a0_0 l0_1) = some (r1, r2, r3, r4) := by first | (rw [hy830]; with_reducible exact H) | (have H2_ := (Option.bind_some _ _).symm.trans H; rw [hy830]; with_reducible exact H2_) | (have H2_ := (Option.bind_some _ _).symm.trans H; with_reducible exact H2_) | with_reducible exact H | (rw [hy830]; exact H) | exact H
            have Ny830 := Aside0.mk hy830; clear hy830; have H' := Aside0.mk H; clear H; have hnb22 := NB821_822.out; have hnc22 := NB822_821.out; have hcz23_0 : wr.cell? ⟨gb821, 0, none⟩ = some (.int .i64 a0_0) := bc BK821 0; have hcz23_1 : wr.cell? ⟨gb821, 1, none⟩ = some (.slice A0_1 l0_1.length c0_1) := bc BK821 1; have hfz23_0 := blk_frozen BK821.out 0; have hfz23_1 := blk_frozen BK821.out 1; have p827 : 0 ≤ (x6_1 : Int) := of_decide_eq_true (by first | (with_reducible assumption) | assumption); have q827 : x6_1 < (l0_1.length : Int) := of_decide_eq_true (by first | (with_reducible assumption) | assumption); obtain ⟨ad827, e827, hx827_0, hx827_1⟩ := at_T46 HR0_1.out x6_1 p827 q827
            cases e827
            replace hx827_0 := (HB.out.cell (World.block_lt_of_cell? w _ hx827_0)).trans hx827_0; replace hx827_1 := (HB.out.cell (World.block_lt_of_cell? w _ hx827_1)).trans hx827_1; replace p827 := eq_true p827; replace q827 := eq_true q827; have p18 : 0 ≤ (((rd_T46 l0_1 x6_1).f0) : Int) := of_decide_eq_true (by first | (with_reducible assumption) | assumption); have q18 : (((rd_T46 l0_1 x6_1).f0) : Int) < ((x5_1.length : Int) : Int) := of_decide_eq_true (by first | (with_reducible assumption) | assumption); obtain ⟨go18, co18, eo18, gb18, gl18, cl18, HG18⟩ := Kd.R_form HO_5.out (by omega)
            (first | cases eo18 | (injection eo18 with ea_ en_ ec_; (first | subst ea_ | (injection ea_ with ea_; subst ea_)); subst ec_; clear en_))
            have GB18 := Aside0.mk gb18; have GG18 := Aside0.mk HG18; clear gb18 gl18 HG18; obtain ⟨hx18_0, hf18_0⟩ := Kd.R_celln 0 HO_5.out (((rd_T46 l0_1 x6_1).f0) : Int) p18 q18; replace p18 := eq_true p18; replace q18 := eq_true q18; have HP24 := Kd.R_putg HO_5.out (((rd_T46 l0_1 x6_1).f0) : Int) 1
            go_wp2_with (first | ((with_reducible refine gate_store (t := 3) (p := 30) rfl ?_); refine store_event (t := 3) (p := 30) (v := ?vo_w25) (w1 := (wr.setCell ⟨go18, (((rd_T46 l0_1 x6_1).f0) : Int).toNat, none⟩ (.int .i64 1))) ?hg ?ho ?hn ?hr ?_; (case ho => rfl); (case hg => rfl); (case hn => rfl); (case hr => first | (go_simp; done) | (go_simp; rfl)); intro w25 hw; have hg : wr.grownBy w25 (some go18) := (by rw [hw]; exact HP24.2); have hp_ : Kd.R (Kd.int .i64) 3 w25 w.heap.size (fun _ => True) (.slice (some ⟨go18, 0, none⟩) x5_1.length co18) y828 := (by rw [hw, Ny828.out]; exact HP24.1); clear HP24; replace BK821 := Aside0.mk (blk_grown (bx BK821) hg (Kd.R_ne HO_5.out BK821.out (by decide))); replace BK822 := Aside0.mk (blk_grown (bx BK822) hg (Kd.R_ne HO_5.out BK822.out (by decide))); replace HO_5 := Aside0.mk (hp_); replace HB := Aside0.mk ((by rw [hw]; exact below_set (HB.out) GB18.out : Below w.heap.size w w25)); clear hg hw hp_; have hcz26_0 : w25.cell? ⟨gb821, 0, none⟩ = some (.int .i64 a0_0) := bc BK821 0; have hcz26_1 : w25.cell? ⟨gb821, 1, none⟩ = some (.slice (some ad827) l0_1.length c0_1) := bc BK821 1; have hfz26_0 := blk_frozen BK821.out 0; have hfz26_1 := blk_frozen BK821.out 1; have p829 : 0 ≤ (x6_1 : Int) := of_decide_eq_true (by first | (with_reducible assumption) | assumption); have q829 : x6_1 < (l0_1.length : Int) := of_decide_eq_true (by first | (with_reducible assumption) | assumption); obtain ⟨ad829, e829, hx829_0, hx829_1⟩ := at_T46 HR0_1.out x6_1 p829 q829; obtain rfl : ad827 = ad829 := (by injection e829); replace hx829_0 := (HB.out.cell (World.block_lt_of_cell? w _ hx829_0)).trans hx829_0; replace hx829_1 := (HB.out.cell (World.block_lt_of_cell? w _ hx829_1)).trans hx829_1; replace p829 := eq_true p829; replace q829 := eq_true q829; have p21 : 0 ≤ (((rd_T46 l0_1 x6_1).f1) : Int) := of_decide_eq_true (by first | (with_reducible assumption) | assumption); have q21 : (((rd_T46 l0_1 x6_1).f1) : Int) < ((x5_1.length : Int) : Int) := of_decide_eq_true (by first | (with_reducible assumption) | assumption); obtain ⟨hx21_0, hf21_0⟩ := Kd.R_celln 0 HO_5.out (((rd_T46 l0_1 x6_1).f1) : Int) p21 q21; replace p21 := eq_true p21; replace q21 := eq_true q21; obtain ⟨hy27_, hz27_⟩ := Kd.R_celln 0 HO_5.out (((rd_T46 l0_1 x6_1).f1) : Int) (of_decide_eq_true (by first | (with_reducible assumption) | assumption)) (of_decide_eq_true (by first | (with_reducible assumption) | assumption)); have HP27 := Kd.R_putg HO_5.out (((rd_T46 l0_1 x6_1).f1) : Int) 1) | ((with_reducible refine gate_store (t := 3) (p := 38) rfl ?_); refine store_event (t := 3) (p := 38) (v := ?vo_w28) (w1 := (w25.setCell ⟨go18, (((rd_T46 l0_1 x6_1).f1) : Int).toNat, none⟩ (.int .i64 1))) ?hg ?ho ?hn ?hr ?_; (case ho => rfl); (case hg => rfl); (case hn => rfl); (case hr => first | (go_simp; done) | (go_simp; rfl)); intro w28 hw; have hg : w25.grownBy w28 (some go18) := (by rw [hw]; exact HP27.2); have hp_ : Kd.R (Kd.int .i64) 3 w28 w.heap.size (fun _ => True) (.slice (some ⟨go18, 0, none⟩) x5_1.length co18) y830 := (by rw [hw, Ny830.out]; exact HP27.1); clear HP27; replace BK821 := Aside0.mk (blk_grown (bx BK821) hg (Kd.R_ne HO_5.out BK821.out (by decide))); replace BK822 := Aside0.mk (blk_grown (bx BK822) hg (Kd.R_ne HO_5.out BK822.out (by decide))); replace HO_5 := Aside0.mk (hp_); replace HB := Aside0.mk ((by rw [hw]; exact below_set (HB.out) GB18.out : Below w.heap.size w w28)); clear hg hw hp_))
            go_roundg k1
            case measure => have := HK1.out; omega
            case rel => exact ⟨(y830), (wrap64 (x6_1 + 1)), (by first | rfl | (simp; done) | (simp [*]; done)), H', ⟨by have := HK1.out; omega⟩, ⟨rx HO_5⟩, ⟨bx BK821⟩, ⟨bx BK822⟩, ⟨hb2 HB GE821 GE822⟩⟩
           ·rw [if_neg c20] at H; exact absurd H (by simp)
          ·rw [if_neg c19] at H; exact absurd H (by simp)
         ·rw [if_neg c17] at H; exact absurd H (by simp)
        ·rw [if_neg c16] at H; exact absurd H (by simp)
       ·rw [if_neg c15] at H; exact absurd H (by simp)
      ·rw [if_neg c14] at H; have c14b0 : decide (x6_1 < (l0_1.length : Int)) = false := decide_eq_false c14; clear c14; have H' := Aside0.mk H; clear H; have hnb29 := NB821_822.out; have hnc29 := NB822_821.out; have hcz30_0 : wr.cell? ⟨gb821, 0, none⟩ = some (.int .i64 a0_0) := bc BK821 0; have hcz30_1 : wr.cell? ⟨gb821, 1, none⟩ = some (.slice A0_1 l0_1.length c0_1) := bc BK821 1; have hfz30_0 := blk_frozen BK821.out 0; have hfz30_1 := blk_frozen BK821.out 1
       go_wp2
       go_loopg [7, 8] k1 (fun kq v7 v8 w' => ∃ (x5_2 : List Int) (x7_2 : List Int) (x8_2 : Int), v8 = .int .i64 x8_2 ∧ Aside0 (tangramref14_Bare.l1 kq x5_2 x7_2 x8_2 a0_0 l0_1 = some (r1, r2, r3, r4)) ∧ Aside0 (kq ≤ k1) ∧ Aside0 (Kd.R (Kd.int .i64) 3 w' w.heap.size (fun k_ => some k_ ≠ (v7 : Value).ownBlock) v825 x5_2) ∧ Aside0 (Kd.R (Kd.int .i64) 3 w' w.heap.size (fun k_ => some k_ ≠ (v825 : Value).ownBlock) v7 x7_2) ∧ Aside0 (w'.heap[gb821]? = some (.cells #[.int .i64 a0_0, (.slice A0_1 l0_1.length c0_1)] 25 (0, 0))) ∧ Aside0 (w'.heap[gb822]? = some (.cells #[.int .i64 0, (.slice none 0 0)] 25 (0, 0))) ∧ Aside0 (Below w.heap.size w w'))
       case atStart => exact ⟨(x5_1), (([] : List Int)), (0), (by first | rfl | (simp; done) | (simp [*]; done)), H', ⟨Nat.le_refl _⟩, ⟨by (with_reducible repeat (first | apply Kd.R_alloc | apply Kd.R_drewN | apply Kd.R_drew)); exact Kd.R_mono HO_5.out (fun _ hk => (by simp [Value.ownBlock]))⟩, ⟨by first | exact Kd.R_nil _ _ _ _ _ | exact Kd.N_nil _ _ _ _ _ | exact Kd.V_nil _ _ _ _ _ | exact Kd.Q_nil _ _ _ _ _ | exact Kd.S_nil _ _ _ _ _⟩, ⟨bx BK821⟩, ⟨bx BK822⟩, ⟨hb2 HB GE821 GE822⟩⟩
       case round =>
        clear H'
        try clear c1
        try clear p1
        try clear q1
        try clear hx1
        try clear hf1
        try clear c2
        try clear p2
        try clear q2
        try clear hx2
        try clear hf2
        try clear c3
        try clear c4
        try clear c4b0
        try clear c4b1
        try clear c5
        try clear c5b0
        try clear c5b1
        try clear p6
        try clear c8
        try clear p8
        try clear q8
        try clear hx8
        try clear c11
        try clear c14
        try clear c14b0
        try clear c15
        try clear c15b0
        try clear c16
        try clear c16b0
        try clear c17
        try clear c17b0
        try clear p18
        try clear q18
        try clear hx18
        try clear hf18
        try clear c19
        try clear c19b0
        try clear c20
        try clear c20b0
        try clear p21
        try clear q21
        try clear hx21
        try clear hf21
        try clear c22
        try clear c26
        try clear c29
        try clear hcz11_0
        try clear hcz11_1
        try clear hcz23_0
        try clear hcz23_1
        try clear hcz26_0
        try clear hcz26_1
        try clear hcz30_0
        try clear hcz30_1
        try clear hcz9_0
        try clear hcz9_1
        try clear hfz11_0
        try clear hfz11_1
        try clear hfz23_0
        try clear hfz23_1
        try clear hfz26_0
        try clear hfz26_1
        try clear hfz30_0
        try clear hfz30_1
        try clear hfz9_0
        try clear hfz9_1
        try clear hx18_0
        try clear hx21_0
        try clear hx827_0
        try clear hx827_1
        try clear hx829_0
        try clear hx829_1
        try clear p18
        try clear p2
        try clear p21
        try clear p827
        try clear p829
        try clear q18
        try clear q21
        try clear q827
        try clear q829
        obtain ⟨x5_2, x7_2, x8_2, rfl, HA, HK2, HO_5, HO_7, BK821, BK822, HB⟩ := hrel
        cases gk with
        | zero => exact absurd HA.out (by simp [tangramref14_Bare.l1])
        | succ k2 =>
         have H := HA.out; clear HA; simp only [tangramref14_Bare.l1] at H
         by_cases c31 : x8_2 < a0_0
         ·rw [if_pos c31] at H; have c31b0 : decide (x8_2 < a0_0) = true := decide_eq_true c31; clear c31
          by_cases c32 : 0 ≤ x8_2
          ·rw [if_pos c32] at H; have c32b0 : decide (0 ≤ x8_2) = true := decide_eq_true c32; clear c32
           by_cases c33 : x8_2 < (x5_2.length : Int)
           ·rw [if_pos c33] at H; have c33b0 : decide (x8_2 < (x5_2.length : Int)) = true := decide_eq_true c33; clear c33
            by_cases c34 : (rd x5_2 x8_2) = 0
            ·rw [if_pos c34] at H; have c34b0 : ((rd x5_2 x8_2) == 0) = true := beq_iff_eq.mpr c34; have c34b1 : ((rd x5_2 x8_2) != 0) = false := bne_eq_false_iff_eq.mpr c34; clear c34; obtain ⟨y832, hy832⟩ : ∃ y_ : List Int, y_ = (x5_2.set (x8_2 : Int).toNat (-1)) := ⟨_, rfl⟩; replace H : (tangramref14_Bare.l1 k2 y832 x7_2 (wrap64 (x8_2 + 1)) a0_0 l0_1) = some (r1, r2, r3, r4) := by first | (rw [hy832]; with_reducible exact H) | (have H2_ := (Option.bind_some _ _).symm.trans H; rw [hy832]; with_reducible exact H2_) | (have H2_ := (Option.bind_some _ _).symm.trans H; with_reducible exact H2_) | with_reducible exact H | (rw [hy832]; exact H) | exact H
             have Ny832 := Aside0.mk hy832; clear hy832; have H' := Aside0.mk H; clear H; have hnb36 := NB821_822.out; have hnc36 := NB822_821.out; have hcz37_0 : wr.cell? ⟨gb821, 0, none⟩ = some (.int .i64 a0_0) := bc BK821 0; have hcz37_1 : wr.cell? ⟨gb821, 1, none⟩ = some (.slice A0_1 l0_1.length c0_1) := bc BK821 1; have hfz37_0 := blk_frozen BK821.out 0; have hfz37_1 := blk_frozen BK821.out 1; obtain ⟨Ao38, co38, eo38⟩ := Kd.R_slice HO_5.out; subst eo38; have p831 : 0 ≤ (x8_2 : Int) := of_decide_eq_true (by first | (with_reducible assumption) | assumption); have q831 : x8_2 < (x5_2.length : Int) := of_decide_eq_true (by first | (with_reducible assumption) | assumption); obtain ⟨ad831, e831, hx831_0⟩ := Kd.at_int (Kd.R_reads' HO_5.out).2.2 x8_2 p831 q831
             cases e831
             replace p831 := eq_true p831; replace q831 := eq_true q831; have p35 : 0 ≤ (x8_2 : Int) := of_decide_eq_true (by first | (with_reducible assumption) | assumption); have q35 : (x8_2 : Int) < ((x5_2.length : Int) : Int) := of_decide_eq_true (by first | (with_reducible assumption) | assumption); obtain ⟨go35, co35, eo35, gb35, gl35, cl35, HG35⟩ := Kd.R_form HO_5.out (by omega)
             (first | cases eo35 | (injection eo35 with ea_ en_ ec_; (first | subst ea_ | (injection ea_ with ea_; subst ea_)); subst ec_; clear en_))
             have GB35 := Aside0.mk gb35; have GG35 := Aside0.mk HG35; clear gb35 gl35 HG35
             (first | simp only [add_plain] at hx831_0 | skip)
             obtain ⟨hx35_0, hf35_0⟩ := Kd.R_celln 0 HO_5.out (x8_2 : Int) p35 q35; replace p35 := eq_true p35; replace q35 := eq_true q35; have HP39 := Kd.R_putg HO_5.out (x8_2 : Int) (-1)
             go_wp2_with (first | ((with_reducible refine gate_store (t := 3) (p := 52) rfl ?_); refine store_event (t := 3) (p := 52) (v := ?vo_w40) (w1 := (wr.setCell ⟨go35, (x8_2 : Int).toNat, none⟩ (.int .i64 (-1)))) ?hg ?ho ?hn ?hr ?_; (case ho => rfl); (case hg => rfl); (case hn => rfl); (case hr => first | (go_simp; done) | (go_simp; rfl)); intro w40 hw; have hg : wr.grownBy w40 (some go35) := (by rw [hw]; exact HP39.2); have hp_ : Kd.R (Kd.int .i64) 3 w40 w.heap.size (fun k_ => some k_ ≠ (u7 : Value).ownBlock) (.slice (some ⟨go35, 0, none⟩) x5_2.length co38) y832 := (by rw [hw, Ny832.out]; exact HP39.1); clear HP39; replace HO_7 := Aside0.mk (Kd.R_after (v := (.slice (some ⟨go35, 0, none⟩) x5_2.length co38)) (v1 := (.slice (some ⟨go35, 0, none⟩) x5_2.length co38)) (ok := (fun _ => True)) (Kd.R_mono (rx HO_7) (fun _ hk => ⟨trivial, hk⟩)) hg (.inl rfl)); replace BK821 := Aside0.mk (blk_grown (bx BK821) hg (Kd.R_ne HO_5.out BK821.out (by decide))); replace BK822 := Aside0.mk (blk_grown (bx BK822) hg (Kd.R_ne HO_5.out BK822.out (by decide))); replace HO_5 := Aside0.mk (hp_); replace HB := Aside0.mk ((by rw [hw]; exact below_set (HB.out) GB35.out : Below w.heap.size w w40)); clear hg hw hp_))
             go_roundg k2
             case measure => have := HK1.out; have := HK2.out; omega
             case rel => exact ⟨(y832), (x7_2), (wrap64 (x8_2 + 1)), (by first | rfl | (simp; done) | (simp [*]; done)), H', ⟨by have := HK1.out; have := HK2.out; omega⟩, ⟨rx HO_5⟩, ⟨Kd.R_mono (rx HO_7) (fun _ hk => hk.2)⟩, ⟨bx BK821⟩, ⟨bx BK822⟩, ⟨hb2 HB GE821 GE822⟩⟩
            ·rw [if_neg c34] at H; have c34b0 : ((rd x5_2 x8_2) == 0) = false := beq_eq_false_iff_ne.mpr c34; have c34b1 : ((rd x5_2 x8_2) != 0) = true := bne_iff_ne.mpr c34; obtain ⟨y833, hy833⟩ : ∃ y_ : List Int, y_ = (x5_2.set (x8_2 : Int).toNat (x7_2.length : Int)) := ⟨_, rfl⟩; replace H : (if x7_2.length < 17592186044416 then (tangramref14_Bare.l1 k2 y833 (x7_2 ++ [x8_2]) (wrap64 (x8_2 + 1)) a0_0 l0_1) else (none)) = some (r1, r2, r3, r4) := by first | (rw [hy833]; with_reducible exact H) | (have H2_ := (Option.bind_some _ _).symm.trans H; rw [hy833]; with_reducible exact H2_) | (have H2_ := (Option.bind_some _ _).symm.trans H; with_reducible exact H2_) | with_reducible exact H | (rw [hy833]; exact H) | exact H
             have Ny833 := Aside0.mk hy833; clear hy833
             by_cases c42 : x7_2.length < 17592186044416
             ·rw [if_pos c42] at H; have LMc42 := Aside0.mk c42; clear c42; obtain ⟨y834, hy834⟩ : ∃ y_ : List Int, y_ = (x7_2 ++ [x8_2]) := ⟨_, rfl⟩; replace H : (tangramref14_Bare.l1 k2 y833 y834 (wrap64 (x8_2 + 1)) a0_0 l0_1) = some (r1, r2, r3, r4) := by first | (rw [hy834]; with_reducible exact H) | (have H2_ := (Option.bind_some _ _).symm.trans H; rw [hy834]; with_reducible exact H2_) | (have H2_ := (Option.bind_some _ _).symm.trans H; with_reducible exact H2_) | with_reducible exact H | (rw [hy834]; exact H) | exact H
              have Ny834 := Aside0.mk hy834; clear hy834; have H' := Aside0.mk H; clear H; have hnb43 := NB821_822.out; have hnc43 := NB822_821.out; have hcz44_0 : wr.cell? ⟨gb821, 0, none⟩ = some (.int .i64 a0_0) := bc BK821 0; have hcz44_1 : wr.cell? ⟨gb821, 1, none⟩ = some (.slice A0_1 l0_1.length c0_1) := bc BK821 1; have hfz44_0 := blk_frozen BK821.out 0; have hfz44_1 := blk_frozen BK821.out 1; obtain ⟨Ao45, co45, eo45⟩ := Kd.R_slice HO_5.out; subst eo45; have p831 : 0 ≤ (x8_2 : Int) := of_decide_eq_true (by first | (with_reducible assumption) | assumption); have q831 : x8_2 < (x5_2.length : Int) := of_decide_eq_true (by first | (with_reducible assumption) | assumption); obtain ⟨ad831, e831, hx831_0⟩ := Kd.at_int (Kd.R_reads' HO_5.out).2.2 x8_2 p831 q831
              cases e831
              replace p831 := eq_true p831; replace q831 := eq_true q831; obtain ⟨Ao46, co46, eo46⟩ := Kd.R_slice HO_7.out; subst eo46; have p41 : 0 ≤ (x8_2 : Int) := of_decide_eq_true (by first | (with_reducible assumption) | assumption); have q41 : (x8_2 : Int) < ((x5_2.length : Int) : Int) := of_decide_eq_true (by first | (with_reducible assumption) | assumption); obtain ⟨go41, co41, eo41, gb41, gl41, cl41, HG41⟩ := Kd.R_form HO_5.out (by omega)
              (first | cases eo41 | (injection eo41 with ea_ en_ ec_; (first | subst ea_ | (injection ea_ with ea_; subst ea_)); subst ec_; clear en_))
              have GB41 := Aside0.mk gb41; have GG41 := Aside0.mk HG41; clear gb41 gl41 HG41
              (first | simp only [add_plain] at hx831_0 | skip)
              obtain ⟨hx41_0, hf41_0⟩ := Kd.R_celln 0 HO_5.out (x8_2 : Int) p41 q41; replace p41 := eq_true p41; replace q41 := eq_true q41; have HP47 := Kd.R_putg HO_5.out (x8_2 : Int) (x7_2.length : Int)
              go_wp2_with (first | ((with_reducible refine gate_store (t := 3) (p := 57) rfl ?_); refine store_event (t := 3) (p := 57) (v := ?vo_w48) (w1 := (wr.setCell ⟨go41, (x8_2 : Int).toNat, none⟩ (.int .i64 (x7_2.length : Int)))) ?hg ?ho ?hn ?hr ?_; (case ho => rfl); (case hg => rfl); (case hn => rfl); (case hr => first | (go_simp; done) | (go_simp; rfl)); intro w48 hw; have hg : wr.grownBy w48 (some go41) := (by rw [hw]; exact HP47.2); have hp_ : Kd.R (Kd.int .i64) 3 w48 w.heap.size (fun k_ => some k_ ≠ (.slice Ao46 x7_2.length co46 : Value).ownBlock) (.slice (some ⟨go41, 0, none⟩) x5_2.length co45) y833 := (by rw [hw, Ny833.out]; exact HP47.1); clear HP47; replace HO_7 := Aside0.mk (Kd.R_after (v := (.slice (some ⟨go41, 0, none⟩) x5_2.length co45)) (v1 := (.slice (some ⟨go41, 0, none⟩) x5_2.length co45)) (ok := (fun _ => True)) (Kd.R_mono (rx HO_7) (fun _ hk => ⟨trivial, hk⟩)) hg (.inl rfl)); replace BK821 := Aside0.mk (blk_grown (bx BK821) hg (Kd.R_ne HO_5.out BK821.out (by decide))); replace BK822 := Aside0.mk (blk_grown (bx BK822) hg (Kd.R_ne HO_5.out BK822.out (by decide))); replace HO_5 := Aside0.mk (hp_); replace HB := Aside0.mk ((by rw [hw]; exact below_set (HB.out) GB41.out : Below w.heap.size w w48)); clear hg hw hp_) | ((with_reducible refine gate_builtin (b := .append) (xs := #[.tmp 58, .tmp 60]) rfl ?_); at_builtin; refine Kd.R_append (Kd.int .i64) (w0 := w) w.heap.size rfl (.tmp 58) (.tmp 60) 26 3 (.int .i64 0) 8 rfl Try.underlying26 info3 rfl (by decide) (by omega) (.slice Ao46 x7_2.length co46) x7_2 x8_2 [.int .i64 x8_2] (fun k_ => some k_ ≠ (.slice (some ⟨go41, 0, none⟩) x5_2.length co45 : Value).ownBlock) (fun _ => False) rfl rfl ?aP (fun _ hk => hk.elim) ?aF ?aO ?aB ?aS ?aL ?_; (case aP => exact rfl); (case aB => exact (hb2 HB GE821 GE822)); (case aF => exact (fun k_ hk => Kd.fresh' (Kd.R_lt (rx HO_5)) k_ hk)); (case aO => exact (Kd.R_mono (rx HO_7) (fun _ hk => hk.2))); (case aS => exact (below_size (hb2 HB GE821 GE822))); (case aL => have := LMc42.out; omega); intro v835 w49 ho hb hg hat; rw [← Ny834.out] at ho; have n0_ := Aside0.mk (Kd.R_after (ok := (fun _ => True)) (Kd.R_mono (rx HO_5) (fun _ hk => ⟨trivial, hk⟩)) hg hat); have n1_ := Aside0.mk (blk_grown (bx BK821) hg (Kd.R_ne HO_7.out BK821.out (by decide))); have n2_ := Aside0.mk (blk_grown (bx BK822) hg (Kd.R_ne HO_7.out BK822.out (by decide))); have n3_ := Aside0.mk (hb); have n4_ := Aside0.mk (ho); clear HO_5; clear BK821; clear BK822; clear HB; clear HO_7; have HO_5 := n0_; have BK821 := n1_; have BK822 := n2_; have HB := n3_; have HO836 := n4_; clear n0_ n1_ n2_ n3_ n4_; clear ho hb hg hat))
              go_roundg k2
              case measure => have := HK1.out; have := HK2.out; omega
              case rel => exact ⟨(y833), (y834), (wrap64 (x8_2 + 1)), (by first | rfl | (simp; done) | (simp [*]; done)), H', ⟨by have := HK1.out; have := HK2.out; omega⟩, ⟨Kd.R_mono (rx HO_5) (fun _ hk => hk.2)⟩, ⟨rx HO836⟩, ⟨bx BK821⟩, ⟨bx BK822⟩, ⟨hb2 HB GE821 GE822⟩⟩
             ·rw [if_neg c42] at H; exact absurd H (by simp)
           ·rw [if_neg c33] at H; exact absurd H (by simp)
          ·rw [if_neg c32] at H; exact absurd H (by simp)
         ·rw [if_neg c31] at H; have c31b0 : decide (x8_2 < a0_0) = false := decide_eq_false c31; clear c31; replace H := Option.bind_eq_some_iff.mp H; obtain ⟨t837, A500, H⟩ := H; replace H : (some ((x7_2.length : Int), t837, x7_2, 0)) = some (r1, r2, r3, r4) := H; have A50 := Aside0.mk A500; clear A500; simp only [Option.some.injEq, Prod.mk.injEq] at H; obtain ⟨rfl, rfl, rfl, rfl⟩ := H; have hnb51 := NB821_822.out; have hnc51 := NB822_821.out; have hcz52_0 : wr.cell? ⟨gb821, 0, none⟩ = some (.int .i64 a0_0) := bc BK821 0; have hcz52_1 : wr.cell? ⟨gb821, 1, none⟩ = some (.slice A0_1 l0_1.length c0_1) := bc BK821 1; have hfz52_0 := blk_frozen BK821.out 0; have hfz52_1 := blk_frozen BK821.out 1; obtain ⟨Ao53, co53, eo53⟩ := Kd.R_slice HO_7.out; subst eo53; obtain ⟨Ao54, co54, eo54⟩ := Kd.R_slice HO_5.out; subst eo54
          go_wp2_with (first | ((with_reducible refine gate_callee (f := 44) rfl ?_); refine gl_ (some 66) Try.func44 #[.agg #[.int .i64 a0_0, .slice A0_1 l0_1.length c0_1], .slice Ao54 x5_2.length co54] ?_; (with_reducible refine (tangramref14_Named.calls k2 a0_0 _ _ l0_1 _ _ x5_2 t837 _ ?side1 ?side2 ?side3 ?side4 A50.out).mono ?_); (case side1 => repeat (first | exact (Kd.C_below HR0_1.out HB.out) | (with_reducible refine Kd.C_alloc ?_ _) | (with_reducible refine Kd.C_drewN ?_ _) | (with_reducible refine Kd.C_drew ?_))); (case side2 => exact HC0_1.out); (case side3 => exact cr HO_5); (case side4 => exact (Kd.R_reads' HO_5.out).2.1); rintro e w55 ⟨v838, rfl, ho0, hb⟩; refine ⟨_, rfl, ?_⟩; replace HO_5 := ry HO_5 hb; replace HO_7 := ry HO_7 hb; have HO839 := Aside0.mk (Kd.R_lower ho0 (below_size (hb2 HB GE821 GE822))); replace BK821 := kx BK821 hb; replace BK822 := kx BK822 hb; replace HB := hs (hb2 HB GE821 GE822) hb; (try clear hb); (try clear hb2); (try clear hk); (try clear hi); (try clear ho0); obtain ⟨Ao56, co56, eo56⟩ := Kd.R_slice HO839.out; subst eo56; have hcz57_0 : w55.cell? ⟨gb822, 0, none⟩ = some (.int .i64 0) := bc BK822 0; have hcz57_1 : w55.cell? ⟨gb822, 1, none⟩ = some (.slice none 0 0) := bc BK822 1; have hfz57_0 := blk_frozen BK822.out 0; have hfz57_1 := blk_frozen BK822.out 1))
          refine bodyPost_ret (results_ctt rfl _ _ gb822 25 #[.int .i64 (x7_2.length : Int), .slice Ao56 t837.length co56] (0, 0) _ rfl (bp BK822) Try.underlying25 rfl (by kernel_rfl)) rfl ?_; exact ⟨_, _, by first | rfl | (simp [errW_none, errW_some] <;> rfl) | (simp [*, errW_none, errW_some] <;> rfl), Kd.R_mono (rf HO839 BK822) (fun _ hk => trivial), Kd.R_mono (rf HO_7 BK822) (fun _ hk => trivial), hb2 HB GE821 GE822⟩
   ·rw [if_neg c5] at H; exact absurd H (by simp)
  ·rw [if_neg c4] at H; exact absurd H (by simp)
 ·replace c3 := Bool.eq_false_iff.mpr c3; subst c3; have H1 : (some (0, ([] : List (S46)), ([] : List Int), 1)) = some (r1, r2, r3, r4) := by rw [if_neg (show ¬ (false = true) by decide)] at H; exact H
  clear H; have H := H1; clear H1; simp only [Option.some.injEq, Prod.mk.injEq] at H; obtain ⟨rfl, rfl, rfl, rfl⟩ := H
  go_enter Try.func26, Try.ntmps26
  go_wp2_with (first | ((with_reducible refine gate_dst (N := 1) rfl ?_); refine be_ 1 #[.int .i64 a0_0, .slice A0_1 l0_1.length c0_1] 25 ?_; intro gb821 hg w58 hbox hb; have BK821 := Aside0.mk (hbox); have GW821 := wq (hb0 HB) hg; have GE821 := wq (hb0 HB) hg; replace HB := hs (hb0 HB) hb; clear hb hbox hg) | ((with_reducible refine gate_dst (N := 2) rfl ?_); refine be_ 2 #[.int .i64 0, .slice none 0 0] 25 ?_; intro gb822 hg w59 hbox hb; have BK822 := Aside0.mk (hbox); have GW822 := wq (hb1 HB GE821) hg; have GE822 := wq (hb1 HB GE821) hg; replace HB := hs (hb1 HB GE821) hb; have NB821_822 := lx BK821 hg; have NB822_821 := gx BK821 hg; replace BK821 := kx BK821 hb; clear hb hbox hg; have hnb60 := NB821_822.out; have hnc60 := NB822_821.out; have hcz61_0 : w59.cell? ⟨gb821, 0, none⟩ = some (.int .i64 a0_0) := bc BK821 0; have hcz61_1 : w59.cell? ⟨gb821, 1, none⟩ = some (.slice A0_1 l0_1.length c0_1) := bc BK821 1; have hfz61_0 := blk_frozen BK821.out 0; have hfz61_1 := blk_frozen BK821.out 1) | ((with_reducible refine gate_callee (f := 11) rfl ?_); refine gl_ (some 10) Try.func11 #[.agg #[.int .i64 a0_0, .slice A0_1 l0_1.length c0_1]] ?_; (with_reducible refine (tangramref03_Valid.calls k a0_0 _ _ l0_1 false _ ?side1 ?side2 A2.out).mono ?_); (case side1 => repeat (first | exact (Kd.C_below HR0_1.out HB.out) | (with_reducible refine Kd.C_alloc ?_ _) | (with_reducible refine Kd.C_drewN ?_ _) | (with_reducible refine Kd.C_drew ?_))); (case side2 => exact HC0_1.out); rintro e w62 ⟨rfl, hb⟩; refine ⟨_, rfl, ?_⟩; replace BK821 := kx BK821 hb; replace BK822 := kx BK822 hb; replace HB := hs (hb2 HB GE821 GE822) hb; (try clear hb); (try clear hb2); (try clear hk); (try clear hi); have hcz63_0 : w62.cell? ⟨gb822, 0, none⟩ = some (.int .i64 0) := bc BK822 0; have hcz63_1 : w62.cell? ⟨gb822, 1, none⟩ = some (.slice none 0 0) := bc BK822 1; have hfz63_0 := blk_frozen BK822.out 0; have hfz63_1 := blk_frozen BK822.out 1))
  refine bodyPost_ret (results_ctt rfl _ _ gb822 25 #[.int .i64 0, .slice none 0 0] (0, 0) _ rfl (bp BK822) Try.underlying25 rfl (by kernel_rfl)) rfl ?_; exact ⟨_, _, by first | rfl | (simp [errW_none, errW_some] <;> rfl) | (simp [*, errW_none, errW_some] <;> rfl), by first | exact Kd.R_nil _ _ _ _ _ | exact Kd.N_nil _ _ _ _ _ | exact Kd.V_nil _ _ _ _ _ | exact Kd.Q_nil _ _ _ _ _ | exact Kd.S_nil _ _ _ _ _, by first | exact Kd.R_nil _ _ _ _ _ | exact Kd.N_nil _ _ _ _ _ | exact Kd.V_nil _ _ _ _ _ | exact Kd.Q_nil _ _ _ _ _ | exact Kd.S_nil _ _ _ _ _, hb2 HB GE821 GE822⟩

end Go.Proofs.Ytdaeaejmikhmcaa.PEditC
