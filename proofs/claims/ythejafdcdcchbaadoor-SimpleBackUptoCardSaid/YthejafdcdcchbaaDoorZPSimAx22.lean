import Derived.Test.YthejafdcdcchbaaDoorZPSimAx0
import Derived.Test.YthejafdcdcchbaaDoorZPSimAx8
import Derived.Test.YthejafdcdcchbaaDoorZPSimAx17
-- PRINTED by print.py (a twelfth state) out of the translation. Not trusted: Lean checks it.
namespace Go.Proofs.YthejafdcdcchbaaDoor.PSimA
open Go.RowKit Go.Proofs.YthejafdcdcchbaaDoorW.PrintWords Go.Proofs.YthejafdcdcchbaaDoorW.PrintLast Go.Proofs.YthejafdcdcchbaaDoorW.PrintMore
open Go.Proofs.YthejafdcdcchbaaDoorX
attribute [local go_sem] max2_int min2_int max_two min_two max_three min_three max_four min_four   -- for this text's walks alone
set_option linter.unusedVariables false
set_option linter.unusedSimpArgs false

/-! ### simple_Degrees: function 21 -/
def simple_Degrees.l0 : Nat → List Int → List (S42) → Int → Int → Option (List Int × Int)
 | 0, _, _, _, _ => none
 | k + 1, x4, x14, x15, x16 => if x16 < x15 then (if 0 ≤ x16 then (if x16 < (x14.length : Int) then (if 0 ≤ ((rd_T42 x14 x16).f0) then (if ((rd_T42 x14 x16).f0) < (x4.length : Int) then ((some (x4.set (((rd_T42 x14 x16).f0) : Int).toNat (wrap64 ((rd x4 ((rd_T42 x14 x16).f0)) + 1)) : List Int)).bind fun y207 => (if 0 ≤ ((rd_T42 x14 x16).f1) then (if ((rd_T42 x14 x16).f1) < (x4.length : Int) then (simple_Degrees.l0 k (y207.set (((rd_T42 x14 x16).f1) : Int).toNat (wrap64 ((rd y207 ((rd_T42 x14 x16).f1)) + 1))) x14 x15 (wrap64 (x16 + 1))) else (none)) else (none))) else (none)) else (none)) else (none)) else (none)) else (some (x4, 0))
def simple_Degrees.f (k : Nat) (a0_0 : Int) (l0_1 : List (S42)) : Option (List Int × Int) := (simple_Valid.f k a0_0 l0_1).bind fun t200 => (if t200 = true then (if 0 ≤ a0_0 then (if (a0_0 : Int).toNat ≤ 35184372088832 then (simple_Degrees.l0 k (List.replicate (a0_0 : Int).toNat 0) l0_1 (l0_1.length : Int) 0) else (none)) else (none)) else (some (([] : List Int), 1)))
theorem simple_Degrees.mono_l : ∀ k, (∀ y0 y1 y2 y3, LeO (simple_Degrees.l0 k y0 y1 y2 y3) (simple_Degrees.l0 (k + 1) y0 y1 y2 y3))
 | 0 => fun _ _ _ _ r h => by simp [simple_Degrees.l0] at h
 | k + 1 => by
  have ih0 := simple_Degrees.mono_l k
  ·intro y0 y1 y2 y3
   unfold simple_Degrees.l0
   repeat' first
   | (with_reducible exact ih0 _ _ _ _)
   | (with_reducible exact simple_Valid.mono _ _ _)
   | (with_reducible exact LeO.refl _)
   | (with_reducible exact LeO.none _)
   | (with_reducible refine LeO.ite ?_ ?_)
   | (with_reducible refine LeO.bind ?_ (fun _ => ?_))
   | exact ih0 _ _ _ _
   | exact simple_Valid.mono _ _ _
   | exact LeO.none _
   | refine LeO.ite ?_ ?_
   | refine LeO.bind ?_ (fun _ => ?_)
theorem simple_Degrees.mono : ∀ a0 a1 k, LeO (simple_Degrees.f k a0 a1) (simple_Degrees.f (k + 1) a0 a1) := by
 intro a0 a1 k; have ih0 := simple_Degrees.mono_l k
 unfold simple_Degrees.f
 repeat' first
   | (with_reducible exact ih0 _ _ _ _)
   | (with_reducible exact simple_Valid.mono _ _ _)
   | (with_reducible exact LeO.refl _)
   | (with_reducible exact LeO.none _)
   | (with_reducible refine LeO.ite ?_ ?_)
   | (with_reducible refine LeO.bind ?_ (fun _ => ?_))
   | exact ih0 _ _ _ _
   | exact simple_Valid.mono _ _ _
   | exact LeO.none _
   | refine LeO.ite ?_ ?_
   | refine LeO.bind ?_ (fun _ => ?_)
set_option maxHeartbeats 8000000 in
set_option maxRecDepth 100000 in
theorem simple_Degrees.calls (k : Nat) (a0_0 : Int) (A0_1 : Option Addr) (c0_1 : Nat) (l0_1 : List (S42)) (r1 : List Int) (r2 : Int) (w : World) (hr0_1 : Kd.C k42 w A0_1 l0_1.length l0_1) (hc0_1 : l0_1.length ≤ c0_1) (h : simple_Degrees.f k a0_0 l0_1 = some (r1, r2)) :
  Calls Tryd.prog 21 #[.agg #[.int .i64 a0_0, .slice A0_1 l0_1.length c0_1]] w fun e w' => ∃ v0_ : Value, e = .returned (.tuple #[v0_, .int .i64 r2]) ∧ Kd.R (Kd.int .i64) 3 w' w.heap.size (fun _ => True) v0_ r1 ∧ Below w.heap.size w w' := by
 have hu26 := Tryd.underlying26; have hu42 := Tryd.underlying42; have HR0_1 := Aside0.mk hr0_1; have HC0_1 := Aside0.mk hc0_1; clear hr0_1 hc0_1; have HB := Aside0.mk (Below.refl w.heap.size w); have H : ((simple_Valid.f k a0_0 l0_1).bind fun t200 => (if t200 = true then (if 0 ≤ a0_0 then (if (a0_0 : Int).toNat ≤ 35184372088832 then (simple_Degrees.l0 k (List.replicate (a0_0 : Int).toNat 0) l0_1 (l0_1.length : Int) 0) else (none)) else (none)) else (some (([] : List Int), 1)))) = some (r1, r2) := h; clear h; replace H := Option.bind_eq_some_iff.mp H; obtain ⟨t200, A20, H⟩ := H; replace H : (if t200 = true then (if 0 ≤ a0_0 then (if (a0_0 : Int).toNat ≤ 35184372088832 then (simple_Degrees.l0 k (List.replicate (a0_0 : Int).toNat 0) l0_1 (l0_1.length : Int) 0) else (none)) else (none)) else (some (([] : List Int), 1))) = some (r1, r2) := H; have A2 := Aside0.mk A20; clear A20
 by_cases c3 : t200 = true
 ·subst c3; have H1 : (if 0 ≤ a0_0 then (if (a0_0 : Int).toNat ≤ 35184372088832 then (simple_Degrees.l0 k (List.replicate (a0_0 : Int).toNat 0) l0_1 (l0_1.length : Int) 0) else (none)) else (none)) = some (r1, r2) := by rw [if_pos rfl] at H; exact H
  clear H; have H := H1; clear H1
  by_cases c4 : 0 ≤ a0_0
  ·rw [if_pos c4] at H; have c4b0 := eq_true c4; have c4b1 : decide (0 ≤ a0_0) = true := decide_eq_true c4; clear c4
   by_cases c5 : (a0_0 : Int).toNat ≤ 35184372088832
   ·rw [if_pos c5] at H; have c5b0 := eq_true c5; have c5b1 : decide ((a0_0 : Int).toNat ≤ 35184372088832) = true := decide_eq_true c5; clear c5; obtain ⟨y201, hy201⟩ : ∃ y_ : List Int, y_ = (List.replicate (a0_0 : Int).toNat 0) := ⟨_, rfl⟩; replace H : (simple_Degrees.l0 k y201 l0_1 (l0_1.length : Int) 0) = some (r1, r2) := by first | (rw [hy201]; with_reducible exact H) | (have H2_ := (Option.bind_some _ _).symm.trans H; rw [hy201]; with_reducible exact H2_) | (have H2_ := (Option.bind_some _ _).symm.trans H; with_reducible exact H2_) | with_reducible exact H | (rw [hy201]; exact H) | exact H
    have Ny201 := Aside0.mk hy201; clear hy201; have H' := Aside0.mk H; clear H
    go_enter Tryd.func21, Tryd.ntmps21
    go_wp2_with (first | ((with_reducible refine gate_dst (N := 1) rfl ?_); refine be_ 1 #[.int .i64 a0_0, .slice A0_1 l0_1.length c0_1] 26 ?_; intro gb199 hg w6 hbox hb; have BK199 := Aside0.mk (hbox); have GW199 := wq (hb0 HB) hg; have GE199 := wq (hb0 HB) hg; replace HB := hs (hb0 HB) hb; clear hb hbox hg; have hcz7_0 : w6.cell? ⟨gb199, 0, none⟩ = some (.int .i64 a0_0) := bc BK199 0; have hcz7_1 : w6.cell? ⟨gb199, 1, none⟩ = some (.slice A0_1 l0_1.length c0_1) := bc BK199 1; have hfz7_0 := blk_frozen BK199.out 0; have hfz7_1 := blk_frozen BK199.out 1) | ((with_reducible refine gate_callee (f := 24) rfl ?_); refine gl_ (some 8) Tryd.func24 #[.agg #[.int .i64 a0_0, .slice A0_1 l0_1.length c0_1]] ?_; (with_reducible refine (simple_Valid.calls k a0_0 _ _ l0_1 true _ ?side1 ?side2 A2.out).mono ?_); (case side1 => repeat (first | exact (Kd.C_below HR0_1.out HB.out) | (with_reducible refine Kd.C_alloc ?_ _) | (with_reducible refine Kd.C_drewN ?_ _) | (with_reducible refine Kd.C_drew ?_))); (case side2 => exact HC0_1.out); rintro e w8 ⟨rfl, hb⟩; refine ⟨_, rfl, ?_⟩; replace BK199 := kx BK199 hb; replace HB := hs (hb1 HB GE199) hb; (try clear hb); (try clear hb2); (try clear hk); (try clear hi); have hcz9_0 : w8.cell? ⟨gb199, 0, none⟩ = some (.int .i64 a0_0) := bc BK199 0; have hcz9_1 : w8.cell? ⟨gb199, 1, none⟩ = some (.slice A0_1 l0_1.length c0_1) := bc BK199 1; have hfz9_0 := blk_frozen BK199.out 0; have hfz9_1 := blk_frozen BK199.out 1) | ((with_reducible refine gate_dst (N := 12) rfl ?_); refine Kd.R_make (Kd.int .i64) _ 3 rfl (N := 12) rfl 45 _ _ rfl a0_0 rfl rfl Tryd.underlying45 (.int .i64 0) 8 info3 rfl (by decide) (by omega) 0 (ok := fun _ => True) (okp := fun _ => True) rfl (fun _ hk => hk) trivial (of_decide_eq_true (by first | (with_reducible assumption) | assumption)) (Nat.le_trans (Nat.mul_le_mul_right _ (of_decide_eq_true (by first | (with_reducible assumption) | assumption) : a0_0.toNat ≤ 35184372088832)) (by omega)) (Below.refl _ _) (Nat.le_refl _) ?_; intro v202 w10 ho11 hb hg_ hnew_; clear hg_ hnew_; (first | rw [← Ny201.out] at ho11 | (simp only [Int.reduceToNat] at ho11; rw [← Ny201.out] at ho11)); have HO203 := Aside0.mk (Kd.R_lower ho11 (below_size (hb1 HB GE199))); replace BK199 := kx BK199 hb; replace HB := hs (hb1 HB GE199) hb; clear hb ho11; have hcz12_0 : w10.cell? ⟨gb199, 0, none⟩ = some (.int .i64 a0_0) := bc BK199 0; have hcz12_1 : w10.cell? ⟨gb199, 1, none⟩ = some (.slice A0_1 l0_1.length c0_1) := bc BK199 1; have hfz12_0 := blk_frozen BK199.out 0; have hfz12_1 := blk_frozen BK199.out 1))
    go_loopg [16] k (fun kq v16 w' => ∃ (x4_1 : List Int) (x16_1 : Int), v16 = .int .i64 x16_1 ∧ Aside0 (simple_Degrees.l0 kq x4_1 l0_1 (l0_1.length : Int) x16_1 = some (r1, r2)) ∧ Aside0 (kq ≤ k) ∧ Aside0 (Kd.R (Kd.int .i64) 3 w' w.heap.size (fun _ => True) v202 x4_1) ∧ Aside0 (w'.heap[gb199]? = some (.cells #[.int .i64 a0_0, (.slice A0_1 l0_1.length c0_1)] 26 (0, 0))) ∧ Aside0 (Below w.heap.size w w'))
    case atStart => exact ⟨(y201), (0), (by first | rfl | (simp; done) | (simp [*]; done)), H', ⟨Nat.le_refl _⟩, ⟨rx HO203⟩, ⟨bx BK199⟩, ⟨hb1 HB GE199⟩⟩
    case round =>
     clear H'
     try clear c2
     try clear p2
     try clear c3
     try clear c4
     try clear c4b0
     try clear c4b1
     try clear c5
     try clear c5b0
     try clear c5b1
     try clear hcz12_0
     try clear hcz12_1
     try clear hcz7_0
     try clear hcz7_1
     try clear hcz9_0
     try clear hcz9_1
     try clear hfz12_0
     try clear hfz12_1
     try clear hfz7_0
     try clear hfz7_1
     try clear hfz9_0
     try clear hfz9_1
     obtain ⟨x4_1, x16_1, rfl, HA, HK1, HO_4, BK199, HB⟩ := hrel
     cases gk with
     | zero => exact absurd HA.out (by simp [simple_Degrees.l0])
     | succ k1 =>
      have H := HA.out; clear HA; simp only [simple_Degrees.l0] at H
      by_cases c13 : x16_1 < (l0_1.length : Int)
      ·rw [if_pos c13] at H; have c13b0 : decide (x16_1 < (l0_1.length : Int)) = true := decide_eq_true c13; clear c13
       by_cases c14 : 0 ≤ x16_1
       ·rw [if_pos c14] at H; have c14b0 : decide (0 ≤ x16_1) = true := decide_eq_true c14; clear c14
        by_cases c15 : x16_1 < (l0_1.length : Int)
        ·rw [if_pos c15] at H; have c15b0 : decide (x16_1 < (l0_1.length : Int)) = true := decide_eq_true c15; clear c15
         by_cases c16 : 0 ≤ ((rd_T42 l0_1 x16_1).f0)
         ·rw [if_pos c16] at H; have c16b0 : decide (0 ≤ ((rd_T42 l0_1 x16_1).f0)) = true := decide_eq_true c16; clear c16
          by_cases c17 : ((rd_T42 l0_1 x16_1).f0) < (x4_1.length : Int)
          ·rw [if_pos c17] at H; have c17b0 : decide (((rd_T42 l0_1 x16_1).f0) < (x4_1.length : Int)) = true := decide_eq_true c17; clear c17; obtain ⟨y207, hy207⟩ : ∃ y_ : List Int, y_ = (x4_1.set (((rd_T42 l0_1 x16_1).f0) : Int).toNat (wrap64 ((rd x4_1 ((rd_T42 l0_1 x16_1).f0)) + 1))) := ⟨_, rfl⟩; replace H : (if 0 ≤ ((rd_T42 l0_1 x16_1).f1) then (if ((rd_T42 l0_1 x16_1).f1) < (x4_1.length : Int) then (simple_Degrees.l0 k1 (y207.set (((rd_T42 l0_1 x16_1).f1) : Int).toNat (wrap64 ((rd y207 ((rd_T42 l0_1 x16_1).f1)) + 1))) l0_1 (l0_1.length : Int) (wrap64 (x16_1 + 1))) else (none)) else (none)) = some (r1, r2) := by first | (rw [hy207]; with_reducible exact H) | (have H2_ := (Option.bind_some _ _).symm.trans H; rw [hy207]; with_reducible exact H2_) | (have H2_ := (Option.bind_some _ _).symm.trans H; with_reducible exact H2_) | with_reducible exact H | (rw [hy207]; exact H) | exact H
           have Ny207 := Aside0.mk hy207; clear hy207
           by_cases c19 : 0 ≤ ((rd_T42 l0_1 x16_1).f1)
           ·rw [if_pos c19] at H; have c19b0 : decide (0 ≤ ((rd_T42 l0_1 x16_1).f1)) = true := decide_eq_true c19; clear c19
            by_cases c20 : ((rd_T42 l0_1 x16_1).f1) < (x4_1.length : Int)
            ·rw [if_pos c20] at H; have c20b0 : decide (((rd_T42 l0_1 x16_1).f1) < (x4_1.length : Int)) = true := decide_eq_true c20; clear c20; obtain ⟨y209, hy209⟩ : ∃ y_ : List Int, y_ = (y207.set (((rd_T42 l0_1 x16_1).f1) : Int).toNat (wrap64 ((rd y207 ((rd_T42 l0_1 x16_1).f1)) + 1))) := ⟨_, rfl⟩; replace H : (simple_Degrees.l0 k1 y209 l0_1 (l0_1.length : Int) (wrap64 (x16_1 + 1))) = some (r1, r2) := by first | (rw [hy209]; with_reducible exact H) | (have H2_ := (Option.bind_some _ _).symm.trans H; rw [hy209]; with_reducible exact H2_) | (have H2_ := (Option.bind_some _ _).symm.trans H; with_reducible exact H2_) | with_reducible exact H | (rw [hy209]; exact H) | exact H
             have Ny209 := Aside0.mk hy209; clear hy209; have H' := Aside0.mk H; clear H; have p204 : 0 ≤ (x16_1 : Int) := of_decide_eq_true (by first | (with_reducible assumption) | assumption); have q204 : x16_1 < (l0_1.length : Int) := of_decide_eq_true (by first | (with_reducible assumption) | assumption); obtain ⟨ad204, e204, hx204_0, hx204_1⟩ := at_T42 HR0_1.out x16_1 p204 q204
             cases e204
             replace hx204_0 := (HB.out.cell (World.block_lt_of_cell? w _ hx204_0)).trans hx204_0; replace hx204_1 := (HB.out.cell (World.block_lt_of_cell? w _ hx204_1)).trans hx204_1; replace p204 := eq_true p204; replace q204 := eq_true q204
             go_wp2_with (first | ((with_reducible refine gate_dst (N := 6) rfl ?_); refine be_ 6 #[.int .i64 0, .int .i64 0] 42 ?_; intro gb205 hg w22 hbox hb; replace HO_4 := ry HO_4 hb; have BK205 := Aside0.mk (hbox); have GW205 := wq (hb1 HB GE199) hg; have GE205 := wq (hb1 HB GE199) hg; replace HB := hs (hb1 HB GE199) hb; have NB199_205 := lx BK199 hg; have NB205_199 := gx BK199 hg; replace BK199 := kx BK199 hb; clear hb hbox hg; have hnb23 := NB205_199.out; have hnc23 := NB199_205.out; have hcz24_0 : w22.cell? ⟨gb205, 0, none⟩ = some (.int .i64 0) := bc BK205 0; have hcz24_1 : w22.cell? ⟨gb205, 1, none⟩ = some (.int .i64 0) := bc BK205 1; have hfz24_0 := blk_frozen BK205.out 0; have hfz24_1 := blk_frozen BK205.out 1) | ((with_reducible refine gate_store (t := 42) (p := 6) rfl ?_); refine store_event (t := 42) (p := 6) (v := ?vo_w25) (w1 := ((w22.setCell ⟨gb205, 0, none⟩ (.int .i64 ((rd_T42 l0_1 x16_1).f0))).setCell ⟨gb205, 1, none⟩ (.int .i64 ((rd_T42 l0_1 x16_1).f1)))) ?hg ?ho ?hn ?hr ?_; (case ho => rfl); (case hg => rfl); (case hn => rfl); (case hr => first | (go_simp; done) | (go_simp; rfl)); intro w25 hw; have n0_ : Aside0 (Kd.R (Kd.int .i64) 3 w25 w.heap.size (fun _ => True) v202 x4_1) := ⟨(by rw [hw]; exact (Kd.R_mono (rf HO_4 BK205) (fun _ hk => trivial)))⟩; have n1_ : Aside0 (w25.heap[gb199]? = some (.cells #[.int .i64 a0_0, .slice (some ad204) l0_1.length c0_1] 26 (0, 0))) := ⟨(by rw [hw]; exact (bx1 BK199 NB199_205))⟩; have n2_ : Aside0 (w25.heap[gb205]? = some (.cells #[.int .i64 ((rd_T42 l0_1 x16_1).f0), .int .i64 ((rd_T42 l0_1 x16_1).f1)] 42 (0, 0))) := ⟨(by rw [hw]; exact (bp BK205))⟩; have n3_ : Aside0 (Below w.heap.size w w25) := ⟨(by rw [hw]; exact (hb2 HB GE199 GE205))⟩; clear hw; clear HO_4; clear BK199; clear BK205; clear HB; have HO_4 := n0_; have BK199 := n1_; have BK205 := n2_; have HB := n3_; clear n0_ n1_ n2_ n3_; have hcz26_0 : w25.cell? ⟨gb205, 0, none⟩ = some (.int .i64 ((rd_T42 l0_1 x16_1).f0)) := bc BK205 0; have hcz26_1 : w25.cell? ⟨gb205, 1, none⟩ = some (.int .i64 ((rd_T42 l0_1 x16_1).f1)) := bc BK205 1; have hfz26_0 := blk_frozen BK205.out 0; have hfz26_1 := blk_frozen BK205.out 1; obtain ⟨Ao27, co27, eo27⟩ := Kd.R_slice HO_4.out; subst eo27; have p206 : 0 ≤ (((rd_T42 l0_1 x16_1).f0) : Int) := of_decide_eq_true (by first | (with_reducible assumption) | assumption); have q206 : ((rd_T42 l0_1 x16_1).f0) < (x4_1.length : Int) := of_decide_eq_true (by first | (with_reducible assumption) | assumption); obtain ⟨ad206, e206, hx206_0⟩ := Kd.at_int (Kd.R_reads' HO_4.out).2.2 ((rd_T42 l0_1 x16_1).f0) p206 q206; cases e206; replace p206 := eq_true p206; replace q206 := eq_true q206; have p18 : 0 ≤ (((rd_T42 l0_1 x16_1).f0) : Int) := of_decide_eq_true (by first | (with_reducible assumption) | assumption); have q18 : (((rd_T42 l0_1 x16_1).f0) : Int) < ((x4_1.length : Int) : Int) := of_decide_eq_true (by first | (with_reducible assumption) | assumption); obtain ⟨go18, co18, eo18, gb18, gl18, cl18, HG18⟩ := Kd.R_form HO_4.out (by omega); (first | cases eo18 | (injection eo18 with ea_ en_ ec_; (first | subst ea_ | (injection ea_ with ea_; subst ea_)); subst ec_; clear en_)); have GB18 := Aside0.mk gb18; have GG18 := Aside0.mk HG18; clear gb18 gl18 HG18; (first | simp only [add_plain] at hx206_0 | skip); obtain ⟨hx18_0, hf18_0⟩ := Kd.R_celln 0 HO_4.out (((rd_T42 l0_1 x16_1).f0) : Int) p18 q18; replace p18 := eq_true p18; replace q18 := eq_true q18; obtain ⟨hy28_, hz28_⟩ := Kd.R_celln 0 HO_4.out (((rd_T42 l0_1 x16_1).f0) : Int) (of_decide_eq_true (by first | (with_reducible assumption) | assumption)) (of_decide_eq_true (by first | (with_reducible assumption) | assumption)); have HP28 := Kd.R_putg HO_4.out (((rd_T42 l0_1 x16_1).f0) : Int) (wrap64 ((rd x4_1 ((rd_T42 l0_1 x16_1).f0)) + 1))) | ((with_reducible refine gate_store (t := 3) (p := 26) rfl ?_); refine store_event (t := 3) (p := 26) (v := ?vo_w29) (w1 := (w25.setCell ⟨go18, (((rd_T42 l0_1 x16_1).f0) : Int).toNat, none⟩ (.int .i64 (wrap64 ((rd x4_1 ((rd_T42 l0_1 x16_1).f0)) + 1))))) ?hg ?ho ?hn ?hr ?_; (case ho => rfl); (case hg => rfl); (case hn => rfl); (case hr => first | (go_simp; done) | (go_simp; rfl)); intro w29 hw; have hg : w25.grownBy w29 (some go18) := (by rw [hw]; exact HP28.2); have hp_ : Kd.R (Kd.int .i64) 3 w29 w.heap.size (fun _ => True) (.slice (some ⟨go18, 0, none⟩) x4_1.length co27) y207 := (by rw [hw, Ny207.out]; exact HP28.1); clear HP28; replace BK199 := Aside0.mk (blk_grown (bx BK199) hg (Kd.R_ne HO_4.out BK199.out (by decide))); replace BK205 := Aside0.mk (blk_grown (bx BK205) hg (Kd.R_ne HO_4.out BK205.out (by decide))); replace HO_4 := Aside0.mk (hp_); replace HB := Aside0.mk ((by rw [hw]; exact below_set (HB.out) GB18.out : Below w.heap.size w w29)); clear hg hw hp_; have hcz30_0 : w29.cell? ⟨gb205, 0, none⟩ = some (.int .i64 ((rd_T42 l0_1 x16_1).f0)) := bc BK205 0; have hcz30_1 : w29.cell? ⟨gb205, 1, none⟩ = some (.int .i64 ((rd_T42 l0_1 x16_1).f1)) := bc BK205 1; have hfz30_0 := blk_frozen BK205.out 0; have hfz30_1 := blk_frozen BK205.out 1; have p208 : 0 ≤ (((rd_T42 l0_1 x16_1).f1) : Int) := of_decide_eq_true (by first | (with_reducible assumption) | assumption); have q208 : ((rd_T42 l0_1 x16_1).f1) < (y207.length : Int) := (by have h_ : (((rd_T42 l0_1 x16_1).f1) : Int) < ((x4_1.length : Int) : Int) := of_decide_eq_true (by first | (with_reducible assumption) | assumption); first | (have e_ := (Kd.R_reads' HO_4.out).1; omega) | simpa only [Ny207.out, List.length_set] using h_); have ql208 : ((((rd_T42 l0_1 x16_1).f1) : Int) < ((x4_1.length : Int) : Int)) = True := eq_true (of_decide_eq_true (by first | (with_reducible assumption) | assumption)); obtain ⟨ad208, e208, hx208_0⟩ := Kd.at_int (Kd.R_reads' HO_4.out).2.2 ((rd_T42 l0_1 x16_1).f1) p208 q208; obtain rfl : (⟨go18, 0, none⟩ : Addr) = ad208 := (by injection e208); (first | simp only [add_plain] at hx208_0 | simp only [add_at] at hx208_0 | simp only [Addr.add, Nat.zero_add] at hx208_0 | skip); replace p208 := eq_true p208; replace q208 := eq_true q208; have p21 : 0 ≤ (((rd_T42 l0_1 x16_1).f1) : Int) := of_decide_eq_true (by first | (with_reducible assumption) | assumption); have q21 : (((rd_T42 l0_1 x16_1).f1) : Int) < ((x4_1.length : Int) : Int) := of_decide_eq_true (by first | (with_reducible assumption) | assumption); obtain ⟨hx21_0, hf21_0⟩ := Kd.R_celln 0 HO_4.out (((rd_T42 l0_1 x16_1).f1) : Int) p21 q21; replace p21 := eq_true p21; replace q21 := eq_true q21; obtain ⟨hy31_, hz31_⟩ := Kd.R_celln 0 HO_4.out (((rd_T42 l0_1 x16_1).f1) : Int) (of_decide_eq_true (by first | (with_reducible assumption) | assumption)) (of_decide_eq_true (by first | (with_reducible assumption) | assumption)); have HP31 := Kd.R_putg HO_4.out (((rd_T42 l0_1 x16_1).f1) : Int) (wrap64 ((rd y207 ((rd_T42 l0_1 x16_1).f1)) + 1))) | ((with_reducible refine gate_store (t := 3) (p := 33) rfl ?_); refine store_event (t := 3) (p := 33) (v := ?vo_w32) (w1 := (w29.setCell ⟨go18, (((rd_T42 l0_1 x16_1).f1) : Int).toNat, none⟩ (.int .i64 (wrap64 ((rd y207 ((rd_T42 l0_1 x16_1).f1)) + 1))))) ?hg ?ho ?hn ?hr ?_; (case ho => rfl); (case hg => rfl); (case hn => rfl); (case hr => first | (go_simp; done) | (go_simp; rfl)); intro w32 hw; have hg : w29.grownBy w32 (some go18) := (by rw [hw]; exact HP31.2); have hp_ : Kd.R (Kd.int .i64) 3 w32 w.heap.size (fun _ => True) (.slice (some ⟨go18, 0, none⟩) x4_1.length co27) y209 := (by rw [hw, Ny209.out]; exact HP31.1); clear HP31; replace BK199 := Aside0.mk (blk_grown (bx BK199) hg (Kd.R_ne HO_4.out BK199.out (by decide))); replace BK205 := Aside0.mk (blk_grown (bx BK205) hg (Kd.R_ne HO_4.out BK205.out (by decide))); replace HO_4 := Aside0.mk (hp_); replace HB := Aside0.mk ((by rw [hw]; exact below_set (HB.out) GB18.out : Below w.heap.size w w32)); clear hg hw hp_))
             go_roundg k1
             case measure => have := HK1.out; omega
             case rel => exact ⟨(y209), (wrap64 (x16_1 + 1)), (by first | rfl | (simp; done) | (simp [*]; done)), H', ⟨by have := HK1.out; omega⟩, ⟨rx HO_4⟩, ⟨bx BK199⟩, ⟨hb2 HB GE199 GE205⟩⟩
            ·rw [if_neg c20] at H; exact absurd H (by simp)
           ·rw [if_neg c19] at H; exact absurd H (by simp)
          ·rw [if_neg c17] at H; exact absurd H (by simp)
         ·rw [if_neg c16] at H; exact absurd H (by simp)
        ·rw [if_neg c15] at H; exact absurd H (by simp)
       ·rw [if_neg c14] at H; exact absurd H (by simp)
      ·rw [if_neg c13] at H; have c13b0 : decide (x16_1 < (l0_1.length : Int)) = false := decide_eq_false c13; clear c13; simp only [Option.some.injEq, Prod.mk.injEq] at H; obtain ⟨rfl, rfl⟩ := H
       go_wp2
       go_ret2
       exact ⟨_, by first | rfl | (simp [errW_none, errW_some] <;> rfl) | (simp [*, errW_none, errW_some] <;> rfl), by (with_reducible repeat (first | apply Kd.R_alloc | apply Kd.R_drewN | apply Kd.R_drew)); exact HO_4.out, hb1 HB GE199⟩
   ·rw [if_neg c5] at H; exact absurd H (by simp)
  ·rw [if_neg c4] at H; exact absurd H (by simp)
 ·replace c3 := Bool.eq_false_iff.mpr c3; subst c3; have H1 : (some (([] : List Int), 1)) = some (r1, r2) := by rw [if_neg (show ¬ (false = true) by decide)] at H; exact H
  clear H; have H := H1; clear H1; simp only [Option.some.injEq, Prod.mk.injEq] at H; obtain ⟨rfl, rfl⟩ := H
  go_enter Tryd.func21, Tryd.ntmps21
  go_wp2_with (first | ((with_reducible refine gate_dst (N := 1) rfl ?_); refine be_ 1 #[.int .i64 a0_0, .slice A0_1 l0_1.length c0_1] 26 ?_; intro gb199 hg w33 hbox hb; have BK199 := Aside0.mk (hbox); have GW199 := wq (hb0 HB) hg; have GE199 := wq (hb0 HB) hg; replace HB := hs (hb0 HB) hb; clear hb hbox hg; have hcz34_0 : w33.cell? ⟨gb199, 0, none⟩ = some (.int .i64 a0_0) := bc BK199 0; have hcz34_1 : w33.cell? ⟨gb199, 1, none⟩ = some (.slice A0_1 l0_1.length c0_1) := bc BK199 1; have hfz34_0 := blk_frozen BK199.out 0; have hfz34_1 := blk_frozen BK199.out 1) | ((with_reducible refine gate_callee (f := 24) rfl ?_); refine gl_ (some 8) Tryd.func24 #[.agg #[.int .i64 a0_0, .slice A0_1 l0_1.length c0_1]] ?_; (with_reducible refine (simple_Valid.calls k a0_0 _ _ l0_1 false _ ?side1 ?side2 A2.out).mono ?_); (case side1 => repeat (first | exact (Kd.C_below HR0_1.out HB.out) | (with_reducible refine Kd.C_alloc ?_ _) | (with_reducible refine Kd.C_drewN ?_ _) | (with_reducible refine Kd.C_drew ?_))); (case side2 => exact HC0_1.out); rintro e w35 ⟨rfl, hb⟩; refine ⟨_, rfl, ?_⟩; replace BK199 := kx BK199 hb; replace HB := hs (hb1 HB GE199) hb; (try clear hb); (try clear hb2); (try clear hk); (try clear hi)))
  go_ret2
  exact ⟨_, by first | rfl | (simp [errW_none, errW_some] <;> rfl) | (simp [*, errW_none, errW_some] <;> rfl), by first | exact Kd.R_nil _ _ _ _ _ | exact Kd.N_nil _ _ _ _ _ | exact Kd.V_nil _ _ _ _ _ | exact Kd.Q_nil _ _ _ _ _ | exact Kd.S_nil _ _ _ _ _, hb1 HB GE199⟩

end Go.Proofs.YthejafdcdcchbaaDoor.PSimA

-- PRINTED by print.py (a twelfth state) out of the translation. Not trusted: Lean checks it.
namespace Go.Proofs.YthejafdcdcchbaaDoor.PSimA
open Go.RowKit Go.Proofs.YthejafdcdcchbaaDoorW.PrintWords Go.Proofs.YthejafdcdcchbaaDoorW.PrintLast Go.Proofs.YthejafdcdcchbaaDoorW.PrintMore
open Go.Proofs.YthejafdcdcchbaaDoorX
attribute [local go_sem] max2_int min2_int max_two min_two max_three min_three max_four min_four   -- for this text's walks alone
set_option linter.unusedVariables false
set_option linter.unusedSimpArgs false

/-! ### tangramref03_Degrees: function 22 -/
def tangramref03_Degrees.l0 : Nat → List Int → Int → Int → List (S42) → Option (List Int × Int)
 | 0, _, _, _, _ => none
 | k + 1, x5, x6, x211000, x211001 => if x6 < (x211001.length : Int) then (if 0 ≤ x6 then (if 0 ≤ ((rd_T42 x211001 x6).f0) then (if ((rd_T42 x211001 x6).f0) < (x5.length : Int) then ((some (x5.set (((rd_T42 x211001 x6).f0) : Int).toNat (wrap64 ((rd x5 ((rd_T42 x211001 x6).f0)) + 1)) : List Int)).bind fun y217 => (if 0 ≤ ((rd_T42 x211001 x6).f1) then (if ((rd_T42 x211001 x6).f1) < (x5.length : Int) then (tangramref03_Degrees.l0 k (y217.set (((rd_T42 x211001 x6).f1) : Int).toNat (wrap64 ((rd y217 ((rd_T42 x211001 x6).f1)) + 1))) (wrap64 (x6 + 1)) x211000 x211001) else (none)) else (none))) else (none)) else (none)) else (none)) else (some (x5, 0))
def tangramref03_Degrees.f (k : Nat) (a0_0 : Int) (l0_1 : List (S42)) : Option (List Int × Int) := (tangramref03_Valid.f k a0_0 l0_1).bind fun t211 => (if t211 = true then (if 0 ≤ a0_0 then (if (a0_0 : Int).toNat ≤ 35184372088832 then (tangramref03_Degrees.l0 k (List.replicate (a0_0 : Int).toNat 0) 0 a0_0 l0_1) else (none)) else (none)) else (some (([] : List Int), 1)))
theorem tangramref03_Degrees.mono_l : ∀ k, (∀ y0 y1 y2 y3, LeO (tangramref03_Degrees.l0 k y0 y1 y2 y3) (tangramref03_Degrees.l0 (k + 1) y0 y1 y2 y3))
 | 0 => fun _ _ _ _ r h => by simp [tangramref03_Degrees.l0] at h
 | k + 1 => by
  have ih0 := tangramref03_Degrees.mono_l k
  ·intro y0 y1 y2 y3
   unfold tangramref03_Degrees.l0
   repeat' first
   | (with_reducible exact ih0 _ _ _ _)
   | (with_reducible exact tangramref03_Valid.mono _ _ _)
   | (with_reducible exact LeO.refl _)
   | (with_reducible exact LeO.none _)
   | (with_reducible refine LeO.ite ?_ ?_)
   | (with_reducible refine LeO.bind ?_ (fun _ => ?_))
   | exact ih0 _ _ _ _
   | exact tangramref03_Valid.mono _ _ _
   | exact LeO.none _
   | refine LeO.ite ?_ ?_
   | refine LeO.bind ?_ (fun _ => ?_)
theorem tangramref03_Degrees.mono : ∀ a0 a1 k, LeO (tangramref03_Degrees.f k a0 a1) (tangramref03_Degrees.f (k + 1) a0 a1) := by
 intro a0 a1 k; have ih0 := tangramref03_Degrees.mono_l k
 unfold tangramref03_Degrees.f
 repeat' first
   | (with_reducible exact ih0 _ _ _ _)
   | (with_reducible exact tangramref03_Valid.mono _ _ _)
   | (with_reducible exact LeO.refl _)
   | (with_reducible exact LeO.none _)
   | (with_reducible refine LeO.ite ?_ ?_)
   | (with_reducible refine LeO.bind ?_ (fun _ => ?_))
   | exact ih0 _ _ _ _
   | exact tangramref03_Valid.mono _ _ _
   | exact LeO.none _
   | refine LeO.ite ?_ ?_
   | refine LeO.bind ?_ (fun _ => ?_)
set_option maxHeartbeats 8000000 in
set_option maxRecDepth 100000 in
theorem tangramref03_Degrees.calls (k : Nat) (a0_0 : Int) (A0_1 : Option Addr) (c0_1 : Nat) (l0_1 : List (S42)) (r1 : List Int) (r2 : Int) (w : World) (hr0_1 : Kd.C k42 w A0_1 l0_1.length l0_1) (hc0_1 : l0_1.length ≤ c0_1) (h : tangramref03_Degrees.f k a0_0 l0_1 = some (r1, r2)) :
  Calls Tryd.prog 22 #[.agg #[.int .i64 a0_0, .slice A0_1 l0_1.length c0_1]] w fun e w' => ∃ v0_ : Value, e = .returned (.tuple #[v0_, .int .i64 r2]) ∧ Kd.R (Kd.int .i64) 3 w' w.heap.size (fun _ => True) v0_ r1 ∧ Below w.heap.size w w' := by
 have hu26 := Tryd.underlying26; have HR0_1 := Aside0.mk hr0_1; have HC0_1 := Aside0.mk hc0_1; clear hr0_1 hc0_1; have HB := Aside0.mk (Below.refl w.heap.size w); have H : ((tangramref03_Valid.f k a0_0 l0_1).bind fun t211 => (if t211 = true then (if 0 ≤ a0_0 then (if (a0_0 : Int).toNat ≤ 35184372088832 then (tangramref03_Degrees.l0 k (List.replicate (a0_0 : Int).toNat 0) 0 a0_0 l0_1) else (none)) else (none)) else (some (([] : List Int), 1)))) = some (r1, r2) := h; clear h; replace H := Option.bind_eq_some_iff.mp H; obtain ⟨t211, A20, H⟩ := H; replace H : (if t211 = true then (if 0 ≤ a0_0 then (if (a0_0 : Int).toNat ≤ 35184372088832 then (tangramref03_Degrees.l0 k (List.replicate (a0_0 : Int).toNat 0) 0 a0_0 l0_1) else (none)) else (none)) else (some (([] : List Int), 1))) = some (r1, r2) := H; have A2 := Aside0.mk A20; clear A20
 by_cases c3 : t211 = true
 ·subst c3; have H1 : (if 0 ≤ a0_0 then (if (a0_0 : Int).toNat ≤ 35184372088832 then (tangramref03_Degrees.l0 k (List.replicate (a0_0 : Int).toNat 0) 0 a0_0 l0_1) else (none)) else (none)) = some (r1, r2) := by rw [if_pos rfl] at H; exact H
  clear H; have H := H1; clear H1
  by_cases c4 : 0 ≤ a0_0
  ·rw [if_pos c4] at H; have c4b0 := eq_true c4; have c4b1 : decide (0 ≤ a0_0) = true := decide_eq_true c4; clear c4
   by_cases c5 : (a0_0 : Int).toNat ≤ 35184372088832
   ·rw [if_pos c5] at H; have c5b0 := eq_true c5; have c5b1 : decide ((a0_0 : Int).toNat ≤ 35184372088832) = true := decide_eq_true c5; clear c5; obtain ⟨y212, hy212⟩ : ∃ y_ : List Int, y_ = (List.replicate (a0_0 : Int).toNat 0) := ⟨_, rfl⟩; replace H : (tangramref03_Degrees.l0 k y212 0 a0_0 l0_1) = some (r1, r2) := by first | (rw [hy212]; with_reducible exact H) | (have H2_ := (Option.bind_some _ _).symm.trans H; rw [hy212]; with_reducible exact H2_) | (have H2_ := (Option.bind_some _ _).symm.trans H; with_reducible exact H2_) | with_reducible exact H | (rw [hy212]; exact H) | exact H
    have Ny212 := Aside0.mk hy212; clear hy212; have H' := Aside0.mk H; clear H
    go_enter Tryd.func22, Tryd.ntmps22
    go_wp2_with (first | ((with_reducible refine gate_dst (N := 1) rfl ?_); refine be_ 1 #[.int .i64 a0_0, .slice A0_1 l0_1.length c0_1] 26 ?_; intro gb210 hg w6 hbox hb; have BK210 := Aside0.mk (hbox); have GW210 := wq (hb0 HB) hg; have GE210 := wq (hb0 HB) hg; replace HB := hs (hb0 HB) hb; clear hb hbox hg; have hcz7_0 : w6.cell? ⟨gb210, 0, none⟩ = some (.int .i64 a0_0) := bc BK210 0; have hcz7_1 : w6.cell? ⟨gb210, 1, none⟩ = some (.slice A0_1 l0_1.length c0_1) := bc BK210 1; have hfz7_0 := blk_frozen BK210.out 0; have hfz7_1 := blk_frozen BK210.out 1) | ((with_reducible refine gate_callee (f := 25) rfl ?_); refine gl_ (some 8) Tryd.func25 #[.agg #[.int .i64 a0_0, .slice A0_1 l0_1.length c0_1]] ?_; (with_reducible refine (tangramref03_Valid.calls k a0_0 _ _ l0_1 true _ ?side1 ?side2 A2.out).mono ?_); (case side1 => repeat (first | exact (Kd.C_below HR0_1.out HB.out) | (with_reducible refine Kd.C_alloc ?_ _) | (with_reducible refine Kd.C_drewN ?_ _) | (with_reducible refine Kd.C_drew ?_))); (case side2 => exact HC0_1.out); rintro e w8 ⟨rfl, hb⟩; refine ⟨_, rfl, ?_⟩; replace BK210 := kx BK210 hb; replace HB := hs (hb1 HB GE210) hb; (try clear hb); (try clear hb2); (try clear hk); (try clear hi); have hcz9_0 : w8.cell? ⟨gb210, 0, none⟩ = some (.int .i64 a0_0) := bc BK210 0; have hcz9_1 : w8.cell? ⟨gb210, 1, none⟩ = some (.slice A0_1 l0_1.length c0_1) := bc BK210 1; have hfz9_0 := blk_frozen BK210.out 0; have hfz9_1 := blk_frozen BK210.out 1) | ((with_reducible refine gate_dst (N := 13) rfl ?_); refine Kd.R_make (Kd.int .i64) _ 3 rfl (N := 13) rfl 45 _ _ rfl a0_0 rfl rfl Tryd.underlying45 (.int .i64 0) 8 info3 rfl (by decide) (by omega) 0 (ok := fun _ => True) (okp := fun _ => True) rfl (fun _ hk => hk) trivial (of_decide_eq_true (by first | (with_reducible assumption) | assumption)) (Nat.le_trans (Nat.mul_le_mul_right _ (of_decide_eq_true (by first | (with_reducible assumption) | assumption) : a0_0.toNat ≤ 35184372088832)) (by omega)) (Below.refl _ _) (Nat.le_refl _) ?_; intro v213 w10 ho11 hb hg_ hnew_; clear hg_ hnew_; (first | rw [← Ny212.out] at ho11 | (simp only [Int.reduceToNat] at ho11; rw [← Ny212.out] at ho11)); have HO214 := Aside0.mk (Kd.R_lower ho11 (below_size (hb1 HB GE210))); replace BK210 := kx BK210 hb; replace HB := hs (hb1 HB GE210) hb; clear hb ho11))
    go_loopg [6] k (fun kq v6 w' => ∃ (x5_1 : List Int) (x6_1 : Int), v6 = .int .i64 x6_1 ∧ Aside0 (tangramref03_Degrees.l0 kq x5_1 x6_1 a0_0 l0_1 = some (r1, r2)) ∧ Aside0 (kq ≤ k) ∧ Aside0 (Kd.R (Kd.int .i64) 3 w' w.heap.size (fun _ => True) v213 x5_1) ∧ Aside0 (w'.heap[gb210]? = some (.cells #[.int .i64 a0_0, (.slice A0_1 l0_1.length c0_1)] 26 (0, 0))) ∧ Aside0 (Below w.heap.size w w'))
    case atStart => exact ⟨(y212), (0), (by first | rfl | (simp; done) | (simp [*]; done)), H', ⟨Nat.le_refl _⟩, ⟨rx HO214⟩, ⟨bx BK210⟩, ⟨hb1 HB GE210⟩⟩
    case round =>
     clear H'
     try clear c2
     try clear p2
     try clear c3
     try clear c4
     try clear c4b0
     try clear c4b1
     try clear c5
     try clear c5b0
     try clear c5b1
     try clear hcz7_0
     try clear hcz7_1
     try clear hcz9_0
     try clear hcz9_1
     try clear hfz7_0
     try clear hfz7_1
     try clear hfz9_0
     try clear hfz9_1
     obtain ⟨x5_1, x6_1, rfl, HA, HK1, HO_5, BK210, HB⟩ := hrel
     cases gk with
     | zero => exact absurd HA.out (by simp [tangramref03_Degrees.l0])
     | succ k1 =>
      have H := HA.out; clear HA; simp only [tangramref03_Degrees.l0] at H
      by_cases c12 : x6_1 < (l0_1.length : Int)
      ·rw [if_pos c12] at H; have c12b0 : decide (x6_1 < (l0_1.length : Int)) = true := decide_eq_true c12; clear c12
       by_cases c13 : 0 ≤ x6_1
       ·rw [if_pos c13] at H; have c13b0 : decide (0 ≤ x6_1) = true := decide_eq_true c13; clear c13
        by_cases c14 : 0 ≤ ((rd_T42 l0_1 x6_1).f0)
        ·rw [if_pos c14] at H; have c14b0 : decide (0 ≤ ((rd_T42 l0_1 x6_1).f0)) = true := decide_eq_true c14; clear c14
         by_cases c15 : ((rd_T42 l0_1 x6_1).f0) < (x5_1.length : Int)
         ·rw [if_pos c15] at H; have c15b0 : decide (((rd_T42 l0_1 x6_1).f0) < (x5_1.length : Int)) = true := decide_eq_true c15; clear c15; obtain ⟨y217, hy217⟩ : ∃ y_ : List Int, y_ = (x5_1.set (((rd_T42 l0_1 x6_1).f0) : Int).toNat (wrap64 ((rd x5_1 ((rd_T42 l0_1 x6_1).f0)) + 1))) := ⟨_, rfl⟩; replace H : (if 0 ≤ ((rd_T42 l0_1 x6_1).f1) then (if ((rd_T42 l0_1 x6_1).f1) < (x5_1.length : Int) then (tangramref03_Degrees.l0 k1 (y217.set (((rd_T42 l0_1 x6_1).f1) : Int).toNat (wrap64 ((rd y217 ((rd_T42 l0_1 x6_1).f1)) + 1))) (wrap64 (x6_1 + 1)) a0_0 l0_1) else (none)) else (none)) = some (r1, r2) := by first | (rw [hy217]; with_reducible exact H) | (have H2_ := (Option.bind_some _ _).symm.trans H; rw [hy217]; with_reducible exact H2_) | (have H2_ := (Option.bind_some _ _).symm.trans H; with_reducible exact H2_) | with_reducible exact H | (rw [hy217]; exact H) | exact H
          have Ny217 := Aside0.mk hy217; clear hy217
          by_cases c17 : 0 ≤ ((rd_T42 l0_1 x6_1).f1)
          ·rw [if_pos c17] at H; have c17b0 : decide (0 ≤ ((rd_T42 l0_1 x6_1).f1)) = true := decide_eq_true c17; clear c17
           by_cases c18 : ((rd_T42 l0_1 x6_1).f1) < (x5_1.length : Int)
           ·rw [if_pos c18] at H; have c18b0 : decide (((rd_T42 l0_1 x6_1).f1) < (x5_1.length : Int)) = true := decide_eq_true c18; clear c18; obtain ⟨y220, hy220⟩ : ∃ y_ : List Int, y_ = (y217.set (((rd_T42 l0_1 x6_1).f1) : Int).toNat (wrap64 ((rd y217 ((rd_T42 l0_1 x6_1).f1)) + 1))) := ⟨_, rfl⟩; replace H : (tangramref03_Degrees.l0 k1 y220 (wrap64 (x6_1 + 1)) a0_0 l0_1) = some (r1, r2) := by first | (rw [hy220]; with_reducible exact H) | (have H2_ := (Option.bind_some _ _).symm.trans H; rw [hy220]; with_reducible exact H2_) | (have H2_ := (Option.bind_some _ _).symm.trans H; with_reducible exact H2_) | with_reducible exact H | (rw [hy220]; exact H) | exact H
            have Ny220 := Aside0.mk hy220; clear hy220; have H' := Aside0.mk H; clear H; have hcz20_0 : wr.cell? ⟨gb210, 0, none⟩ = some (.int .i64 a0_0) := bc BK210 0; have hcz20_1 : wr.cell? ⟨gb210, 1, none⟩ = some (.slice A0_1 l0_1.length c0_1) := bc BK210 1; have hfz20_0 := blk_frozen BK210.out 0; have hfz20_1 := blk_frozen BK210.out 1; have p215 : 0 ≤ (x6_1 : Int) := of_decide_eq_true (by first | (with_reducible assumption) | assumption); have q215 : x6_1 < (l0_1.length : Int) := of_decide_eq_true (by first | (with_reducible assumption) | assumption); obtain ⟨ad215, e215, hx215_0, hx215_1⟩ := at_T42 HR0_1.out x6_1 p215 q215
            cases e215
            replace hx215_0 := (HB.out.cell (World.block_lt_of_cell? w _ hx215_0)).trans hx215_0; replace hx215_1 := (HB.out.cell (World.block_lt_of_cell? w _ hx215_1)).trans hx215_1; replace p215 := eq_true p215; replace q215 := eq_true q215; obtain ⟨Ao21, co21, eo21⟩ := Kd.R_slice HO_5.out; subst eo21; have p216 : 0 ≤ (((rd_T42 l0_1 x6_1).f0) : Int) := of_decide_eq_true (by first | (with_reducible assumption) | assumption); have q216 : ((rd_T42 l0_1 x6_1).f0) < (x5_1.length : Int) := of_decide_eq_true (by first | (with_reducible assumption) | assumption); obtain ⟨ad216, e216, hx216_0⟩ := Kd.at_int (Kd.R_reads' HO_5.out).2.2 ((rd_T42 l0_1 x6_1).f0) p216 q216
            cases e216
            replace p216 := eq_true p216; replace q216 := eq_true q216; have p16 : 0 ≤ (((rd_T42 l0_1 x6_1).f0) : Int) := of_decide_eq_true (by first | (with_reducible assumption) | assumption); have q16 : (((rd_T42 l0_1 x6_1).f0) : Int) < ((x5_1.length : Int) : Int) := of_decide_eq_true (by first | (with_reducible assumption) | assumption); obtain ⟨go16, co16, eo16, gb16, gl16, cl16, HG16⟩ := Kd.R_form HO_5.out (by omega)
            (first | cases eo16 | (injection eo16 with ea_ en_ ec_; (first | subst ea_ | (injection ea_ with ea_; subst ea_)); subst ec_; clear en_))
            have GB16 := Aside0.mk gb16; have GG16 := Aside0.mk HG16; clear gb16 gl16 HG16
            (first | simp only [add_plain] at hx216_0 | skip)
            obtain ⟨hx16_0, hf16_0⟩ := Kd.R_celln 0 HO_5.out (((rd_T42 l0_1 x6_1).f0) : Int) p16 q16; replace p16 := eq_true p16; replace q16 := eq_true q16; have HP22 := Kd.R_putg HO_5.out (((rd_T42 l0_1 x6_1).f0) : Int) (wrap64 ((rd x5_1 ((rd_T42 l0_1 x6_1).f0)) + 1))
            go_wp2_with (first | ((with_reducible refine gate_store (t := 3) (p := 31) rfl ?_); refine store_event (t := 3) (p := 31) (v := ?vo_w23) (w1 := (wr.setCell ⟨go16, (((rd_T42 l0_1 x6_1).f0) : Int).toNat, none⟩ (.int .i64 (wrap64 ((rd x5_1 ((rd_T42 l0_1 x6_1).f0)) + 1))))) ?hg ?ho ?hn ?hr ?_; (case ho => rfl); (case hg => rfl); (case hn => rfl); (case hr => first | (go_simp; done) | (go_simp; rfl)); intro w23 hw; have hg : wr.grownBy w23 (some go16) := (by rw [hw]; exact HP22.2); have hp_ : Kd.R (Kd.int .i64) 3 w23 w.heap.size (fun _ => True) (.slice (some ⟨go16, 0, none⟩) x5_1.length co21) y217 := (by rw [hw, Ny217.out]; exact HP22.1); clear HP22; replace BK210 := Aside0.mk (blk_grown (bx BK210) hg (Kd.R_ne HO_5.out BK210.out (by decide))); replace HO_5 := Aside0.mk (hp_); replace HB := Aside0.mk ((by rw [hw]; exact below_set (HB.out) GB16.out : Below w.heap.size w w23)); clear hg hw hp_; have hcz24_0 : w23.cell? ⟨gb210, 0, none⟩ = some (.int .i64 a0_0) := bc BK210 0; have hcz24_1 : w23.cell? ⟨gb210, 1, none⟩ = some (.slice (some ad215) l0_1.length c0_1) := bc BK210 1; have hfz24_0 := blk_frozen BK210.out 0; have hfz24_1 := blk_frozen BK210.out 1; have p218 : 0 ≤ (x6_1 : Int) := of_decide_eq_true (by first | (with_reducible assumption) | assumption); have q218 : x6_1 < (l0_1.length : Int) := of_decide_eq_true (by first | (with_reducible assumption) | assumption); obtain ⟨ad218, e218, hx218_0, hx218_1⟩ := at_T42 HR0_1.out x6_1 p218 q218; obtain rfl : ad215 = ad218 := (by injection e218); replace hx218_0 := (HB.out.cell (World.block_lt_of_cell? w _ hx218_0)).trans hx218_0; replace hx218_1 := (HB.out.cell (World.block_lt_of_cell? w _ hx218_1)).trans hx218_1; replace p218 := eq_true p218; replace q218 := eq_true q218; have p219 : 0 ≤ (((rd_T42 l0_1 x6_1).f1) : Int) := of_decide_eq_true (by first | (with_reducible assumption) | assumption); have q219 : ((rd_T42 l0_1 x6_1).f1) < (y217.length : Int) := (by have h_ : (((rd_T42 l0_1 x6_1).f1) : Int) < ((x5_1.length : Int) : Int) := of_decide_eq_true (by first | (with_reducible assumption) | assumption); first | (have e_ := (Kd.R_reads' HO_5.out).1; omega) | simpa only [Ny217.out, List.length_set] using h_); have ql219 : ((((rd_T42 l0_1 x6_1).f1) : Int) < ((x5_1.length : Int) : Int)) = True := eq_true (of_decide_eq_true (by first | (with_reducible assumption) | assumption)); obtain ⟨ad219, e219, hx219_0⟩ := Kd.at_int (Kd.R_reads' HO_5.out).2.2 ((rd_T42 l0_1 x6_1).f1) p219 q219; obtain rfl : (⟨go16, 0, none⟩ : Addr) = ad219 := (by injection e219); (first | simp only [add_plain] at hx219_0 | simp only [add_at] at hx219_0 | simp only [Addr.add, Nat.zero_add] at hx219_0 | skip); replace p219 := eq_true p219; replace q219 := eq_true q219; have p19 : 0 ≤ (((rd_T42 l0_1 x6_1).f1) : Int) := of_decide_eq_true (by first | (with_reducible assumption) | assumption); have q19 : (((rd_T42 l0_1 x6_1).f1) : Int) < ((x5_1.length : Int) : Int) := of_decide_eq_true (by first | (with_reducible assumption) | assumption); obtain ⟨hx19_0, hf19_0⟩ := Kd.R_celln 0 HO_5.out (((rd_T42 l0_1 x6_1).f1) : Int) p19 q19; replace p19 := eq_true p19; replace q19 := eq_true q19; obtain ⟨hy25_, hz25_⟩ := Kd.R_celln 0 HO_5.out (((rd_T42 l0_1 x6_1).f1) : Int) (of_decide_eq_true (by first | (with_reducible assumption) | assumption)) (of_decide_eq_true (by first | (with_reducible assumption) | assumption)); have HP25 := Kd.R_putg HO_5.out (((rd_T42 l0_1 x6_1).f1) : Int) (wrap64 ((rd y217 ((rd_T42 l0_1 x6_1).f1)) + 1))) | ((with_reducible refine gate_store (t := 3) (p := 42) rfl ?_); refine store_event (t := 3) (p := 42) (v := ?vo_w26) (w1 := (w23.setCell ⟨go16, (((rd_T42 l0_1 x6_1).f1) : Int).toNat, none⟩ (.int .i64 (wrap64 ((rd y217 ((rd_T42 l0_1 x6_1).f1)) + 1))))) ?hg ?ho ?hn ?hr ?_; (case ho => rfl); (case hg => rfl); (case hn => rfl); (case hr => first | (go_simp; done) | (go_simp; rfl)); intro w26 hw; have hg : w23.grownBy w26 (some go16) := (by rw [hw]; exact HP25.2); have hp_ : Kd.R (Kd.int .i64) 3 w26 w.heap.size (fun _ => True) (.slice (some ⟨go16, 0, none⟩) x5_1.length co21) y220 := (by rw [hw, Ny220.out]; exact HP25.1); clear HP25; replace BK210 := Aside0.mk (blk_grown (bx BK210) hg (Kd.R_ne HO_5.out BK210.out (by decide))); replace HO_5 := Aside0.mk (hp_); replace HB := Aside0.mk ((by rw [hw]; exact below_set (HB.out) GB16.out : Below w.heap.size w w26)); clear hg hw hp_))
            go_roundg k1
            case measure => have := HK1.out; omega
            case rel => exact ⟨(y220), (wrap64 (x6_1 + 1)), (by first | rfl | (simp; done) | (simp [*]; done)), H', ⟨by have := HK1.out; omega⟩, ⟨rx HO_5⟩, ⟨bx BK210⟩, ⟨hb1 HB GE210⟩⟩
           ·rw [if_neg c18] at H; exact absurd H (by simp)
          ·rw [if_neg c17] at H; exact absurd H (by simp)
         ·rw [if_neg c15] at H; exact absurd H (by simp)
        ·rw [if_neg c14] at H; exact absurd H (by simp)
       ·rw [if_neg c13] at H; exact absurd H (by simp)
      ·rw [if_neg c12] at H; have c12b0 : decide (x6_1 < (l0_1.length : Int)) = false := decide_eq_false c12; clear c12; simp only [Option.some.injEq, Prod.mk.injEq] at H; obtain ⟨rfl, rfl⟩ := H; have hcz27_0 : wr.cell? ⟨gb210, 0, none⟩ = some (.int .i64 a0_0) := bc BK210 0; have hcz27_1 : wr.cell? ⟨gb210, 1, none⟩ = some (.slice A0_1 l0_1.length c0_1) := bc BK210 1; have hfz27_0 := blk_frozen BK210.out 0; have hfz27_1 := blk_frozen BK210.out 1
       go_wp2
       go_ret2
       exact ⟨_, by first | rfl | (simp [errW_none, errW_some] <;> rfl) | (simp [*, errW_none, errW_some] <;> rfl), by (with_reducible repeat (first | apply Kd.R_alloc | apply Kd.R_drewN | apply Kd.R_drew)); exact HO_5.out, hb1 HB GE210⟩
   ·rw [if_neg c5] at H; exact absurd H (by simp)
  ·rw [if_neg c4] at H; exact absurd H (by simp)
 ·replace c3 := Bool.eq_false_iff.mpr c3; subst c3; have H1 : (some (([] : List Int), 1)) = some (r1, r2) := by rw [if_neg (show ¬ (false = true) by decide)] at H; exact H
  clear H; have H := H1; clear H1; simp only [Option.some.injEq, Prod.mk.injEq] at H; obtain ⟨rfl, rfl⟩ := H
  go_enter Tryd.func22, Tryd.ntmps22
  go_wp2_with (first | ((with_reducible refine gate_dst (N := 1) rfl ?_); refine be_ 1 #[.int .i64 a0_0, .slice A0_1 l0_1.length c0_1] 26 ?_; intro gb210 hg w28 hbox hb; have BK210 := Aside0.mk (hbox); have GW210 := wq (hb0 HB) hg; have GE210 := wq (hb0 HB) hg; replace HB := hs (hb0 HB) hb; clear hb hbox hg; have hcz29_0 : w28.cell? ⟨gb210, 0, none⟩ = some (.int .i64 a0_0) := bc BK210 0; have hcz29_1 : w28.cell? ⟨gb210, 1, none⟩ = some (.slice A0_1 l0_1.length c0_1) := bc BK210 1; have hfz29_0 := blk_frozen BK210.out 0; have hfz29_1 := blk_frozen BK210.out 1) | ((with_reducible refine gate_callee (f := 25) rfl ?_); refine gl_ (some 8) Tryd.func25 #[.agg #[.int .i64 a0_0, .slice A0_1 l0_1.length c0_1]] ?_; (with_reducible refine (tangramref03_Valid.calls k a0_0 _ _ l0_1 false _ ?side1 ?side2 A2.out).mono ?_); (case side1 => repeat (first | exact (Kd.C_below HR0_1.out HB.out) | (with_reducible refine Kd.C_alloc ?_ _) | (with_reducible refine Kd.C_drewN ?_ _) | (with_reducible refine Kd.C_drew ?_))); (case side2 => exact HC0_1.out); rintro e w30 ⟨rfl, hb⟩; refine ⟨_, rfl, ?_⟩; replace BK210 := kx BK210 hb; replace HB := hs (hb1 HB GE210) hb; (try clear hb); (try clear hb2); (try clear hk); (try clear hi)))
  go_ret2
  exact ⟨_, by first | rfl | (simp [errW_none, errW_some] <;> rfl) | (simp [*, errW_none, errW_some] <;> rfl), by first | exact Kd.R_nil _ _ _ _ _ | exact Kd.N_nil _ _ _ _ _ | exact Kd.V_nil _ _ _ _ _ | exact Kd.Q_nil _ _ _ _ _ | exact Kd.S_nil _ _ _ _ _, hb1 HB GE210⟩

end Go.Proofs.YthejafdcdcchbaaDoor.PSimA

-- PRINTED by print.py (a twelfth state) out of the translation. Not trusted: Lean checks it.
namespace Go.Proofs.YthejafdcdcchbaaDoor.PSimA
open Go.RowKit Go.Proofs.YthejafdcdcchbaaDoorW.PrintWords Go.Proofs.YthejafdcdcchbaaDoorW.PrintLast Go.Proofs.YthejafdcdcchbaaDoorW.PrintMore
open Go.Proofs.YthejafdcdcchbaaDoorX
attribute [local go_sem] max2_int min2_int max_two min_two max_three min_three max_four min_four   -- for this text's walks alone
set_option linter.unusedVariables false
set_option linter.unusedSimpArgs false

/-! ### tangramref03_SameInts: function 23 -/
def tangramref03_SameInts.l0 : Nat → List Int → List Int → Int → Option (Bool)
 | 0, _, _, _ => none
 | k + 1, x0, x1, x5 => if x5 < (x0.length : Int) then (if 0 ≤ x5 then (if x5 < (x1.length : Int) then (if (rd x0 x5) = (rd x1 x5) then (tangramref03_SameInts.l0 k x0 x1 (wrap64 (x5 + 1))) else (some false)) else (none)) else (none)) else (some true)
def tangramref03_SameInts.f (k : Nat) (l0 : List Int) (l1 : List Int) : Option (Bool) := if (l0.length : Int) = (l1.length : Int) then (tangramref03_SameInts.l0 k l0 l1 0) else (some false)
theorem tangramref03_SameInts.mono_l : ∀ k, (∀ y0 y1 y2, LeO (tangramref03_SameInts.l0 k y0 y1 y2) (tangramref03_SameInts.l0 (k + 1) y0 y1 y2))
 | 0 => fun _ _ _ r h => by simp [tangramref03_SameInts.l0] at h
 | k + 1 => by
  have ih0 := tangramref03_SameInts.mono_l k
  ·intro y0 y1 y2
   unfold tangramref03_SameInts.l0
   repeat' first
   | (with_reducible exact ih0 _ _ _)
   | (with_reducible exact LeO.refl _)
   | (with_reducible exact LeO.none _)
   | (with_reducible refine LeO.ite ?_ ?_)
   | (with_reducible refine LeO.bind ?_ (fun _ => ?_))
   | exact ih0 _ _ _
   | exact LeO.none _
   | refine LeO.ite ?_ ?_
   | refine LeO.bind ?_ (fun _ => ?_)
theorem tangramref03_SameInts.mono : ∀ a0 a1 k, LeO (tangramref03_SameInts.f k a0 a1) (tangramref03_SameInts.f (k + 1) a0 a1) := by
 intro a0 a1 k; have ih0 := tangramref03_SameInts.mono_l k
 unfold tangramref03_SameInts.f
 repeat' first
   | (with_reducible exact ih0 _ _ _)
   | (with_reducible exact LeO.refl _)
   | (with_reducible exact LeO.none _)
   | (with_reducible refine LeO.ite ?_ ?_)
   | (with_reducible refine LeO.bind ?_ (fun _ => ?_))
   | exact ih0 _ _ _
   | exact LeO.none _
   | refine LeO.ite ?_ ?_
   | refine LeO.bind ?_ (fun _ => ?_)
set_option maxHeartbeats 8000000 in
set_option maxRecDepth 100000 in
theorem tangramref03_SameInts.calls (k : Nat) (A0 : Option Addr) (c0 : Nat) (l0 : List Int) (A1 : Option Addr) (c1 : Nat) (l1 : List Int) (r : Bool) (w : World) (hr0 : Kd.C (Kd.int .i64) w A0 l0.length l0) (hc0 : l0.length ≤ c0) (hr1 : Kd.C (Kd.int .i64) w A1 l1.length l1) (hc1 : l1.length ≤ c1) (h : tangramref03_SameInts.f k l0 l1 = some r) :
  Calls Tryd.prog 23 #[.slice A0 l0.length c0, .slice A1 l1.length c1] w fun e w' => e = .returned (.bool r) ∧ Drawn0 w w' := by
 have HR0 := Aside0.mk hr0; have HC0 := Aside0.mk hc0; clear hr0 hc0; have HR1 := Aside0.mk hr1; have HC1 := Aside0.mk hc1; clear hr1 hc1; have H : (if (l0.length : Int) = (l1.length : Int) then (tangramref03_SameInts.l0 k l0 l1 0) else (some false)) = some r := h; clear h
 by_cases c3 : (l0.length : Int) = (l1.length : Int)
 ·rw [if_pos c3] at H; have c3b0 : ((l0.length : Int) == (l1.length : Int)) = true := beq_iff_eq.mpr c3; have c3b1 : ((l0.length : Int) != (l1.length : Int)) = false := bne_eq_false_iff_eq.mpr c3; have c3b2 : (l0.length == l1.length) = true := by first | simpa using c3 | (simp at c3 ⊢; omega)
  clear c3; have H' := Aside0.mk H; clear H
  go_enter Tryd.func23, Tryd.ntmps23
  go_wp2
  repeat (go_quiet (fail); try go_wp2)
  go_loopg [5] k (fun kq v5 w' => ∃ (x5_1 : Int), v5 = .int .i64 x5_1 ∧ Aside0 (tangramref03_SameInts.l0 kq l0 l1 x5_1 = some r) ∧ Aside0 (kq ≤ k) ∧ Drawn0 w w')
  case atStart => exact ⟨(0), (by first | rfl | (simp; done) | (simp [*]; done)), H', ⟨Nat.le_refl _⟩, by repeat (first | exact Drawn0.refl _ | apply Drawn0.step)⟩
  case round =>
   clear H'
   try clear c1
   try clear c2
   try clear p2
   try clear c3
   try clear c3b0
   try clear c3b1
   try clear c3b2
   obtain ⟨x5_1, rfl, HA, HK1, ⟨m1, rfl⟩⟩ := hrel
   cases gk with
   | zero => exact absurd HA.out (by simp [tangramref03_SameInts.l0])
   | succ k1 =>
    have H := HA.out; clear HA; simp only [tangramref03_SameInts.l0] at H
    by_cases c4 : x5_1 < (l0.length : Int)
    ·rw [if_pos c4] at H; have c4b0 : decide (x5_1 < (l0.length : Int)) = true := decide_eq_true c4; clear c4
     by_cases c5 : 0 ≤ x5_1
     ·rw [if_pos c5] at H; have c5b0 : decide (0 ≤ x5_1) = true := decide_eq_true c5; clear c5
      by_cases c6 : x5_1 < (l1.length : Int)
      ·rw [if_pos c6] at H; have c6b0 : decide (x5_1 < (l1.length : Int)) = true := decide_eq_true c6; clear c6
       by_cases c7 : (rd l0 x5_1) = (rd l1 x5_1)
       ·rw [if_pos c7] at H; have c7b0 : ((rd l0 x5_1) == (rd l1 x5_1)) = true := beq_iff_eq.mpr c7; have c7b1 : ((rd l0 x5_1) != (rd l1 x5_1)) = false := bne_eq_false_iff_eq.mpr c7; clear c7; have H' := Aside0.mk H; clear H; have p221 : 0 ≤ (x5_1 : Int) := of_decide_eq_true (by first | (with_reducible assumption) | assumption); have q221 : x5_1 < (l0.length : Int) := of_decide_eq_true (by first | (with_reducible assumption) | assumption); obtain ⟨ad221, e221, hx221_0⟩ := Kd.at_int HR0.out x5_1 p221 q221
        cases e221
        replace p221 := eq_true p221; replace q221 := eq_true q221; have p222 : 0 ≤ (x5_1 : Int) := of_decide_eq_true (by first | (with_reducible assumption) | assumption); have q222 : x5_1 < (l1.length : Int) := of_decide_eq_true (by first | (with_reducible assumption) | assumption); obtain ⟨ad222, e222, hx222_0⟩ := Kd.at_int HR1.out x5_1 p222 q222
        cases e222
        replace p222 := eq_true p222; replace q222 := eq_true q222
        go_wp2
        repeat (go_quiet (fail); try go_wp2)
        go_roundg k1
        case measure => have := HK1.out; omega
        case rel => exact ⟨(wrap64 (x5_1 + 1)), (by first | rfl | (simp; done) | (simp [*]; done)), H', ⟨by have := HK1.out; omega⟩, by repeat (first | exact Drawn0.refl _ | apply Drawn0.step)⟩
       ·rw [if_neg c7] at H; have c7b0 : ((rd l0 x5_1) == (rd l1 x5_1)) = false := beq_eq_false_iff_ne.mpr c7; have c7b1 : ((rd l0 x5_1) != (rd l1 x5_1)) = true := bne_iff_ne.mpr c7; obtain rfl := Option.some.inj H; have p221 : 0 ≤ (x5_1 : Int) := of_decide_eq_true (by first | (with_reducible assumption) | assumption); have q221 : x5_1 < (l0.length : Int) := of_decide_eq_true (by first | (with_reducible assumption) | assumption); obtain ⟨ad221, e221, hx221_0⟩ := Kd.at_int HR0.out x5_1 p221 q221
        cases e221
        replace p221 := eq_true p221; replace q221 := eq_true q221; have p222 : 0 ≤ (x5_1 : Int) := of_decide_eq_true (by first | (with_reducible assumption) | assumption); have q222 : x5_1 < (l1.length : Int) := of_decide_eq_true (by first | (with_reducible assumption) | assumption); obtain ⟨ad222, e222, hx222_0⟩ := Kd.at_int HR1.out x5_1 p222 q222
        cases e222
        replace p222 := eq_true p222; replace q222 := eq_true q222
        go_wp2
        repeat (go_quiet (fail); try go_wp2)
        go_ret
        exact ⟨by first | rfl | (simp; done) | (simp [*]; done), by repeat (first | exact Drawn0.refl _ | apply Drawn0.step)⟩
      ·rw [if_neg c6] at H; exact absurd H (by simp)
     ·rw [if_neg c5] at H; exact absurd H (by simp)
    ·rw [if_neg c4] at H; have c4b0 : decide (x5_1 < (l0.length : Int)) = false := decide_eq_false c4; clear c4; obtain rfl := Option.some.inj H
     go_wp2
     repeat (go_quiet (fail); try go_wp2)
     go_ret
     exact ⟨by first | rfl | (simp; done) | (simp [*]; done), by repeat (first | exact Drawn0.refl _ | apply Drawn0.step)⟩
 ·rw [if_neg c3] at H; have c3b0 : ((l0.length : Int) == (l1.length : Int)) = false := beq_eq_false_iff_ne.mpr c3; have c3b1 : ((l0.length : Int) != (l1.length : Int)) = true := bne_iff_ne.mpr c3; have c3b2 : (l0.length == l1.length) = false := by first | simpa using c3 | (simp at c3 ⊢; omega)
  obtain rfl := Option.some.inj H
  go_enter Tryd.func23, Tryd.ntmps23
  go_wp2
  repeat (go_quiet (fail); try go_wp2)
  go_ret
  exact ⟨by first | rfl | (simp; done) | (simp [*]; done), by repeat (first | exact Drawn0.refl _ | apply Drawn0.step)⟩

end Go.Proofs.YthejafdcdcchbaaDoor.PSimA

-- PRINTED by print.py (a twelfth state) out of the translation. Not trusted: Lean checks it.
namespace Go.Proofs.YthejafdcdcchbaaDoor.PSimA
open Go.RowKit Go.Proofs.YthejafdcdcchbaaDoorW.PrintWords Go.Proofs.YthejafdcdcchbaaDoorW.PrintLast Go.Proofs.YthejafdcdcchbaaDoorW.PrintMore
open Go.Proofs.YthejafdcdcchbaaDoorX
attribute [local go_sem] max2_int min2_int max_two min_two max_three min_three max_four min_four   -- for this text's walks alone
set_option linter.unusedVariables false
set_option linter.unusedSimpArgs false

/-! ### tangramref03_Find: function 27 -/
def tangramref03_Find.l0 : Nat → Int → Int → List (S42) → Int → Int → Option (Int)
 | 0, _, _, _, _, _ => none
 | k + 1, x6, x224000, x224001, x225000, x225001 => if x6 < (x224001.length : Int) then (if 0 ≤ x6 then (if ((rd_T42 x224001 x6).f0) = x225000 then (if ((rd_T42 x224001 x6).f1) = x225001 then (some x6) else (tangramref03_Find.l0 k (wrap64 (x6 + 1)) x224000 x224001 x225000 x225001)) else (tangramref03_Find.l0 k (wrap64 (x6 + 1)) x224000 x224001 x225000 x225001)) else (none)) else (some (-1))
def tangramref03_Find.f (k : Nat) (a0_0 : Int) (l0_1 : List (S42)) (a1_0 : Int) (a1_1 : Int) : Option (Int) := (tangramref03_Valid.f k a0_0 l0_1).bind fun t225 => (if t225 = true then (tangramref03_Find.l0 k 0 a0_0 l0_1 a1_0 a1_1) else (some (-1)))
theorem tangramref03_Find.mono_l : ∀ k, (∀ y0 y1 y2 y3 y4, LeO (tangramref03_Find.l0 k y0 y1 y2 y3 y4) (tangramref03_Find.l0 (k + 1) y0 y1 y2 y3 y4))
 | 0 => fun _ _ _ _ _ r h => by simp [tangramref03_Find.l0] at h
 | k + 1 => by
  have ih0 := tangramref03_Find.mono_l k
  ·intro y0 y1 y2 y3 y4
   unfold tangramref03_Find.l0
   repeat' first
   | (with_reducible exact ih0 _ _ _ _ _)
   | (with_reducible exact tangramref03_Valid.mono _ _ _)
   | (with_reducible exact LeO.refl _)
   | (with_reducible exact LeO.none _)
   | (with_reducible refine LeO.ite ?_ ?_)
   | (with_reducible refine LeO.bind ?_ (fun _ => ?_))
   | exact ih0 _ _ _ _ _
   | exact tangramref03_Valid.mono _ _ _
   | exact LeO.none _
   | refine LeO.ite ?_ ?_
   | refine LeO.bind ?_ (fun _ => ?_)
theorem tangramref03_Find.mono : ∀ a0 a1 a2 a3 k, LeO (tangramref03_Find.f k a0 a1 a2 a3) (tangramref03_Find.f (k + 1) a0 a1 a2 a3) := by
 intro a0 a1 a2 a3 k; have ih0 := tangramref03_Find.mono_l k
 unfold tangramref03_Find.f
 repeat' first
   | (with_reducible exact ih0 _ _ _ _ _)
   | (with_reducible exact tangramref03_Valid.mono _ _ _)
   | (with_reducible exact LeO.refl _)
   | (with_reducible exact LeO.none _)
   | (with_reducible refine LeO.ite ?_ ?_)
   | (with_reducible refine LeO.bind ?_ (fun _ => ?_))
   | exact ih0 _ _ _ _ _
   | exact tangramref03_Valid.mono _ _ _
   | exact LeO.none _
   | refine LeO.ite ?_ ?_
   | refine LeO.bind ?_ (fun _ => ?_)
set_option maxHeartbeats 8000000 in
set_option maxRecDepth 100000 in
theorem tangramref03_Find.calls (k : Nat) (a0_0 : Int) (A0_1 : Option Addr) (c0_1 : Nat) (l0_1 : List (S42)) (a1_0 : Int) (a1_1 : Int) (r : Int) (w : World) (hr0_1 : Kd.C k42 w A0_1 l0_1.length l0_1) (hc0_1 : l0_1.length ≤ c0_1) (h : tangramref03_Find.f k a0_0 l0_1 a1_0 a1_1 = some r) :
  Calls Tryd.prog 27 #[.agg #[.int .i64 a0_0, .slice A0_1 l0_1.length c0_1], .agg #[.int .i64 a1_0, .int .i64 a1_1]] w fun e w' => e = .returned (.int .i64 r) ∧ Below w.heap.size w w' := by
 have hu26 := Tryd.underlying26; have hu42 := Tryd.underlying42; have HR0_1 := Aside0.mk hr0_1; have HC0_1 := Aside0.mk hc0_1; clear hr0_1 hc0_1; have HB := Aside0.mk (Below.refl w.heap.size w); have H : ((tangramref03_Valid.f k a0_0 l0_1).bind fun t225 => (if t225 = true then (tangramref03_Find.l0 k 0 a0_0 l0_1 a1_0 a1_1) else (some (-1)))) = some r := h; clear h; replace H := Option.bind_eq_some_iff.mp H; obtain ⟨t225, A30, H⟩ := H; (try dsimp only at H); have A3 := Aside0.mk A30; clear A30
 by_cases c4 : t225 = true
 ·subst c4; rw [if_pos rfl] at H; have H' := Aside0.mk H; clear H
  go_enter Tryd.func27, Tryd.ntmps27
  go_wp2_with (first | ((with_reducible refine gate_dst (N := 2) rfl ?_); refine be_ 2 #[.int .i64 a0_0, .slice A0_1 l0_1.length c0_1] 26 ?_; intro gb223 hg w5 hbox hb; have BK223 := Aside0.mk (hbox); have GW223 := wq (hb0 HB) hg; have GE223 := wq (hb0 HB) hg; replace HB := hs (hb0 HB) hb; clear hb hbox hg) | ((with_reducible refine gate_dst (N := 3) rfl ?_); refine be_ 3 #[.int .i64 a1_0, .int .i64 a1_1] 42 ?_; intro gb224 hg w6 hbox hb; have BK224 := Aside0.mk (hbox); have GW224 := wq (hb1 HB GE223) hg; have GE224 := wq (hb1 HB GE223) hg; replace HB := hs (hb1 HB GE223) hb; have NB223_224 := lx BK223 hg; have NB224_223 := gx BK223 hg; replace BK223 := kx BK223 hb; clear hb hbox hg; have hnb7 := NB223_224.out; have hnc7 := NB224_223.out; have hcz8_0 : w6.cell? ⟨gb223, 0, none⟩ = some (.int .i64 a0_0) := bc BK223 0; have hcz8_1 : w6.cell? ⟨gb223, 1, none⟩ = some (.slice A0_1 l0_1.length c0_1) := bc BK223 1; have hfz8_0 := blk_frozen BK223.out 0; have hfz8_1 := blk_frozen BK223.out 1) | (go_at_call 25; (with_reducible refine (tangramref03_Valid.calls k a0_0 _ _ l0_1 true _ ?side1 ?side2 A3.out).mono ?_); (case side1 => repeat (first | exact (Kd.C_below HR0_1.out HB.out) | (with_reducible refine Kd.C_alloc ?_ _) | (with_reducible refine Kd.C_drewN ?_ _) | (with_reducible refine Kd.C_drew ?_))); (case side2 => exact HC0_1.out); rintro e w9 ⟨rfl, hb⟩; replace BK223 := kx BK223 hb; replace BK224 := kx BK224 hb; replace HB := hs (hb2 HB GE223 GE224) hb; (try clear hb); (try clear hb2); (try clear hk); (try clear hi)))
  repeat (go_quiet (first | ((with_reducible refine gate_dst (N := 2) rfl ?_); refine be_ 2 #[.int .i64 a0_0, .slice A0_1 l0_1.length c0_1] 26 ?_; intro gb223 hg w5 hbox hb; have BK223 := Aside0.mk (hbox); have GW223 := wq (hb0 HB) hg; have GE223 := wq (hb0 HB) hg; replace HB := hs (hb0 HB) hb; clear hb hbox hg) | ((with_reducible refine gate_dst (N := 3) rfl ?_); refine be_ 3 #[.int .i64 a1_0, .int .i64 a1_1] 42 ?_; intro gb224 hg w6 hbox hb; have BK224 := Aside0.mk (hbox); have GW224 := wq (hb1 HB GE223) hg; have GE224 := wq (hb1 HB GE223) hg; replace HB := hs (hb1 HB GE223) hb; have NB223_224 := lx BK223 hg; have NB224_223 := gx BK223 hg; replace BK223 := kx BK223 hb; clear hb hbox hg; have hnb7 := NB223_224.out; have hnc7 := NB224_223.out; have hcz8_0 : w6.cell? ⟨gb223, 0, none⟩ = some (.int .i64 a0_0) := bc BK223 0; have hcz8_1 : w6.cell? ⟨gb223, 1, none⟩ = some (.slice A0_1 l0_1.length c0_1) := bc BK223 1; have hfz8_0 := blk_frozen BK223.out 0; have hfz8_1 := blk_frozen BK223.out 1) | (go_at_call 25; (with_reducible refine (tangramref03_Valid.calls k a0_0 _ _ l0_1 true _ ?side1 ?side2 A3.out).mono ?_); (case side1 => repeat (first | exact (Kd.C_below HR0_1.out HB.out) | (with_reducible refine Kd.C_alloc ?_ _) | (with_reducible refine Kd.C_drewN ?_ _) | (with_reducible refine Kd.C_drew ?_))); (case side2 => exact HC0_1.out); rintro e w9 ⟨rfl, hb⟩; replace BK223 := kx BK223 hb; replace BK224 := kx BK224 hb; replace HB := hs (hb2 HB GE223 GE224) hb; (try clear hb); (try clear hb2); (try clear hk); (try clear hi))); try go_wp2_with (first | ((with_reducible refine gate_dst (N := 2) rfl ?_); refine be_ 2 #[.int .i64 a0_0, .slice A0_1 l0_1.length c0_1] 26 ?_; intro gb223 hg w5 hbox hb; have BK223 := Aside0.mk (hbox); have GW223 := wq (hb0 HB) hg; have GE223 := wq (hb0 HB) hg; replace HB := hs (hb0 HB) hb; clear hb hbox hg) | ((with_reducible refine gate_dst (N := 3) rfl ?_); refine be_ 3 #[.int .i64 a1_0, .int .i64 a1_1] 42 ?_; intro gb224 hg w6 hbox hb; have BK224 := Aside0.mk (hbox); have GW224 := wq (hb1 HB GE223) hg; have GE224 := wq (hb1 HB GE223) hg; replace HB := hs (hb1 HB GE223) hb; have NB223_224 := lx BK223 hg; have NB224_223 := gx BK223 hg; replace BK223 := kx BK223 hb; clear hb hbox hg; have hnb7 := NB223_224.out; have hnc7 := NB224_223.out; have hcz8_0 : w6.cell? ⟨gb223, 0, none⟩ = some (.int .i64 a0_0) := bc BK223 0; have hcz8_1 : w6.cell? ⟨gb223, 1, none⟩ = some (.slice A0_1 l0_1.length c0_1) := bc BK223 1; have hfz8_0 := blk_frozen BK223.out 0; have hfz8_1 := blk_frozen BK223.out 1) | (go_at_call 25; (with_reducible refine (tangramref03_Valid.calls k a0_0 _ _ l0_1 true _ ?side1 ?side2 A3.out).mono ?_); (case side1 => repeat (first | exact (Kd.C_below HR0_1.out HB.out) | (with_reducible refine Kd.C_alloc ?_ _) | (with_reducible refine Kd.C_drewN ?_ _) | (with_reducible refine Kd.C_drew ?_))); (case side2 => exact HC0_1.out); rintro e w9 ⟨rfl, hb⟩; replace BK223 := kx BK223 hb; replace BK224 := kx BK224 hb; replace HB := hs (hb2 HB GE223 GE224) hb; (try clear hb); (try clear hb2); (try clear hk); (try clear hi))))
  go_loopg [6] k (fun kq v6 w' => ∃ (x6_1 : Int), v6 = .int .i64 x6_1 ∧ Aside0 (tangramref03_Find.l0 kq x6_1 a0_0 l0_1 a1_0 a1_1 = some r) ∧ Aside0 (kq ≤ k) ∧ Aside0 (w'.heap[gb223]? = some (.cells #[.int .i64 a0_0, (.slice A0_1 l0_1.length c0_1)] 26 (0, 0))) ∧ Aside0 (w'.heap[gb224]? = some (.cells #[.int .i64 a1_0, .int .i64 a1_1] 42 (0, 0))) ∧ Aside0 (Below w.heap.size w w'))
  case atStart => exact ⟨(0), (by first | rfl | (simp; done) | (simp [*]; done)), H', ⟨Nat.le_refl _⟩, ⟨bx BK223⟩, ⟨bx BK224⟩, ⟨hb2 HB GE223 GE224⟩⟩
  case round =>
   clear H'
   try clear c2
   try clear p2
   try clear c4
   try clear c7
   try clear hcz8_0
   try clear hcz8_1
   try clear hfz8_0
   try clear hfz8_1
   obtain ⟨x6_1, rfl, HA, HK1, BK223, BK224, HB⟩ := hrel
   cases gk with
   | zero => exact absurd HA.out (by simp [tangramref03_Find.l0])
   | succ k1 =>
    have H := HA.out; clear HA; simp only [tangramref03_Find.l0] at H
    by_cases c10 : x6_1 < (l0_1.length : Int)
    ·rw [if_pos c10] at H; have c10b0 : decide (x6_1 < (l0_1.length : Int)) = true := decide_eq_true c10; clear c10
     by_cases c11 : 0 ≤ x6_1
     ·rw [if_pos c11] at H; have c11b0 : decide (0 ≤ x6_1) = true := decide_eq_true c11; clear c11
      by_cases c12 : ((rd_T42 l0_1 x6_1).f0) = a1_0
      ·rw [if_pos c12] at H; have c12b0 : (((rd_T42 l0_1 x6_1).f0) == a1_0) = true := beq_iff_eq.mpr c12; have c12b1 : (((rd_T42 l0_1 x6_1).f0) != a1_0) = false := bne_eq_false_iff_eq.mpr c12; clear c12
       by_cases c13 : ((rd_T42 l0_1 x6_1).f1) = a1_1
       ·rw [if_pos c13] at H; have c13b0 : (((rd_T42 l0_1 x6_1).f1) == a1_1) = true := beq_iff_eq.mpr c13; have c13b1 : (((rd_T42 l0_1 x6_1).f1) != a1_1) = false := bne_eq_false_iff_eq.mpr c13; clear c13; obtain rfl := Option.some.inj H; have hnb14 := NB223_224.out; have hnc14 := NB224_223.out; have hcz15_0 : wr.cell? ⟨gb223, 0, none⟩ = some (.int .i64 a0_0) := bc BK223 0; have hcz15_1 : wr.cell? ⟨gb223, 1, none⟩ = some (.slice A0_1 l0_1.length c0_1) := bc BK223 1; have hfz15_0 := blk_frozen BK223.out 0; have hfz15_1 := blk_frozen BK223.out 1; have p226 : 0 ≤ (x6_1 : Int) := of_decide_eq_true (by first | (with_reducible assumption) | assumption); have q226 : x6_1 < (l0_1.length : Int) := of_decide_eq_true (by first | (with_reducible assumption) | assumption); obtain ⟨ad226, e226, hx226_0, hx226_1⟩ := at_T42 HR0_1.out x6_1 p226 q226
        cases e226
        replace hx226_0 := (HB.out.cell (World.block_lt_of_cell? w _ hx226_0)).trans hx226_0; replace hx226_1 := (HB.out.cell (World.block_lt_of_cell? w _ hx226_1)).trans hx226_1; replace p226 := eq_true p226; replace q226 := eq_true q226; have hcz16_0 : wr.cell? ⟨gb224, 0, none⟩ = some (.int .i64 a1_0) := bc BK224 0; have hcz16_1 : wr.cell? ⟨gb224, 1, none⟩ = some (.int .i64 a1_1) := bc BK224 1; have hfz16_0 := blk_frozen BK224.out 0; have hfz16_1 := blk_frozen BK224.out 1; have p227 : 0 ≤ (x6_1 : Int) := of_decide_eq_true (by first | (with_reducible assumption) | assumption); have q227 : x6_1 < (l0_1.length : Int) := of_decide_eq_true (by first | (with_reducible assumption) | assumption); obtain ⟨ad227, e227, hx227_0, hx227_1⟩ := at_T42 HR0_1.out x6_1 p227 q227; obtain rfl : ad226 = ad227 := (by injection e227); replace hx227_0 := (HB.out.cell (World.block_lt_of_cell? w _ hx227_0)).trans hx227_0; replace hx227_1 := (HB.out.cell (World.block_lt_of_cell? w _ hx227_1)).trans hx227_1; replace p227 := eq_true p227; replace q227 := eq_true q227
        go_wp2
        repeat (go_quiet (fail); try go_wp2)
        go_ret
        exact ⟨by first | rfl | (simp [errW_none, errW_some] <;> rfl) | (simp [*, errW_none, errW_some] <;> rfl), hb2 HB GE223 GE224⟩
       ·rw [if_neg c13] at H; have c13b0 : (((rd_T42 l0_1 x6_1).f1) == a1_1) = false := beq_eq_false_iff_ne.mpr c13; have c13b1 : (((rd_T42 l0_1 x6_1).f1) != a1_1) = true := bne_iff_ne.mpr c13; have H' := Aside0.mk H; clear H; have hnb17 := NB223_224.out; have hnc17 := NB224_223.out; have hcz18_0 : wr.cell? ⟨gb223, 0, none⟩ = some (.int .i64 a0_0) := bc BK223 0; have hcz18_1 : wr.cell? ⟨gb223, 1, none⟩ = some (.slice A0_1 l0_1.length c0_1) := bc BK223 1; have hfz18_0 := blk_frozen BK223.out 0; have hfz18_1 := blk_frozen BK223.out 1; have p226 : 0 ≤ (x6_1 : Int) := of_decide_eq_true (by first | (with_reducible assumption) | assumption); have q226 : x6_1 < (l0_1.length : Int) := of_decide_eq_true (by first | (with_reducible assumption) | assumption); obtain ⟨ad226, e226, hx226_0, hx226_1⟩ := at_T42 HR0_1.out x6_1 p226 q226
        cases e226
        replace hx226_0 := (HB.out.cell (World.block_lt_of_cell? w _ hx226_0)).trans hx226_0; replace hx226_1 := (HB.out.cell (World.block_lt_of_cell? w _ hx226_1)).trans hx226_1; replace p226 := eq_true p226; replace q226 := eq_true q226; have hcz19_0 : wr.cell? ⟨gb224, 0, none⟩ = some (.int .i64 a1_0) := bc BK224 0; have hcz19_1 : wr.cell? ⟨gb224, 1, none⟩ = some (.int .i64 a1_1) := bc BK224 1; have hfz19_0 := blk_frozen BK224.out 0; have hfz19_1 := blk_frozen BK224.out 1; have p227 : 0 ≤ (x6_1 : Int) := of_decide_eq_true (by first | (with_reducible assumption) | assumption); have q227 : x6_1 < (l0_1.length : Int) := of_decide_eq_true (by first | (with_reducible assumption) | assumption); obtain ⟨ad227, e227, hx227_0, hx227_1⟩ := at_T42 HR0_1.out x6_1 p227 q227; obtain rfl : ad226 = ad227 := (by injection e227); replace hx227_0 := (HB.out.cell (World.block_lt_of_cell? w _ hx227_0)).trans hx227_0; replace hx227_1 := (HB.out.cell (World.block_lt_of_cell? w _ hx227_1)).trans hx227_1; replace p227 := eq_true p227; replace q227 := eq_true q227
        go_wp2
        repeat (go_quiet (fail); try go_wp2)
        go_roundg k1
        case measure => have := HK1.out; omega
        case rel => exact ⟨(wrap64 (x6_1 + 1)), (by first | rfl | (simp; done) | (simp [*]; done)), H', ⟨by have := HK1.out; omega⟩, ⟨bx BK223⟩, ⟨bx BK224⟩, ⟨hb2 HB GE223 GE224⟩⟩
      ·rw [if_neg c12] at H; have c12b0 : (((rd_T42 l0_1 x6_1).f0) == a1_0) = false := beq_eq_false_iff_ne.mpr c12; have c12b1 : (((rd_T42 l0_1 x6_1).f0) != a1_0) = true := bne_iff_ne.mpr c12; have H' := Aside0.mk H; clear H; have hnb20 := NB223_224.out; have hnc20 := NB224_223.out; have hcz21_0 : wr.cell? ⟨gb223, 0, none⟩ = some (.int .i64 a0_0) := bc BK223 0; have hcz21_1 : wr.cell? ⟨gb223, 1, none⟩ = some (.slice A0_1 l0_1.length c0_1) := bc BK223 1; have hfz21_0 := blk_frozen BK223.out 0; have hfz21_1 := blk_frozen BK223.out 1; have p226 : 0 ≤ (x6_1 : Int) := of_decide_eq_true (by first | (with_reducible assumption) | assumption); have q226 : x6_1 < (l0_1.length : Int) := of_decide_eq_true (by first | (with_reducible assumption) | assumption); obtain ⟨ad226, e226, hx226_0, hx226_1⟩ := at_T42 HR0_1.out x6_1 p226 q226
       cases e226
       replace hx226_0 := (HB.out.cell (World.block_lt_of_cell? w _ hx226_0)).trans hx226_0; replace hx226_1 := (HB.out.cell (World.block_lt_of_cell? w _ hx226_1)).trans hx226_1; replace p226 := eq_true p226; replace q226 := eq_true q226; have hcz22_0 : wr.cell? ⟨gb224, 0, none⟩ = some (.int .i64 a1_0) := bc BK224 0; have hcz22_1 : wr.cell? ⟨gb224, 1, none⟩ = some (.int .i64 a1_1) := bc BK224 1; have hfz22_0 := blk_frozen BK224.out 0; have hfz22_1 := blk_frozen BK224.out 1
       go_wp2
       repeat (go_quiet (fail); try go_wp2)
       go_roundg k1
       case measure => have := HK1.out; omega
       case rel => exact ⟨(wrap64 (x6_1 + 1)), (by first | rfl | (simp; done) | (simp [*]; done)), H', ⟨by have := HK1.out; omega⟩, ⟨bx BK223⟩, ⟨bx BK224⟩, ⟨hb2 HB GE223 GE224⟩⟩
     ·rw [if_neg c11] at H; exact absurd H (by simp)
    ·rw [if_neg c10] at H; have c10b0 : decide (x6_1 < (l0_1.length : Int)) = false := decide_eq_false c10; clear c10; obtain rfl := Option.some.inj H; have hnb23 := NB223_224.out; have hnc23 := NB224_223.out; have hcz24_0 : wr.cell? ⟨gb223, 0, none⟩ = some (.int .i64 a0_0) := bc BK223 0; have hcz24_1 : wr.cell? ⟨gb223, 1, none⟩ = some (.slice A0_1 l0_1.length c0_1) := bc BK223 1; have hfz24_0 := blk_frozen BK223.out 0; have hfz24_1 := blk_frozen BK223.out 1
     go_wp2
     repeat (go_quiet (fail); try go_wp2)
     go_ret
     exact ⟨by first | rfl | (simp [errW_none, errW_some] <;> rfl) | (simp [*, errW_none, errW_some] <;> rfl), hb2 HB GE223 GE224⟩
 ·replace c4 := Bool.eq_false_iff.mpr c4; subst c4; rw [if_neg (show ¬ (false = true) by decide)] at H; obtain rfl := Option.some.inj H
  go_enter Tryd.func27, Tryd.ntmps27
  go_wp2_with (first | ((with_reducible refine gate_dst (N := 2) rfl ?_); refine be_ 2 #[.int .i64 a0_0, .slice A0_1 l0_1.length c0_1] 26 ?_; intro gb223 hg w25 hbox hb; have BK223 := Aside0.mk (hbox); have GW223 := wq (hb0 HB) hg; have GE223 := wq (hb0 HB) hg; replace HB := hs (hb0 HB) hb; clear hb hbox hg) | ((with_reducible refine gate_dst (N := 3) rfl ?_); refine be_ 3 #[.int .i64 a1_0, .int .i64 a1_1] 42 ?_; intro gb224 hg w26 hbox hb; have BK224 := Aside0.mk (hbox); have GW224 := wq (hb1 HB GE223) hg; have GE224 := wq (hb1 HB GE223) hg; replace HB := hs (hb1 HB GE223) hb; have NB223_224 := lx BK223 hg; have NB224_223 := gx BK223 hg; replace BK223 := kx BK223 hb; clear hb hbox hg; have hnb27 := NB223_224.out; have hnc27 := NB224_223.out; have hcz28_0 : w26.cell? ⟨gb223, 0, none⟩ = some (.int .i64 a0_0) := bc BK223 0; have hcz28_1 : w26.cell? ⟨gb223, 1, none⟩ = some (.slice A0_1 l0_1.length c0_1) := bc BK223 1; have hfz28_0 := blk_frozen BK223.out 0; have hfz28_1 := blk_frozen BK223.out 1) | (go_at_call 25; (with_reducible refine (tangramref03_Valid.calls k a0_0 _ _ l0_1 false _ ?side1 ?side2 A3.out).mono ?_); (case side1 => repeat (first | exact (Kd.C_below HR0_1.out HB.out) | (with_reducible refine Kd.C_alloc ?_ _) | (with_reducible refine Kd.C_drewN ?_ _) | (with_reducible refine Kd.C_drew ?_))); (case side2 => exact HC0_1.out); rintro e w29 ⟨rfl, hb⟩; replace BK223 := kx BK223 hb; replace BK224 := kx BK224 hb; replace HB := hs (hb2 HB GE223 GE224) hb; (try clear hb); (try clear hb2); (try clear hk); (try clear hi)))
  repeat (go_quiet (first | ((with_reducible refine gate_dst (N := 2) rfl ?_); refine be_ 2 #[.int .i64 a0_0, .slice A0_1 l0_1.length c0_1] 26 ?_; intro gb223 hg w25 hbox hb; have BK223 := Aside0.mk (hbox); have GW223 := wq (hb0 HB) hg; have GE223 := wq (hb0 HB) hg; replace HB := hs (hb0 HB) hb; clear hb hbox hg) | ((with_reducible refine gate_dst (N := 3) rfl ?_); refine be_ 3 #[.int .i64 a1_0, .int .i64 a1_1] 42 ?_; intro gb224 hg w26 hbox hb; have BK224 := Aside0.mk (hbox); have GW224 := wq (hb1 HB GE223) hg; have GE224 := wq (hb1 HB GE223) hg; replace HB := hs (hb1 HB GE223) hb; have NB223_224 := lx BK223 hg; have NB224_223 := gx BK223 hg; replace BK223 := kx BK223 hb; clear hb hbox hg; have hnb27 := NB223_224.out; have hnc27 := NB224_223.out; have hcz28_0 : w26.cell? ⟨gb223, 0, none⟩ = some (.int .i64 a0_0) := bc BK223 0; have hcz28_1 : w26.cell? ⟨gb223, 1, none⟩ = some (.slice A0_1 l0_1.length c0_1) := bc BK223 1; have hfz28_0 := blk_frozen BK223.out 0; have hfz28_1 := blk_frozen BK223.out 1) | (go_at_call 25; (with_reducible refine (tangramref03_Valid.calls k a0_0 _ _ l0_1 false _ ?side1 ?side2 A3.out).mono ?_); (case side1 => repeat (first | exact (Kd.C_below HR0_1.out HB.out) | (with_reducible refine Kd.C_alloc ?_ _) | (with_reducible refine Kd.C_drewN ?_ _) | (with_reducible refine Kd.C_drew ?_))); (case side2 => exact HC0_1.out); rintro e w29 ⟨rfl, hb⟩; replace BK223 := kx BK223 hb; replace BK224 := kx BK224 hb; replace HB := hs (hb2 HB GE223 GE224) hb; (try clear hb); (try clear hb2); (try clear hk); (try clear hi))); try go_wp2_with (first | ((with_reducible refine gate_dst (N := 2) rfl ?_); refine be_ 2 #[.int .i64 a0_0, .slice A0_1 l0_1.length c0_1] 26 ?_; intro gb223 hg w25 hbox hb; have BK223 := Aside0.mk (hbox); have GW223 := wq (hb0 HB) hg; have GE223 := wq (hb0 HB) hg; replace HB := hs (hb0 HB) hb; clear hb hbox hg) | ((with_reducible refine gate_dst (N := 3) rfl ?_); refine be_ 3 #[.int .i64 a1_0, .int .i64 a1_1] 42 ?_; intro gb224 hg w26 hbox hb; have BK224 := Aside0.mk (hbox); have GW224 := wq (hb1 HB GE223) hg; have GE224 := wq (hb1 HB GE223) hg; replace HB := hs (hb1 HB GE223) hb; have NB223_224 := lx BK223 hg; have NB224_223 := gx BK223 hg; replace BK223 := kx BK223 hb; clear hb hbox hg; have hnb27 := NB223_224.out; have hnc27 := NB224_223.out; have hcz28_0 : w26.cell? ⟨gb223, 0, none⟩ = some (.int .i64 a0_0) := bc BK223 0; have hcz28_1 : w26.cell? ⟨gb223, 1, none⟩ = some (.slice A0_1 l0_1.length c0_1) := bc BK223 1; have hfz28_0 := blk_frozen BK223.out 0; have hfz28_1 := blk_frozen BK223.out 1) | (go_at_call 25; (with_reducible refine (tangramref03_Valid.calls k a0_0 _ _ l0_1 false _ ?side1 ?side2 A3.out).mono ?_); (case side1 => repeat (first | exact (Kd.C_below HR0_1.out HB.out) | (with_reducible refine Kd.C_alloc ?_ _) | (with_reducible refine Kd.C_drewN ?_ _) | (with_reducible refine Kd.C_drew ?_))); (case side2 => exact HC0_1.out); rintro e w29 ⟨rfl, hb⟩; replace BK223 := kx BK223 hb; replace BK224 := kx BK224 hb; replace HB := hs (hb2 HB GE223 GE224) hb; (try clear hb); (try clear hb2); (try clear hk); (try clear hi))))
  go_ret
  exact ⟨by first | rfl | (simp [errW_none, errW_some] <;> rfl) | (simp [*, errW_none, errW_some] <;> rfl), hb2 HB GE223 GE224⟩

end Go.Proofs.YthejafdcdcchbaaDoor.PSimA
