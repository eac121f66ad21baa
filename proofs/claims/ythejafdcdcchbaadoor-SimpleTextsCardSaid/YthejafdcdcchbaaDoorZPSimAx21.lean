-- PRINTED by print.py (a twelfth state) out of the translation. Not trusted: Lean checks it.
import Derived.Test.YthejafdcdcchbaaDoorZPSimAx0
import Derived.Test.YthejafdcdcchbaaDoorZPSimAx7
namespace Go.Proofs.YthejafdcdcchbaaDoor.PSimA
open Go.RowKit Go.Proofs.YthejafdcdcchbaaDoorW.PrintWords Go.Proofs.YthejafdcdcchbaaDoorW.PrintLast Go.Proofs.YthejafdcdcchbaaDoorW.PrintMore
open Go.Proofs.YthejafdcdcchbaaDoorX
attribute [local go_sem] max2_int min2_int max_two min_two max_three min_three max_four min_four   -- for this text's walks alone
set_option linter.unusedVariables false
set_option linter.unusedSimpArgs false

/-! ### simple_Degrees: function 21 -/
def simple_Degrees.l0 : Nat → List Int → List (S42) → Int → Int → Option (List Int × Int)
 | 0, _, _, _, _ => none
 | k + 1, x4, x14, x15, x16 => if x16 < x15 then (if 0 ≤ x16 then (if x16 < (x14.length : Int) then (if 0 ≤ ((rd_T42 x14 x16).f0) then (if ((rd_T42 x14 x16).f0) < (x4.length : Int) then ((some (x4.set (((rd_T42 x14 x16).f0) : Int).toNat (wrap64 ((rd x4 ((rd_T42 x14 x16).f0)) + 1)) : List Int)).bind fun y207 => (if 0 ≤ ((rd_T42 x14 x16).f1) then (if ((rd_T42 x14 x16).f1) < (x4.length : Int) then (simple_Degrees.l0 k (y207.set (((rd_T42 x14 x16).f1) : Int).toNat (wrap64 ((rd y207 ((rd_T42 x14 x16).f1)) + 1))) x14 x15 (wrap64 (x16 + 1))) else (none)) else (none))) else (none)) else (none)) else (none)) else (none)) else (some (x4, 0))
def simple_Degrees.f (k : Nat) (a0_0 : Int) (l0_1 : List (S42)) : Option (List Int × Int) := (simple_Valid.f k a0_0 l0_1).bind fun t200 => (if t200 = true then (if 0 ≤ a0_0 then (if (a0_0 : Int).toNat ≤ 35184372088832 then (simple_Degrees.l0 k (List.replicate (a0_0 : Int).toNat 0) l0_1 (l0_1.length : Int) 0) else (none)) else (none)) else (some (([] : List Int), 1)))
theorem simple_Degrees.mono_l : ∀ k, (∀ y0 y1 y2 y3, LeO (simple_Degrees.l0 k y0 y1 y2 y3) (simple_Degrees.l0 (k + 1) y0 y1 y2 y3))
 | 0 => fun _ _ _ _ r h => by simp [simple_Degrees.l0] at h
 | k + 1 => by
  have ih0 := simple_Degrees.mono_l k
  ·intro y0 y1 y2 y3
   unfold simple_Degrees.l0
   repeat' first
   | (with_reducible exact ih0 _ _ _ _)
   | (with_reducible exact simple_Valid.mono _ _ _)
   | (with_reducible exact LeO.refl _)
   | (with_reducible exact LeO.none _)
   | (with_reducible refine LeO.ite ?_ ?_)
   | (with_reducible refine LeO.bind ?_ (fun _ => ?_))
   | exact ih0 _ _ _ _
   | exact simple_Valid.mono _ _ _
   | exact LeO.none _
   | refine LeO.ite ?_ ?_
   | refine LeO.bind ?_ (fun _ => ?_)
theorem simple_Degrees.mono : ∀ a0 a1 k, LeO (simple_Degrees.f k a0 a1) (simple_Degrees.f (k + 1) a0 a1) := by
 intro a0 a1 k; have ih0 := simple_Degrees.mono_l k
 unfold simple_Degrees.f
 repeat' first
   | (with_reducible exact ih0 _ _ _ _)
   | (with_reducible exact simple_Valid.mono _ _ _)
   | (with_reducible exact LeO.refl _)
   | (with_reducible exact LeO.none _)
   | (with_reducible refine LeO.ite ?_ ?_)
   | (with_reducible refine LeO.bind ?_ (fun _ => ?_))
   | exact ih0 _ _ _ _
   | exact simple_Valid.mono _ _ _
   | exact LeO.none _
   | refine LeO.ite ?_ ?_
   | refine LeO.bind ?_ (fun _ => ?_)
set_option maxHeartbeats 8000000 in
set_option maxRecDepth 100000 in
theorem simple_Degrees.calls (k : Nat) (a0_0 : Int) (A0_1 : Option Addr) (c0_1 : Nat) (l0_1 : List (S42)) (r1 : List Int) (r2 : Int) (w : World) (hr0_1 : Kd.C k42 w A0_1 l0_1.length l0_1) (hc0_1 : l0_1.length ≤ c0_1) (h : simple_Degrees.f k a0_0 l0_1 = some (r1, r2)) :
  Calls Tryd.prog 21 #[.agg #[.int .i64 a0_0, .slice A0_1 l0_1.length c0_1]] w fun e w' => ∃ v0_ : Value, e = .returned (.tuple #[v0_, .int .i64 r2]) ∧ Kd.R (Kd.int .i64) 3 w' w.heap.size (fun _ => True) v0_ r1 ∧ Below w.heap.size w w' := by
 have hu26 := Tryd.underlying26; have hu42 := Tryd.underlying42; have HR0_1 := Aside0.mk hr0_1; have HC0_1 := Aside0.mk hc0_1; clear hr0_1 hc0_1; have HB := Aside0.mk (Below.refl w.heap.size w); have H : ((simple_Valid.f k a0_0 l0_1).bind fun t200 => (if t200 = true then (if 0 ≤ a0_0 then (if (a0_0 : Int).toNat ≤ 35184372088832 then (simple_Degrees.l0 k (List.replicate (a0_0 : Int).toNat 0) l0_1 (l0_1.length : Int) 0) else (none)) else (none)) else (some (([] : List Int), 1)))) = some (r1, r2) := h; clear h; replace H := Option.bind_eq_some_iff.mp H; obtain ⟨t200, A20, H⟩ := H; replace H : (if t200 = true then (if 0 ≤ a0_0 then (if (a0_0 : Int).toNat ≤ 35184372088832 then (simple_Degrees.l0 k (List.replicate (a0_0 : Int).toNat 0) l0_1 (l0_1.length : Int) 0) else (none)) else (none)) else (some (([] : List Int), 1))) = some (r1, r2) := H; have A2 := Aside0.mk A20; clear A20
 by_cases c3 : t200 = true
 ·subst c3; have H1 : (if 0 ≤ a0_0 then (if (a0_0 : Int).toNat ≤ 35184372088832 then (simple_Degrees.l0 k (List.replicate (a0_0 : Int).toNat 0) l0_1 (l0_1.length : Int) 0) else (none)) else (none)) = some (r1, r2) := by rw [if_pos rfl] at H; exact H
  clear H; have H := H1; clear H1
  by_cases c4 : 0 ≤ a0_0
  ·rw [if_pos c4] at H; have c4b0 := eq_true c4; have c4b1 : decide (0 ≤ a0_0) = true := decide_eq_true c4; clear c4
   by_cases c5 : (a0_0 : Int).toNat ≤ 35184372088832
   ·rw [if_pos c5] at H; have c5b0 := eq_true c5; have c5b1 : decide ((a0_0 : Int).toNat ≤ 35184372088832) = true := decide_eq_true c5; clear c5; obtain ⟨y201, hy201⟩ : ∃ y_ : List Int, y_ = (List.replicate (a0_0 : Int).toNat 0) := ⟨_, rfl⟩; replace H : (simple_Degrees.l0 k y201 l0_1 (l0_1.length : Int) 0) = some (r1, r2) := by first | (rw [hy201]; with_reducible exact H) | (have H2_ := (Option.bind_some _ _).symm.trans H; rw [hy201]; with_reducible exact H2_) | (have H2_ := (Option.bind_some _ _).symm.trans H; with_reducible exact H2_) | with_reducible exact H | (rw [hy201]; exact H) | exact H
    have Ny201 := Aside0.mk hy201; clear hy201; have H' := Aside0.mk H; clear H
    go_enter Tryd.func21, Tryd.ntmps21
    go_wp2_with (first | ((with_reducible refine gate_dst (N := 1) rfl ?_); refine be_ 1 #[.int .i64 a0_0, .slice A0_1 l0_1.length c0_1] 26 ?_; intro gb199 hg w6 hbox hb; have BK199 := Aside0.mk (hbox); have GW199 := wq (hb0 HB) hg; have GE199 := wq (hb0 HB) hg; replace HB := hs (hb0 HB) hb; clear hb hbox hg; have hcz7_0 : w6.cell? ⟨gb199, 0, none⟩ = some (.int .i64 a0_0) := bc BK199 0; have hcz7_1 : w6.cell? ⟨gb199, 1, none⟩ = some (.slice A0_1 l0_1.length c0_1) := bc BK199 1; have hfz7_0 := blk_frozen BK199.out 0; have hfz7_1 := blk_frozen BK199.out 1) | ((with_reducible refine gate_callee (f := 24) rfl ?_); refine gl_ (some 8) Tryd.func24 #[.agg #[.int .i64 a0_0, .slice A0_1 l0_1.length c0_1]] ?_; (with_reducible refine (simple_Valid.calls k a0_0 _ _ l0_1 true _ ?side1 ?side2 A2.out).mono ?_); (case side1 => repeat (first | exact (Kd.C_below HR0_1.out HB.out) | (with_reducible refine Kd.C_alloc ?_ _) | (with_reducible refine Kd.C_drewN ?_ _) | (with_reducible refine Kd.C_drew ?_))); (case side2 => exact HC0_1.out); rintro e w8 ⟨rfl, hb⟩; refine ⟨_, rfl, ?_⟩; replace BK199 := kx BK199 hb; replace HB := hs (hb1 HB GE199) hb; (try clear hb); (try clear hb2); (try clear hk); (try clear hi); have hcz9_0 : w8.cell? ⟨gb199, 0, none⟩ = some (.int .i64 a0_0) := bc BK199 0; have hcz9_1 : w8.cell? ⟨gb199, 1, none⟩ = some (.slice A0_1 l0_1.length c0_1) := bc BK199 1; have hfz9_0 := blk_frozen BK199.out 0; have hfz9_1 := blk_frozen BK199.out 1) | ((with_reducible refine gate_dst (N := 12) rfl ?_); refine Kd.R_make (Kd.int .i64) _ 3 rfl (N := 12) rfl 45 _ _ rfl a0_0 rfl rfl Tryd.underlying45 (.int .i64 0) 8 info3 rfl (by decide) (by omega) 0 (ok := fun _ => True) (okp := fun _ => True) rfl (fun _ hk => hk) trivial (of_decide_eq_true (by first | (with_reducible assumption) | assumption)) (Nat.le_trans (Nat.mul_le_mul_right _ (of_decide_eq_true (by first | (with_reducible assumption) | assumption) : a0_0.toNat ≤ 35184372088832)) (by omega)) (Below.refl _ _) (Nat.le_refl _) ?_; intro v202 w10 ho11 hb hg_ hnew_; clear hg_ hnew_; (first | rw [← Ny201.out] at ho11 | (simp only [Int.reduceToNat] at ho11; rw [← Ny201.out] at ho11)); have HO203 := Aside0.mk (Kd.R_lower ho11 (below_size (hb1 HB GE199))); replace BK199 := kx BK199 hb; replace HB := hs (hb1 HB GE199) hb; clear hb ho11; have hcz12_0 : w10.cell? ⟨gb199, 0, none⟩ = some (.int .i64 a0_0) := bc BK199 0; have hcz12_1 : w10.cell? ⟨gb199, 1, none⟩ = some (.slice A0_1 l0_1.length c0_1) := bc BK199 1; have hfz12_0 := blk_frozen BK199.out 0; have hfz12_1 := blk_frozen BK199.out 1))
    go_loopg [16] k (fun kq v16 w' => ∃ (x4_1 : List Int) (x16_1 : Int), v16 = .int .i64 x16_1 ∧ Aside0 (simple_Degrees.l0 kq x4_1 l0_1 (l0_1.length : Int) x16_1 = some (r1, r2)) ∧ Aside0 (kq ≤ k) ∧ Aside0 (Kd.R (Kd.int .i64) 3 w' w.heap.size (fun _ => True) v202 x4_1) ∧ Aside0 (w'.heap[gb199]? = some (.cells #[.int .i64 a0_0, (.slice A0_1 l0_1.length c0_1)] 26 (0, 0))) ∧ Aside0 (Below w.heap.size w w'))
    case atStart => exact ⟨(y201), (0), (by first | rfl | (simp; done) | (simp [*]; done)), H', ⟨Nat.le_refl _⟩, ⟨rx HO203⟩, ⟨bx BK199⟩, ⟨hb1 HB GE199⟩⟩
    case round =>
     clear H'
     try clear c2
     try clear p2
     try clear c3
     try clear c4
     try clear c4b0
     try clear c4b1
     try clear c5
     try clear c5b0
     try clear c5b1
     try clear hcz12_0
     try clear hcz12_1
     try clear hcz7_0
     try clear hcz7_1
     try clear hcz9_0
     try clear hcz9_1
     try clear hfz12_0
     try clear hfz12_1
     try clear hfz7_0
     try clear hfz7_1
     try clear hfz9_0
     try clear hfz9_1
     obtain ⟨x4_1, x16_1, rfl, HA, HK1, HO_4, BK199, HB⟩ := hrel
     cases gk with
     | zero => exact absurd HA.out (by simp [simple_Degrees.l0])
     | succ k1 =>
      have H := HA.out; clear HA; simp only [simple_Degrees.l0] at H
      by_cases c13 : x16_1 < (l0_1.length : Int)
      ·rw [if_pos c13] at H; have c13b0 : decide (x16_1 < (l0_1.length : Int)) = true := decide_eq_true c13; clear c13
       by_cases c14 : 0 ≤ x16_1
       ·rw [if_pos c14] at H; have c14b0 : decide (0 ≤ x16_1) = true := decide_eq_true c14; clear c14
        by_cases c15 : x16_1 < (l0_1.length : Int)
        ·rw [if_pos c15] at H; have c15b0 : decide (x16_1 < (l0_1.length : Int)) = true := decide_eq_true c15; clear c15
         by_cases c16 : 0 ≤ ((rd_T42 l0_1 x16_1).f0)
         ·rw [if_pos c16] at H; have c16b0 : decide (0 ≤ ((rd_T42 l0_1 x16_1).f0)) = true := decide_eq_true c16; clear c16
          by_cases c17 : ((rd_T42 l0_1 x16_1).f0) < (x4_1.length : Int)
          ·rw [if_pos c17] at H; have c17b0 : decide (((rd_T42 l0_1 x16_1).f0) < (x4_1.length : Int)) = true := decide_eq_true c17; clear c17; obtain ⟨y207, hy207⟩ : ∃ y_ : List Int, y_ = (x4_1.set (((rd_T42 l0_1 x16_1).f0) : Int).toNat (wrap64 ((rd x4_1 ((rd_T42 l0_1 x16_1).f0)) + 1))) := ⟨_, rfl⟩; replace H : (if 0 ≤ ((rd_T42 l0_1 x16_1).f1) then (if ((rd_T42 l0_1 x16_1).f1) < (x4_1.length : Int) then (simple_Degrees.l0 k1 (y207.set (((rd_T42 l0_1 x16_1).f1) : Int).toNat (wrap64 ((rd y207 ((rd_T42 l0_1 x16_1).f1)) + 1))) l0_1 (l0_1.length : Int) (wrap64 (x16_1 + 1))) else (none)) else (none)) = some (r1, r2) := by first | (rw [hy207]; with_reducible exact H) | (have H2_ := (Option.bind_some _ _).symm.trans H; rw [hy207]; with_reducible exact H2_) | (have H2_ := (Option.bind_some _ _).symm.trans H; with_reducible exact H2_) | with_reducible exact H | (rw [hy207]; exact H) | exact H
           have Ny207 := Aside0.mk hy207; clear hy207
           by_cases c19 : 0 ≤ ((rd_T42 l0_1 x16_1).f1)
           ·rw [if_pos c19] at H; have c19b0 : decide (0 ≤ ((rd_T42 l0_1 x16_1).f1)) = true := decide_eq_true c19; clear c19
            by_cases c20 : ((rd_T42 l0_1 x16_1).f1) < (x4_1.length : Int)
            ·rw [if_pos c20] at H; have c20b0 : decide (((rd_T42 l0_1 x16_1).f1) < (x4_1.length : Int)) = true := decide_eq_true c20; clear c20; obtain ⟨y209, hy209⟩ : ∃ y_ : List Int, y_ = (y207.set (((rd_T42 l0_1 x16_1).f1) : Int).toNat (wrap64 ((rd y207 ((rd_T42 l0_1 x16_1).f1)) + 1))) := ⟨_, rfl⟩; replace H : (simple_Degrees.l0 k1 y209 l0_1 (l0_1.length : Int) (wrap64 (x16_1 + 1))) = some (r1, r2) := by first | (rw [hy209]; with_reducible exact H) | (have H2_ := (Option.bind_some _ _).symm.trans H; rw [hy209]; with_reducible exact H2_) | (have H2_ := (Option.bind_some _ _).symm.trans H; with_reducible exact H2_) | with_reducible exact H | (rw [hy209]; exact H) | exact H
             have Ny209 := Aside0.mk hy209; clear hy209; have H' := Aside0.mk H; clear H; have p204 : 0 ≤ (x16_1 : Int) := of_decide_eq_true (by first | (with_reducible assumption) | assumption); have q204 : x16_1 < (l0_1.length : Int) := of_decide_eq_true (by first | (with_reducible assumption) | assumption); obtain ⟨ad204, e204, hx204_0, hx204_1⟩ := at_T42 HR0_1.out x16_1 p204 q204
             cases e204
             replace hx204_0 := (HB.out.cell (World.block_lt_of_cell? w _ hx204_0)).trans hx204_0; replace hx204_1 := (HB.out.cell (World.block_lt_of_cell? w _ hx204_1)).trans hx204_1; replace p204 := eq_true p204; replace q204 := eq_true q204
             go_wp2_with (first | ((with_reducible refine gate_dst (N := 6) rfl ?_); refine be_ 6 #[.int .i64 0, .int .i64 0] 42 ?_; intro gb205 hg w22 hbox hb; replace HO_4 := ry HO_4 hb; have BK205 := Aside0.mk (hbox); have GW205 := wq (hb1 HB GE199) hg; have GE205 := wq (hb1 HB GE199) hg; replace HB := hs (hb1 HB GE199) hb; have NB199_205 := lx BK199 hg; have NB205_199 := gx BK199 hg; replace BK199 := kx BK199 hb; clear hb hbox hg; have hnb23 := NB205_199.out; have hnc23 := NB199_205.out; have hcz24_0 : w22.cell? ⟨gb205, 0, none⟩ = some (.int .i64 0) := bc BK205 0; have hcz24_1 : w22.cell? ⟨gb205, 1, none⟩ = some (.int .i64 0) := bc BK205 1; have hfz24_0 := blk_frozen BK205.out 0; have hfz24_1 := blk_frozen BK205.out 1) | ((with_reducible refine gate_store (t := 42) (p := 6) rfl ?_); refine store_event (t := 42) (p := 6) (v := ?vo_w25) (w1 := ((w22.setCell ⟨gb205, 0, none⟩ (.int .i64 ((rd_T42 l0_1 x16_1).f0))).setCell ⟨gb205, 1, none⟩ (.int .i64 ((rd_T42 l0_1 x16_1).f1)))) ?hg ?ho ?hn ?hr ?_; (case ho => rfl); (case hg => rfl); (case hn => rfl); (case hr => first | (go_simp; done) | (go_simp; rfl)); intro w25 hw; have n0_ : Aside0 (Kd.R (Kd.int .i64) 3 w25 w.heap.size (fun _ => True) v202 x4_1) := ⟨(by rw [hw]; exact (Kd.R_mono (rf HO_4 BK205) (fun _ hk => trivial)))⟩; have n1_ : Aside0 (w25.heap[gb199]? = some (.cells #[.int .i64 a0_0, .slice (some ad204) l0_1.length c0_1] 26 (0, 0))) := ⟨(by rw [hw]; exact (bx1 BK199 NB199_205))⟩; have n2_ : Aside0 (w25.heap[gb205]? = some (.cells #[.int .i64 ((rd_T42 l0_1 x16_1).f0), .int .i64 ((rd_T42 l0_1 x16_1).f1)] 42 (0, 0))) := ⟨(by rw [hw]; exact (bp BK205))⟩; have n3_ : Aside0 (Below w.heap.size w w25) := ⟨(by rw [hw]; exact (hb2 HB GE199 GE205))⟩; clear hw; clear HO_4; clear BK199; clear BK205; clear HB; have HO_4 := n0_; have BK199 := n1_; have BK205 := n2_; have HB := n3_; clear n0_ n1_ n2_ n3_; have hcz26_0 : w25.cell? ⟨gb205, 0, none⟩ = some (.int .i64 ((rd_T42 l0_1 x16_1).f0)) := bc BK205 0; have hcz26_1 : w25.cell? ⟨gb205, 1, none⟩ = some (.int .i64 ((rd_T42 l0_1 x16_1).f1)) := bc BK205 1; have hfz26_0 := blk_frozen BK205.out 0; have hfz26_1 := blk_frozen BK205.out 1; obtain ⟨Ao27, co27, eo27⟩ := Kd.R_slice HO_4.out; subst eo27; have p206 : 0 ≤ (((rd_T42 l0_1 x16_1).f0) : Int) := of_decide_eq_true (by first | (with_reducible assumption) | assumption); have q206 : ((rd_T42 l0_1 x16_1).f0) < (x4_1.length : Int) := of_decide_eq_true (by first | (with_reducible assumption) | assumption); obtain ⟨ad206, e206, hx206_0⟩ := Kd.at_int (Kd.R_reads' HO_4.out).2.2 ((rd_T42 l0_1 x16_1).f0) p206 q206; cases e206; replace p206 := eq_true p206; replace q206 := eq_true q206; have p18 : 0 ≤ (((rd_T42 l0_1 x16_1).f0) : Int) := of_decide_eq_true (by first | (with_reducible assumption) | assumption); have q18 : (((rd_T42 l0_1 x16_1).f0) : Int) < ((x4_1.length : Int) : Int) := of_decide_eq_true (by first | (with_reducible assumption) | assumption); obtain ⟨go18, co18, eo18, gb18, gl18, cl18, HG18⟩ := Kd.R_form HO_4.out (by omega); (first | cases eo18 | (injection eo18 with ea_ en_ ec_; (first | subst ea_ | (injection ea_ with ea_; subst ea_)); subst ec_; clear en_)); have GB18 := Aside0.mk gb18; have GG18 := Aside0.mk HG18; clear gb18 gl18 HG18; (first | simp only [add_plain] at hx206_0 | skip); obtain ⟨hx18_0, hf18_0⟩ := Kd.R_celln 0 HO_4.out (((rd_T42 l0_1 x16_1).f0) : Int) p18 q18; replace p18 := eq_true p18; replace q18 := eq_true q18; obtain ⟨hy28_, hz28_⟩ := Kd.R_celln 0 HO_4.out (((rd_T42 l0_1 x16_1).f0) : Int) (of_decide_eq_true (by first | (with_reducible assumption) | assumption)) (of_decide_eq_true (by first | (with_reducible assumption) | assumption)); have HP28 := Kd.R_putg HO_4.out (((rd_T42 l0_1 x16_1).f0) : Int) (wrap64 ((rd x4_1 ((rd_T42 l0_1 x16_1).f0)) + 1))) | ((with_reducible refine gate_store (t := 3) (p := 26) rfl ?_); refine store_event (t := 3) (p := 26) (v := ?vo_w29) (w1 := (w25.setCell ⟨go18, (((rd_T42 l0_1 x16_1).f0) : Int).toNat, none⟩ (.int .i64 (wrap64 ((rd x4_1 ((rd_T42 l0_1 x16_1).f0)) + 1))))) ?hg ?ho ?hn ?hr ?_; (case ho => rfl); (case hg => rfl); (case hn => rfl); (case hr => first | (go_simp; done) | (go_simp; rfl)); intro w29 hw; have hg : w25.grownBy w29 (some go18) := (by rw [hw]; exact HP28.2); have hp_ : Kd.R (Kd.int .i64) 3 w29 w.heap.size (fun _ => True) (.slice (some ⟨go18, 0, none⟩) x4_1.length co27) y207 := (by rw [hw, Ny207.out]; exact HP28.1); clear HP28; replace BK199 := Aside0.mk (blk_grown (bx BK199) hg (Kd.R_ne HO_4.out BK199.out (by decide))); replace BK205 := Aside0.mk (blk_grown (bx BK205) hg (Kd.R_ne HO_4.out BK205.out (by decide))); replace HO_4 := Aside0.mk (hp_); replace HB := Aside0.mk ((by rw [hw]; exact below_set (HB.out) GB18.out : Below w.heap.size w w29)); clear hg hw hp_; have hcz30_0 : w29.cell? ⟨gb205, 0, none⟩ = some (.int .i64 ((rd_T42 l0_1 x16_1).f0)) := bc BK205 0; have hcz30_1 : w29.cell? ⟨gb205, 1, none⟩ = some (.int .i64 ((rd_T42 l0_1 x16_1).f1)) := bc BK205 1; have hfz30_0 := blk_frozen BK205.out 0; have hfz30_1 := blk_frozen BK205.out 1; have p208 : 0 ≤ (((rd_T42 l0_1 x16_1).f1) : Int) := of_decide_eq_true (by first | (with_reducible assumption) | assumption); have q208 : ((rd_T42 l0_1 x16_1).f1) < (y207.length : Int) := (by have h_ : (((rd_T42 l0_1 x16_1).f1) : Int) < ((x4_1.length : Int) : Int) := of_decide_eq_true (by first | (with_reducible assumption) | assumption); first | (have e_ := (Kd.R_reads' HO_4.out).1; omega) | simpa only [Ny207.out, List.length_set] using h_); have ql208 : ((((rd_T42 l0_1 x16_1).f1) : Int) < ((x4_1.length : Int) : Int)) = True := eq_true (of_decide_eq_true (by first | (with_reducible assumption) | assumption)); obtain ⟨ad208, e208, hx208_0⟩ := Kd.at_int (Kd.R_reads' HO_4.out).2.2 ((rd_T42 l0_1 x16_1).f1) p208 q208; obtain rfl : (⟨go18, 0, none⟩ : Addr) = ad208 := (by injection e208); (first | simp only [add_plain] at hx208_0 | simp only [add_at] at hx208_0 | simp only [Addr.add, Nat.zero_add] at hx208_0 | skip); replace p208 := eq_true p208; replace q208 := eq_true q208; have p21 : 0 ≤ (((rd_T42 l0_1 x16_1).f1) : Int) := of_decide_eq_true (by first | (with_reducible assumption) | assumption); have q21 : (((rd_T42 l0_1 x16_1).f1) : Int) < ((x4_1.length : Int) : Int) := of_decide_eq_true (by first | (with_reducible assumption) | assumption); obtain ⟨hx21_0, hf21_0⟩ := Kd.R_celln 0 HO_4.out (((rd_T42 l0_1 x16_1).f1) : Int) p21 q21; replace p21 := eq_true p21; replace q21 := eq_true q21; obtain ⟨hy31_, hz31_⟩ := Kd.R_celln 0 HO_4.out (((rd_T42 l0_1 x16_1).f1) : Int) (of_decide_eq_true (by first | (with_reducible assumption) | assumption)) (of_decide_eq_true (by first | (with_reducible assumption) | assumption)); have HP31 := Kd.R_putg HO_4.out (((rd_T42 l0_1 x16_1).f1) : Int) (wrap64 ((rd y207 ((rd_T42 l0_1 x16_1).f1)) + 1))) | ((with_reducible refine gate_store (t := 3) (p := 33) rfl ?_); refine store_event (t := 3) (p := 33) (v := ?vo_w32) (w1 := (w29.setCell ⟨go18, (((rd_T42 l0_1 x16_1).f1) : Int).toNat, none⟩ (.int .i64 (wrap64 ((rd y207 ((rd_T42 l0_1 x16_1).f1)) + 1))))) ?hg ?ho ?hn ?hr ?_; (case ho => rfl); (case hg => rfl); (case hn => rfl); (case hr => first | (go_simp; done) | (go_simp; rfl)); intro w32 hw; have hg : w29.grownBy w32 (some go18) := (by rw [hw]; exact HP31.2); have hp_ : Kd.R (Kd.int .i64) 3 w32 w.heap.size (fun _ => True) (.slice (some ⟨go18, 0, none⟩) x4_1.length co27) y209 := (by rw [hw, Ny209.out]; exact HP31.1); clear HP31; replace BK199 := Aside0.mk (blk_grown (bx BK199) hg (Kd.R_ne HO_4.out BK199.out (by decide))); replace BK205 := Aside0.mk (blk_grown (bx BK205) hg (Kd.R_ne HO_4.out BK205.out (by decide))); replace HO_4 := Aside0.mk (hp_); replace HB := Aside0.mk ((by rw [hw]; exact below_set (HB.out) GB18.out : Below w.heap.size w w32)); clear hg hw hp_))
             go_roundg k1
             case measure => have := HK1.out; omega
             case rel => exact ⟨(y209), (wrap64 (x16_1 + 1)), (by first | rfl | (simp; done) | (simp [*]; done)), H', ⟨by have := HK1.out; omega⟩, ⟨rx HO_4⟩, ⟨bx BK199⟩, ⟨hb2 HB GE199 GE205⟩⟩
            ·rw [if_neg c20] at H; exact absurd H (by simp)
           ·rw [if_neg c19] at H; exact absurd H (by simp)
          ·rw [if_neg c17] at H; exact absurd H (by simp)
         ·rw [if_neg c16] at H; exact absurd H (by simp)
        ·rw [if_neg c15] at H; exact absurd H (by simp)
       ·rw [if_neg c14] at H; exact absurd H (by simp)
      ·rw [if_neg c13] at H; have c13b0 : decide (x16_1 < (l0_1.length : Int)) = false := decide_eq_false c13; clear c13; simp only [Option.some.injEq, Prod.mk.injEq] at H; obtain ⟨rfl, rfl⟩ := H
       go_wp2
       go_ret2
       exact ⟨_, by first | rfl | (simp [errW_none, errW_some] <;> rfl) | (simp [*, errW_none, errW_some] <;> rfl), by (with_reducible repeat (first | apply Kd.R_alloc | apply Kd.R_drewN | apply Kd.R_drew)); exact HO_4.out, hb1 HB GE199⟩
   ·rw [if_neg c5] at H; exact absurd H (by simp)
  ·rw [if_neg c4] at H; exact absurd H (by simp)
 ·replace c3 := Bool.eq_false_iff.mpr c3; subst c3; have H1 : (some (([] : List Int), 1)) = some (r1, r2) := by rw [if_neg (show ¬ (false = true) by decide)] at H; exact H
  clear H; have H := H1; clear H1; simp only [Option.some.injEq, Prod.mk.injEq] at H; obtain ⟨rfl, rfl⟩ := H
  go_enter Tryd.func21, Tryd.ntmps21
  go_wp2_with (first | ((with_reducible refine gate_dst (N := 1) rfl ?_); refine be_ 1 #[.int .i64 a0_0, .slice A0_1 l0_1.length c0_1] 26 ?_; intro gb199 hg w33 hbox hb; have BK199 := Aside0.mk (hbox); have GW199 := wq (hb0 HB) hg; have GE199 := wq (hb0 HB) hg; replace HB := hs (hb0 HB) hb; clear hb hbox hg; have hcz34_0 : w33.cell? ⟨gb199, 0, none⟩ = some (.int .i64 a0_0) := bc BK199 0; have hcz34_1 : w33.cell? ⟨gb199, 1, none⟩ = some (.slice A0_1 l0_1.length c0_1) := bc BK199 1; have hfz34_0 := blk_frozen BK199.out 0; have hfz34_1 := blk_frozen BK199.out 1) | ((with_reducible refine gate_callee (f := 24) rfl ?_); refine gl_ (some 8) Tryd.func24 #[.agg #[.int .i64 a0_0, .slice A0_1 l0_1.length c0_1]] ?_; (with_reducible refine (simple_Valid.calls k a0_0 _ _ l0_1 false _ ?side1 ?side2 A2.out).mono ?_); (case side1 => repeat (first | exact (Kd.C_below HR0_1.out HB.out) | (with_reducible refine Kd.C_alloc ?_ _) | (with_reducible refine Kd.C_drewN ?_ _) | (with_reducible refine Kd.C_drew ?_))); (case side2 => exact HC0_1.out); rintro e w35 ⟨rfl, hb⟩; refine ⟨_, rfl, ?_⟩; replace BK199 := kx BK199 hb; replace HB := hs (hb1 HB GE199) hb; (try clear hb); (try clear hb2); (try clear hk); (try clear hi)))
  go_ret2
  exact ⟨_, by first | rfl | (simp [errW_none, errW_some] <;> rfl) | (simp [*, errW_none, errW_some] <;> rfl), by first | exact Kd.R_nil _ _ _ _ _ | exact Kd.N_nil _ _ _ _ _ | exact Kd.V_nil _ _ _ _ _ | exact Kd.Q_nil _ _ _ _ _ | exact Kd.S_nil _ _ _ _ _, hb1 HB GE199⟩

end Go.Proofs.YthejafdcdcchbaaDoor.PSimA
