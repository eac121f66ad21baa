-- PRINTED by print.py (a twelfth state) out of the translation. Not trusted: Lean checks it.
import Derived.Test.YthejafdcdcchbaaDoorZPSimAx0
import Derived.Test.YthejafdcdcchbaaDoorZPSimAx17
namespace Go.Proofs.YthejafdcdcchbaaDoor.PSimA
open Go.RowKit Go.Proofs.YthejafdcdcchbaaDoorW.PrintWords Go.Proofs.YthejafdcdcchbaaDoorW.PrintLast Go.Proofs.YthejafdcdcchbaaDoorW.PrintMore
open Go.Proofs.YthejafdcdcchbaaDoorX
attribute [local go_sem] max2_int min2_int max_two min_two max_three min_three max_four min_four   -- for this text's walks alone
set_option linter.unusedVariables false
set_option linter.unusedSimpArgs false

/-! ### tangramref03_Degrees: function 22 -/
def tangramref03_Degrees.l0 : Nat → List Int → Int → Int → List (S42) → Option (List Int × Int)
 | 0, _, _, _, _ => none
 | k + 1, x5, x6, x211000, x211001 => if x6 < (x211001.length : Int) then (if 0 ≤ x6 then (if 0 ≤ ((rd_T42 x211001 x6).f0) then (if ((rd_T42 x211001 x6).f0) < (x5.length : Int) then ((some (x5.set (((rd_T42 x211001 x6).f0) : Int).toNat (wrap64 ((rd x5 ((rd_T42 x211001 x6).f0)) + 1)) : List Int)).bind fun y217 => (if 0 ≤ ((rd_T42 x211001 x6).f1) then (if ((rd_T42 x211001 x6).f1) < (x5.length : Int) then (tangramref03_Degrees.l0 k (y217.set (((rd_T42 x211001 x6).f1) : Int).toNat (wrap64 ((rd y217 ((rd_T42 x211001 x6).f1)) + 1))) (wrap64 (x6 + 1)) x211000 x211001) else (none)) else (none))) else (none)) else (none)) else (none)) else (some (x5, 0))
def tangramref03_Degrees.f (k : Nat) (a0_0 : Int) (l0_1 : List (S42)) : Option (List Int × Int) := (tangramref03_Valid.f k a0_0 l0_1).bind fun t211 => (if t211 = true then (if 0 ≤ a0_0 then (if (a0_0 : Int).toNat ≤ 35184372088832 then (tangramref03_Degrees.l0 k (List.replicate (a0_0 : Int).toNat 0) 0 a0_0 l0_1) else (none)) else (none)) else (some (([] : List Int), 1)))
theorem tangramref03_Degrees.mono_l : ∀ k, (∀ y0 y1 y2 y3, LeO (tangramref03_Degrees.l0 k y0 y1 y2 y3) (tangramref03_Degrees.l0 (k + 1) y0 y1 y2 y3))
 | 0 => fun _ _ _ _ r h => by simp [tangramref03_Degrees.l0] at h
 | k + 1 => by
  have ih0 := tangramref03_Degrees.mono_l k
  ·intro y0 y1 y2 y3
   unfold tangramref03_Degrees.l0
   repeat' first
   | (with_reducible exact ih0 _ _ _ _)
   | (with_reducible exact tangramref03_Valid.mono _ _ _)
   | (with_reducible exact LeO.refl _)
   | (with_reducible exact LeO.none _)
   | (with_reducible refine LeO.ite ?_ ?_)
   | (with_reducible refine LeO.bind ?_ (fun _ => ?_))
   | exact ih0 _ _ _ _
   | exact tangramref03_Valid.mono _ _ _
   | exact LeO.none _
   | refine LeO.ite ?_ ?_
   | refine LeO.bind ?_ (fun _ => ?_)
theorem tangramref03_Degrees.mono : ∀ a0 a1 k, LeO (tangramref03_Degrees.f k a0 a1) (tangramref03_Degrees.f (k + 1) a0 a1) := by
 intro a0 a1 k; have ih0 := tangramref03_Degrees.mono_l k
 unfold tangramref03_Degrees.f
 repeat' first
   | (with_reducible exact ih0 _ _ _ _)
   | (with_reducible exact tangramref03_Valid.mono _ _ _)
   | (with_reducible exact LeO.refl _)
   | (with_reducible exact LeO.none _)
   | (with_reducible refine LeO.ite ?_ ?_)
   | (with_reducible refine LeO.bind ?_ (fun _ => ?_))
   | exact ih0 _ _ _ _
   | exact tangramref03_Valid.mono _ _ _
   | exact LeO.none _
   | refine LeO.ite ?_ ?_
   | refine LeO.bind ?_ (fun _ => ?_)
set_option maxHeartbeats 8000000 in
set_option maxRecDepth 100000 in
theorem tangramref03_Degrees.calls (k : Nat) (a0_0 : Int) (A0_1 : Option Addr) (c0_1 : Nat) (l0_1 : List (S42)) (r1 : List Int) (r2 : Int) (w : World) (hr0_1 : Kd.C k42 w A0_1 l0_1.length l0_1) (hc0_1 : l0_1.length ≤ c0_1) (h : tangramref03_Degrees.f k a0_0 l0_1 = some (r1, r2)) :
  Calls Tryd.prog 22 #[.agg #[.int .i64 a0_0, .slice A0_1 l0_1.length c0_1]] w fun e w' => ∃ v0_ : Value, e = .returned (.tuple #[v0_, .int .i64 r2]) ∧ Kd.R (Kd.int .i64) 3 w' w.heap.size (fun _ => True) v0_ r1 ∧ Below w.heap.size w w' := by
 have hu26 := Tryd.underlying26; have HR0_1 := Aside0.mk hr0_1; have HC0_1 := Aside0.mk hc0_1; clear hr0_1 hc0_1; have HB := Aside0.mk (Below.refl w.heap.size w); have H : ((tangramref03_Valid.f k a0_0 l0_1).bind fun t211 => (if t211 = true then (if 0 ≤ a0_0 then (if (a0_0 : Int).toNat ≤ 35184372088832 then (tangramref03_Degrees.l0 k (List.replicate (a0_0 : Int).toNat 0) 0 a0_0 l0_1) else (none)) else (none)) else (some (([] : List Int), 1)))) = some (r1, r2) := h; clear h; replace H := Option.bind_eq_some_iff.mp H; obtain ⟨t211, A20, H⟩ := H; replace H : (if t211 = true then (if 0 ≤ a0_0 then (if (a0_0 : Int).toNat ≤ 35184372088832 then (tangramref03_Degrees.l0 k (List.replicate (a0_0 : Int).toNat 0) 0 a0_0 l0_1) else (none)) else (none)) else (some (([] : List Int), 1))) = some (r1, r2) := H; have A2 := Aside0.mk A20; clear A20
 by_cases c3 : t211 = true
 ·subst c3; have H1 : (if 0 ≤ a0_0 then (if (a0_0 : Int).toNat ≤ 35184372088832 then (tangramref03_Degrees.l0 k (List.replicate (a0_0 : Int).toNat 0) 0 a0_0 l0_1) else (none)) else (none)) = some (r1, r2) := by rw [if_pos rfl] at H; exact H
  clear H; have H := H1; clear H1
  by_cases c4 : 0 ≤ a0_0
  ·rw [if_pos c4] at H; have c4b0 := eq_true c4; have c4b1 : decide (0 ≤ a0_0) = true := decide_eq_true c4; clear c4
   by_cases c5 : (a0_0 : Int).toNat ≤ 35184372088832
   ·rw [if_pos c5] at H; have c5b0 := eq_true c5; have c5b1 : decide ((a0_0 : Int).toNat ≤ 35184372088832) = true := decide_eq_true c5; clear c5; obtain ⟨y212, hy212⟩ : ∃ y_ : List Int, y_ = (List.replicate (a0_0 : Int).toNat 0) := ⟨_, rfl⟩; replace H : (tangramref03_Degrees.l0 k y212 0 a0_0 l0_1) = some (r1, r2) := by first | (rw [hy212]; with_reducible exact H) | (have H2_ := (Option.bind_some _ _).symm.trans H; rw [hy212]; with_reducible exact H2_) | (have H2_ := (Option.bind_some _ _).symm.trans H; with_reducible exact H2_) | with_reducible exact H | (rw [hy212]; exact H) | exact H
    have Ny212 := Aside0.mk hy212; clear hy212; have H' := Aside0.mk H; clear H
    go_enter Tryd.func22, Tryd.ntmps22
    go_wp2_with (first | ((with_reducible refine gate_dst (N := 1) rfl ?_); refine be_ 1 #[.int .i64 a0_0, .slice A0_1 l0_1.length c0_1] 26 ?_; intro gb210 hg w6 hbox hb; have BK210 := Aside0.mk (hbox); have GW210 := wq (hb0 HB) hg; have GE210 := wq (hb0 HB) hg; replace HB := hs (hb0 HB) hb; clear hb hbox hg; have hcz7_0 : w6.cell? ⟨gb210, 0, none⟩ = some (.int .i64 a0_0) := bc BK210 0; have hcz7_1 : w6.cell? ⟨gb210, 1, none⟩ = some (.slice A0_1 l0_1.length c0_1) := bc BK210 1; have hfz7_0 := blk_frozen BK210.out 0; have hfz7_1 := blk_frozen BK210.out 1) | ((with_reducible refine gate_callee (f := 25) rfl ?_); refine gl_ (some 8) Tryd.func25 #[.agg #[.int .i64 a0_0, .slice A0_1 l0_1.length c0_1]] ?_; (with_reducible refine (tangramref03_Valid.calls k a0_0 _ _ l0_1 true _ ?side1 ?side2 A2.out).mono ?_); (case side1 => repeat (first | exact (Kd.C_below HR0_1.out HB.out) | (with_reducible refine Kd.C_alloc ?_ _) | (with_reducible refine Kd.C_drewN ?_ _) | (with_reducible refine Kd.C_drew ?_))); (case side2 => exact HC0_1.out); rintro e w8 ⟨rfl, hb⟩; refine ⟨_, rfl, ?_⟩; replace BK210 := kx BK210 hb; replace HB := hs (hb1 HB GE210) hb; (try clear hb); (try clear hb2); (try clear hk); (try clear hi); have hcz9_0 : w8.cell? ⟨gb210, 0, none⟩ = some (.int .i64 a0_0) := bc BK210 0; have hcz9_1 : w8.cell? ⟨gb210, 1, none⟩ = some (.slice A0_1 l0_1.length c0_1) := bc BK210 1; have hfz9_0 := blk_frozen BK210.out 0; have hfz9_1 := blk_frozen BK210.out 1) | ((with_reducible refine gate_dst (N := 13) rfl ?_); refine Kd.R_make (Kd.int .i64) _ 3 rfl (N := 13) rfl 45 _ _ rfl a0_0 rfl rfl Tryd.underlying45 (.int .i64 0) 8 info3 rfl (by decide) (by omega) 0 (ok := fun _ => True) (okp := fun _ => True) rfl (fun _ hk => hk) trivial (of_decide_eq_true (by first | (with_reducible assumption) | assumption)) (Nat.le_trans (Nat.mul_le_mul_right _ (of_decide_eq_true (by first | (with_reducible assumption) | assumption) : a0_0.toNat ≤ 35184372088832)) (by omega)) (Below.refl _ _) (Nat.le_refl _) ?_; intro v213 w10 ho11 hb hg_ hnew_; clear hg_ hnew_; (first | rw [← Ny212.out] at ho11 | (simp only [Int.reduceToNat] at ho11; rw [← Ny212.out] at ho11)); have HO214 := Aside0.mk (Kd.R_lower ho11 (below_size (hb1 HB GE210))); replace BK210 := kx BK210 hb; replace HB := hs (hb1 HB GE210) hb; clear hb ho11))
    go_loopg [6] k (fun kq v6 w' => ∃ (x5_1 : List Int) (x6_1 : Int), v6 = .int .i64 x6_1 ∧ Aside0 (tangramref03_Degrees.l0 kq x5_1 x6_1 a0_0 l0_1 = some (r1, r2)) ∧ Aside0 (kq ≤ k) ∧ Aside0 (Kd.R (Kd.int .i64) 3 w' w.heap.size (fun _ => True) v213 x5_1) ∧ Aside0 (w'.heap[gb210]? = some (.cells #[.int .i64 a0_0, (.slice A0_1 l0_1.length c0_1)] 26 (0, 0))) ∧ Aside0 (Below w.heap.size w w'))
    case atStart => exact ⟨(y212), (0), (by first | rfl | (simp; done) | (simp [*]; done)), H', ⟨Nat.le_refl _⟩, ⟨rx HO214⟩, ⟨bx BK210⟩, ⟨hb1 HB GE210⟩⟩
    case round =>
     clear H'
     try clear c2
     try clear p2
     try clear c3
     try clear c4
     try clear c4b0
     try clear c4b1
     try clear c5
     try clear c5b0
     try clear c5b1
     try clear hcz7_0
     try clear hcz7_1
     try clear hcz9_0
     try clear hcz9_1
     try clear hfz7_0
     try clear hfz7_1
     try clear hfz9_0
     try clear hfz9_1
     obtain ⟨x5_1, x6_1, rfl, HA, HK1, HO_5, BK210, HB⟩ := hrel
     cases gk with
     | zero => exact absurd HA.out (by simp [tangramref03_Degrees.l0])
     | succ k1 =>
      have H := HA.out; clear HA; simp only [tangramref03_Degrees.l0] at H
      by_cases c12 : x6_1 < (l0_1.length : Int)
      ·rw [if_pos c12] at H; have c12b0 : decide (x6_1 < (l0_1.length : Int)) = true := decide_eq_true c12; clear c12
       by_cases c13 : 0 ≤ x6_1
       ·rw [if_pos c13] at H; have c13b0 : decide (0 ≤ x6_1) = true := decide_eq_true c13; clear c13
        by_cases c14 : 0 ≤ ((rd_T42 l0_1 x6_1).f0)
        ·rw [if_pos c14] at H; have c14b0 : decide (0 ≤ ((rd_T42 l0_1 x6_1).f0)) = true := decide_eq_true c14; clear c14
         by_cases c15 : ((rd_T42 l0_1 x6_1).f0) < (x5_1.length : Int)
         ·rw [if_pos c15] at H; have c15b0 : decide (((rd_T42 l0_1 x6_1).f0) < (x5_1.length : Int)) = true := decide_eq_true c15; clear c15; obtain ⟨y217, hy217⟩ : ∃ y_ : List Int, y_ = (x5_1.set (((rd_T42 l0_1 x6_1).f0) : Int).toNat (wrap64 ((rd x5_1 ((rd_T42 l0_1 x6_1).f0)) + 1))) := ⟨_, rfl⟩; replace H : (if 0 ≤ ((rd_T42 l0_1 x6_1).f1) then (if ((rd_T42 l0_1 x6_1).f1) < (x5_1.length : Int) then (tangramref03_Degrees.l0 k1 (y217.set (((rd_T42 l0_1 x6_1).f1) : Int).toNat (wrap64 ((rd y217 ((rd_T42 l0_1 x6_1).f1)) + 1))) (wrap64 (x6_1 + 1)) a0_0 l0_1) else (none)) else (none)) = some (r1, r2) := by first | (rw [hy217]; with_reducible exact H) | (have H2_ := (Option.bind_some _ _).symm.trans H; rw [hy217]; with_reducible exact H2_) | (have H2_ := (Option.bind_some _ _).symm.trans H; with_reducible exact H2_) | with_reducible exact H | (rw [hy217]; exact H) | exact H
          have Ny217 := Aside0.mk hy217; clear hy217
          by_cases c17 : 0 ≤ ((rd_T42 l0_1 x6_1).f1)
          ·rw [if_pos c17] at H; have c17b0 : decide (0 ≤ ((rd_T42 l0_1 x6_1).f1)) = true := decide_eq_true c17; clear c17
           by_cases c18 : ((rd_T42 l0_1 x6_1).f1) < (x5_1.length : Int)
           ·rw [if_pos c18] at H; have c18b0 : decide (((rd_T42 l0_1 x6_1).f1) < (x5_1.length : Int)) = true := decide_eq_true c18; clear c18; obtain ⟨y220, hy220⟩ : ∃ y_ : List Int, y_ = (y217.set (((rd_T42 l0_1 x6_1).f1) : Int).toNat (wrap64 ((rd y217 ((rd_T42 l0_1 x6_1).f1)) + 1))) := ⟨_, rfl⟩; replace H : (tangramref03_Degrees.l0 k1 y220 (wrap64 (x6_1 + 1)) a0_0 l0_1) = some (r1, r2) := by first | (rw [hy220]; with_reducible exact H) | (have H2_ := (Option.bind_some _ _).symm.trans H; rw [hy220]; with_reducible exact H2_) | (have H2_ := (Option.bind_some _ _).symm.trans H; with_reducible exact H2_) | with_reducible exact H | (rw [hy220]; exact H) | exact H
            have Ny220 := Aside0.mk hy220; clear hy220; have H' := Aside0.mk H; clear H; have hcz20_0 : wr.cell? ⟨gb210, 0, none⟩ = some (.int .i64 a0_0) := bc BK210 0; have hcz20_1 : wr.cell? ⟨gb210, 1, none⟩ = some (.slice A0_1 l0_1.length c0_1) := bc BK210 1; have hfz20_0 := blk_frozen BK210.out 0; have hfz20_1 := blk_frozen BK210.out 1; have p215 : 0 ≤ (x6_1 : Int) := of_decide_eq_true (by first | (with_reducible assumption) | assumption); have q215 : x6_1 < (l0_1.length : Int) := of_decide_eq_true (by first | (with_reducible assumption) | assumption); obtain ⟨ad215, e215, hx215_0, hx215_1⟩ := at_T42 HR0_1.out x6_1 p215 q215
            cases e215
            replace hx215_0 := (HB.out.cell (World.block_lt_of_cell? w _ hx215_0)).trans hx215_0; replace hx215_1 := (HB.out.cell (World.block_lt_of_cell? w _ hx215_1)).trans hx215_1; replace p215 := eq_true p215; replace q215 := eq_true q215; obtain ⟨Ao21, co21, eo21⟩ := Kd.R_slice HO_5.out; subst eo21; have p216 : 0 ≤ (((rd_T42 l0_1 x6_1).f0) : Int) := of_decide_eq_true (by first | (with_reducible assumption) | assumption); have q216 : ((rd_T42 l0_1 x6_1).f0) < (x5_1.length : Int) := of_decide_eq_true (by first | (with_reducible assumption) | assumption); obtain ⟨ad216, e216, hx216_0⟩ := Kd.at_int (Kd.R_reads' HO_5.out).2.2 ((rd_T42 l0_1 x6_1).f0) p216 q216
            cases e216
            replace p216 := eq_true p216; replace q216 := eq_true q216; have p16 : 0 ≤ (((rd_T42 l0_1 x6_1).f0) : Int) := of_decide_eq_true (by first | (with_reducible assumption) | assumption); have q16 : (((rd_T42 l0_1 x6_1).f0) : Int) < ((x5_1.length : Int) : Int) := of_decide_eq_true (by first | (with_reducible assumption) | assumption); obtain ⟨go16, co16, eo16, gb16, gl16, cl16, HG16⟩ := Kd.R_form HO_5.out (by omega)
            (first | cases eo16 | (injection eo16 with ea_ en_ ec_; (first | subst ea_ | (injection ea_ with ea_; subst ea_)); subst ec_; clear en_))
            have GB16 := Aside0.mk gb16; have GG16 := Aside0.mk HG16; clear gb16 gl16 HG16
            (first | simp only [add_plain] at hx216_0 | skip)
            obtain ⟨hx16_0, hf16_0⟩ := Kd.R_celln 0 HO_5.out (((rd_T42 l0_1 x6_1).f0) : Int) p16 q16; replace p16 := eq_true p16; replace q16 := eq_true q16; have HP22 := Kd.R_putg HO_5.out (((rd_T42 l0_1 x6_1).f0) : Int) (wrap64 ((rd x5_1 ((rd_T42 l0_1 x6_1).f0)) + 1))
            go_wp2_with (first | ((with_reducible refine gate_store (t := 3) (p := 31) rfl ?_); refine store_event (t := 3) (p := 31) (v := ?vo_w23) (w1 := (wr.setCell ⟨go16, (((rd_T42 l0_1 x6_1).f0) : Int).toNat, none⟩ (.int .i64 (wrap64 ((rd x5_1 ((rd_T42 l0_1 x6_1).f0)) + 1))))) ?hg ?ho ?hn ?hr ?_; (case ho => rfl); (case hg => rfl); (case hn => rfl); (case hr => first | (go_simp; done) | (go_simp; rfl)); intro w23 hw; have hg : wr.grownBy w23 (some go16) := (by rw [hw]; exact HP22.2); have hp_ : Kd.R (Kd.int .i64) 3 w23 w.heap.size (fun _ => True) (.slice (some ⟨go16, 0, none⟩) x5_1.length co21) y217 := (by rw [hw, Ny217.out]; exact HP22.1); clear HP22; replace BK210 := Aside0.mk (blk_grown (bx BK210) hg (Kd.R_ne HO_5.out BK210.out (by decide))); replace HO_5 := Aside0.mk (hp_); replace HB := Aside0.mk ((by rw [hw]; exact below_set (HB.out) GB16.out : Below w.heap.size w w23)); clear hg hw hp_; have hcz24_0 : w23.cell? ⟨gb210, 0, none⟩ = some (.int .i64 a0_0) := bc BK210 0; have hcz24_1 : w23.cell? ⟨gb210, 1, none⟩ = some (.slice (some ad215) l0_1.length c0_1) := bc BK210 1; have hfz24_0 := blk_frozen BK210.out 0; have hfz24_1 := blk_frozen BK210.out 1; have p218 : 0 ≤ (x6_1 : Int) := of_decide_eq_true (by first | (with_reducible assumption) | assumption); have q218 : x6_1 < (l0_1.length : Int) := of_decide_eq_true (by first | (with_reducible assumption) | assumption); obtain ⟨ad218, e218, hx218_0, hx218_1⟩ := at_T42 HR0_1.out x6_1 p218 q218; obtain rfl : ad215 = ad218 := (by injection e218); replace hx218_0 := (HB.out.cell (World.block_lt_of_cell? w _ hx218_0)).trans hx218_0; replace hx218_1 := (HB.out.cell (World.block_lt_of_cell? w _ hx218_1)).trans hx218_1; replace p218 := eq_true p218; replace q218 := eq_true q218; have p219 : 0 ≤ (((rd_T42 l0_1 x6_1).f1) : Int) := of_decide_eq_true (by first | (with_reducible assumption) | assumption); have q219 : ((rd_T42 l0_1 x6_1).f1) < (y217.length : Int) := (by have h_ : (((rd_T42 l0_1 x6_1).f1) : Int) < ((x5_1.length : Int) : Int) := of_decide_eq_true (by first | (with_reducible assumption) | assumption); first | (have e_ := (Kd.R_reads' HO_5.out).1; omega) | simpa only [Ny217.out, List.length_set] using h_); have ql219 : ((((rd_T42 l0_1 x6_1).f1) : Int) < ((x5_1.length : Int) : Int)) = True := eq_true (of_decide_eq_true (by first | (with_reducible assumption) | assumption)); obtain ⟨ad219, e219, hx219_0⟩ := Kd.at_int (Kd.R_reads' HO_5.out).2.2 ((rd_T42 l0_1 x6_1).f1) p219 q219; obtain rfl : (⟨go16, 0, none⟩ : Addr) = ad219 := (by injection e219); (first | simp only [add_plain] at hx219_0 | simp only [add_at] at hx219_0 | simp only [Addr.add, Nat.zero_add] at hx219_0 | skip); replace p219 := eq_true p219; replace q219 := eq_true q219; have p19 : 0 ≤ (((rd_T42 l0_1 x6_1).f1) : Int) := of_decide_eq_true (by first | (with_reducible assumption) | assumption); have q19 : (((rd_T42 l0_1 x6_1).f1) : Int) < ((x5_1.length : Int) : Int) := of_decide_eq_true (by first | (with_reducible assumption) | assumption); obtain ⟨hx19_0, hf19_0⟩ := Kd.R_celln 0 HO_5.out (((rd_T42 l0_1 x6_1).f1) : Int) p19 q19; replace p19 := eq_true p19; replace q19 := eq_true q19; obtain ⟨hy25_, hz25_⟩ := Kd.R_celln 0 HO_5.out (((rd_T42 l0_1 x6_1).f1) : Int) (of_decide_eq_true (by first | (with_reducible assumption) | assumption)) (of_decide_eq_true (by first | (with_reducible assumption) | assumption)); have HP25 := Kd.R_putg HO_5.out (((rd_T42 l0_1 x6_1).f1) : Int) (wrap64 ((rd y217 ((rd_T42 l0_1 x6_1).f1)) + 1))) | ((with_reducible refine gate_store (t := 3) (p := 42) rfl ?_); refine store_event (t := 3) (p := 42) (v := ?vo_w26) (w1 := (w23.setCell ⟨go16, (((rd_T42 l0_1 x6_1).f1) : Int).toNat, none⟩ (.int .i64 (wrap64 ((rd y217 ((rd_T42 l0_1 x6_1).f1)) + 1))))) ?hg ?ho ?hn ?hr ?_; (case ho => rfl); (case hg => rfl); (case hn => rfl); (case hr => first | (go_simp; done) | (go_simp; rfl)); intro w26 hw; have hg : w23.grownBy w26 (some go16) := (by rw [hw]; exact HP25.2); have hp_ : Kd.R (Kd.int .i64) 3 w26 w.heap.size (fun _ => True) (.slice (some ⟨go16, 0, none⟩) x5_1.length co21) y220 := (by rw [hw, Ny220.out]; exact HP25.1); clear HP25; replace BK210 := Aside0.mk (blk_grown (bx BK210) hg (Kd.R_ne HO_5.out BK210.out (by decide))); replace HO_5 := Aside0.mk (hp_); replace HB := Aside0.mk ((by rw [hw]; exact below_set (HB.out) GB16.out : Below w.heap.size w w26)); clear hg hw hp_))
            go_roundg k1
            case measure => have := HK1.out; omega
            case rel => exact ⟨(y220), (wrap64 (x6_1 + 1)), (by first | rfl | (simp; done) | (simp [*]; done)), H', ⟨by have := HK1.out; omega⟩, ⟨rx HO_5⟩, ⟨bx BK210⟩, ⟨hb1 HB GE210⟩⟩
           ·rw [if_neg c18] at H; exact absurd H (by simp)
          ·rw [if_neg c17] at H; exact absurd H (by simp)
         ·rw [if_neg c15] at H; exact absurd H (by simp)
        ·rw [if_neg c14] at H; exact absurd H (by simp)
       ·rw [if_neg c13] at H; exact absurd H (by simp)
      ·rw [if_neg c12] at H; have c12b0 : decide (x6_1 < (l0_1.length : Int)) = false := decide_eq_false c12; clear c12; simp only [Option.some.injEq, Prod.mk.injEq] at H; obtain ⟨rfl, rfl⟩ := H; have hcz27_0 : wr.cell? ⟨gb210, 0, none⟩ = some (.int .i64 a0_0) := bc BK210 0; have hcz27_1 : wr.cell? ⟨gb210, 1, none⟩ = some (.slice A0_1 l0_1.length c0_1) := bc BK210 1; have hfz27_0 := blk_frozen BK210.out 0; have hfz27_1 := blk_frozen BK210.out 1
       go_wp2
       go_ret2
       exact ⟨_, by first | rfl | (simp [errW_none, errW_some] <;> rfl) | (simp [*, errW_none, errW_some] <;> rfl), by (with_reducible repeat (first | apply Kd.R_alloc | apply Kd.R_drewN | apply Kd.R_drew)); exact HO_5.out, hb1 HB GE210⟩
   ·rw [if_neg c5] at H; exact absurd H (by simp)
  ·rw [if_neg c4] at H; exact absurd H (by simp)
 ·replace c3 := Bool.eq_false_iff.mpr c3; subst c3; have H1 : (some (([] : List Int), 1)) = some (r1, r2) := by rw [if_neg (show ¬ (false = true) by decide)] at H; exact H
  clear H; have H := H1; clear H1; simp only [Option.some.injEq, Prod.mk.injEq] at H; obtain ⟨rfl, rfl⟩ := H
  go_enter Tryd.func22, Tryd.ntmps22
  go_wp2_with (first | ((with_reducible refine gate_dst (N := 1) rfl ?_); refine be_ 1 #[.int .i64 a0_0, .slice A0_1 l0_1.length c0_1] 26 ?_; intro gb210 hg w28 hbox hb; have BK210 := Aside0.mk (hbox); have GW210 := wq (hb0 HB) hg; have GE210 := wq (hb0 HB) hg; replace HB := hs (hb0 HB) hb; clear hb hbox hg; have hcz29_0 : w28.cell? ⟨gb210, 0, none⟩ = some (.int .i64 a0_0) := bc BK210 0; have hcz29_1 : w28.cell? ⟨gb210, 1, none⟩ = some (.slice A0_1 l0_1.length c0_1) := bc BK210 1; have hfz29_0 := blk_frozen BK210.out 0; have hfz29_1 := blk_frozen BK210.out 1) | ((with_reducible refine gate_callee (f := 25) rfl ?_); refine gl_ (some 8) Tryd.func25 #[.agg #[.int .i64 a0_0, .slice A0_1 l0_1.length c0_1]] ?_; (with_reducible refine (tangramref03_Valid.calls k a0_0 _ _ l0_1 false _ ?side1 ?side2 A2.out).mono ?_); (case side1 => repeat (first | exact (Kd.C_below HR0_1.out HB.out) | (with_reducible refine Kd.C_alloc ?_ _) | (with_reducible refine Kd.C_drewN ?_ _) | (with_reducible refine Kd.C_drew ?_))); (case side2 => exact HC0_1.out); rintro e w30 ⟨rfl, hb⟩; refine ⟨_, rfl, ?_⟩; replace BK210 := kx BK210 hb; replace HB := hs (hb1 HB GE210) hb; (try clear hb); (try clear hb2); (try clear hk); (try clear hi)))
  go_ret2
  exact ⟨_, by first | rfl | (simp [errW_none, errW_some] <;> rfl) | (simp [*, errW_none, errW_some] <;> rfl), by first | exact Kd.R_nil _ _ _ _ _ | exact Kd.N_nil _ _ _ _ _ | exact Kd.V_nil _ _ _ _ _ | exact Kd.Q_nil _ _ _ _ _ | exact Kd.S_nil _ _ _ _ _, hb1 HB GE210⟩

end Go.Proofs.YthejafdcdcchbaaDoor.PSimA
