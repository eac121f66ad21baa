-- PRINTED by print.py (a twelfth state) out of the translation. Not trusted: Lean checks it.
import Derived.Test.YtdaeaejmikhmcaaZPEditCx0
import Derived.Test.YtdaeaejmikhmcaaZPEditCx6
import Derived.Test.YtdaeaejmikhmcaaZPEditCx7
namespace Go.Proofs.Ytdaeaejmikhmcaa.PEditC
open Go.RowKit Go.Proofs.YtdaeaejmikhmcaaW.PrintWords Go.Proofs.YtdaeaejmikhmcaaW.PrintLast Go.Proofs.YtdaeaejmikhmcaaW.PrintMore
open Go.Proofs.YtdaeaejmikhmcaaX
attribute [local go_sem] max2_int min2_int max_two min_two max_three min_three max_four min_four   -- for this text's walks alone
set_option linter.unusedVariables false
set_option linter.unusedSimpArgs false

/-! ### edit_Bare: function 13 -/
def edit_Bare.l0 : Nat → List Int → List Int → Int → Int → Int → List (S46) → Option (Int × (List (S46)) × List Int × Int)
 | 0, _, _, _, _, _, _ => none
 | k + 1, x7, x20, x21, x22, x153000, x153001 => if x22 < x21 then (if 0 ≤ x22 then (if x22 < (x20.length : Int) then (if (rd x20 x22) > 0 then (if x7.length < 17592186044416 then (edit_Bare.l0 k (x7 ++ [x22]) x20 x21 (wrap64 (x22 + 1)) x153000 x153001) else (none)) else (edit_Bare.l0 k x7 x20 x21 (wrap64 (x22 + 1)) x153000 x153001)) else (none)) else (none)) else ((edit_Induced.f k x153000 x153001 x7).bind fun bt162 => (some (bt162.1, bt162.2.1, x7, bt162.2.2)))
def edit_Bare.f (k : Nat) (a0_0 : Int) (l0_1 : List (S46)) : Option (Int × (List (S46)) × List Int × Int) := (simple_Degrees.f k a0_0 l0_1).bind fun bt154 => (if bt154.2 = 0 then (edit_Bare.l0 k ([] : List Int) bt154.1 (bt154.1.length : Int) 0 a0_0 l0_1) else (some (0, ([] : List (S46)), ([] : List Int), bt154.2)))
theorem edit_Bare.mono_l : ∀ k, (∀ y0 y1 y2 y3 y4 y5, LeO (edit_Bare.l0 k y0 y1 y2 y3 y4 y5) (edit_Bare.l0 (k + 1) y0 y1 y2 y3 y4 y5))
 | 0 => fun _ _ _ _ _ _ r h => by simp [edit_Bare.l0] at h
 | k + 1 => by
  have ih0 := edit_Bare.mono_l k
  ·intro y0 y1 y2 y3 y4 y5
   unfold edit_Bare.l0
   repeat' first
   | (with_reducible exact ih0 _ _ _ _ _ _)
   | (with_reducible exact edit_Induced.mono _ _ _ _)
   | (with_reducible exact simple_Degrees.mono _ _ _)
   | (with_reducible exact LeO.refl _)
   | (with_reducible exact LeO.none _)
   | (with_reducible refine LeO.ite ?_ ?_)
   | (with_reducible refine LeO.bind ?_ (fun _ => ?_))
   | exact ih0 _ _ _ _ _ _
   | exact edit_Induced.mono _ _ _ _
   | exact simple_Degrees.mono _ _ _
   | exact LeO.none _
   | refine LeO.ite ?_ ?_
   | refine LeO.bind ?_ (fun _ => ?_)
theorem edit_Bare.mono : ∀ a0 a1 k, LeO (edit_Bare.f k a0 a1) (edit_Bare.f (k + 1) a0 a1) := by
 intro a0 a1 k; have ih0 := edit_Bare.mono_l k
 unfold edit_Bare.f
 repeat' first
   | (with_reducible exact ih0 _ _ _ _ _ _)
   | (with_reducible exact edit_Induced.mono _ _ _ _)
   | (with_reducible exact simple_Degrees.mono _ _ _)
   | (with_reducible exact LeO.refl _)
   | (with_reducible exact LeO.none _)
   | (with_reducible refine LeO.ite ?_ ?_)
   | (with_reducible refine LeO.bind ?_ (fun _ => ?_))
   | exact ih0 _ _ _ _ _ _
   | exact edit_Induced.mono _ _ _ _
   | exact simple_Degrees.mono _ _ _
   | exact LeO.none _
   | refine LeO.ite ?_ ?_
   | refine LeO.bind ?_ (fun _ => ?_)
set_option maxHeartbeats 8000000 in
set_option maxRecDepth 100000 in
theorem edit_Bare.calls (k : Nat) (a0_0 : Int) (A0_1 : Option Addr) (c0_1 : Nat) (l0_1 : List (S46)) (r1 : Int) (r2 : List (S46)) (r3 : List Int) (r4 : Int) (w : World) (hr0_1 : Kd.C k46 w A0_1 l0_1.length l0_1) (hc0_1 : l0_1.length ≤ c0_1) (h : edit_Bare.f k a0_0 l0_1 = some (r1, r2, r3, r4)) :
  Calls Try.prog 13 #[.agg #[.int .i64 a0_0, .slice A0_1 l0_1.length c0_1]] w fun e w' => ∃ v1_ v2_ : Value, e = .returned (.tuple #[.agg #[.int .i64 r1, v1_], v2_, .int .i64 r4]) ∧ Kd.R k46 46 w' w.heap.size (fun _ => True) v1_ r2 ∧ Kd.R (Kd.int .i64) 3 w' w.heap.size (fun _ => True) v2_ r3 ∧ Below w.heap.size w w' := by
 have hu25 := Try.underlying25; have HR0_1 := Aside0.mk hr0_1; have HC0_1 := Aside0.mk hc0_1; clear hr0_1 hc0_1; have HB := Aside0.mk (Below.refl w.heap.size w); have H : ((simple_Degrees.f k a0_0 l0_1).bind fun bt154 => (if bt154.2 = 0 then (edit_Bare.l0 k ([] : List Int) bt154.1 (bt154.1.length : Int) 0 a0_0 l0_1) else (some (0, ([] : List (S46)), ([] : List Int), bt154.2)))) = some (r1, r2, r3, r4) := h; clear h; replace H := Option.bind_eq_some_iff.mp H; obtain ⟨⟨t154, t157⟩, A20, H⟩ := H; replace H : (if t157 = 0 then (edit_Bare.l0 k ([] : List Int) t154 (t154.length : Int) 0 a0_0 l0_1) else (some (0, ([] : List (S46)), ([] : List Int), t157))) = some (r1, r2, r3, r4) := H; have A2 := Aside0.mk A20; clear A20
 by_cases c3 : t157 = 0
 ·rw [if_pos c3] at H; have c3b0 : (t157 == 0) = true := beq_iff_eq.mpr c3; have c3b1 : (t157 != 0) = false := bne_eq_false_iff_eq.mpr c3; clear c3; have H' := Aside0.mk H; clear H
  go_enter Try.func13, Try.ntmps13
  go_wp2_with (first | ((with_reducible refine gate_dst (N := 1) rfl ?_); refine be_ 1 #[.int .i64 a0_0, .slice A0_1 l0_1.length c0_1] 25 ?_; intro gb152 hg w4 hbox hb; have BK152 := Aside0.mk (hbox); have GW152 := wq (hb0 HB) hg; have GE152 := wq (hb0 HB) hg; replace HB := hs (hb0 HB) hb; clear hb hbox hg) | ((with_reducible refine gate_dst (N := 2) rfl ?_); refine be_ 2 #[.int .i64 0, .slice none 0 0] 25 ?_; intro gb153 hg w5 hbox hb; have BK153 := Aside0.mk (hbox); have GW153 := wq (hb1 HB GE152) hg; have GE153 := wq (hb1 HB GE152) hg; replace HB := hs (hb1 HB GE152) hb; have NB152_153 := lx BK152 hg; have NB153_152 := gx BK152 hg; replace BK152 := kx BK152 hb; clear hb hbox hg; have hnb6 := NB152_153.out; have hnc6 := NB153_152.out; have hcz7_0 : w5.cell? ⟨gb152, 0, none⟩ = some (.int .i64 a0_0) := bc BK152 0; have hcz7_1 : w5.cell? ⟨gb152, 1, none⟩ = some (.slice A0_1 l0_1.length c0_1) := bc BK152 1; have hfz7_0 := blk_frozen BK152.out 0; have hfz7_1 := blk_frozen BK152.out 1) | ((with_reducible refine gate_callee (f := 39) rfl ?_); refine gl_ (some 13) Try.func39 #[.agg #[.int .i64 a0_0, .slice A0_1 l0_1.length c0_1]] ?_; (with_reducible refine (simple_Degrees.calls k a0_0 _ _ l0_1 t154 t157 _ ?side1 ?side2 A2.out).mono ?_); (case side1 => repeat (first | exact (Kd.C_below HR0_1.out HB.out) | (with_reducible refine Kd.C_alloc ?_ _) | (with_reducible refine Kd.C_drewN ?_ _) | (with_reducible refine Kd.C_drew ?_))); (case side2 => exact HC0_1.out); rintro e w8 ⟨v155, rfl, ho0, hb⟩; refine ⟨_, rfl, ?_⟩; have HO156 := Aside0.mk (Kd.R_lower ho0 (below_size (hb2 HB GE152 GE153))); replace BK152 := kx BK152 hb; replace BK153 := kx BK153 hb; replace HB := hs (hb2 HB GE152 GE153) hb; (try clear hb); (try clear hb2); (try clear hk); (try clear hi); (try clear ho0); obtain ⟨Ao9, co9, eo9⟩ := Kd.R_slice HO156.out; subst eo9))
  go_loopg [7, 22] k (fun kq v7 v22 w' => ∃ (x7_1 : List Int) (x22_1 : Int), v22 = .int .i64 x22_1 ∧ Aside0 (edit_Bare.l0 kq x7_1 t154 (t154.length : Int) x22_1 a0_0 l0_1 = some (r1, r2, r3, r4)) ∧ Aside0 (kq ≤ k) ∧ Aside0 (Kd.R (Kd.int .i64) 3 w' w.heap.size (fun k_ => some k_ ≠ ((.slice Ao9 t154.length co9) : Value).ownBlock) v7 x7_1) ∧ Aside0 (Kd.R (Kd.int .i64) 3 w' w.heap.size (fun k_ => some k_ ≠ (v7 : Value).ownBlock) (.slice Ao9 t154.length co9) t154) ∧ Aside0 (w'.heap[gb152]? = some (.cells #[.int .i64 a0_0, (.slice A0_1 l0_1.length c0_1)] 25 (0, 0))) ∧ Aside0 (w'.heap[gb153]? = some (.cells #[.int .i64 0, (.slice none 0 0)] 25 (0, 0))) ∧ Aside0 (Below w.heap.size w w'))
  case atStart => exact ⟨(([] : List Int)), (0), (by first | rfl | (simp; done) | (simp [*]; done)), H', ⟨Nat.le_refl _⟩, ⟨by first | exact Kd.R_nil _ _ _ _ _ | exact Kd.N_nil _ _ _ _ _ | exact Kd.V_nil _ _ _ _ _ | exact Kd.Q_nil _ _ _ _ _ | exact Kd.S_nil _ _ _ _ _⟩, ⟨by (with_reducible repeat (first | apply Kd.R_alloc | apply Kd.R_drewN | apply Kd.R_drew)); exact Kd.R_mono HO156.out (fun _ hk => (by simp [Value.ownBlock]))⟩, ⟨bx BK152⟩, ⟨bx BK153⟩, ⟨hb2 HB GE152 GE153⟩⟩
  case round =>
   clear H'
   try clear c1
   try clear p2
   try clear c3
   try clear c3b0
   try clear c3b1
   try clear c6
   try clear hcz7_0
   try clear hcz7_1
   try clear hfz7_0
   try clear hfz7_1
   obtain ⟨x7_1, x22_1, rfl, HA, HK1, HO_7, HO_20, BK152, BK153, HB⟩ := hrel
   cases gk with
   | zero => exact absurd HA.out (by simp [edit_Bare.l0])
   | succ k1 =>
    have H := HA.out; clear HA; simp only [edit_Bare.l0] at H
    by_cases c10 : x22_1 < (t154.length : Int)
    ·rw [if_pos c10] at H; have c10b0 : decide (x22_1 < (t154.length : Int)) = true := decide_eq_true c10; clear c10
     by_cases c11 : 0 ≤ x22_1
     ·rw [if_pos c11] at H; have c11b0 : decide (0 ≤ x22_1) = true := decide_eq_true c11; clear c11
      by_cases c12 : x22_1 < (t154.length : Int)
      ·rw [if_pos c12] at H; have c12b0 : decide (x22_1 < (t154.length : Int)) = true := decide_eq_true c12; clear c12
       by_cases c13 : (rd t154 x22_1) > 0
       ·rw [if_pos c13] at H; have c13b0 : decide (0 < (rd t154 x22_1)) = true := decide_eq_true c13; clear c13
        by_cases c14 : x7_1.length < 17592186044416
        ·rw [if_pos c14] at H; have LMc14 := Aside0.mk c14; clear c14; obtain ⟨y159, hy159⟩ : ∃ y_ : List Int, y_ = (x7_1 ++ [x22_1]) := ⟨_, rfl⟩; replace H : (edit_Bare.l0 k1 y159 t154 (t154.length : Int) (wrap64 (x22_1 + 1)) a0_0 l0_1) = some (r1, r2, r3, r4) := by first | (rw [hy159]; with_reducible exact H) | (have H2_ := (Option.bind_some _ _).symm.trans H; rw [hy159]; with_reducible exact H2_) | (have H2_ := (Option.bind_some _ _).symm.trans H; with_reducible exact H2_) | with_reducible exact H | (rw [hy159]; exact H) | exact H
         have Ny159 := Aside0.mk hy159; clear hy159; have H' := Aside0.mk H; clear H; have p158 : 0 ≤ (x22_1 : Int) := of_decide_eq_true (by first | (with_reducible assumption) | assumption); have q158 : x22_1 < (t154.length : Int) := of_decide_eq_true (by first | (with_reducible assumption) | assumption); obtain ⟨ad158, e158, hx158_0⟩ := Kd.at_int (Kd.R_reads' HO_20.out).2.2 x22_1 p158 q158
         cases e158
         replace p158 := eq_true p158; replace q158 := eq_true q158
         go_wp2_with (first | ((with_reducible refine gate_builtin (b := .append) (xs := #[.tmp 29, .tmp 31]) rfl ?_); at_builtin; refine Kd.R_append (Kd.int .i64) (w0 := w) w.heap.size rfl (.tmp 29) (.tmp 31) 26 3 (.int .i64 0) 8 rfl Try.underlying26 info3 rfl (by decide) (by omega) u7 x7_1 x22_1 [.int .i64 x22_1] (fun k_ => some k_ ≠ (.slice (some ad158) t154.length co9 : Value).ownBlock) (fun _ => False) rfl rfl ?aP (fun _ hk => hk.elim) ?aF ?aO ?aB ?aS ?aL ?_; (case aP => exact rfl); (case aB => exact (hb2 HB GE152 GE153)); (case aF => exact (fun k_ hk => Kd.fresh' (Kd.R_lt (rx HO_20)) k_ hk)); (case aO => exact (rx HO_7)); (case aS => exact (below_size (hb2 HB GE152 GE153))); (case aL => have := LMc14.out; omega); intro v160 w15 ho hb hg hat; rw [← Ny159.out] at ho; have n0_ := Aside0.mk (Kd.R_after (ok := (fun _ => True)) (Kd.R_mono (rx HO_20) (fun _ hk => ⟨trivial, hk⟩)) hg hat); have n1_ := Aside0.mk (blk_grown (bx BK152) hg (Kd.R_ne HO_7.out BK152.out (by decide))); have n2_ := Aside0.mk (blk_grown (bx BK153) hg (Kd.R_ne HO_7.out BK153.out (by decide))); have n3_ := Aside0.mk (hb); have n4_ := Aside0.mk (ho); clear HO_20; clear BK152; clear BK153; clear HB; clear HO_7; have HO_20 := n0_; have BK152 := n1_; have BK153 := n2_; have HB := n3_; have HO161 := n4_; clear n0_ n1_ n2_ n3_ n4_; clear ho hb hg hat))
         go_roundg k1
         case measure => have := HK1.out; omega
         case rel => exact ⟨(y159), (wrap64 (x22_1 + 1)), (by first | rfl | (simp; done) | (simp [*]; done)), H', ⟨by have := HK1.out; omega⟩, ⟨rx HO161⟩, ⟨Kd.R_mono (rx HO_20) (fun _ hk => hk.2)⟩, ⟨bx BK152⟩, ⟨bx BK153⟩, ⟨hb2 HB GE152 GE153⟩⟩
        ·rw [if_neg c14] at H; exact absurd H (by simp)
       ·rw [if_neg c13] at H; have c13b0 : decide (0 < (rd t154 x22_1)) = false := decide_eq_false c13; clear c13; have H' := Aside0.mk H; clear H; have p158 : 0 ≤ (x22_1 : Int) := of_decide_eq_true (by first | (with_reducible assumption) | assumption); have q158 : x22_1 < (t154.length : Int) := of_decide_eq_true (by first | (with_reducible assumption) | assumption); obtain ⟨ad158, e158, hx158_0⟩ := Kd.at_int (Kd.R_reads' HO_20.out).2.2 x22_1 p158 q158
        cases e158
        replace p158 := eq_true p158; replace q158 := eq_true q158
        go_wp2
        go_roundg k1
        case measure => have := HK1.out; omega
        case rel => exact ⟨(x7_1), (wrap64 (x22_1 + 1)), (by first | rfl | (simp; done) | (simp [*]; done)), H', ⟨by have := HK1.out; omega⟩, ⟨rx HO_7⟩, ⟨rx HO_20⟩, ⟨bx BK152⟩, ⟨bx BK153⟩, ⟨hb2 HB GE152 GE153⟩⟩
      ·rw [if_neg c12] at H; exact absurd H (by simp)
     ·rw [if_neg c11] at H; exact absurd H (by simp)
    ·rw [if_neg c10] at H; have c10b0 : decide (x22_1 < (t154.length : Int)) = false := decide_eq_false c10; clear c10; replace H := Option.bind_eq_some_iff.mp H; obtain ⟨⟨t162, t163, t166⟩, A160, H⟩ := H; replace H : (some (t162, t163, x7_1, t166)) = some (r1, r2, r3, r4) := H; have A16 := Aside0.mk A160; clear A160; simp only [Option.some.injEq, Prod.mk.injEq] at H; obtain ⟨rfl, rfl, rfl, rfl⟩ := H; have hnb17 := NB152_153.out; have hnc17 := NB153_152.out; have hcz18_0 : wr.cell? ⟨gb152, 0, none⟩ = some (.int .i64 a0_0) := bc BK152 0; have hcz18_1 : wr.cell? ⟨gb152, 1, none⟩ = some (.slice A0_1 l0_1.length c0_1) := bc BK152 1; have hfz18_0 := blk_frozen BK152.out 0; have hfz18_1 := blk_frozen BK152.out 1; obtain ⟨Ao19, co19, eo19⟩ := Kd.R_slice HO_7.out; subst eo19
     go_wp2_with (first | ((with_reducible refine gate_callee (f := 14) rfl ?_); refine gl_ (some 37) Try.func14 #[.agg #[.int .i64 a0_0, .slice A0_1 l0_1.length c0_1], .slice Ao19 x7_1.length co19] ?_; (with_reducible refine (edit_Induced.calls k1 a0_0 _ _ l0_1 _ _ x7_1 t162 t163 t166 _ ?side1 ?side2 ?side3 ?side4 A16.out).mono ?_); (case side1 => repeat (first | exact (Kd.C_below HR0_1.out HB.out) | (with_reducible refine Kd.C_alloc ?_ _) | (with_reducible refine Kd.C_drewN ?_ _) | (with_reducible refine Kd.C_drew ?_))); (case side2 => exact HC0_1.out); (case side3 => exact cr HO_7); (case side4 => exact (Kd.R_reads' HO_7.out).2.1); rintro e w20 ⟨v164, rfl, ho0, hb⟩; refine ⟨_, rfl, ?_⟩; replace HO_7 := ry HO_7 hb; replace HO_20 := ry HO_20 hb; have HO165 := Aside0.mk (Kd.R_lower ho0 (below_size (hb2 HB GE152 GE153))); replace BK152 := kx BK152 hb; replace BK153 := kx BK153 hb; replace HB := hs (hb2 HB GE152 GE153) hb; (try clear hb); (try clear hb2); (try clear hk); (try clear hi); (try clear ho0)) | ((with_reducible refine gate_dst (N := 10) rfl ?_); refine be_ 10 #[.int .i64 0, .slice none 0 0] 25 ?_; intro gb167 hg w21 hbox hb; replace HO_7 := ry HO_7 hb; replace HO_20 := ry HO_20 hb; replace HO165 := ry HO165 hb; have BK167 := Aside0.mk (hbox); have GW167 := wq (hb2 HB GE152 GE153) hg; have GE167 := wq (hb2 HB GE152 GE153) hg; replace HB := hs (hb2 HB GE152 GE153) hb; have NB152_167 := lx BK152 hg; have NB167_152 := gx BK152 hg; replace BK152 := kx BK152 hb; have NB153_167 := lx BK153 hg; have NB167_153 := gx BK153 hg; replace BK153 := kx BK153 hb; clear hb hbox hg; have hnb22 := NB167_152.out; have hnc22 := NB152_167.out; have hnb23 := NB167_153.out; have hnc23 := NB153_167.out; have hcz24_0 : w21.cell? ⟨gb167, 0, none⟩ = some (.int .i64 0) := bc BK167 0; have hcz24_1 : w21.cell? ⟨gb167, 1, none⟩ = some (.slice none 0 0) := bc BK167 1; have hfz24_0 := blk_frozen BK167.out 0; have hfz24_1 := blk_frozen BK167.out 1; obtain ⟨Ao25, co25, eo25⟩ := Kd.R_slice HO165.out; subst eo25; have hcz26_0 : w21.cell? ⟨gb153, 0, none⟩ = some (.int .i64 0) := bc BK153 0; have hcz26_1 : w21.cell? ⟨gb153, 1, none⟩ = some (.slice none 0 0) := bc BK153 1; have hfz26_0 := blk_frozen BK153.out 0; have hfz26_1 := blk_frozen BK153.out 1))
     refine bodyPost_ret (results_ctt rfl _ _ gb153 25 #[.int .i64 t162, .slice Ao25 t163.length co25] (0, 0) _ rfl (by (with_reducible repeat (first | refine blk_drewN ?_ _ | refine blk_drew ?_ | refine blk_alloc ?_ _)); refine blk_put (cs := #[.int .i64 t162, .slice none 0 0]) ?_ 1 _ rfl; (with_reducible repeat (first | refine blk_drewN ?_ _ | refine blk_drew ?_ | refine blk_alloc ?_ _)); refine blk_put (cs := #[.int .i64 0, .slice none 0 0]) ?_ 0 _ rfl; (with_reducible repeat (first | refine blk_drewN ?_ _ | refine blk_drew ?_ | refine blk_alloc ?_ _)); refine blk_far ?_ NB153_167.out _; (with_reducible repeat (first | refine blk_drewN ?_ _ | refine blk_drew ?_ | refine blk_alloc ?_ _)); refine blk_far ?_ NB153_167.out _; (with_reducible repeat (first | refine blk_drewN ?_ _ | refine blk_drew ?_ | refine blk_alloc ?_ _)); exact BK153.out) Try.underlying25 rfl (by kernel_rfl)) rfl ?_; exact ⟨_, _, by first | rfl | (simp [errW_none, errW_some] <;> rfl) | (simp [*, errW_none, errW_some] <;> rfl), by (with_reducible repeat (first | apply Kd.R_alloc | apply Kd.R_drewN | apply Kd.R_drew)); exact Kd.R_mono (Kd.R_far (p := ⟨gb153, 1, none⟩) (Kd.R_far (p := ⟨gb153, 0, none⟩) (Kd.R_far (p := ⟨gb167, 1, none⟩) (Kd.R_far (p := ⟨gb167, 0, none⟩) (Kd.R_types (Kd.R_types HO165.out BK167.out (by decide)) BK153.out (by decide)) (fun _ hk => hk.1.2) (.int .i64 t162)) (fun _ hk => hk.1.2) (.slice Ao25 t163.length co25)) (fun _ hk => hk.2) (.int .i64 t162)) (fun _ hk => hk.2) (.slice Ao25 t163.length co25)) (fun _ hk => trivial), by (with_reducible repeat (first | apply Kd.R_alloc | apply Kd.R_drewN | apply Kd.R_drew)); exact Kd.R_mono (Kd.R_far (p := ⟨gb153, 1, none⟩) (Kd.R_far (p := ⟨gb153, 0, none⟩) (Kd.R_far (p := ⟨gb167, 1, none⟩) (Kd.R_far (p := ⟨gb167, 0, none⟩) (Kd.R_types (Kd.R_types HO_7.out BK167.out (by decide)) BK153.out (by decide)) (fun _ hk => hk.1.2) (.int .i64 t162)) (fun _ hk => hk.1.2) (.slice Ao25 t163.length co25)) (fun _ hk => hk.2) (.int .i64 t162)) (fun _ hk => hk.2) (.slice Ao25 t163.length co25)) (fun _ hk => trivial), hb3 HB GE152 GE153 GE167⟩
 ·rw [if_neg c3] at H; have c3b0 : (t157 == 0) = false := beq_eq_false_iff_ne.mpr c3; have c3b1 : (t157 != 0) = true := bne_iff_ne.mpr c3; simp only [Option.some.injEq, Prod.mk.injEq] at H; obtain ⟨rfl, rfl, rfl, rfl⟩ := H
  go_enter Try.func13, Try.ntmps13
  go_wp2_with (first | ((with_reducible refine gate_dst (N := 1) rfl ?_); refine be_ 1 #[.int .i64 a0_0, .slice A0_1 l0_1.length c0_1] 25 ?_; intro gb152 hg w27 hbox hb; have BK152 := Aside0.mk (hbox); have GW152 := wq (hb0 HB) hg; have GE152 := wq (hb0 HB) hg; replace HB := hs (hb0 HB) hb; clear hb hbox hg) | ((with_reducible refine gate_dst (N := 2) rfl ?_); refine be_ 2 #[.int .i64 0, .slice none 0 0] 25 ?_; intro gb153 hg w28 hbox hb; have BK153 := Aside0.mk (hbox); have GW153 := wq (hb1 HB GE152) hg; have GE153 := wq (hb1 HB GE152) hg; replace HB := hs (hb1 HB GE152) hb; have NB152_153 := lx BK152 hg; have NB153_152 := gx BK152 hg; replace BK152 := kx BK152 hb; clear hb hbox hg; have hnb29 := NB152_153.out; have hnc29 := NB153_152.out; have hcz30_0 : w28.cell? ⟨gb152, 0, none⟩ = some (.int .i64 a0_0) := bc BK152 0; have hcz30_1 : w28.cell? ⟨gb152, 1, none⟩ = some (.slice A0_1 l0_1.length c0_1) := bc BK152 1; have hfz30_0 := blk_frozen BK152.out 0; have hfz30_1 := blk_frozen BK152.out 1) | ((with_reducible refine gate_callee (f := 39) rfl ?_); refine gl_ (some 13) Try.func39 #[.agg #[.int .i64 a0_0, .slice A0_1 l0_1.length c0_1]] ?_; (with_reducible refine (simple_Degrees.calls k a0_0 _ _ l0_1 t154 t157 _ ?side1 ?side2 A2.out).mono ?_); (case side1 => repeat (first | exact (Kd.C_below HR0_1.out HB.out) | (with_reducible refine Kd.C_alloc ?_ _) | (with_reducible refine Kd.C_drewN ?_ _) | (with_reducible refine Kd.C_drew ?_))); (case side2 => exact HC0_1.out); rintro e w31 ⟨v155, rfl, ho0, hb⟩; refine ⟨_, rfl, ?_⟩; have HO156 := Aside0.mk (Kd.R_lower ho0 (below_size (hb2 HB GE152 GE153))); replace BK152 := kx BK152 hb; replace BK153 := kx BK153 hb; replace HB := hs (hb2 HB GE152 GE153) hb; (try clear hb); (try clear hb2); (try clear hk); (try clear hi); (try clear ho0); have hcz32_0 : w31.cell? ⟨gb153, 0, none⟩ = some (.int .i64 0) := bc BK153 0; have hcz32_1 : w31.cell? ⟨gb153, 1, none⟩ = some (.slice none 0 0) := bc BK153 1; have hfz32_0 := blk_frozen BK153.out 0; have hfz32_1 := blk_frozen BK153.out 1))
  refine bodyPost_ret (results_ctt rfl _ _ gb153 25 #[.int .i64 0, .slice none 0 0] (0, 0) _ rfl (bp BK153) Try.underlying25 rfl (by kernel_rfl)) rfl ?_; exact ⟨_, _, by first | rfl | (simp [errW_none, errW_some] <;> rfl) | (simp [*, errW_none, errW_some] <;> rfl), by first | exact Kd.R_nil _ _ _ _ _ | exact Kd.N_nil _ _ _ _ _ | exact Kd.V_nil _ _ _ _ _ | exact Kd.Q_nil _ _ _ _ _ | exact Kd.S_nil _ _ _ _ _, by first | exact Kd.R_nil _ _ _ _ _ | exact Kd.N_nil _ _ _ _ _ | exact Kd.V_nil _ _ _ _ _ | exact Kd.Q_nil _ _ _ _ _ | exact Kd.S_nil _ _ _ _ _, hb2 HB GE152 GE153⟩

end Go.Proofs.Ytdaeaejmikhmcaa.PEditC
