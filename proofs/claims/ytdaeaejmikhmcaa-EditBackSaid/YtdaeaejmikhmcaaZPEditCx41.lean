-- PRINTED by print.py (a twelfth state) out of the translation. Not trusted: Lean checks it.
import Derived.Test.YtdaeaejmikhmcaaZPEditCx0
import Derived.Test.YtdaeaejmikhmcaaZPEditCx23
import Derived.Test.YtdaeaejmikhmcaaZPEditCx26
import Derived.Test.YtdaeaejmikhmcaaZPEditCx37
namespace Go.Proofs.Ytdaeaejmikhmcaa.PEditC
open Go.RowKit Go.Proofs.YtdaeaejmikhmcaaW.PrintWords Go.Proofs.YtdaeaejmikhmcaaW.PrintLast Go.Proofs.YtdaeaejmikhmcaaW.PrintMore
open Go.Proofs.YtdaeaejmikhmcaaX
attribute [local go_sem] max2_int min2_int max_two min_two max_three min_three max_four min_four   -- for this text's walks alone
set_option linter.unusedVariables false
set_option linter.unusedSimpArgs false

/-! ### tangramref14_Apex: function 34 -/
mutual
def tangramref14_Apex.j0 : Nat → Bool → Int → List (S46) → Option (Int × (List (S46)) × Int)
 | 0, _, _, _ => none
 | k + 1, x21, x584000, x584001 => if x21 = true then (some (0, ([] : List (S46)), 141)) else ((tangramref14_kept.f x584001).bind fun t586 => (tangramref14_Apex.l0 k t586 0 x584000 x584001))
def tangramref14_Apex.l0 : Nat → List (S46) → Int → Int → List (S46) → Option (Int × (List (S46)) × Int)
 | 0, _, _, _, _ => none
 | k + 1, x4, x5, x584000, x584001 => if x5 < x584000 then ((tangramref14_put.f k x4 x5 x584000).bind fun t589 => (tangramref14_Apex.l0 k t589 (wrap64 (x5 + 1)) x584000 x584001)) else (some (wrap64 (x584000 + 1), x4, 0))
end
def tangramref14_Apex.f (k : Nat) (a0_0 : Int) (l0_1 : List (S46)) : Option (Int × (List (S46)) × Int) := (tangramref03_Valid.f k a0_0 l0_1).bind fun t585 => (if t585 = true then (if a0_0 ≥ 1048576 then (tangramref14_Apex.j0 k true a0_0 l0_1) else (tangramref14_Apex.j0 k (decide ((wrap64 ((l0_1.length : Int) + a0_0)) > 4194304)) a0_0 l0_1)) else (some (0, ([] : List (S46)), 1)))
theorem tangramref14_Apex.mono_l : ∀ k, (∀ y0 y1 y2, LeO (tangramref14_Apex.j0 k y0 y1 y2) (tangramref14_Apex.j0 (k + 1) y0 y1 y2)) ∧ (∀ y0 y1 y2 y3, LeO (tangramref14_Apex.l0 k y0 y1 y2 y3) (tangramref14_Apex.l0 (k + 1) y0 y1 y2 y3))
 | 0 => ⟨fun _ _ _ r h => by simp [tangramref14_Apex.j0] at h, fun _ _ _ _ r h => by simp [tangramref14_Apex.l0] at h⟩
 | k + 1 => by
  obtain ⟨ih0, ih1⟩ := tangramref14_Apex.mono_l k; refine ⟨?_, ?_⟩
  ·intro y0 y1 y2
   unfold tangramref14_Apex.j0
   repeat' first
   | (with_reducible exact ih0 _ _ _)
   | (with_reducible exact ih1 _ _ _ _)
   | (with_reducible exact tangramref03_Valid.mono _ _ _)
   | (with_reducible exact tangramref14_put.mono _ _ _ _)
   | (with_reducible exact LeO.refl _)
   | (with_reducible exact LeO.none _)
   | (with_reducible refine LeO.ite ?_ ?_)
   | (with_reducible refine LeO.bind ?_ (fun _ => ?_))
   | exact ih0 _ _ _
   | exact ih1 _ _ _ _
   | exact tangramref03_Valid.mono _ _ _
   | exact tangramref14_put.mono _ _ _ _
   | exact LeO.none _
   | refine LeO.ite ?_ ?_
   | refine LeO.bind ?_ (fun _ => ?_)
  ·intro y0 y1 y2 y3
   unfold tangramref14_Apex.l0
   repeat' first
   | (with_reducible exact ih0 _ _ _)
   | (with_reducible exact ih1 _ _ _ _)
   | (with_reducible exact tangramref03_Valid.mono _ _ _)
   | (with_reducible exact tangramref14_put.mono _ _ _ _)
   | (with_reducible exact LeO.refl _)
   | (with_reducible exact LeO.none _)
   | (with_reducible refine LeO.ite ?_ ?_)
   | (with_reducible refine LeO.bind ?_ (fun _ => ?_))
   | exact ih0 _ _ _
   | exact ih1 _ _ _ _
   | exact tangramref03_Valid.mono _ _ _
   | exact tangramref14_put.mono _ _ _ _
   | exact LeO.none _
   | refine LeO.ite ?_ ?_
   | refine LeO.bind ?_ (fun _ => ?_)
theorem tangramref14_Apex.mono : ∀ a0 a1 k, LeO (tangramref14_Apex.f k a0 a1) (tangramref14_Apex.f (k + 1) a0 a1) := by
 intro a0 a1 k; obtain ⟨ih0, ih1⟩ := tangramref14_Apex.mono_l k
 unfold tangramref14_Apex.f
 repeat' first
   | (with_reducible exact ih0 _ _ _)
   | (with_reducible exact ih1 _ _ _ _)
   | (with_reducible exact tangramref03_Valid.mono _ _ _)
   | (with_reducible exact tangramref14_put.mono _ _ _ _)
   | (with_reducible exact LeO.refl _)
   | (with_reducible exact LeO.none _)
   | (with_reducible refine LeO.ite ?_ ?_)
   | (with_reducible refine LeO.bind ?_ (fun _ => ?_))
   | exact ih0 _ _ _
   | exact ih1 _ _ _ _
   | exact tangramref03_Valid.mono _ _ _
   | exact tangramref14_put.mono _ _ _ _
   | exact LeO.none _
   | refine LeO.ite ?_ ?_
   | refine LeO.bind ?_ (fun _ => ?_)
set_option maxHeartbeats 8000000 in
set_option maxRecDepth 100000 in
theorem tangramref14_Apex.calls (k : Nat) (a0_0 : Int) (A0_1 : Option Addr) (c0_1 : Nat) (l0_1 : List (S46)) (r1 : Int) (r2 : List (S46)) (r3 : Int) (w : World) (hr0_1 : Kd.C k46 w A0_1 l0_1.length l0_1) (hc0_1 : l0_1.length ≤ c0_1) (h : tangramref14_Apex.f k a0_0 l0_1 = some (r1, r2, r3)) :
  Calls Try.prog 34 #[.agg #[.int .i64 a0_0, .slice A0_1 l0_1.length c0_1]] w fun e w' => ∃ v1_ : Value, e = .returned (.tuple #[.agg #[.int .i64 r1, v1_], .int .i64 r3]) ∧ Kd.R k46 46 w' w.heap.size (fun _ => True) v1_ r2 ∧ Below w.heap.size w w' := by
 have hu25 := Try.underlying25; have HR0_1 := Aside0.mk hr0_1; have HC0_1 := Aside0.mk hc0_1; clear hr0_1 hc0_1; have HB := Aside0.mk (Below.refl w.heap.size w); have H : ((tangramref03_Valid.f k a0_0 l0_1).bind fun t585 => (if t585 = true then (if a0_0 ≥ 1048576 then (tangramref14_Apex.j0 k true a0_0 l0_1) else (tangramref14_Apex.j0 k (decide ((wrap64 ((l0_1.length : Int) + a0_0)) > 4194304)) a0_0 l0_1)) else (some (0, ([] : List (S46)), 1)))) = some (r1, r2, r3) := h; clear h; replace H := Option.bind_eq_some_iff.mp H; obtain ⟨t585, A20, H⟩ := H; replace H : (if t585 = true then (if a0_0 ≥ 1048576 then (tangramref14_Apex.j0 k true a0_0 l0_1) else (tangramref14_Apex.j0 k (decide ((wrap64 ((l0_1.length : Int) + a0_0)) > 4194304)) a0_0 l0_1)) else (some (0, ([] : List (S46)), 1))) = some (r1, r2, r3) := H; have A2 := Aside0.mk A20; clear A20
 by_cases c3 : t585 = true
 ·subst c3; have H1 : (if a0_0 ≥ 1048576 then (tangramref14_Apex.j0 k true a0_0 l0_1) else (tangramref14_Apex.j0 k (decide ((wrap64 ((l0_1.length : Int) + a0_0)) > 4194304)) a0_0 l0_1)) = some (r1, r2, r3) := by rw [if_pos rfl] at H; exact H
  clear H; have H := H1; clear H1; have HC4 := Aside0.mk H; clear H
  go_enter Try.func34, Try.ntmps34
  go_upto_region 3 with (first | ((with_reducible refine gate_dst (N := 1) rfl ?_); (try (refine gate_guard (by rfl) ?_; dsimp only)); refine be_ 1 #[.int .i64 a0_0, .slice A0_1 l0_1.length c0_1] 25 ?_; intro gb583 hg w5 hbox hb; have BK583 := Aside0.mk (hbox); have GW583 := wq (hb0 HB) hg; have GE583 := wq (hb0 HB) hg; replace HB := hs (hb0 HB) hb; clear hb hbox hg) | ((with_reducible refine gate_dst (N := 2) rfl ?_); (try (refine gate_guard (by rfl) ?_; dsimp only)); refine be_ 2 #[.int .i64 0, .slice none 0 0] 25 ?_; intro gb584 hg w6 hbox hb; have BK584 := Aside0.mk (hbox); have GW584 := wq (hb1 HB GE583) hg; have GE584 := wq (hb1 HB GE583) hg; replace HB := hs (hb1 HB GE583) hb; have NB583_584 := lx BK583 hg; have NB584_583 := gx BK583 hg; replace BK583 := kx BK583 hb; clear hb hbox hg; have hnb7 := NB583_584.out; have hnc7 := NB584_583.out; have hcz8_0 : w6.cell? ⟨gb583, 0, none⟩ = some (.int .i64 a0_0) := bc BK583 0; have hcz8_1 : w6.cell? ⟨gb583, 1, none⟩ = some (.slice A0_1 l0_1.length c0_1) := bc BK583 1; have hfz8_0 := blk_frozen BK583.out 0; have hfz8_1 := blk_frozen BK583.out 1) | ((with_reducible refine gate_callee (f := 11) rfl ?_); refine gl_ (some 7) Try.func11 #[.agg #[.int .i64 a0_0, .slice A0_1 l0_1.length c0_1]] ?_; (with_reducible refine (tangramref03_Valid.calls k a0_0 _ _ l0_1 true _ ?side1 ?side2 A2.out).mono ?_); (case side1 => repeat (first | exact (Kd.C_below HR0_1.out HB.out) | (with_reducible refine Kd.C_alloc ?_ _) | (with_reducible refine Kd.C_drewN ?_ _) | (with_reducible refine Kd.C_drew ?_))); (case side2 => exact HC0_1.out); rintro e w9 ⟨rfl, hb⟩; refine ⟨_, rfl, ?_⟩; replace BK583 := kx BK583 hb; replace BK584 := kx BK584 hb; replace HB := hs (hb2 HB GE583 GE584) hb; (try clear hb); (try clear hb2); (try clear hk); (try clear hi)))
  (try simp only [Act.put, List.setIfInBounds_toArray, List.set_cons_zero, List.set_cons_succ])
  go_cut [21] (fun v21 wc => ∃ (kq : Nat) (x21_3 : Bool), v21 = .bool x21_3 ∧ Aside0 (tangramref14_Apex.j0 kq x21_3 a0_0 l0_1 = some (r1, r2, r3)) ∧ Aside0 (kq ≤ k) ∧ Aside0 (wc.heap[gb583]? = some (.cells #[.int .i64 a0_0, (.slice A0_1 l0_1.length c0_1)] 25 (0, 0))) ∧ Aside0 (wc.heap[gb584]? = some (.cells #[.int .i64 0, (.slice none 0 0)] 25 (0, 0))) ∧ Aside0 (Below w.heap.size w wc))
  case first => as_aux_lemma =>
   have H := HC4.out; clear HC4
   by_cases c10 : a0_0 ≥ 1048576
   ·rw [if_pos c10] at H; have c10b0 : decide (1048576 ≤ a0_0) = true := decide_eq_true c10; clear c10
    (first | rw [c10b0] | (simp only [i64_w, i32_w]; rw [c10b0]) | skip)
    have H' := Aside0.mk H; clear H; have hnb11 := NB583_584.out; have hnc11 := NB584_583.out; have hcz12_0 : w9.cell? ⟨gb583, 0, none⟩ = some (.int .i64 a0_0) := bc BK583 0; have hcz12_1 : w9.cell? ⟨gb583, 1, none⟩ = some (.slice A0_1 l0_1.length c0_1) := bc BK583 1; have hfz12_0 := blk_frozen BK583.out 0; have hfz12_1 := blk_frozen BK583.out 1
    go_wp2
    go_meet
    case rel => exact ⟨_, (true), (by first | rfl | (simp; done) | (simp [*]; done)), H', ⟨by first | omega | exact Nat.le_refl _⟩, ⟨bx BK583⟩, ⟨bx BK584⟩, ⟨hb2 HB GE583 GE584⟩⟩
   ·rw [if_neg c10] at H; have c10b0 : decide (1048576 ≤ a0_0) = false := decide_eq_false c10; clear c10
    (first | rw [c10b0] | (simp only [i64_w, i32_w]; rw [c10b0]) | skip)
    have H' := Aside0.mk H; clear H; have hnb13 := NB583_584.out; have hnc13 := NB584_583.out; have hcz14_0 : w9.cell? ⟨gb583, 0, none⟩ = some (.int .i64 a0_0) := bc BK583 0; have hcz14_1 : w9.cell? ⟨gb583, 1, none⟩ = some (.slice A0_1 l0_1.length c0_1) := bc BK583 1; have hfz14_0 := blk_frozen BK583.out 0; have hfz14_1 := blk_frozen BK583.out 1
    go_wp2
    go_meet
    case rel => exact ⟨_, (decide ((wrap64 ((l0_1.length : Int) + a0_0)) > 4194304)), (by first | rfl | (simp; done) | (simp [*]; done)), H', ⟨by first | omega | exact Nat.le_refl _⟩, ⟨bx BK583⟩, ⟨bx BK584⟩, ⟨hb2 HB GE583 GE584⟩⟩
  case rest => as_aux_lemma =>
   clear HC4
   try clear c1
   try clear p2
   try clear c3
   try clear p6
   try clear c7
   try clear c10
   try clear c10b0
   try clear c11
   try clear c13
   try clear hcz12_0
   try clear hcz12_1
   try clear hcz14_0
   try clear hcz14_1
   try clear hcz8_0
   try clear hcz8_1
   try clear hfz12_0
   try clear hfz12_1
   try clear hfz14_0
   try clear hfz14_1
   try clear hfz8_0
   try clear hfz8_1
   obtain ⟨kq, x21_3, rfl, HA, HJ3, BK583, BK584, HB⟩ := hcut
   cases kq with
   | zero => exact absurd HA.out (by simp [tangramref14_Apex.j0])
   | succ kj3 =>
    have H := HA.out; clear HA; simp only [tangramref14_Apex.j0] at H
    by_cases c15 : x21_3 = true
    ·subst c15; have H1 : (some (0, ([] : List (S46)), 141)) = some (r1, r2, r3) := by rw [if_pos rfl] at H; exact H
     clear H; have H := H1; clear H1; simp only [Option.some.injEq, Prod.mk.injEq] at H; obtain ⟨rfl, rfl, rfl⟩ := H; have hnb16 := NB584_583.out; have hnc16 := NB583_584.out; have hcz17_0 : wc.cell? ⟨gb584, 0, none⟩ = some (.int .i64 0) := bc BK584 0; have hcz17_1 : wc.cell? ⟨gb584, 1, none⟩ = some (.slice none 0 0) := bc BK584 1; have hfz17_0 := blk_frozen BK584.out 0; have hfz17_1 := blk_frozen BK584.out 1
     go_wp2
     refine bodyPost_ret (results_ct rfl _ _ gb584 25 #[.int .i64 0, .slice none 0 0] (0, 0) _ rfl (bp BK584) Try.underlying25 rfl (by kernel_rfl)) rfl ?_; exact ⟨_, by first | rfl | (simp [errW_none, errW_some] <;> rfl) | (simp [*, errW_none, errW_some] <;> rfl), by first | exact Kd.R_nil _ _ _ _ _ | exact Kd.N_nil _ _ _ _ _ | exact Kd.V_nil _ _ _ _ _ | exact Kd.Q_nil _ _ _ _ _ | exact Kd.S_nil _ _ _ _ _, hb2 HB GE583 GE584⟩
    ·replace c15 := Bool.eq_false_iff.mpr c15; subst c15; have H1 : ((tangramref14_kept.f l0_1).bind fun t586 => (tangramref14_Apex.l0 kj3 t586 0 a0_0 l0_1)) = some (r1, r2, r3) := by rw [if_neg (show ¬ (false = true) by decide)] at H; exact H
     clear H; have H := H1; clear H1; replace H := Option.bind_eq_some_iff.mp H; obtain ⟨t586, A180, H⟩ := H; replace H : (tangramref14_Apex.l0 kj3 t586 0 a0_0 l0_1) = some (r1, r2, r3) := H; have A18 := Aside0.mk A180; clear A180; have H' := Aside0.mk H; clear H; have hnb19 := NB583_584.out; have hnc19 := NB584_583.out; have hcz20_0 : wc.cell? ⟨gb583, 0, none⟩ = some (.int .i64 a0_0) := bc BK583 0; have hcz20_1 : wc.cell? ⟨gb583, 1, none⟩ = some (.slice A0_1 l0_1.length c0_1) := bc BK583 1; have hfz20_0 := blk_frozen BK583.out 0; have hfz20_1 := blk_frozen BK583.out 1
     go_wp2_with (first | ((with_reducible refine gate_callee (f := 41) rfl ?_); refine gl_ (some 25) Try.func41 #[.slice A0_1 l0_1.length c0_1] ?_; (with_reducible refine (tangramref14_kept.calls _ _ l0_1 t586 _ ?side1 ?side2 A18.out).mono ?_); (case side1 => repeat (first | exact (Kd.C_below HR0_1.out HB.out) | (with_reducible refine Kd.C_alloc ?_ _) | (with_reducible refine Kd.C_drewN ?_ _) | (with_reducible refine Kd.C_drew ?_))); (case side2 => exact HC0_1.out); rintro e w21 ⟨v587, rfl, ho0, hb⟩; refine ⟨_, rfl, ?_⟩; have HO588 := Aside0.mk (Kd.R_lower ho0 (below_size (hb2 HB GE583 GE584))); replace BK583 := kx BK583 hb; replace BK584 := kx BK584 hb; replace HB := hs (hb2 HB GE583 GE584) hb; (try clear hb); (try clear hb2); (try clear hk); (try clear hi); (try clear ho0)))
     go_loopg [4, 5] kj3 (fun kq v4 v5 w' => ∃ (x4_2 : List (S46)) (x5_2 : Int), v5 = .int .i64 x5_2 ∧ Aside0 (tangramref14_Apex.l0 kq x4_2 x5_2 a0_0 l0_1 = some (r1, r2, r3)) ∧ Aside0 (kq ≤ kj3) ∧ Aside0 (Kd.R k46 46 w' w.heap.size (fun _ => True) v4 x4_2) ∧ Aside0 (w'.heap[gb583]? = some (.cells #[.int .i64 a0_0, (.slice A0_1 l0_1.length c0_1)] 25 (0, 0))) ∧ Aside0 (w'.heap[gb584]? = some (.cells #[.int .i64 0, (.slice none 0 0)] 25 (0, 0))) ∧ Aside0 (Below w.heap.size w w'))
     case atStart => exact ⟨(t586), (0), (by first | rfl | (simp; done) | (simp [*]; done)), H', ⟨Nat.le_refl _⟩, ⟨rx HO588⟩, ⟨bx BK583⟩, ⟨bx BK584⟩, ⟨hb2 HB GE583 GE584⟩⟩
     case round =>
      clear H'
      try clear c1
      try clear p2
      try clear c3
      try clear c4
      try clear p6
      try clear c7
      try clear c10
      try clear c10b0
      try clear c11
      try clear c13
      try clear c15
      try clear c16
      try clear c19
      try clear hcz12_0
      try clear hcz12_1
      try clear hcz14_0
      try clear hcz14_1
      try clear hcz17_0
      try clear hcz17_1
      try clear hcz20_0
      try clear hcz20_1
      try clear hcz8_0
      try clear hcz8_1
      try clear hfz12_0
      try clear hfz12_1
      try clear hfz14_0
      try clear hfz14_1
      try clear hfz17_0
      try clear hfz17_1
      try clear hfz20_0
      try clear hfz20_1
      try clear hfz8_0
      try clear hfz8_1
      try clear p2
      try clear p6
      obtain ⟨x4_2, x5_2, rfl, HA, HK2, HO_4, BK583, BK584, HB⟩ := hrel
      cases gk with
      | zero => exact absurd HA.out (by simp [tangramref14_Apex.l0])
      | succ k2 =>
       have H := HA.out; clear HA; simp only [tangramref14_Apex.l0] at H
       by_cases c22 : x5_2 < a0_0
       ·rw [if_pos c22] at H; have c22b0 : decide (x5_2 < a0_0) = true := decide_eq_true c22; clear c22; replace H := Option.bind_eq_some_iff.mp H; obtain ⟨t589, A230, H⟩ := H; replace H : (tangramref14_Apex.l0 k2 t589 (wrap64 (x5_2 + 1)) a0_0 l0_1) = some (r1, r2, r3) := H; have A23 := Aside0.mk A230; clear A230; have H' := Aside0.mk H; clear H; have hnb24 := NB583_584.out; have hnc24 := NB584_583.out; have hcz25_0 : wr.cell? ⟨gb583, 0, none⟩ = some (.int .i64 a0_0) := bc BK583 0; have hcz25_1 : wr.cell? ⟨gb583, 1, none⟩ = some (.slice A0_1 l0_1.length c0_1) := bc BK583 1; have hfz25_0 := blk_frozen BK583.out 0; have hfz25_1 := blk_frozen BK583.out 1; obtain ⟨Ao26, co26, eo26⟩ := Kd.R_slice HO_4.out; subst eo26
        go_wp2_with (first | ((with_reducible refine gate_callee (f := 48) rfl ?_); refine gl_ (some 36) Try.func48 #[.slice Ao26 x4_2.length co26, .int .i64 x5_2, .int .i64 a0_0] ?_; (with_reducible refine (tangramref14_put.calls k2 (fun k_ => some k_ = (.slice Ao26 x4_2.length co26 : Value).ownBlock) (.slice Ao26 x4_2.length co26) x4_2 x5_2 a0_0 t589 w _ ?side1 ?side2 A23.out).mono ?_); (case side1 => repeat (first | (with_reducible first | exact HB.out | apply below_alloc | apply pw_below_drewN | apply below_drew1 | refine below_set ?_ GE583.out | refine below_set ?_ GE584.out) | exact HB.out)); (case side2 => exact Kd.R_tight rfl HO_4.out); rintro e w27 ⟨v590, rfl, ho0, hb, hkp⟩; refine ⟨_, rfl, ?_⟩; have n0_ := Aside0.mk (blk_kept (bx BK583) hkp (fun hs_ => (fun e_ => (Kd.R_ne HO_4.out BK583.out (by decide)) e_) hs_)); have n1_ := Aside0.mk (blk_kept (bx BK584) hkp (fun hs_ => (fun e_ => (Kd.R_ne HO_4.out BK584.out (by decide)) e_) hs_)); have n2_ := Aside0.mk (Kd.R_mono (ok' := fun k_ => True) ho0 (fun k_ hk_ => trivial)); have n3_ := Aside0.mk (hb); clear BK583; clear BK584; clear HB; clear HO_4; have BK583 := n0_; have BK584 := n1_; have HO591 := n2_; have HB := n3_; clear n0_ n1_ n2_ n3_; (try clear hb); (try clear hkp); (try clear ho0)))
        go_roundg k2
        case measure => have := HJ3.out; have := HK2.out; omega
        case rel => exact ⟨(t589), (wrap64 (x5_2 + 1)), (by first | rfl | (simp; done) | (simp [*]; done)), H', ⟨by have := HJ3.out; have := HK2.out; omega⟩, ⟨rx HO591⟩, ⟨bx BK583⟩, ⟨bx BK584⟩, ⟨hb2 HB GE583 GE584⟩⟩
       ·rw [if_neg c22] at H; have c22b0 : decide (x5_2 < a0_0) = false := decide_eq_false c22; clear c22; simp only [Option.some.injEq, Prod.mk.injEq] at H; obtain ⟨rfl, rfl, rfl⟩ := H; have hnb28 := NB583_584.out; have hnc28 := NB584_583.out; have hcz29_0 : wr.cell? ⟨gb583, 0, none⟩ = some (.int .i64 a0_0) := bc BK583 0; have hcz29_1 : wr.cell? ⟨gb583, 1, none⟩ = some (.slice A0_1 l0_1.length c0_1) := bc BK583 1; have hfz29_0 := blk_frozen BK583.out 0; have hfz29_1 := blk_frozen BK583.out 1; obtain ⟨Ao30, co30, eo30⟩ := Kd.R_slice HO_4.out; subst eo30; have hcz31_0 : wr.cell? ⟨gb584, 0, none⟩ = some (.int .i64 0) := bc BK584 0; have hcz31_1 : wr.cell? ⟨gb584, 1, none⟩ = some (.slice none 0 0) := bc BK584 1; have hfz31_0 := blk_frozen BK584.out 0; have hfz31_1 := blk_frozen BK584.out 1
        go_wp2
        refine bodyPost_ret (results_ct rfl _ _ gb584 25 #[.int .i64 (wrap64 (a0_0 + 1)), .slice Ao30 x4_2.length co30] (0, 0) _ rfl (bp BK584) Try.underlying25 rfl (by kernel_rfl)) rfl ?_; exact ⟨_, by first | rfl | (simp [errW_none, errW_some] <;> rfl) | (simp [*, errW_none, errW_some] <;> rfl), Kd.R_mono (rf HO_4 BK584) (fun _ hk => trivial), hb2 HB GE583 GE584⟩
 ·replace c3 := Bool.eq_false_iff.mpr c3; subst c3; have H1 : (some (0, ([] : List (S46)), 1)) = some (r1, r2, r3) := by rw [if_neg (show ¬ (false = true) by decide)] at H; exact H
  clear H; have H := H1; clear H1; simp only [Option.some.injEq, Prod.mk.injEq] at H; obtain ⟨rfl, rfl, rfl⟩ := H
  go_enter Try.func34, Try.ntmps34
  go_wp2_with (first | ((with_reducible refine gate_dst (N := 1) rfl ?_); (try (refine gate_guard (by rfl) ?_; dsimp only)); refine be_ 1 #[.int .i64 a0_0, .slice A0_1 l0_1.length c0_1] 25 ?_; intro gb583 hg w32 hbox hb; have BK583 := Aside0.mk (hbox); have GW583 := wq (hb0 HB) hg; have GE583 := wq (hb0 HB) hg; replace HB := hs (hb0 HB) hb; clear hb hbox hg) | ((with_reducible refine gate_dst (N := 2) rfl ?_); (try (refine gate_guard (by rfl) ?_; dsimp only)); refine be_ 2 #[.int .i64 0, .slice none 0 0] 25 ?_; intro gb584 hg w33 hbox hb; have BK584 := Aside0.mk (hbox); have GW584 := wq (hb1 HB GE583) hg; have GE584 := wq (hb1 HB GE583) hg; replace HB := hs (hb1 HB GE583) hb; have NB583_584 := lx BK583 hg; have NB584_583 := gx BK583 hg; replace BK583 := kx BK583 hb; clear hb hbox hg; have hnb34 := NB583_584.out; have hnc34 := NB584_583.out; have hcz35_0 : w33.cell? ⟨gb583, 0, none⟩ = some (.int .i64 a0_0) := bc BK583 0; have hcz35_1 : w33.cell? ⟨gb583, 1, none⟩ = some (.slice A0_1 l0_1.length c0_1) := bc BK583 1; have hfz35_0 := blk_frozen BK583.out 0; have hfz35_1 := blk_frozen BK583.out 1) | ((with_reducible refine gate_callee (f := 11) rfl ?_); refine gl_ (some 7) Try.func11 #[.agg #[.int .i64 a0_0, .slice A0_1 l0_1.length c0_1]] ?_; (with_reducible refine (tangramref03_Valid.calls k a0_0 _ _ l0_1 false _ ?side1 ?side2 A2.out).mono ?_); (case side1 => repeat (first | exact (Kd.C_below HR0_1.out HB.out) | (with_reducible refine Kd.C_alloc ?_ _) | (with_reducible refine Kd.C_drewN ?_ _) | (with_reducible refine Kd.C_drew ?_))); (case side2 => exact HC0_1.out); rintro e w36 ⟨rfl, hb⟩; refine ⟨_, rfl, ?_⟩; replace BK583 := kx BK583 hb; replace BK584 := kx BK584 hb; replace HB := hs (hb2 HB GE583 GE584) hb; (try clear hb); (try clear hb2); (try clear hk); (try clear hi); have hcz37_0 : w36.cell? ⟨gb584, 0, none⟩ = some (.int .i64 0) := bc BK584 0; have hcz37_1 : w36.cell? ⟨gb584, 1, none⟩ = some (.slice none 0 0) := bc BK584 1; have hfz37_0 := blk_frozen BK584.out 0; have hfz37_1 := blk_frozen BK584.out 1))
  refine bodyPost_ret (results_ct rfl _ _ gb584 25 #[.int .i64 0, .slice none 0 0] (0, 0) _ rfl (bp BK584) Try.underlying25 rfl (by kernel_rfl)) rfl ?_; exact ⟨_, by first | rfl | (simp [errW_none, errW_some] <;> rfl) | (simp [*, errW_none, errW_some] <;> rfl), by first | exact Kd.R_nil _ _ _ _ _ | exact Kd.N_nil _ _ _ _ _ | exact Kd.V_nil _ _ _ _ _ | exact Kd.Q_nil _ _ _ _ _ | exact Kd.S_nil _ _ _ _ _, hb2 HB GE583 GE584⟩

end Go.Proofs.Ytdaeaejmikhmcaa.PEditC
