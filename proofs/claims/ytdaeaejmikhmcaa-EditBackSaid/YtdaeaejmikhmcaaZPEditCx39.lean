-- PRINTED by print.py (a twelfth state) out of the translation. Not trusted: Lean checks it.
import Derived.Test.YtdaeaejmikhmcaaZPEditCx0
import Derived.Test.YtdaeaejmikhmcaaZPEditCx23
import Derived.Test.YtdaeaejmikhmcaaZPEditCx26
import Derived.Test.YtdaeaejmikhmcaaZPEditCx37
namespace Go.Proofs.Ytdaeaejmikhmcaa.PEditC
open Go.RowKit Go.Proofs.YtdaeaejmikhmcaaW.PrintWords Go.Proofs.YtdaeaejmikhmcaaW.PrintLast Go.Proofs.YtdaeaejmikhmcaaW.PrintMore
open Go.Proofs.YtdaeaejmikhmcaaX
attribute [local go_sem] max2_int min2_int max_two min_two max_three min_three max_four min_four   -- for this text's walks alone
set_option linter.unusedVariables false
set_option linter.unusedSimpArgs false

/-! ### tangramref14_Divide: function 32 -/
mutual
def tangramref14_Divide.j0 : Nat → Int → Bool → Int → List (S46) → Option (Int × (List (S46)) × Int)
 | 0, _, _, _, _ => none
 | k + 1, x1, x19, x546000, x546001 => if x19 = true then (some (0, ([] : List (S46)), 2)) else (if x546000 ≥ 1048576 then (tangramref14_Divide.j1 k x1 true x546000 x546001) else (tangramref14_Divide.j1 k x1 (decide ((x546001.length : Int) ≥ 4194304)) x546000 x546001))
def tangramref14_Divide.j1 : Nat → Int → Bool → Int → List (S46) → Option (Int × (List (S46)) × Int)
 | 0, _, _, _, _ => none
 | k + 1, x1, x29, x546000, x546001 => if x29 = true then (some (0, ([] : List (S46)), 141)) else (if 0 ≤ x1 then (if x1 ≤ (x546001.length : Int) then ((tangramref14_kept.f (x546001.take (x1 : Int).toNat)).bind fun t552 => (if 0 ≤ (wrap64 (x1 + 1)) then (if (wrap64 (x1 + 1)) ≤ (x546001.length : Int) then ((some (x546001.drop ((wrap64 (x1 + 1)) : Int).toNat : List (S46))).bind fun y555 => (if t552.length + y555.length < 8796093022208 then (if x1 < (x546001.length : Int) then ((tangramref14_put.f k (t552 ++ y555) ((rd_T46 x546001 x1).f0) x546000).bind fun t563 => ((tangramref14_put.f k t563 ((rd_T46 x546001 x1).f1) x546000).bind fun t567 => (some (wrap64 (x546000 + 1), t567, 0)))) else (none)) else (none))) else (none)) else (none))) else (none)) else (none))
end
def tangramref14_Divide.f (k : Nat) (a0_0 : Int) (l0_1 : List (S46)) (a1 : Int) : Option (Int × (List (S46)) × Int) := (tangramref03_Valid.f k a0_0 l0_1).bind fun t547 => (if t547 = true then (if a1 < 0 then (tangramref14_Divide.j0 k a1 true a0_0 l0_1) else (tangramref14_Divide.j0 k a1 (decide (a1 ≥ (l0_1.length : Int))) a0_0 l0_1)) else (some (0, ([] : List (S46)), 1)))
theorem tangramref14_Divide.mono_l : ∀ k, (∀ y0 y1 y2 y3, LeO (tangramref14_Divide.j0 k y0 y1 y2 y3) (tangramref14_Divide.j0 (k + 1) y0 y1 y2 y3)) ∧ (∀ y0 y1 y2 y3, LeO (tangramref14_Divide.j1 k y0 y1 y2 y3) (tangramref14_Divide.j1 (k + 1) y0 y1 y2 y3))
 | 0 => ⟨fun _ _ _ _ r h => by simp [tangramref14_Divide.j0] at h, fun _ _ _ _ r h => by simp [tangramref14_Divide.j1] at h⟩
 | k + 1 => by
  obtain ⟨ih0, ih1⟩ := tangramref14_Divide.mono_l k; refine ⟨?_, ?_⟩
  ·intro y0 y1 y2 y3
   unfold tangramref14_Divide.j0
   repeat' first
   | (with_reducible exact ih0 _ _ _ _)
   | (with_reducible exact ih1 _ _ _ _)
   | (with_reducible exact tangramref03_Valid.mono _ _ _)
   | (with_reducible exact tangramref14_put.mono _ _ _ _)
   | (with_reducible exact LeO.refl _)
   | (with_reducible exact LeO.none _)
   | (with_reducible refine LeO.ite ?_ ?_)
   | (with_reducible refine LeO.bind ?_ (fun _ => ?_))
   | exact ih0 _ _ _ _
   | exact ih1 _ _ _ _
   | exact tangramref03_Valid.mono _ _ _
   | exact tangramref14_put.mono _ _ _ _
   | exact LeO.none _
   | refine LeO.ite ?_ ?_
   | refine LeO.bind ?_ (fun _ => ?_)
  ·intro y0 y1 y2 y3
   unfold tangramref14_Divide.j1
   repeat' first
   | (with_reducible exact ih0 _ _ _ _)
   | (with_reducible exact ih1 _ _ _ _)
   | (with_reducible exact tangramref03_Valid.mono _ _ _)
   | (with_reducible exact tangramref14_put.mono _ _ _ _)
   | (with_reducible exact LeO.refl _)
   | (with_reducible exact LeO.none _)
   | (with_reducible refine LeO.ite ?_ ?_)
   | (with_reducible refine LeO.bind ?_ (fun _ => ?_))
   | exact ih0 _ _ _ _
   | exact ih1 _ _ _ _
   | exact tangramref03_Valid.mono _ _ _
   | exact tangramref14_put.mono _ _ _ _
   | exact LeO.none _
   | refine LeO.ite ?_ ?_
   | refine LeO.bind ?_ (fun _ => ?_)
theorem tangramref14_Divide.mono : ∀ a0 a1 a2 k, LeO (tangramref14_Divide.f k a0 a1 a2) (tangramref14_Divide.f (k + 1) a0 a1 a2) := by
 intro a0 a1 a2 k; obtain ⟨ih0, ih1⟩ := tangramref14_Divide.mono_l k
 unfold tangramref14_Divide.f
 repeat' first
   | (with_reducible exact ih0 _ _ _ _)
   | (with_reducible exact ih1 _ _ _ _)
   | (with_reducible exact tangramref03_Valid.mono _ _ _)
   | (with_reducible exact tangramref14_put.mono _ _ _ _)
   | (with_reducible exact LeO.refl _)
   | (with_reducible exact LeO.none _)
   | (with_reducible refine LeO.ite ?_ ?_)
   | (with_reducible refine LeO.bind ?_ (fun _ => ?_))
   | exact ih0 _ _ _ _
   | exact ih1 _ _ _ _
   | exact tangramref03_Valid.mono _ _ _
   | exact tangramref14_put.mono _ _ _ _
   | exact LeO.none _
   | refine LeO.ite ?_ ?_
   | refine LeO.bind ?_ (fun _ => ?_)
def tangramref14_Divide.T9 : Bool × List (List Nat × List Nat) := (true, [([], []), ([], []), ([1], [1]), ([], []), ([2, 3], [2, 3]), ([4], [4]), ([5], [5]), ([], []), ([7], [7]), ([0, 6, 8], [0, 6, 8]), ([9, 9, 0, 1, 2, 3, 4, 5, 6, 7, 8, 9], [0, 9])])
def tangramref14_Divide.B9 : List Nat := [0, 0, 2, 0, 14, 30, 62, 0, 128, 511, 1023]
theorem tangramref14_Divide.tab9 : rtab .any (opsOf Try.f32 9) = tangramref14_Divide.T9 := by kernel_rfl
theorem tangramref14_Divide.bits9 : waitsOk tangramref14_Divide.T9.2 tangramref14_Divide.B9 = true := by kernel_rfl
def tangramref14_Divide.T10 : Bool × List (List Nat × List Nat) := (true, [([], []), ([], []), ([1], [1]), ([], []), ([2, 3], [2, 3]), ([4], [4]), ([5], [5]), ([], []), ([7], [7]), ([0, 6, 8], [0, 6, 8]), ([9, 9, 0, 1, 2, 3, 4, 5, 6, 7, 8, 9], [0, 9])])
def tangramref14_Divide.B10 : List Nat := [0, 0, 2, 0, 14, 30, 62, 0, 128, 511, 1023]
theorem tangramref14_Divide.tab10 : rtab .any (opsOf Try.f32 10) = tangramref14_Divide.T10 := by kernel_rfl
theorem tangramref14_Divide.bits10 : waitsOk tangramref14_Divide.T10.2 tangramref14_Divide.B10 = true := by kernel_rfl
set_option maxHeartbeats 8000000 in
set_option maxRecDepth 100000 in
theorem tangramref14_Divide.calls (k : Nat) (a0_0 : Int) (A0_1 : Option Addr) (c0_1 : Nat) (l0_1 : List (S46)) (a1 : Int) (r1 : Int) (r2 : List (S46)) (r3 : Int) (w : World) (hr0_1 : Kd.C k46 w A0_1 l0_1.length l0_1) (hc0_1 : l0_1.length ≤ c0_1) (h : tangramref14_Divide.f k a0_0 l0_1 a1 = some (r1, r2, r3)) :
  Calls Try.prog 32 #[.agg #[.int .i64 a0_0, .slice A0_1 l0_1.length c0_1], .int .i64 a1] w fun e w' => ∃ v1_ : Value, e = .returned (.tuple #[.agg #[.int .i64 r1, v1_], .int .i64 r3]) ∧ Kd.R k46 46 w' w.heap.size (fun _ => True) v1_ r2 ∧ Below w.heap.size w w' := by
 have hu25 := Try.underlying25; have HR0_1 := Aside0.mk hr0_1; have HC0_1 := Aside0.mk hc0_1; clear hr0_1 hc0_1; have HB := Aside0.mk (Below.refl w.heap.size w); have H : ((tangramref03_Valid.f k a0_0 l0_1).bind fun t547 => (if t547 = true then (if a1 < 0 then (tangramref14_Divide.j0 k a1 true a0_0 l0_1) else (tangramref14_Divide.j0 k a1 (decide (a1 ≥ (l0_1.length : Int))) a0_0 l0_1)) else (some (0, ([] : List (S46)), 1)))) = some (r1, r2, r3) := h; clear h; replace H := Option.bind_eq_some_iff.mp H; obtain ⟨t547, A30, H⟩ := H; replace H : (if t547 = true then (if a1 < 0 then (tangramref14_Divide.j0 k a1 true a0_0 l0_1) else (tangramref14_Divide.j0 k a1 (decide (a1 ≥ (l0_1.length : Int))) a0_0 l0_1)) else (some (0, ([] : List (S46)), 1))) = some (r1, r2, r3) := H; have A3 := Aside0.mk A30; clear A30
 by_cases c4 : t547 = true
 ·subst c4; have H1 : (if a1 < 0 then (tangramref14_Divide.j0 k a1 true a0_0 l0_1) else (tangramref14_Divide.j0 k a1 (decide (a1 ≥ (l0_1.length : Int))) a0_0 l0_1)) = some (r1, r2, r3) := by rw [if_pos rfl] at H; exact H
  clear H; have H := H1; clear H1; have HC5 := Aside0.mk H; clear H
  go_enter Try.func32, Try.ntmps32
  go_upto_region 3 with (first | ((with_reducible refine gate_dst (N := 2) rfl ?_); (try (refine gate_guard (by rfl) ?_; dsimp only)); refine be_ 2 #[.int .i64 a0_0, .slice A0_1 l0_1.length c0_1] 25 ?_; intro gb545 hg w6 hbox hb; have BK545 := Aside0.mk (hbox); have GW545 := wq (hb0 HB) hg; have GE545 := wq (hb0 HB) hg; replace HB := hs (hb0 HB) hb; clear hb hbox hg) | ((with_reducible refine gate_dst (N := 4) rfl ?_); (try (refine gate_guard (by rfl) ?_; dsimp only)); refine be_ 4 #[.int .i64 0, .slice none 0 0] 25 ?_; intro gb546 hg w7 hbox hb; have BK546 := Aside0.mk (hbox); have GW546 := wq (hb1 HB GE545) hg; have GE546 := wq (hb1 HB GE545) hg; replace HB := hs (hb1 HB GE545) hb; have NB545_546 := lx BK545 hg; have NB546_545 := gx BK545 hg; replace BK545 := kx BK545 hb; clear hb hbox hg; have hnb8 := NB545_546.out; have hnc8 := NB546_545.out; have hcz9_0 : w7.cell? ⟨gb545, 0, none⟩ = some (.int .i64 a0_0) := bc BK545 0; have hcz9_1 : w7.cell? ⟨gb545, 1, none⟩ = some (.slice A0_1 l0_1.length c0_1) := bc BK545 1; have hfz9_0 := blk_frozen BK545.out 0; have hfz9_1 := blk_frozen BK545.out 1) | ((with_reducible refine gate_callee (f := 11) rfl ?_); refine gl_ (some 8) Try.func11 #[.agg #[.int .i64 a0_0, .slice A0_1 l0_1.length c0_1]] ?_; (with_reducible refine (tangramref03_Valid.calls k a0_0 _ _ l0_1 true _ ?side1 ?side2 A3.out).mono ?_); (case side1 => repeat (first | exact (Kd.C_below HR0_1.out HB.out) | (with_reducible refine Kd.C_alloc ?_ _) | (with_reducible refine Kd.C_drewN ?_ _) | (with_reducible refine Kd.C_drew ?_))); (case side2 => exact HC0_1.out); rintro e w10 ⟨rfl, hb⟩; refine ⟨_, rfl, ?_⟩; replace BK545 := kx BK545 hb; replace BK546 := kx BK546 hb; replace HB := hs (hb2 HB GE545 GE546) hb; (try clear hb); (try clear hb2); (try clear hk); (try clear hi)))
  (try simp only [Act.put, List.setIfInBounds_toArray, List.set_cons_zero, List.set_cons_succ])
  go_cut [19] (fun v19 wc => ∃ (kq : Nat) (x19_4 : Bool), v19 = .bool x19_4 ∧ Aside0 (tangramref14_Divide.j0 kq a1 x19_4 a0_0 l0_1 = some (r1, r2, r3)) ∧ Aside0 (kq ≤ k) ∧ Aside0 (wc.heap[gb545]? = some (.cells #[.int .i64 a0_0, (.slice A0_1 l0_1.length c0_1)] 25 (0, 0))) ∧ Aside0 (wc.heap[gb546]? = some (.cells #[.int .i64 0, (.slice none 0 0)] 25 (0, 0))) ∧ Aside0 (Below w.heap.size w wc))
  case first => as_aux_lemma =>
   have H := HC5.out; clear HC5
   by_cases c11 : a1 < 0
   ·rw [if_pos c11] at H; have c11b0 : decide (a1 < 0) = true := decide_eq_true c11; clear c11
    (first | rw [c11b0] | (simp only [i64_w, i32_w]; rw [c11b0]) | skip)
    have H' := Aside0.mk H; clear H
    go_wp2
    go_meet
    case rel => exact ⟨_, (true), (by first | rfl | (simp; done) | (simp [*]; done)), H', ⟨by first | omega | exact Nat.le_refl _⟩, ⟨bx BK545⟩, ⟨bx BK546⟩, ⟨hb2 HB GE545 GE546⟩⟩
   ·rw [if_neg c11] at H; have c11b0 : decide (a1 < 0) = false := decide_eq_false c11; clear c11
    (first | rw [c11b0] | (simp only [i64_w, i32_w]; rw [c11b0]) | skip)
    have H' := Aside0.mk H; clear H; have hnb12 := NB545_546.out; have hnc12 := NB546_545.out; have hcz13_0 : w10.cell? ⟨gb545, 0, none⟩ = some (.int .i64 a0_0) := bc BK545 0; have hcz13_1 : w10.cell? ⟨gb545, 1, none⟩ = some (.slice A0_1 l0_1.length c0_1) := bc BK545 1; have hfz13_0 := blk_frozen BK545.out 0; have hfz13_1 := blk_frozen BK545.out 1
    go_wp2
    go_meet
    case rel => exact ⟨_, (decide (a1 ≥ (l0_1.length : Int))), (by first | rfl | (simp; done) | (simp [*]; done)), H', ⟨by first | omega | exact Nat.le_refl _⟩, ⟨bx BK545⟩, ⟨bx BK546⟩, ⟨hb2 HB GE545 GE546⟩⟩
  case rest => as_aux_lemma =>
   clear HC5
   try clear c1
   try clear p2
   try clear c3
   try clear c4
   try clear c8
   try clear c11
   try clear c11b0
   try clear c12
   try clear hcz13_0
   try clear hcz13_1
   try clear hcz9_0
   try clear hcz9_1
   try clear hfz13_0
   try clear hfz13_1
   try clear hfz9_0
   try clear hfz9_1
   obtain ⟨kq, x19_4, rfl, HA, HJ4, BK545, BK546, HB⟩ := hcut
   cases kq with
   | zero => exact absurd HA.out (by simp [tangramref14_Divide.j0])
   | succ kj4 =>
    have H := HA.out; clear HA; simp only [tangramref14_Divide.j0] at H
    by_cases c14 : x19_4 = true
    ·subst c14; have H1 : (some (0, ([] : List (S46)), 2)) = some (r1, r2, r3) := by rw [if_pos rfl] at H; exact H
     clear H; have H := H1; clear H1; simp only [Option.some.injEq, Prod.mk.injEq] at H; obtain ⟨rfl, rfl, rfl⟩ := H; have hnb15 := NB546_545.out; have hnc15 := NB545_546.out; have hcz16_0 : wc.cell? ⟨gb546, 0, none⟩ = some (.int .i64 0) := bc BK546 0; have hcz16_1 : wc.cell? ⟨gb546, 1, none⟩ = some (.slice none 0 0) := bc BK546 1; have hfz16_0 := blk_frozen BK546.out 0; have hfz16_1 := blk_frozen BK546.out 1
     go_wp2
     refine bodyPost_ret (results_ct rfl _ _ gb546 25 #[.int .i64 0, .slice none 0 0] (0, 0) _ rfl (bp BK546) Try.underlying25 rfl (by kernel_rfl)) rfl ?_; exact ⟨_, by first | rfl | (simp [errW_none, errW_some] <;> rfl) | (simp [*, errW_none, errW_some] <;> rfl), by first | exact Kd.R_nil _ _ _ _ _ | exact Kd.N_nil _ _ _ _ _ | exact Kd.V_nil _ _ _ _ _ | exact Kd.Q_nil _ _ _ _ _ | exact Kd.S_nil _ _ _ _ _, hb2 HB GE545 GE546⟩
    ·replace c14 := Bool.eq_false_iff.mpr c14; subst c14; have H1 : (if a0_0 ≥ 1048576 then (tangramref14_Divide.j1 kj4 a1 true a0_0 l0_1) else (tangramref14_Divide.j1 kj4 a1 (decide ((l0_1.length : Int) ≥ 4194304)) a0_0 l0_1)) = some (r1, r2, r3) := by rw [if_neg (show ¬ (false = true) by decide)] at H; exact H
     clear H; have H := H1; clear H1; have HC17 := Aside0.mk H; clear H
     go_upto_region 5 with (fail)
     go_cut [29] (fun v29 wc => ∃ (kq : Nat) (x29_16 : Bool), v29 = .bool x29_16 ∧ Aside0 (tangramref14_Divide.j1 kq a1 x29_16 a0_0 l0_1 = some (r1, r2, r3)) ∧ Aside0 (kq ≤ kj4) ∧ Aside0 (wc.heap[gb545]? = some (.cells #[.int .i64 a0_0, (.slice A0_1 l0_1.length c0_1)] 25 (0, 0))) ∧ Aside0 (wc.heap[gb546]? = some (.cells #[.int .i64 0, (.slice none 0 0)] 25 (0, 0))) ∧ Aside0 (Below w.heap.size w wc))
     case first => as_aux_lemma =>
      have H := HC17.out; clear HC17
      by_cases c18 : a0_0 ≥ 1048576
      ·rw [if_pos c18] at H; have c18b0 : decide (1048576 ≤ a0_0) = true := decide_eq_true c18; clear c18
       (first | rw [c18b0] | (simp only [i64_w, i32_w]; rw [c18b0]) | skip)
       have H' := Aside0.mk H; clear H; have hnb19 := NB545_546.out; have hnc19 := NB546_545.out; have hcz20_0 : wc.cell? ⟨gb545, 0, none⟩ = some (.int .i64 a0_0) := bc BK545 0; have hcz20_1 : wc.cell? ⟨gb545, 1, none⟩ = some (.slice A0_1 l0_1.length c0_1) := bc BK545 1; have hfz20_0 := blk_frozen BK545.out 0; have hfz20_1 := blk_frozen BK545.out 1
       go_wp2
       go_meet
       case rel => exact ⟨_, (true), (by first | rfl | (simp; done) | (simp [*]; done)), H', ⟨by have := HJ4.out; first | omega | exact Nat.le_refl _⟩, ⟨bx BK545⟩, ⟨bx BK546⟩, ⟨hb2 HB GE545 GE546⟩⟩
      ·rw [if_neg c18] at H; have c18b0 : decide (1048576 ≤ a0_0) = false := decide_eq_false c18; clear c18
       (first | rw [c18b0] | (simp only [i64_w, i32_w]; rw [c18b0]) | skip)
       have H' := Aside0.mk H; clear H; have hnb21 := NB545_546.out; have hnc21 := NB546_545.out; have hcz22_0 : wc.cell? ⟨gb545, 0, none⟩ = some (.int .i64 a0_0) := bc BK545 0; have hcz22_1 : wc.cell? ⟨gb545, 1, none⟩ = some (.slice A0_1 l0_1.length c0_1) := bc BK545 1; have hfz22_0 := blk_frozen BK545.out 0; have hfz22_1 := blk_frozen BK545.out 1
       go_wp2
       go_meet
       case rel => exact ⟨_, (decide ((l0_1.length : Int) ≥ 4194304)), (by first | rfl | (simp; done) | (simp [*]; done)), H', ⟨by have := HJ4.out; first | omega | exact Nat.le_refl _⟩, ⟨bx BK545⟩, ⟨bx BK546⟩, ⟨hb2 HB GE545 GE546⟩⟩
     case rest => as_aux_lemma =>
      clear HC17
      try clear c1
      try clear c2
      try clear p2
      try clear c3
      try clear c4
      try clear c8
      try clear c11
      try clear c11b0
      try clear c12
      try clear c14
      try clear c15
      try clear c18
      try clear c18b0
      try clear c19
      try clear c21
      try clear hcz13_0
      try clear hcz13_1
      try clear hcz16_0
      try clear hcz16_1
      try clear hcz20_0
      try clear hcz20_1
      try clear hcz22_0
      try clear hcz22_1
      try clear hcz9_0
      try clear hcz9_1
      try clear hfz13_0
      try clear hfz13_1
      try clear hfz16_0
      try clear hfz16_1
      try clear hfz20_0
      try clear hfz20_1
      try clear hfz22_0
      try clear hfz22_1
      try clear hfz9_0
      try clear hfz9_1
      try clear p2
      obtain ⟨kq, x29_16, rfl, HA, HJ16, BK545, BK546, HB⟩ := hcut
      cases kq with
      | zero => exact absurd HA.out (by simp [tangramref14_Divide.j1])
      | succ kj16 =>
       have H := HA.out; clear HA; simp only [tangramref14_Divide.j1] at H
       by_cases c23 : x29_16 = true
       ·subst c23; have H1 : (some (0, ([] : List (S46)), 141)) = some (r1, r2, r3) := by rw [if_pos rfl] at H; exact H
        clear H; have H := H1; clear H1; simp only [Option.some.injEq, Prod.mk.injEq] at H; obtain ⟨rfl, rfl, rfl⟩ := H; have hnb24 := NB546_545.out; have hnc24 := NB545_546.out; have hcz25_0 : wc.cell? ⟨gb546, 0, none⟩ = some (.int .i64 0) := bc BK546 0; have hcz25_1 : wc.cell? ⟨gb546, 1, none⟩ = some (.slice none 0 0) := bc BK546 1; have hfz25_0 := blk_frozen BK546.out 0; have hfz25_1 := blk_frozen BK546.out 1
        go_wp2
        refine bodyPost_ret (results_ct rfl _ _ gb546 25 #[.int .i64 0, .slice none 0 0] (0, 0) _ rfl (bp BK546) Try.underlying25 rfl (by kernel_rfl)) rfl ?_; exact ⟨_, by first | rfl | (simp [errW_none, errW_some] <;> rfl) | (simp [*, errW_none, errW_some] <;> rfl), by first | exact Kd.R_nil _ _ _ _ _ | exact Kd.N_nil _ _ _ _ _ | exact Kd.V_nil _ _ _ _ _ | exact Kd.Q_nil _ _ _ _ _ | exact Kd.S_nil _ _ _ _ _, hb2 HB GE545 GE546⟩
       ·replace c23 := Bool.eq_false_iff.mpr c23; subst c23; have H1 : (if 0 ≤ a1 then (if a1 ≤ (l0_1.length : Int) then ((tangramref14_kept.f (l0_1.take (a1 : Int).toNat)).bind fun t552 => (if 0 ≤ (wrap64 (a1 + 1)) then (if (wrap64 (a1 + 1)) ≤ (l0_1.length : Int) then ((some (l0_1.drop ((wrap64 (a1 + 1)) : Int).toNat : List (S46))).bind fun y555 => (if t552.length + y555.length < 8796093022208 then (if a1 < (l0_1.length : Int) then ((tangramref14_put.f kj16 (t552 ++ y555) ((rd_T46 l0_1 a1).f0) a0_0).bind fun t563 => ((tangramref14_put.f kj16 t563 ((rd_T46 l0_1 a1).f1) a0_0).bind fun t567 => (some (wrap64 (a0_0 + 1), t567, 0)))) else (none)) else (none))) else (none)) else (none))) else (none)) else (none)) = some (r1, r2, r3) := by rw [if_neg (show ¬ (false = true) by decide)] at H; exact H
        clear H; have H := H1; clear H1
        by_cases c26 : 0 ≤ a1
        ·rw [if_pos c26] at H; have c26b0 := eq_true c26; have c26b1 : decide (0 ≤ a1) = true := decide_eq_true c26; clear c26
         by_cases c27 : a1 ≤ (l0_1.length : Int)
         ·rw [if_pos c27] at H; have c27b0 := eq_true c27; have c27b1 : decide (a1 ≤ (l0_1.length : Int)) = true := decide_eq_true c27; clear c27; obtain ⟨y548, hy548⟩ : ∃ y_ : List (S46), y_ = (l0_1.take (a1 : Int).toNat) := ⟨_, rfl⟩; replace H : ((tangramref14_kept.f y548).bind fun t552 => (if 0 ≤ (wrap64 (a1 + 1)) then (if (wrap64 (a1 + 1)) ≤ (l0_1.length : Int) then ((some (l0_1.drop ((wrap64 (a1 + 1)) : Int).toNat : List (S46))).bind fun y555 => (if t552.length + y555.length < 8796093022208 then (if a1 < (l0_1.length : Int) then ((tangramref14_put.f kj16 (t552 ++ y555) ((rd_T46 l0_1 a1).f0) a0_0).bind fun t563 => ((tangramref14_put.f kj16 t563 ((rd_T46 l0_1 a1).f1) a0_0).bind fun t567 => (some (wrap64 (a0_0 + 1), t567, 0)))) else (none)) else (none))) else (none)) else (none))) = some (r1, r2, r3) := by first | (rw [hy548]; with_reducible exact H) | (have H2_ := (Option.bind_some _ _).symm.trans H; rw [hy548]; with_reducible exact H2_) | (have H2_ := (Option.bind_some _ _).symm.trans H; with_reducible exact H2_) | with_reducible exact H | (rw [hy548]; exact H) | exact H
          have Ny548 := Aside0.mk hy548; clear hy548; replace H := Option.bind_eq_some_iff.mp H; obtain ⟨t552, A280, H⟩ := H; replace H : (if 0 ≤ (wrap64 (a1 + 1)) then (if (wrap64 (a1 + 1)) ≤ (l0_1.length : Int) then ((some (l0_1.drop ((wrap64 (a1 + 1)) : Int).toNat : List (S46))).bind fun y555 => (if t552.length + y555.length < 8796093022208 then (if a1 < (l0_1.length : Int) then ((tangramref14_put.f kj16 (t552 ++ y555) ((rd_T46 l0_1 a1).f0) a0_0).bind fun t563 => ((tangramref14_put.f kj16 t563 ((rd_T46 l0_1 a1).f1) a0_0).bind fun t567 => (some (wrap64 (a0_0 + 1), t567, 0)))) else (none)) else (none))) else (none)) else (none)) = some (r1, r2, r3) := H; have A28 := Aside0.mk A280; clear A280; obtain ⟨ji29, hji29⟩ : ∃ j_ : Int, (wrap64 (a1 + 1)) = j_ := ⟨_, rfl⟩; replace H : (if 0 ≤ (ji29) then (if (ji29) ≤ (l0_1.length : Int) then ((some (l0_1.drop ((ji29) : Int).toNat : List (S46))).bind fun y555 => (if t552.length + y555.length < 8796093022208 then (if a1 < (l0_1.length : Int) then ((tangramref14_put.f kj16 (t552 ++ y555) ((rd_T46 l0_1 a1).f0) a0_0).bind fun t563 => ((tangramref14_put.f kj16 t563 ((rd_T46 l0_1 a1).f1) a0_0).bind fun t567 => (some (wrap64 (a0_0 + 1), t567, 0)))) else (none)) else (none))) else (none)) else (none)) = some (r1, r2, r3) := by first | (rw [hji29] at H; exact H) | (simp only [hji29] at H ⊢; exact H)
          (try rw [hji29] at A28)
          have hji29w : (IntKind.i64.wrap (a1 + 1)) = ji29 := (i64_w _).trans hji29
          by_cases c30 : 0 ≤ (ji29)
          ·rw [if_pos c30] at H; have c30b0 := eq_true c30; have c30b1 : decide (0 ≤ (ji29)) = true := decide_eq_true c30; clear c30
           by_cases c31 : (ji29) ≤ (l0_1.length : Int)
           ·rw [if_pos c31] at H; have c31b0 := eq_true c31; have c31b1 : decide ((ji29) ≤ (l0_1.length : Int)) = true := decide_eq_true c31; clear c31; obtain ⟨y555, hy555⟩ : ∃ y_ : List (S46), y_ = (l0_1.drop ((ji29) : Int).toNat) := ⟨_, rfl⟩; replace H : (if t552.length + y555.length < 8796093022208 then (if a1 < (l0_1.length : Int) then ((tangramref14_put.f kj16 (t552 ++ y555) ((rd_T46 l0_1 a1).f0) a0_0).bind fun t563 => ((tangramref14_put.f kj16 t563 ((rd_T46 l0_1 a1).f1) a0_0).bind fun t567 => (some (wrap64 (a0_0 + 1), t567, 0)))) else (none)) else (none)) = some (r1, r2, r3) := by first | (rw [hy555]; with_reducible exact H) | (have H2_ := (Option.bind_some _ _).symm.trans H; rw [hy555]; with_reducible exact H2_) | (have H2_ := (Option.bind_some _ _).symm.trans H; with_reducible exact H2_) | with_reducible exact H | (rw [hy555]; exact H) | exact H
            have Ny555 := Aside0.mk hy555; clear hy555
            by_cases c32 : t552.length + y555.length < 8796093022208
            ·rw [if_pos c32] at H; have LMc32 := Aside0.mk c32; clear c32; obtain ⟨y559, hy559⟩ : ∃ y_ : List (S46), y_ = (t552 ++ y555) := ⟨_, rfl⟩; replace H : (if a1 < (l0_1.length : Int) then ((tangramref14_put.f kj16 y559 ((rd_T46 l0_1 a1).f0) a0_0).bind fun t563 => ((tangramref14_put.f kj16 t563 ((rd_T46 l0_1 a1).f1) a0_0).bind fun t567 => (some (wrap64 (a0_0 + 1), t567, 0)))) else (none)) = some (r1, r2, r3) := by first | (rw [hy559]; with_reducible exact H) | (have H2_ := (Option.bind_some _ _).symm.trans H; rw [hy559]; with_reducible exact H2_) | (have H2_ := (Option.bind_some _ _).symm.trans H; with_reducible exact H2_) | with_reducible exact H | (rw [hy559]; exact H) | exact H
             have Ny559 := Aside0.mk hy559; clear hy559
             by_cases c33 : a1 < (l0_1.length : Int)
             ·rw [if_pos c33] at H; have c33b0 : decide (a1 < (l0_1.length : Int)) = true := decide_eq_true c33; clear c33; replace H := Option.bind_eq_some_iff.mp H; obtain ⟨t563, A340, H⟩ := H; replace H : ((tangramref14_put.f kj16 t563 ((rd_T46 l0_1 a1).f1) a0_0).bind fun t567 => (some (wrap64 (a0_0 + 1), t567, 0))) = some (r1, r2, r3) := H; have A34 := Aside0.mk A340; clear A340; replace H := Option.bind_eq_some_iff.mp H; obtain ⟨t567, A350, H⟩ := H; replace H : (some (wrap64 (a0_0 + 1), t567, 0)) = some (r1, r2, r3) := H; have A35 := Aside0.mk A350; clear A350; simp only [Option.some.injEq, Prod.mk.injEq] at H; obtain ⟨rfl, rfl, rfl⟩ := H; have hnb36 := NB545_546.out; have hnc36 := NB546_545.out; have hcz37_0 : wc.cell? ⟨gb545, 0, none⟩ = some (.int .i64 a0_0) := bc BK545 0; have hcz37_1 : wc.cell? ⟨gb545, 1, none⟩ = some (.slice A0_1 l0_1.length c0_1) := bc BK545 1; have hfz37_0 := blk_frozen BK545.out 0; have hfz37_1 := blk_frozen BK545.out 1; have q38 : (a1 : Int) ≤ ((l0_1.length : Int) : Int) := of_decide_eq_true (by first | (with_reducible assumption) | assumption); obtain ⟨i038, hi038, _, hsz38, _⟩ := info_parts info46; have hroom38 : l0_1.length ≤ c0_1 := HC0_1.out; have hC38 : Kd.C k46 _ A0_1 l0_1.length l0_1 := HR0_1.out; have hcut38 := cut_to (P := Try.prog) 23 46 .i64 Try.underlying23 hi038 A0_1 l0_1.length c0_1 a1 (of_decide_eq_true (by first | (with_reducible assumption) | assumption)) q38 hroom38; have hr38 := Kd.C_take (m := (a1 : Int).toNat) hC38 (by omega)
              have hy38 : y548.length = (a1 : Int).toNat := (by rw [Ny548.out, List.length_take]; omega); rw [← Ny548.out] at hr38; rw [← hy38] at hcut38; have HR551 := Aside0.mk hr38; have HC551 := Aside0.mk (show y548.length ≤ c0_1 from by omega); clear hr38 hC38 hroom38 hi038 hsz38; have KY38 := Aside0.mk hy38; clear hy38; replace q38 := eq_true q38
              try go_wp2_with (first | ((with_reducible refine gate_callee (f := 41) rfl ?_); refine gl_ (some 35) Try.func41 #[.slice A0_1 y548.length c0_1] ?_; (with_reducible refine (tangramref14_kept.calls _ _ y548 t552 _ ?side1 ?side2 A28.out).mono ?_); (case side1 => repeat (first | exact (Kd.C_below HR551.out HB.out) | (with_reducible refine Kd.C_alloc ?_ _) | (with_reducible refine Kd.C_drewN ?_ _) | (with_reducible refine Kd.C_drew ?_))); (case side2 => exact HC551.out); rintro e w39 ⟨v553, rfl, ho0, hb⟩; refine ⟨_, rfl, ?_⟩; have HO554 := Aside0.mk (Kd.R_lower ho0 (below_size (hb2 HB GE545 GE546))); replace BK545 := kx BK545 hb; replace BK546 := kx BK546 hb; replace HB := hs (hb2 HB GE545 GE546) hb; (try clear hb); (try clear hb2); (try clear hk); (try clear hi); (try clear ho0); have hcz40_0 : w39.cell? ⟨gb545, 0, none⟩ = some (.int .i64 a0_0) := bc BK545 0; have hcz40_1 : w39.cell? ⟨gb545, 1, none⟩ = some (.slice A0_1 l0_1.length c0_1) := bc BK545 1; have hfz40_0 := blk_frozen BK545.out 0; have hfz40_1 := blk_frozen BK545.out 1; have q41 : ((ji29) : Int) ≤ ((l0_1.length : Int) : Int) := of_decide_eq_true (by first | (with_reducible assumption) | assumption); obtain ⟨i041, hi041, _, hsz41, _⟩ := info_parts info46; have hroom41 : l0_1.length ≤ c0_1 := HC0_1.out; have hC41 : Kd.C k46 _ A0_1 l0_1.length l0_1 := HR0_1.out; have q041 : (0 : Int) ≤ ((ji29) : Int) := of_decide_eq_true (by first | (with_reducible assumption) | assumption); have hcut41 := cut_from (P := Try.prog) 23 46 .i64 Try.underlying23 hi041 2 hsz41 A0_1 l0_1.length c0_1 (ji29) q041 q41; have hr41 := Kd.C_drop (m := ((ji29) : Int).toNat) (c := c0_1) hC41 (by omega) hroom41; obtain ⟨A41, hA41⟩ : ∃ A1, A1 = (if c0_1 = ((ji29) : Int).toNat then A0_1 else (A0_1 : Option Addr).map (·.add (((ji29) : Int).toNat * 2))) := ⟨_, rfl⟩; obtain ⟨c41, hc41⟩ : ∃ c1, c1 = c0_1 - ((ji29) : Int).toNat := ⟨_, rfl⟩; have hy41 : y555.length = l0_1.length - ((ji29) : Int).toNat := (by rw [Ny555.out, List.length_drop] <;> omega); rw [show (l0_1).drop ((ji29) : Int).toNat = y555 from Ny555.out.symm] at hr41; replace hr41 : Kd.C k46 _ A41 y555.length y555 := (by rw [hA41]; exact hr41); rw [← hy41, ← hA41, ← hc41] at hcut41; have HR558 := Aside0.mk hr41; have HC558 := Aside0.mk (show y555.length ≤ c41 from by rw [hy41, hc41]; exact Nat.sub_le_sub_right hroom41 _); clear hr41 hC41 hroom41 hi041 hsz41 hc41; have KY41 := Aside0.mk hy41; have KA41 := Aside0.mk hA41; clear hy41 hA41; replace q41 := eq_true q41) | ((with_reducible refine gate_builtin (b := .append) (xs := #[.tmp 36, .tmp 41]) rfl ?_); (try (refine gate_guard (by rfl) ?_; dsimp only)); at_builtin; refine Kd.R_append_rows k46 (w0 := w) w.heap.size rfl (.tmp 36) (.tmp 41) 23 46 (.agg #[(.int .i64 0), (.int .i64 0)]) 16 rfl Try.underlying23 info46 rfl (by decide) (by omega) v553 t552 y555 _ _ _ (fun _ => True) (fun _ => False) rfl rfl ?aO ?aR (fun _ _ h => h) (fun _ h => h.elim) ?aF ?aB ?aS ?aL ?_; (case aR => repeat (first | exact (Kd.C_below HR558.out HB.out) | (with_reducible refine Kd.C_alloc ?_ _) | (with_reducible refine Kd.C_drewN ?_ _) | (with_reducible refine Kd.C_drew ?_))); (case aB => exact (hb2 HB GE545 GE546)); (case aF => exact (fun _ _ => trivial)); (case aO => exact (rx HO554)); (case aS => exact (below_size (hb2 HB GE545 GE546))); (case aL => have := LMc32.out; omega); intro v560 w42 ho hb hg hat; rw [← Ny559.out] at ho; have n0_ := Aside0.mk (blk_grown (bx BK545) hg (Kd.R_ne HO554.out BK545.out (by decide))); have n1_ := Aside0.mk (blk_grown (bx BK546) hg (Kd.R_ne HO554.out BK546.out (by decide))); have n2_ := Aside0.mk (hb); have n3_ := Aside0.mk (ho); clear BK545; clear BK546; clear HB; clear HO554; have BK545 := n0_; have BK546 := n1_; have HB := n2_; have HO561 := n3_; clear n0_ n1_ n2_ n3_; clear ho hb hg hat))
              replace HO561 := rd HO561; replace BK545 := bd BK545; replace BK546 := bd BK546; replace HB := Aside0.mk (below_drew1 HB.out); have p562 : 0 ≤ (a1 : Int) := of_decide_eq_true (by first | (with_reducible assumption) | assumption); have q562 : a1 < (l0_1.length : Int) := of_decide_eq_true (by first | (with_reducible assumption) | assumption); obtain ⟨ad562, e562, hx562_0, hx562_1⟩ := at_T46 HR0_1.out a1 p562 q562; have hw562_1 := hx562_1; have hw562_0 := hx562_0
              cases e562
              replace hx562_0 := (HB.out.cell (World.block_lt_of_cell? w _ hx562_0)).trans hx562_0; replace hx562_1 := (HB.out.cell (World.block_lt_of_cell? w _ hx562_1)).trans hx562_1; replace p562 := eq_true p562; replace q562 := eq_true q562; obtain ⟨Ao44, co44, eo44⟩ := Kd.R_slice HO561.out
              (first | subst eo44 | obtain ⟨rfl, rfl⟩ := sx eo44)
              refine start_ (n := 11) (S := fun w' => w'.cell? ⟨gb545, 0, none⟩ = some (.int .i64 a0_0) ∧ w'.cell? ⟨gb545, 1, none⟩ = some (.slice (some ad562) l0_1.length c0_1) ∧ w'.cell? (ad562.add ((a1).toNat * 2)) = some (.int .i64 ((rd_T46 l0_1 a1).f0)) ∧ w'.cell? ⟨(ad562.add ((a1).toNat * 2)).block, (ad562.add ((a1).toNat * 2)).off + 1, none⟩ = some (.int .i64 ((rd_T46 l0_1 a1).f1))) (ds := []) (pf 0 11) (by kernel_rfl) rfl rfl ⟨bc BK545 0, bc BK545 1, ((HB.out.cell (World.block_lt_of_cell? w _ hw562_0)).trans hw562_0), ((HB.out.cell (World.block_lt_of_cell? w _ hw562_1)).trans hw562_1)⟩ (fun hHeld => ?_); refine with_tabW tangramref14_Divide.tab9 tangramref14_Divide.bits9 (fun HT_ HW_ => ?_); generalize w42.drew = w43 at HO561 BK545 BK546 HB hx562_0 hx562_1 hHeld ⊢; refine pu_ 0 (some 43) (pf 1 11) HT_ ?_; refine pu_ 1 (some 44) (pf 2 11) HT_ ?_; refine pu_ 3 (some 46) #[T_,T_,F_,T_,F_,F_,F_,F_,F_,F_,F_] HT_ ?_; refine pu_ 7 (some 50) #[T_,T_,F_,T_,F_,F_,F_,T_,F_,F_,F_] HT_ ?_; refine tk4_ 2 (some 45) #[T_,T_,T_,T_,F_,F_,F_,T_,F_,F_,F_] HT_ HW_ hHeld ?_; refine pu_ 4 (some 47) #[T_,T_,T_,T_,T_,F_,F_,T_,F_,F_,F_] HT_ ?_; refine pu_ 5 (some 48) #[T_,T_,T_,T_,T_,T_,F_,T_,F_,F_,F_] HT_ ?_; refine tk4_ 6 (some 49) (pf 8 11) HT_ HW_ hHeld ?_; refine tk4_ 8 (some 51) (pf 9 11) HT_ HW_ hHeld ?_; refine on_ 9 (some 52) (pf 10 11) HT_ (fun K hK => ?_)
              refine gs_ Try.func48 #[.slice Ao44 y559.length co44, .int .i64 ((rd_T46 l0_1 a1).f0), .int .i64 a0_0] ?_
              with_reducible refine (tangramref14_put.calls kj16 (fun k_ => some k_ = (.slice Ao44 y559.length co44 : Value).ownBlock) (.slice Ao44 y559.length co44) y559 ((rd_T46 l0_1 a1).f0) a0_0 t563 w _ ?side1 ?side2 A34.out).mono ?_
              (case side1 => repeat (first | (with_reducible first | exact HB.out | apply below_alloc | apply pw_below_drewN | apply below_drew1 | refine below_set ?_ GE545.out | refine below_set ?_ GE546.out) | exact HB.out))
              (case side2 => exact Kd.R_tight rfl HO561.out)
              rintro e w45 ⟨v564, rfl, ho0, hb, hkp⟩; refine ⟨_, rfl, ?_⟩; have n0_ := Aside0.mk (blk_kept (bx BK545) hkp (fun hs_ => (fun e_ => (Kd.R_ne HO561.out BK545.out (by decide)) e_) hs_)); have n1_ := Aside0.mk (blk_kept (bx BK546) hkp (fun hs_ => (fun e_ => (Kd.R_ne HO561.out BK546.out (by decide)) e_) hs_)); have n2_ := Aside0.mk (Kd.R_mono (ok' := fun k_ => True) ho0 (fun k_ hk_ => trivial)); have n3_ := Aside0.mk (hb); clear BK545 BK546 HB HO561; have BK545 := n0_; have BK546 := n1_; have HO565 := n2_; have HB := n3_; clear n0_ n1_ n2_ n3_
              (try clear hb)
              (try clear hkp)
              (try clear ho0)
              refine hK.out _ _ ⟨bc BK545 0, bc BK545 1, ((HB.out.cell (World.block_lt_of_cell? w _ hw562_0)).trans hw562_0), ((HB.out.cell (World.block_lt_of_cell? w _ hw562_1)).trans hw562_1)⟩ (fun hHeld => ?_); clear hK K; refine nm_ (some 52) ?_; refine pu_ 10 (some 6) (pf 11 11) HT_ ?_; refine done_ (done_of HT_.out (by kernel_rfl)) ?_
              try go_wp2
              replace HO565 := rd HO565; replace BK545 := bd BK545; replace BK546 := bd BK546; replace HB := Aside0.mk (below_drew1 HB.out); have p566 : 0 ≤ (a1 : Int) := of_decide_eq_true (by first | (with_reducible assumption) | assumption); have q566 : a1 < (l0_1.length : Int) := of_decide_eq_true (by first | (with_reducible assumption) | assumption); obtain ⟨ad566, e566, hx566_0, hx566_1⟩ := at_T46 HR0_1.out a1 p566 q566; have hw566_1 := hx566_1; have hw566_0 := hx566_0; obtain rfl : ad562 = ad566 := (by injection e566); replace hx566_0 := (HB.out.cell (World.block_lt_of_cell? w _ hx566_0)).trans hx566_0; replace hx566_1 := (HB.out.cell (World.block_lt_of_cell? w _ hx566_1)).trans hx566_1; replace p566 := eq_true p566; replace q566 := eq_true q566; obtain ⟨Ao47, co47, eo47⟩ := Kd.R_slice HO565.out
              (first | subst eo47 | obtain ⟨rfl, rfl⟩ := sx eo47)
              refine start_ (n := 11) (S := fun w' => w'.cell? ⟨gb545, 0, none⟩ = some (.int .i64 a0_0) ∧ w'.cell? ⟨gb545, 1, none⟩ = some (.slice (some ad562) l0_1.length c0_1) ∧ w'.cell? (ad562.add ((a1).toNat * 2)) = some (.int .i64 ((rd_T46 l0_1 a1).f0)) ∧ w'.cell? ⟨(ad562.add ((a1).toNat * 2)).block, (ad562.add ((a1).toNat * 2)).off + 1, none⟩ = some (.int .i64 ((rd_T46 l0_1 a1).f1))) (ds := []) (pf 0 11) (by kernel_rfl) rfl rfl ⟨bc BK545 0, bc BK545 1, ((HB.out.cell (World.block_lt_of_cell? w _ hw566_0)).trans hw566_0), ((HB.out.cell (World.block_lt_of_cell? w _ hw566_1)).trans hw566_1)⟩ (fun hHeld => ?_); refine with_tabW tangramref14_Divide.tab10 tangramref14_Divide.bits10 (fun HT_ HW_ => ?_); generalize w45.drew = w46 at HO565 BK545 BK546 HB hx566_0 hx566_1 hHeld ⊢; refine pu_ 0 (some 53) (pf 1 11) HT_ ?_; refine pu_ 1 (some 54) (pf 2 11) HT_ ?_; refine pu_ 3 (some 56) #[T_,T_,F_,T_,F_,F_,F_,F_,F_,F_,F_] HT_ ?_; refine pu_ 7 (some 60) #[T_,T_,F_,T_,F_,F_,F_,T_,F_,F_,F_] HT_ ?_; refine tk4_ 2 (some 55) #[T_,T_,T_,T_,F_,F_,F_,T_,F_,F_,F_] HT_ HW_ hHeld ?_; refine pu_ 4 (some 57) #[T_,T_,T_,T_,T_,F_,F_,T_,F_,F_,F_] HT_ ?_; refine pu_ 5 (some 58) #[T_,T_,T_,T_,T_,T_,F_,T_,F_,F_,F_] HT_ ?_; refine tk4_ 6 (some 59) (pf 8 11) HT_ HW_ hHeld ?_; refine tk4_ 8 (some 61) (pf 9 11) HT_ HW_ hHeld ?_; refine on_ 9 (some 62) (pf 10 11) HT_ (fun K hK => ?_)
              refine gs_ Try.func48 #[.slice Ao47 t563.length co47, .int .i64 ((rd_T46 l0_1 a1).f1), .int .i64 a0_0] ?_
              with_reducible refine (tangramref14_put.calls kj16 (fun k_ => some k_ = (.slice Ao47 t563.length co47 : Value).ownBlock) (.slice Ao47 t563.length co47) t563 ((rd_T46 l0_1 a1).f1) a0_0 t567 w _ ?side1 ?side2 A35.out).mono ?_
              (case side1 => repeat (first | (with_reducible first | exact HB.out | apply below_alloc | apply pw_below_drewN | apply below_drew1 | refine below_set ?_ GE545.out | refine below_set ?_ GE546.out) | exact HB.out))
              (case side2 => exact Kd.R_tight rfl HO565.out)
              rintro e w48 ⟨v568, rfl, ho0, hb, hkp⟩; refine ⟨_, rfl, ?_⟩; have n0_ := Aside0.mk (blk_kept (bx BK545) hkp (fun hs_ => (fun e_ => (Kd.R_ne HO565.out BK545.out (by decide)) e_) hs_)); have n1_ := Aside0.mk (blk_kept (bx BK546) hkp (fun hs_ => (fun e_ => (Kd.R_ne HO565.out BK546.out (by decide)) e_) hs_)); have n2_ := Aside0.mk (Kd.R_mono (ok' := fun k_ => True) ho0 (fun k_ hk_ => trivial)); have n3_ := Aside0.mk (hb); clear BK545 BK546 HB HO565; have BK545 := n0_; have BK546 := n1_; have HO569 := n2_; have HB := n3_; clear n0_ n1_ n2_ n3_
              (try clear hb)
              (try clear hkp)
              (try clear ho0)
              refine hK.out _ _ ⟨bc BK545 0, bc BK545 1, ((HB.out.cell (World.block_lt_of_cell? w _ hw566_0)).trans hw566_0), ((HB.out.cell (World.block_lt_of_cell? w _ hw566_1)).trans hw566_1)⟩ (fun hHeld => ?_); clear hK K; refine nm_ (some 62) ?_; refine pu_ 10 (some 6) (pf 11 11) HT_ ?_; refine done_ (done_of HT_.out (by kernel_rfl)) ?_; have hcz49_0 : w48.cell? ⟨gb545, 0, none⟩ = some (.int .i64 a0_0) := bc BK545 0; have hcz49_1 : w48.cell? ⟨gb545, 1, none⟩ = some (.slice (some ad562) l0_1.length c0_1) := bc BK545 1; have hfz49_0 := blk_frozen BK545.out 0; have hfz49_1 := blk_frozen BK545.out 1; obtain ⟨Ao50, co50, eo50⟩ := Kd.R_slice HO569.out; subst eo50; have hcz51_0 : w48.cell? ⟨gb546, 0, none⟩ = some (.int .i64 0) := bc BK546 0; have hcz51_1 : w48.cell? ⟨gb546, 1, none⟩ = some (.slice none 0 0) := bc BK546 1; have hfz51_0 := blk_frozen BK546.out 0; have hfz51_1 := blk_frozen BK546.out 1
              try go_wp2
              refine bodyPost_ret (results_ct rfl _ _ gb546 25 #[.int .i64 (wrap64 (a0_0 + 1)), .slice Ao50 t567.length co50] (0, 0) _ rfl (bp BK546) Try.underlying25 rfl (by kernel_rfl)) rfl ?_; exact ⟨_, by first | rfl | (simp [errW_none, errW_some] <;> rfl) | (simp only [← hji29]; first | rfl | (simp [errW_none, errW_some] <;> rfl)) | (simp [*, errW_none, errW_some] <;> rfl), Kd.R_mono (rf HO569 BK546) (fun _ hk => trivial), hb2 HB GE545 GE546⟩
             ·rw [if_neg c33] at H; exact absurd H (by simp)
            ·rw [if_neg c32] at H; exact absurd H (by simp)
           ·rw [if_neg c31] at H; exact absurd H (by simp)
          ·rw [if_neg c30] at H; exact absurd H (by simp)
         ·rw [if_neg c27] at H; exact absurd H (by simp)
        ·rw [if_neg c26] at H; exact absurd H (by simp)
 ·replace c4 := Bool.eq_false_iff.mpr c4; subst c4; have H1 : (some (0, ([] : List (S46)), 1)) = some (r1, r2, r3) := by rw [if_neg (show ¬ (false = true) by decide)] at H; exact H
  clear H; have H := H1; clear H1; simp only [Option.some.injEq, Prod.mk.injEq] at H; obtain ⟨rfl, rfl, rfl⟩ := H
  go_enter Try.func32, Try.ntmps32
  go_wp2_with (first | ((with_reducible refine gate_dst (N := 2) rfl ?_); (try (refine gate_guard (by rfl) ?_; dsimp only)); refine be_ 2 #[.int .i64 a0_0, .slice A0_1 l0_1.length c0_1] 25 ?_; intro gb545 hg w52 hbox hb; have BK545 := Aside0.mk (hbox); have GW545 := wq (hb0 HB) hg; have GE545 := wq (hb0 HB) hg; replace HB := hs (hb0 HB) hb; clear hb hbox hg) | ((with_reducible refine gate_dst (N := 4) rfl ?_); (try (refine gate_guard (by rfl) ?_; dsimp only)); refine be_ 4 #[.int .i64 0, .slice none 0 0] 25 ?_; intro gb546 hg w53 hbox hb; have BK546 := Aside0.mk (hbox); have GW546 := wq (hb1 HB GE545) hg; have GE546 := wq (hb1 HB GE545) hg; replace HB := hs (hb1 HB GE545) hb; have NB545_546 := lx BK545 hg; have NB546_545 := gx BK545 hg; replace BK545 := kx BK545 hb; clear hb hbox hg; have hnb54 := NB545_546.out; have hnc54 := NB546_545.out; have hcz55_0 : w53.cell? ⟨gb545, 0, none⟩ = some (.int .i64 a0_0) := bc BK545 0; have hcz55_1 : w53.cell? ⟨gb545, 1, none⟩ = some (.slice A0_1 l0_1.length c0_1) := bc BK545 1; have hfz55_0 := blk_frozen BK545.out 0; have hfz55_1 := blk_frozen BK545.out 1) | ((with_reducible refine gate_callee (f := 11) rfl ?_); refine gl_ (some 8) Try.func11 #[.agg #[.int .i64 a0_0, .slice A0_1 l0_1.length c0_1]] ?_; (with_reducible refine (tangramref03_Valid.calls k a0_0 _ _ l0_1 false _ ?side1 ?side2 A3.out).mono ?_); (case side1 => repeat (first | exact (Kd.C_below HR0_1.out HB.out) | (with_reducible refine Kd.C_alloc ?_ _) | (with_reducible refine Kd.C_drewN ?_ _) | (with_reducible refine Kd.C_drew ?_))); (case side2 => exact HC0_1.out); rintro e w56 ⟨rfl, hb⟩; refine ⟨_, rfl, ?_⟩; replace BK545 := kx BK545 hb; replace BK546 := kx BK546 hb; replace HB := hs (hb2 HB GE545 GE546) hb; (try clear hb); (try clear hb2); (try clear hk); (try clear hi); have hcz57_0 : w56.cell? ⟨gb546, 0, none⟩ = some (.int .i64 0) := bc BK546 0; have hcz57_1 : w56.cell? ⟨gb546, 1, none⟩ = some (.slice none 0 0) := bc BK546 1; have hfz57_0 := blk_frozen BK546.out 0; have hfz57_1 := blk_frozen BK546.out 1))
  refine bodyPost_ret (results_ct rfl _ _ gb546 25 #[.int .i64 0, .slice none 0 0] (0, 0) _ rfl (bp BK546) Try.underlying25 rfl (by kernel_rfl)) rfl ?_; exact ⟨_, by first | rfl | (simp [errW_none, errW_some] <;> rfl) | (simp [*, errW_none, errW_some] <;> rfl), by first | exact Kd.R_nil _ _ _ _ _ | exact Kd.N_nil _ _ _ _ _ | exact Kd.V_nil _ _ _ _ _ | exact Kd.Q_nil _ _ _ _ _ | exact Kd.S_nil _ _ _ _ _, hb2 HB GE545 GE546⟩

end Go.Proofs.Ytdaeaejmikhmcaa.PEditC
