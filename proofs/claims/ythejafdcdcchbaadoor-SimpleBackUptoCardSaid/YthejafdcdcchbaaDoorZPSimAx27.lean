import Derived.Test.YthejafdcdcchbaaDoorZPSimAx0
import Derived.Test.YthejafdcdcchbaaDoorZPSimAx17
import Derived.Test.YthejafdcdcchbaaDoorZPSimAx8
-- PRINTED by print.py (a twelfth state) out of the translation. Not trusted: Lean checks it.
namespace Go.Proofs.YthejafdcdcchbaaDoor.PSimA
open Go.RowKit Go.Proofs.YthejafdcdcchbaaDoorW.PrintWords Go.Proofs.YthejafdcdcchbaaDoorW.PrintLast Go.Proofs.YthejafdcdcchbaaDoorW.PrintMore
open Go.Proofs.YthejafdcdcchbaaDoorX
attribute [local go_sem] max2_int min2_int max_two min_two max_three min_three max_four min_four   -- for this text's walks alone
set_option linter.unusedVariables false
set_option linter.unusedSimpArgs false

/-! ### tangramref03_Equal: function 15 -/
mutual
def tangramref03_Equal.j0 : Nat → Bool → Int → List (S42) → Int → List (S42) → Option (Bool)
 | 0, _, _, _, _, _ => none
 | k + 1, x19, x267000, x267001, x268000, x268001 => if x19 = true then (some false) else (tangramref03_Equal.l0 k 0 x267000 x267001 x268000 x268001)
def tangramref03_Equal.l0 : Nat → Int → Int → List (S42) → Int → List (S42) → Option (Bool)
 | 0, _, _, _, _, _ => none
 | k + 1, x5, x267000, x267001, x268000, x268001 => if x5 < (x267001.length : Int) then (if 0 ≤ x5 then (if x5 < (x268001.length : Int) then (if ((rd_T42 x267001 x5).f0) = ((rd_T42 x268001 x5).f0) then (if ((rd_T42 x267001 x5).f1) = ((rd_T42 x268001 x5).f1) then (tangramref03_Equal.l0 k (wrap64 (x5 + 1)) x267000 x267001 x268000 x268001) else (some false)) else (some false)) else (none)) else (none)) else (some true)
end
def tangramref03_Equal.f (k : Nat) (a0_0 : Int) (l0_1 : List (S42)) (a1_0 : Int) (l1_1 : List (S42)) : Option (Bool) := if a0_0 = a1_0 then (tangramref03_Equal.j0 k ((l0_1.length : Int) != (l1_1.length : Int)) a0_0 l0_1 a1_0 l1_1) else (tangramref03_Equal.j0 k true a0_0 l0_1 a1_0 l1_1)
theorem tangramref03_Equal.mono_l : ∀ k, (∀ y0 y1 y2 y3 y4, LeO (tangramref03_Equal.j0 k y0 y1 y2 y3 y4) (tangramref03_Equal.j0 (k + 1) y0 y1 y2 y3 y4)) ∧ (∀ y0 y1 y2 y3 y4, LeO (tangramref03_Equal.l0 k y0 y1 y2 y3 y4) (tangramref03_Equal.l0 (k + 1) y0 y1 y2 y3 y4))
 | 0 => ⟨fun _ _ _ _ _ r h => by simp [tangramref03_Equal.j0] at h, fun _ _ _ _ _ r h => by simp [tangramref03_Equal.l0] at h⟩
 | k + 1 => by
  obtain ⟨ih0, ih1⟩ := tangramref03_Equal.mono_l k; refine ⟨?_, ?_⟩
  ·intro y0 y1 y2 y3 y4
   unfold tangramref03_Equal.j0
   repeat' first
   | (with_reducible exact ih0 _ _ _ _ _)
   | (with_reducible exact ih1 _ _ _ _ _)
   | (with_reducible exact LeO.refl _)
   | (with_reducible exact LeO.none _)
   | (with_reducible refine LeO.ite ?_ ?_)
   | (with_reducible refine LeO.bind ?_ (fun _ => ?_))
   | exact ih0 _ _ _ _ _
   | exact ih1 _ _ _ _ _
   | exact LeO.none _
   | refine LeO.ite ?_ ?_
   | refine LeO.bind ?_ (fun _ => ?_)
  ·intro y0 y1 y2 y3 y4
   unfold tangramref03_Equal.l0
   repeat' first
   | (with_reducible exact ih0 _ _ _ _ _)
   | (with_reducible exact ih1 _ _ _ _ _)
   | (with_reducible exact LeO.refl _)
   | (with_reducible exact LeO.none _)
   | (with_reducible refine LeO.ite ?_ ?_)
   | (with_reducible refine LeO.bind ?_ (fun _ => ?_))
   | exact ih0 _ _ _ _ _
   | exact ih1 _ _ _ _ _
   | exact LeO.none _
   | refine LeO.ite ?_ ?_
   | refine LeO.bind ?_ (fun _ => ?_)
theorem tangramref03_Equal.mono : ∀ a0 a1 a2 a3 k, LeO (tangramref03_Equal.f k a0 a1 a2 a3) (tangramref03_Equal.f (k + 1) a0 a1 a2 a3) := by
 intro a0 a1 a2 a3 k; obtain ⟨ih0, ih1⟩ := tangramref03_Equal.mono_l k
 unfold tangramref03_Equal.f
 repeat' first
   | (with_reducible exact ih0 _ _ _ _ _)
   | (with_reducible exact ih1 _ _ _ _ _)
   | (with_reducible exact LeO.refl _)
   | (with_reducible exact LeO.none _)
   | (with_reducible refine LeO.ite ?_ ?_)
   | (with_reducible refine LeO.bind ?_ (fun _ => ?_))
   | exact ih0 _ _ _ _ _
   | exact ih1 _ _ _ _ _
   | exact LeO.none _
   | refine LeO.ite ?_ ?_
   | refine LeO.bind ?_ (fun _ => ?_)
set_option maxHeartbeats 8000000 in
set_option maxRecDepth 100000 in
theorem tangramref03_Equal.calls (k : Nat) (a0_0 : Int) (A0_1 : Option Addr) (c0_1 : Nat) (l0_1 : List (S42)) (a1_0 : Int) (A1_1 : Option Addr) (c1_1 : Nat) (l1_1 : List (S42)) (r : Bool) (w : World) (hr0_1 : Kd.C k42 w A0_1 l0_1.length l0_1) (hc0_1 : l0_1.length ≤ c0_1) (hr1_1 : Kd.C k42 w A1_1 l1_1.length l1_1) (hc1_1 : l1_1.length ≤ c1_1) (h : tangramref03_Equal.f k a0_0 l0_1 a1_0 l1_1 = some r) :
  Calls Tryd.prog 15 #[.agg #[.int .i64 a0_0, .slice A0_1 l0_1.length c0_1], .agg #[.int .i64 a1_0, .slice A1_1 l1_1.length c1_1]] w fun e w' => e = .returned (.bool r) ∧ Below w.heap.size w w' := by
 have hu26 := Tryd.underlying26; have HR0_1 := Aside0.mk hr0_1; have HC0_1 := Aside0.mk hc0_1; clear hr0_1 hc0_1; have HR1_1 := Aside0.mk hr1_1; have HC1_1 := Aside0.mk hc1_1; clear hr1_1 hc1_1; have HB := Aside0.mk (Below.refl w.heap.size w); have H : (if a0_0 = a1_0 then (tangramref03_Equal.j0 k ((l0_1.length : Int) != (l1_1.length : Int)) a0_0 l0_1 a1_0 l1_1) else (tangramref03_Equal.j0 k true a0_0 l0_1 a1_0 l1_1)) = some r := h; clear h; have HC3 := Aside0.mk H; clear H
 go_enter Tryd.func15, Tryd.ntmps15
 go_upto_region 1 with (first | ((with_reducible refine gate_dst (N := 2) rfl ?_); (try (refine gate_guard (by rfl) ?_; dsimp only)); refine be_ 2 #[.int .i64 a0_0, .slice A0_1 l0_1.length c0_1] 26 ?_; intro gb266 hg w4 hbox hb; have BK266 := Aside0.mk (hbox); have GW266 := wq (hb0 HB) hg; have GE266 := wq (hb0 HB) hg; replace HB := hs (hb0 HB) hb; clear hb hbox hg) | ((with_reducible refine gate_dst (N := 3) rfl ?_); (try (refine gate_guard (by rfl) ?_; dsimp only)); refine be_ 3 #[.int .i64 a1_0, .slice A1_1 l1_1.length c1_1] 26 ?_; intro gb267 hg w5 hbox hb; have BK267 := Aside0.mk (hbox); have GW267 := wq (hb1 HB GE266) hg; have GE267 := wq (hb1 HB GE266) hg; replace HB := hs (hb1 HB GE266) hb; have NB266_267 := lx BK266 hg; have NB267_266 := gx BK266 hg; replace BK266 := kx BK266 hb; clear hb hbox hg))
 repeat (go_quiet (first | ((with_reducible refine gate_dst (N := 2) rfl ?_); (try (refine gate_guard (by rfl) ?_; dsimp only)); refine be_ 2 #[.int .i64 a0_0, .slice A0_1 l0_1.length c0_1] 26 ?_; intro gb266 hg w4 hbox hb; have BK266 := Aside0.mk (hbox); have GW266 := wq (hb0 HB) hg; have GE266 := wq (hb0 HB) hg; replace HB := hs (hb0 HB) hb; clear hb hbox hg) | ((with_reducible refine gate_dst (N := 3) rfl ?_); (try (refine gate_guard (by rfl) ?_; dsimp only)); refine be_ 3 #[.int .i64 a1_0, .slice A1_1 l1_1.length c1_1] 26 ?_; intro gb267 hg w5 hbox hb; have BK267 := Aside0.mk (hbox); have GW267 := wq (hb1 HB GE266) hg; have GE267 := wq (hb1 HB GE266) hg; replace HB := hs (hb1 HB GE266) hb; have NB266_267 := lx BK266 hg; have NB267_266 := gx BK266 hg; replace BK266 := kx BK266 hb; clear hb hbox hg)); go_upto_region 1 with (first | ((with_reducible refine gate_dst (N := 2) rfl ?_); (try (refine gate_guard (by rfl) ?_; dsimp only)); refine be_ 2 #[.int .i64 a0_0, .slice A0_1 l0_1.length c0_1] 26 ?_; intro gb266 hg w4 hbox hb; have BK266 := Aside0.mk (hbox); have GW266 := wq (hb0 HB) hg; have GE266 := wq (hb0 HB) hg; replace HB := hs (hb0 HB) hb; clear hb hbox hg) | ((with_reducible refine gate_dst (N := 3) rfl ?_); (try (refine gate_guard (by rfl) ?_; dsimp only)); refine be_ 3 #[.int .i64 a1_0, .slice A1_1 l1_1.length c1_1] 26 ?_; intro gb267 hg w5 hbox hb; have BK267 := Aside0.mk (hbox); have GW267 := wq (hb1 HB GE266) hg; have GE267 := wq (hb1 HB GE266) hg; replace HB := hs (hb1 HB GE266) hb; have NB266_267 := lx BK266 hg; have NB267_266 := gx BK266 hg; replace BK266 := kx BK266 hb; clear hb hbox hg)))
 (try simp only [Act.put, List.setIfInBounds_toArray, List.set_cons_zero, List.set_cons_succ])
 go_cut [19] (fun v19 wc => ∃ (kq : Nat) (x19_2 : Bool), v19 = .bool x19_2 ∧ Aside0 (tangramref03_Equal.j0 kq x19_2 a0_0 l0_1 a1_0 l1_1 = some r) ∧ Aside0 (kq ≤ k) ∧ Aside0 (wc.heap[gb266]? = some (.cells #[.int .i64 a0_0, (.slice A0_1 l0_1.length c0_1)] 26 (0, 0))) ∧ Aside0 (wc.heap[gb267]? = some (.cells #[.int .i64 a1_0, (.slice A1_1 l1_1.length c1_1)] 26 (0, 0))) ∧ Aside0 (Below w.heap.size w wc))
 case first => as_aux_lemma =>
  have H := HC3.out; clear HC3
  by_cases c6 : a0_0 = a1_0
  ·rw [if_pos c6] at H; have c6b0 : (a0_0 == a1_0) = true := beq_iff_eq.mpr c6; have c6b1 : (a0_0 != a1_0) = false := bne_eq_false_iff_eq.mpr c6; clear c6
   (first | rw [c6b0] | (simp only [i64_w, i32_w]; rw [c6b0]) | skip)
   have H' := Aside0.mk H; clear H; have hnb7 := NB266_267.out; have hnc7 := NB267_266.out; have hcz8_0 : w5.cell? ⟨gb266, 0, none⟩ = some (.int .i64 a0_0) := bc BK266 0; have hcz8_1 : w5.cell? ⟨gb266, 1, none⟩ = some (.slice A0_1 l0_1.length c0_1) := bc BK266 1; have hfz8_0 := blk_frozen BK266.out 0; have hfz8_1 := blk_frozen BK266.out 1; have hcz9_0 : w5.cell? ⟨gb267, 0, none⟩ = some (.int .i64 a1_0) := bc BK267 0; have hcz9_1 : w5.cell? ⟨gb267, 1, none⟩ = some (.slice A1_1 l1_1.length c1_1) := bc BK267 1; have hfz9_0 := blk_frozen BK267.out 0; have hfz9_1 := blk_frozen BK267.out 1
   go_wp2
   repeat (go_quiet (fail); try go_wp2)
   go_meet
   case rel => exact ⟨_, (((l0_1.length : Int) != (l1_1.length : Int))), (by first | rfl | (simp; done) | (simp [*]; done)), H', ⟨by first | omega | exact Nat.le_refl _⟩, ⟨bx BK266⟩, ⟨bx BK267⟩, ⟨hb2 HB GE266 GE267⟩⟩
  ·rw [if_neg c6] at H; have c6b0 : (a0_0 == a1_0) = false := beq_eq_false_iff_ne.mpr c6; have c6b1 : (a0_0 != a1_0) = true := bne_iff_ne.mpr c6
   (first | rw [c6b0] | (simp only [i64_w, i32_w]; rw [c6b0]) | skip)
   have H' := Aside0.mk H; clear H; have hnb10 := NB266_267.out; have hnc10 := NB267_266.out; have hcz11_0 : w5.cell? ⟨gb266, 0, none⟩ = some (.int .i64 a0_0) := bc BK266 0; have hcz11_1 : w5.cell? ⟨gb266, 1, none⟩ = some (.slice A0_1 l0_1.length c0_1) := bc BK266 1; have hfz11_0 := blk_frozen BK266.out 0; have hfz11_1 := blk_frozen BK266.out 1; have hcz12_0 : w5.cell? ⟨gb267, 0, none⟩ = some (.int .i64 a1_0) := bc BK267 0; have hcz12_1 : w5.cell? ⟨gb267, 1, none⟩ = some (.slice A1_1 l1_1.length c1_1) := bc BK267 1; have hfz12_0 := blk_frozen BK267.out 0; have hfz12_1 := blk_frozen BK267.out 1
   go_wp2
   repeat (go_quiet (fail); try go_wp2)
   go_meet
   case rel => exact ⟨_, (true), (by first | rfl | (simp; done) | (simp [*]; done)), H', ⟨by first | omega | exact Nat.le_refl _⟩, ⟨bx BK266⟩, ⟨bx BK267⟩, ⟨hb2 HB GE266 GE267⟩⟩
 case rest => as_aux_lemma =>
  clear HC3
  try clear c1
  try clear p2
  try clear c6
  try clear c6b0
  try clear c6b1
  try clear c7
  try clear c10
  try clear hcz11_0
  try clear hcz11_1
  try clear hcz12_0
  try clear hcz12_1
  try clear hcz8_0
  try clear hcz8_1
  try clear hcz9_0
  try clear hcz9_1
  try clear hfz11_0
  try clear hfz11_1
  try clear hfz12_0
  try clear hfz12_1
  try clear hfz8_0
  try clear hfz8_1
  try clear hfz9_0
  try clear hfz9_1
  obtain ⟨kq, x19_2, rfl, HA, HJ2, BK266, BK267, HB⟩ := hcut
  cases kq with
  | zero => exact absurd HA.out (by simp [tangramref03_Equal.j0])
  | succ kj2 =>
   have H := HA.out; clear HA; simp only [tangramref03_Equal.j0] at H
   by_cases c13 : x19_2 = true
   ·subst c13; rw [if_pos rfl] at H; obtain rfl := Option.some.inj H
    go_wp2
    repeat (go_quiet (fail); try go_wp2)
    go_ret
    exact ⟨by first | rfl | (simp [errW_none, errW_some] <;> rfl) | (simp [*, errW_none, errW_some] <;> rfl), hb2 HB GE266 GE267⟩
   ·replace c13 := Bool.eq_false_iff.mpr c13; subst c13; rw [if_neg (show ¬ (false = true) by decide)] at H; have H' := Aside0.mk H; clear H
    go_wp2
    repeat (go_quiet (fail); try go_wp2)
    go_loopg [5] kj2 (fun kq v5 w' => ∃ (x5_2 : Int), v5 = .int .i64 x5_2 ∧ Aside0 (tangramref03_Equal.l0 kq x5_2 a0_0 l0_1 a1_0 l1_1 = some r) ∧ Aside0 (kq ≤ kj2) ∧ Aside0 (w'.heap[gb266]? = some (.cells #[.int .i64 a0_0, (.slice A0_1 l0_1.length c0_1)] 26 (0, 0))) ∧ Aside0 (w'.heap[gb267]? = some (.cells #[.int .i64 a1_0, (.slice A1_1 l1_1.length c1_1)] 26 (0, 0))) ∧ Aside0 (Below w.heap.size w w'))
    case atStart => exact ⟨(0), (by first | rfl | (simp; done) | (simp [*]; done)), H', ⟨Nat.le_refl _⟩, ⟨bx BK266⟩, ⟨bx BK267⟩, ⟨hb2 HB GE266 GE267⟩⟩
    case round =>
     clear H'
     try clear c1
     try clear p2
     try clear c6
     try clear c6b0
     try clear c6b1
     try clear c7
     try clear c10
     try clear c13
     try clear hcz11_0
     try clear hcz11_1
     try clear hcz12_0
     try clear hcz12_1
     try clear hcz8_0
     try clear hcz8_1
     try clear hcz9_0
     try clear hcz9_1
     try clear hfz11_0
     try clear hfz11_1
     try clear hfz12_0
     try clear hfz12_1
     try clear hfz8_0
     try clear hfz8_1
     try clear hfz9_0
     try clear hfz9_1
     try clear p2
     obtain ⟨x5_2, rfl, HA, HK2, BK266, BK267, HB⟩ := hrel
     cases gk with
     | zero => exact absurd HA.out (by simp [tangramref03_Equal.l0])
     | succ k2 =>
      have H := HA.out; clear HA; simp only [tangramref03_Equal.l0] at H
      by_cases c14 : x5_2 < (l0_1.length : Int)
      ·rw [if_pos c14] at H; have c14b0 : decide (x5_2 < (l0_1.length : Int)) = true := decide_eq_true c14; clear c14
       by_cases c15 : 0 ≤ x5_2
       ·rw [if_pos c15] at H; have c15b0 : decide (0 ≤ x5_2) = true := decide_eq_true c15; clear c15
        by_cases c16 : x5_2 < (l1_1.length : Int)
        ·rw [if_pos c16] at H; have c16b0 : decide (x5_2 < (l1_1.length : Int)) = true := decide_eq_true c16; clear c16
         by_cases c17 : ((rd_T42 l0_1 x5_2).f0) = ((rd_T42 l1_1 x5_2).f0)
         ·rw [if_pos c17] at H; have c17b0 : (((rd_T42 l0_1 x5_2).f0) == ((rd_T42 l1_1 x5_2).f0)) = true := beq_iff_eq.mpr c17; have c17b1 : (((rd_T42 l0_1 x5_2).f0) != ((rd_T42 l1_1 x5_2).f0)) = false := bne_eq_false_iff_eq.mpr c17; clear c17
          by_cases c18 : ((rd_T42 l0_1 x5_2).f1) = ((rd_T42 l1_1 x5_2).f1)
          ·rw [if_pos c18] at H; have c18b0 : (((rd_T42 l0_1 x5_2).f1) == ((rd_T42 l1_1 x5_2).f1)) = true := beq_iff_eq.mpr c18; have c18b1 : (((rd_T42 l0_1 x5_2).f1) != ((rd_T42 l1_1 x5_2).f1)) = false := bne_eq_false_iff_eq.mpr c18; clear c18; have H' := Aside0.mk H; clear H; have hnb19 := NB266_267.out; have hnc19 := NB267_266.out; have hcz20_0 : wr.cell? ⟨gb266, 0, none⟩ = some (.int .i64 a0_0) := bc BK266 0; have hcz20_1 : wr.cell? ⟨gb266, 1, none⟩ = some (.slice A0_1 l0_1.length c0_1) := bc BK266 1; have hfz20_0 := blk_frozen BK266.out 0; have hfz20_1 := blk_frozen BK266.out 1; have p268 : 0 ≤ (x5_2 : Int) := of_decide_eq_true (by first | (with_reducible assumption) | assumption); have q268 : x5_2 < (l0_1.length : Int) := of_decide_eq_true (by first | (with_reducible assumption) | assumption); obtain ⟨ad268, e268, hx268_0, hx268_1⟩ := at_T42 HR0_1.out x5_2 p268 q268
           cases e268
           replace hx268_0 := (HB.out.cell (World.block_lt_of_cell? w _ hx268_0)).trans hx268_0; replace hx268_1 := (HB.out.cell (World.block_lt_of_cell? w _ hx268_1)).trans hx268_1; replace p268 := eq_true p268; replace q268 := eq_true q268; have hcz21_0 : wr.cell? ⟨gb267, 0, none⟩ = some (.int .i64 a1_0) := bc BK267 0; have hcz21_1 : wr.cell? ⟨gb267, 1, none⟩ = some (.slice A1_1 l1_1.length c1_1) := bc BK267 1; have hfz21_0 := blk_frozen BK267.out 0; have hfz21_1 := blk_frozen BK267.out 1; have p269 : 0 ≤ (x5_2 : Int) := of_decide_eq_true (by first | (with_reducible assumption) | assumption); have q269 : x5_2 < (l1_1.length : Int) := of_decide_eq_true (by first | (with_reducible assumption) | assumption); obtain ⟨ad269, e269, hx269_0, hx269_1⟩ := at_T42 HR1_1.out x5_2 p269 q269
           cases e269
           replace hx269_0 := (HB.out.cell (World.block_lt_of_cell? w _ hx269_0)).trans hx269_0; replace hx269_1 := (HB.out.cell (World.block_lt_of_cell? w _ hx269_1)).trans hx269_1; replace p269 := eq_true p269; replace q269 := eq_true q269; have p270 : 0 ≤ (x5_2 : Int) := of_decide_eq_true (by first | (with_reducible assumption) | assumption); have q270 : x5_2 < (l0_1.length : Int) := of_decide_eq_true (by first | (with_reducible assumption) | assumption); obtain ⟨ad270, e270, hx270_0, hx270_1⟩ := at_T42 HR0_1.out x5_2 p270 q270; obtain rfl : ad268 = ad270 := (by injection e270); replace hx270_0 := (HB.out.cell (World.block_lt_of_cell? w _ hx270_0)).trans hx270_0; replace hx270_1 := (HB.out.cell (World.block_lt_of_cell? w _ hx270_1)).trans hx270_1; replace p270 := eq_true p270; replace q270 := eq_true q270; have p271 : 0 ≤ (x5_2 : Int) := of_decide_eq_true (by first | (with_reducible assumption) | assumption); have q271 : x5_2 < (l1_1.length : Int) := of_decide_eq_true (by first | (with_reducible assumption) | assumption); obtain ⟨ad271, e271, hx271_0, hx271_1⟩ := at_T42 HR1_1.out x5_2 p271 q271; obtain rfl : ad269 = ad271 := (by injection e271); replace hx271_0 := (HB.out.cell (World.block_lt_of_cell? w _ hx271_0)).trans hx271_0; replace hx271_1 := (HB.out.cell (World.block_lt_of_cell? w _ hx271_1)).trans hx271_1; replace p271 := eq_true p271; replace q271 := eq_true q271
           go_wp2
           repeat (go_quiet (fail); try go_wp2)
           go_roundg k2
           case measure => have := HJ2.out; have := HK2.out; omega
           case rel => exact ⟨(wrap64 (x5_2 + 1)), (by first | rfl | (simp; done) | (simp [*]; done)), H', ⟨by have := HJ2.out; have := HK2.out; omega⟩, ⟨bx BK266⟩, ⟨bx BK267⟩, ⟨hb2 HB GE266 GE267⟩⟩
          ·rw [if_neg c18] at H; have c18b0 : (((rd_T42 l0_1 x5_2).f1) == ((rd_T42 l1_1 x5_2).f1)) = false := beq_eq_false_iff_ne.mpr c18; have c18b1 : (((rd_T42 l0_1 x5_2).f1) != ((rd_T42 l1_1 x5_2).f1)) = true := bne_iff_ne.mpr c18; obtain rfl := Option.some.inj H; have hnb22 := NB266_267.out; have hnc22 := NB267_266.out; have hcz23_0 : wr.cell? ⟨gb266, 0, none⟩ = some (.int .i64 a0_0) := bc BK266 0; have hcz23_1 : wr.cell? ⟨gb266, 1, none⟩ = some (.slice A0_1 l0_1.length c0_1) := bc BK266 1; have hfz23_0 := blk_frozen BK266.out 0; have hfz23_1 := blk_frozen BK266.out 1; have p268 : 0 ≤ (x5_2 : Int) := of_decide_eq_true (by first | (with_reducible assumption) | assumption); have q268 : x5_2 < (l0_1.length : Int) := of_decide_eq_true (by first | (with_reducible assumption) | assumption); obtain ⟨ad268, e268, hx268_0, hx268_1⟩ := at_T42 HR0_1.out x5_2 p268 q268
           cases e268
           replace hx268_0 := (HB.out.cell (World.block_lt_of_cell? w _ hx268_0)).trans hx268_0; replace hx268_1 := (HB.out.cell (World.block_lt_of_cell? w _ hx268_1)).trans hx268_1; replace p268 := eq_true p268; replace q268 := eq_true q268; have hcz24_0 : wr.cell? ⟨gb267, 0, none⟩ = some (.int .i64 a1_0) := bc BK267 0; have hcz24_1 : wr.cell? ⟨gb267, 1, none⟩ = some (.slice A1_1 l1_1.length c1_1) := bc BK267 1; have hfz24_0 := blk_frozen BK267.out 0; have hfz24_1 := blk_frozen BK267.out 1; have p269 : 0 ≤ (x5_2 : Int) := of_decide_eq_true (by first | (with_reducible assumption) | assumption); have q269 : x5_2 < (l1_1.length : Int) := of_decide_eq_true (by first | (with_reducible assumption) | assumption); obtain ⟨ad269, e269, hx269_0, hx269_1⟩ := at_T42 HR1_1.out x5_2 p269 q269
           cases e269
           replace hx269_0 := (HB.out.cell (World.block_lt_of_cell? w _ hx269_0)).trans hx269_0; replace hx269_1 := (HB.out.cell (World.block_lt_of_cell? w _ hx269_1)).trans hx269_1; replace p269 := eq_true p269; replace q269 := eq_true q269; have p270 : 0 ≤ (x5_2 : Int) := of_decide_eq_true (by first | (with_reducible assumption) | assumption); have q270 : x5_2 < (l0_1.length : Int) := of_decide_eq_true (by first | (with_reducible assumption) | assumption); obtain ⟨ad270, e270, hx270_0, hx270_1⟩ := at_T42 HR0_1.out x5_2 p270 q270; obtain rfl : ad268 = ad270 := (by injection e270); replace hx270_0 := (HB.out.cell (World.block_lt_of_cell? w _ hx270_0)).trans hx270_0; replace hx270_1 := (HB.out.cell (World.block_lt_of_cell? w _ hx270_1)).trans hx270_1; replace p270 := eq_true p270; replace q270 := eq_true q270; have p271 : 0 ≤ (x5_2 : Int) := of_decide_eq_true (by first | (with_reducible assumption) | assumption); have q271 : x5_2 < (l1_1.length : Int) := of_decide_eq_true (by first | (with_reducible assumption) | assumption); obtain ⟨ad271, e271, hx271_0, hx271_1⟩ := at_T42 HR1_1.out x5_2 p271 q271; obtain rfl : ad269 = ad271 := (by injection e271); replace hx271_0 := (HB.out.cell (World.block_lt_of_cell? w _ hx271_0)).trans hx271_0; replace hx271_1 := (HB.out.cell (World.block_lt_of_cell? w _ hx271_1)).trans hx271_1; replace p271 := eq_true p271; replace q271 := eq_true q271
           go_wp2
           repeat (go_quiet (fail); try go_wp2)
           go_ret
           exact ⟨by first | rfl | (simp [errW_none, errW_some] <;> rfl) | (simp [*, errW_none, errW_some] <;> rfl), hb2 HB GE266 GE267⟩
         ·rw [if_neg c17] at H; have c17b0 : (((rd_T42 l0_1 x5_2).f0) == ((rd_T42 l1_1 x5_2).f0)) = false := beq_eq_false_iff_ne.mpr c17; have c17b1 : (((rd_T42 l0_1 x5_2).f0) != ((rd_T42 l1_1 x5_2).f0)) = true := bne_iff_ne.mpr c17; obtain rfl := Option.some.inj H; have hnb25 := NB266_267.out; have hnc25 := NB267_266.out; have hcz26_0 : wr.cell? ⟨gb266, 0, none⟩ = some (.int .i64 a0_0) := bc BK266 0; have hcz26_1 : wr.cell? ⟨gb266, 1, none⟩ = some (.slice A0_1 l0_1.length c0_1) := bc BK266 1; have hfz26_0 := blk_frozen BK266.out 0; have hfz26_1 := blk_frozen BK266.out 1; have p268 : 0 ≤ (x5_2 : Int) := of_decide_eq_true (by first | (with_reducible assumption) | assumption); have q268 : x5_2 < (l0_1.length : Int) := of_decide_eq_true (by first | (with_reducible assumption) | assumption); obtain ⟨ad268, e268, hx268_0, hx268_1⟩ := at_T42 HR0_1.out x5_2 p268 q268
          cases e268
          replace hx268_0 := (HB.out.cell (World.block_lt_of_cell? w _ hx268_0)).trans hx268_0; replace hx268_1 := (HB.out.cell (World.block_lt_of_cell? w _ hx268_1)).trans hx268_1; replace p268 := eq_true p268; replace q268 := eq_true q268; have hcz27_0 : wr.cell? ⟨gb267, 0, none⟩ = some (.int .i64 a1_0) := bc BK267 0; have hcz27_1 : wr.cell? ⟨gb267, 1, none⟩ = some (.slice A1_1 l1_1.length c1_1) := bc BK267 1; have hfz27_0 := blk_frozen BK267.out 0; have hfz27_1 := blk_frozen BK267.out 1; have p269 : 0 ≤ (x5_2 : Int) := of_decide_eq_true (by first | (with_reducible assumption) | assumption); have q269 : x5_2 < (l1_1.length : Int) := of_decide_eq_true (by first | (with_reducible assumption) | assumption); obtain ⟨ad269, e269, hx269_0, hx269_1⟩ := at_T42 HR1_1.out x5_2 p269 q269
          cases e269
          replace hx269_0 := (HB.out.cell (World.block_lt_of_cell? w _ hx269_0)).trans hx269_0; replace hx269_1 := (HB.out.cell (World.block_lt_of_cell? w _ hx269_1)).trans hx269_1; replace p269 := eq_true p269; replace q269 := eq_true q269
          go_wp2
          repeat (go_quiet (fail); try go_wp2)
          go_ret
          exact ⟨by first | rfl | (simp [errW_none, errW_some] <;> rfl) | (simp [*, errW_none, errW_some] <;> rfl), hb2 HB GE266 GE267⟩
        ·rw [if_neg c16] at H; exact absurd H (by simp)
       ·rw [if_neg c15] at H; exact absurd H (by simp)
      ·rw [if_neg c14] at H; have c14b0 : decide (x5_2 < (l0_1.length : Int)) = false := decide_eq_false c14; clear c14; obtain rfl := Option.some.inj H; have hnb28 := NB266_267.out; have hnc28 := NB267_266.out; have hcz29_0 : wr.cell? ⟨gb266, 0, none⟩ = some (.int .i64 a0_0) := bc BK266 0; have hcz29_1 : wr.cell? ⟨gb266, 1, none⟩ = some (.slice A0_1 l0_1.length c0_1) := bc BK266 1; have hfz29_0 := blk_frozen BK266.out 0; have hfz29_1 := blk_frozen BK266.out 1
       go_wp2
       repeat (go_quiet (fail); try go_wp2)
       go_ret
       exact ⟨by first | rfl | (simp [errW_none, errW_some] <;> rfl) | (simp [*, errW_none, errW_some] <;> rfl), hb2 HB GE266 GE267⟩

end Go.Proofs.YthejafdcdcchbaaDoor.PSimA

-- PRINTED by print.py (a twelfth state) out of the translation. Not trusted: Lean checks it.
namespace Go.Proofs.YthejafdcdcchbaaDoor.PSimA
open Go.RowKit Go.Proofs.YthejafdcdcchbaaDoorW.PrintWords Go.Proofs.YthejafdcdcchbaaDoorW.PrintLast Go.Proofs.YthejafdcdcchbaaDoorW.PrintMore
open Go.Proofs.YthejafdcdcchbaaDoorX
attribute [local go_sem] max2_int min2_int max_two min_two max_three min_three max_four min_four   -- for this text's walks alone
set_option linter.unusedVariables false
set_option linter.unusedSimpArgs false

/-! ### tangramref03_Same: function 30 -/
def tangramref03_Same.f (k : Nat) (a0_0 : Int) (l0_1 : List (S42)) (a1_0 : Int) (l1_1 : List (S42)) : Option (Bool) := (tangramref03_Valid.f k a0_0 l0_1).bind fun t274 => ((tangramref03_Valid.f k a1_0 l1_1).bind fun t275 => ((tangramref03_Equal.f k a0_0 l0_1 a1_0 l1_1).bind fun t276 => (if t274 = true then (if t275 = true then (some t276) else (some false)) else (some false))))
theorem tangramref03_Same.mono : ∀ a0 a1 a2 a3 k, LeO (tangramref03_Same.f k a0 a1 a2 a3) (tangramref03_Same.f (k + 1) a0 a1 a2 a3) := by
 intro a0 a1 a2 a3 k
 unfold tangramref03_Same.f
 repeat' first
   | (with_reducible exact tangramref03_Equal.mono _ _ _ _ _)
   | (with_reducible exact tangramref03_Valid.mono _ _ _)
   | (with_reducible exact LeO.refl _)
   | (with_reducible exact LeO.none _)
   | (with_reducible refine LeO.ite ?_ ?_)
   | (with_reducible refine LeO.bind ?_ (fun _ => ?_))
   | exact tangramref03_Equal.mono _ _ _ _ _
   | exact tangramref03_Valid.mono _ _ _
   | exact LeO.none _
   | refine LeO.ite ?_ ?_
   | refine LeO.bind ?_ (fun _ => ?_)
set_option maxHeartbeats 8000000 in
set_option maxRecDepth 100000 in
theorem tangramref03_Same.calls (k : Nat) (a0_0 : Int) (A0_1 : Option Addr) (c0_1 : Nat) (l0_1 : List (S42)) (a1_0 : Int) (A1_1 : Option Addr) (c1_1 : Nat) (l1_1 : List (S42)) (r : Bool) (w : World) (hr0_1 : Kd.C k42 w A0_1 l0_1.length l0_1) (hc0_1 : l0_1.length ≤ c0_1) (hr1_1 : Kd.C k42 w A1_1 l1_1.length l1_1) (hc1_1 : l1_1.length ≤ c1_1) (h : tangramref03_Same.f k a0_0 l0_1 a1_0 l1_1 = some r) :
  Calls Tryd.prog 30 #[.agg #[.int .i64 a0_0, .slice A0_1 l0_1.length c0_1], .agg #[.int .i64 a1_0, .slice A1_1 l1_1.length c1_1]] w fun e w' => e = .returned (.bool r) ∧ Below w.heap.size w w' := by
 have hu26 := Tryd.underlying26; have HR0_1 := Aside0.mk hr0_1; have HC0_1 := Aside0.mk hc0_1; clear hr0_1 hc0_1; have HR1_1 := Aside0.mk hr1_1; have HC1_1 := Aside0.mk hc1_1; clear hr1_1 hc1_1; have HB := Aside0.mk (Below.refl w.heap.size w); have H : ((tangramref03_Valid.f k a0_0 l0_1).bind fun t274 => ((tangramref03_Valid.f k a1_0 l1_1).bind fun t275 => ((tangramref03_Equal.f k a0_0 l0_1 a1_0 l1_1).bind fun t276 => (if t274 = true then (if t275 = true then (some t276) else (some false)) else (some false))))) = some r := h; clear h; replace H := Option.bind_eq_some_iff.mp H; obtain ⟨t274, A30, H⟩ := H; (try dsimp only at H); have A3 := Aside0.mk A30; clear A30; replace H := Option.bind_eq_some_iff.mp H; obtain ⟨t275, A40, H⟩ := H; (try dsimp only at H); have A4 := Aside0.mk A40; clear A40; replace H := Option.bind_eq_some_iff.mp H; obtain ⟨t276, A50, H⟩ := H; (try dsimp only at H); have A5 := Aside0.mk A50; clear A50
 by_cases c6 : t274 = true
 ·subst c6; rw [if_pos rfl] at H
  by_cases c7 : t275 = true
  ·subst c7; rw [if_pos rfl] at H; obtain rfl := Option.some.inj H
   go_enter Tryd.func30, Tryd.ntmps30
   go_wp2_with (first | ((with_reducible refine gate_dst (N := 2) rfl ?_); refine be_ 2 #[.int .i64 a0_0, .slice A0_1 l0_1.length c0_1] 26 ?_; intro gb272 hg w8 hbox hb; have BK272 := Aside0.mk (hbox); have GW272 := wq (hb0 HB) hg; have GE272 := wq (hb0 HB) hg; replace HB := hs (hb0 HB) hb; clear hb hbox hg) | ((with_reducible refine gate_dst (N := 3) rfl ?_); refine be_ 3 #[.int .i64 a1_0, .slice A1_1 l1_1.length c1_1] 26 ?_; intro gb273 hg w9 hbox hb; have BK273 := Aside0.mk (hbox); have GW273 := wq (hb1 HB GE272) hg; have GE273 := wq (hb1 HB GE272) hg; replace HB := hs (hb1 HB GE272) hb; have NB272_273 := lx BK272 hg; have NB273_272 := gx BK272 hg; replace BK272 := kx BK272 hb; clear hb hbox hg; have hnb10 := NB272_273.out; have hnc10 := NB273_272.out; have hcz11_0 : w9.cell? ⟨gb272, 0, none⟩ = some (.int .i64 a0_0) := bc BK272 0; have hcz11_1 : w9.cell? ⟨gb272, 1, none⟩ = some (.slice A0_1 l0_1.length c0_1) := bc BK272 1; have hfz11_0 := blk_frozen BK272.out 0; have hfz11_1 := blk_frozen BK272.out 1) | ((with_reducible refine gate_callee (f := 25) rfl ?_); refine gl_ (some 9) Tryd.func25 #[.agg #[.int .i64 a0_0, .slice A0_1 l0_1.length c0_1]] ?_; (with_reducible refine (tangramref03_Valid.calls k a0_0 _ _ l0_1 true _ ?side1 ?side2 A3.out).mono ?_); (case side1 => repeat (first | exact (Kd.C_below HR0_1.out HB.out) | (with_reducible refine Kd.C_alloc ?_ _) | (with_reducible refine Kd.C_drewN ?_ _) | (with_reducible refine Kd.C_drew ?_))); (case side2 => exact HC0_1.out); rintro e w12 ⟨rfl, hb⟩; refine ⟨_, rfl, ?_⟩; replace BK272 := kx BK272 hb; replace BK273 := kx BK273 hb; replace HB := hs (hb2 HB GE272 GE273) hb; (try clear hb); (try clear hb2); (try clear hk); (try clear hi); have hcz13_0 : w12.cell? ⟨gb273, 0, none⟩ = some (.int .i64 a1_0) := bc BK273 0; have hcz13_1 : w12.cell? ⟨gb273, 1, none⟩ = some (.slice A1_1 l1_1.length c1_1) := bc BK273 1; have hfz13_0 := blk_frozen BK273.out 0; have hfz13_1 := blk_frozen BK273.out 1) | ((with_reducible refine gate_callee (f := 25) rfl ?_); refine gl_ (some 11) Tryd.func25 #[.agg #[.int .i64 a1_0, .slice A1_1 l1_1.length c1_1]] ?_; (with_reducible refine (tangramref03_Valid.calls k a1_0 _ _ l1_1 true _ ?side1 ?side2 A4.out).mono ?_); (case side1 => repeat (first | exact (Kd.C_below HR1_1.out HB.out) | (with_reducible refine Kd.C_alloc ?_ _) | (with_reducible refine Kd.C_drewN ?_ _) | (with_reducible refine Kd.C_drew ?_))); (case side2 => exact HC1_1.out); rintro e w14 ⟨rfl, hb⟩; refine ⟨_, rfl, ?_⟩; replace BK272 := kx BK272 hb; replace BK273 := kx BK273 hb; replace HB := hs (hb2 HB GE272 GE273) hb; (try clear hb); (try clear hb2); (try clear hk); (try clear hi); have hcz15_0 : w14.cell? ⟨gb272, 0, none⟩ = some (.int .i64 a0_0) := bc BK272 0; have hcz15_1 : w14.cell? ⟨gb272, 1, none⟩ = some (.slice A0_1 l0_1.length c0_1) := bc BK272 1; have hfz15_0 := blk_frozen BK272.out 0; have hfz15_1 := blk_frozen BK272.out 1; have hcz16_0 : w14.cell? ⟨gb273, 0, none⟩ = some (.int .i64 a1_0) := bc BK273 0; have hcz16_1 : w14.cell? ⟨gb273, 1, none⟩ = some (.slice A1_1 l1_1.length c1_1) := bc BK273 1; have hfz16_0 := blk_frozen BK273.out 0; have hfz16_1 := blk_frozen BK273.out 1) | ((with_reducible refine gate_callee (f := 15) rfl ?_); refine gl_ (some 14) Tryd.func15 #[.agg #[.int .i64 a0_0, .slice A0_1 l0_1.length c0_1], .agg #[.int .i64 a1_0, .slice A1_1 l1_1.length c1_1]] ?_; (with_reducible refine (tangramref03_Equal.calls k a0_0 _ _ l0_1 a1_0 _ _ l1_1 t276 _ ?side1 ?side2 ?side3 ?side4 A5.out).mono ?_); (case side1 => repeat (first | exact (Kd.C_below HR0_1.out HB.out) | (with_reducible refine Kd.C_alloc ?_ _) | (with_reducible refine Kd.C_drewN ?_ _) | (with_reducible refine Kd.C_drew ?_))); (case side2 => exact HC0_1.out); (case side3 => repeat (first | exact (Kd.C_below HR1_1.out HB.out) | (with_reducible refine Kd.C_alloc ?_ _) | (with_reducible refine Kd.C_drewN ?_ _) | (with_reducible refine Kd.C_drew ?_))); (case side4 => exact HC1_1.out); rintro e w17 ⟨rfl, hb⟩; refine ⟨_, rfl, ?_⟩; replace BK272 := kx BK272 hb; replace BK273 := kx BK273 hb; replace HB := hs (hb2 HB GE272 GE273) hb; (try clear hb); (try clear hb2); (try clear hk); (try clear hi)))
   go_ret
   exact ⟨by first | rfl | (simp [errW_none, errW_some] <;> rfl) | (simp [*, errW_none, errW_some] <;> rfl), hb2 HB GE272 GE273⟩
  ·replace c7 := Bool.eq_false_iff.mpr c7; subst c7; rw [if_neg (show ¬ (false = true) by decide)] at H; obtain rfl := Option.some.inj H
   go_enter Tryd.func30, Tryd.ntmps30
   go_wp2_with (first | ((with_reducible refine gate_dst (N := 2) rfl ?_); refine be_ 2 #[.int .i64 a0_0, .slice A0_1 l0_1.length c0_1] 26 ?_; intro gb272 hg w18 hbox hb; have BK272 := Aside0.mk (hbox); have GW272 := wq (hb0 HB) hg; have GE272 := wq (hb0 HB) hg; replace HB := hs (hb0 HB) hb; clear hb hbox hg) | ((with_reducible refine gate_dst (N := 3) rfl ?_); refine be_ 3 #[.int .i64 a1_0, .slice A1_1 l1_1.length c1_1] 26 ?_; intro gb273 hg w19 hbox hb; have BK273 := Aside0.mk (hbox); have GW273 := wq (hb1 HB GE272) hg; have GE273 := wq (hb1 HB GE272) hg; replace HB := hs (hb1 HB GE272) hb; have NB272_273 := lx BK272 hg; have NB273_272 := gx BK272 hg; replace BK272 := kx BK272 hb; clear hb hbox hg; have hnb20 := NB272_273.out; have hnc20 := NB273_272.out; have hcz21_0 : w19.cell? ⟨gb272, 0, none⟩ = some (.int .i64 a0_0) := bc BK272 0; have hcz21_1 : w19.cell? ⟨gb272, 1, none⟩ = some (.slice A0_1 l0_1.length c0_1) := bc BK272 1; have hfz21_0 := blk_frozen BK272.out 0; have hfz21_1 := blk_frozen BK272.out 1) | ((with_reducible refine gate_callee (f := 25) rfl ?_); refine gl_ (some 9) Tryd.func25 #[.agg #[.int .i64 a0_0, .slice A0_1 l0_1.length c0_1]] ?_; (with_reducible refine (tangramref03_Valid.calls k a0_0 _ _ l0_1 true _ ?side1 ?side2 A3.out).mono ?_); (case side1 => repeat (first | exact (Kd.C_below HR0_1.out HB.out) | (with_reducible refine Kd.C_alloc ?_ _) | (with_reducible refine Kd.C_drewN ?_ _) | (with_reducible refine Kd.C_drew ?_))); (case side2 => exact HC0_1.out); rintro e w22 ⟨rfl, hb⟩; refine ⟨_, rfl, ?_⟩; replace BK272 := kx BK272 hb; replace BK273 := kx BK273 hb; replace HB := hs (hb2 HB GE272 GE273) hb; (try clear hb); (try clear hb2); (try clear hk); (try clear hi); have hcz23_0 : w22.cell? ⟨gb273, 0, none⟩ = some (.int .i64 a1_0) := bc BK273 0; have hcz23_1 : w22.cell? ⟨gb273, 1, none⟩ = some (.slice A1_1 l1_1.length c1_1) := bc BK273 1; have hfz23_0 := blk_frozen BK273.out 0; have hfz23_1 := blk_frozen BK273.out 1) | ((with_reducible refine gate_callee (f := 25) rfl ?_); refine gl_ (some 11) Tryd.func25 #[.agg #[.int .i64 a1_0, .slice A1_1 l1_1.length c1_1]] ?_; (with_reducible refine (tangramref03_Valid.calls k a1_0 _ _ l1_1 false _ ?side1 ?side2 A4.out).mono ?_); (case side1 => repeat (first | exact (Kd.C_below HR1_1.out HB.out) | (with_reducible refine Kd.C_alloc ?_ _) | (with_reducible refine Kd.C_drewN ?_ _) | (with_reducible refine Kd.C_drew ?_))); (case side2 => exact HC1_1.out); rintro e w24 ⟨rfl, hb⟩; refine ⟨_, rfl, ?_⟩; replace BK272 := kx BK272 hb; replace BK273 := kx BK273 hb; replace HB := hs (hb2 HB GE272 GE273) hb; (try clear hb); (try clear hb2); (try clear hk); (try clear hi); have hcz25_0 : w24.cell? ⟨gb272, 0, none⟩ = some (.int .i64 a0_0) := bc BK272 0; have hcz25_1 : w24.cell? ⟨gb272, 1, none⟩ = some (.slice A0_1 l0_1.length c0_1) := bc BK272 1; have hfz25_0 := blk_frozen BK272.out 0; have hfz25_1 := blk_frozen BK272.out 1; have hcz26_0 : w24.cell? ⟨gb273, 0, none⟩ = some (.int .i64 a1_0) := bc BK273 0; have hcz26_1 : w24.cell? ⟨gb273, 1, none⟩ = some (.slice A1_1 l1_1.length c1_1) := bc BK273 1; have hfz26_0 := blk_frozen BK273.out 0; have hfz26_1 := blk_frozen BK273.out 1) | ((with_reducible refine gate_callee (f := 15) rfl ?_); refine gl_ (some 14) Tryd.func15 #[.agg #[.int .i64 a0_0, .slice A0_1 l0_1.length c0_1], .agg #[.int .i64 a1_0, .slice A1_1 l1_1.length c1_1]] ?_; (with_reducible refine (tangramref03_Equal.calls k a0_0 _ _ l0_1 a1_0 _ _ l1_1 t276 _ ?side1 ?side2 ?side3 ?side4 A5.out).mono ?_); (case side1 => repeat (first | exact (Kd.C_below HR0_1.out HB.out) | (with_reducible refine Kd.C_alloc ?_ _) | (with_reducible refine Kd.C_drewN ?_ _) | (with_reducible refine Kd.C_drew ?_))); (case side2 => exact HC0_1.out); (case side3 => repeat (first | exact (Kd.C_below HR1_1.out HB.out) | (with_reducible refine Kd.C_alloc ?_ _) | (with_reducible refine Kd.C_drewN ?_ _) | (with_reducible refine Kd.C_drew ?_))); (case side4 => exact HC1_1.out); rintro e w27 ⟨rfl, hb⟩; refine ⟨_, rfl, ?_⟩; replace BK272 := kx BK272 hb; replace BK273 := kx BK273 hb; replace HB := hs (hb2 HB GE272 GE273) hb; (try clear hb); (try clear hb2); (try clear hk); (try clear hi)))
   go_ret
   exact ⟨by first | rfl | (simp [errW_none, errW_some] <;> rfl) | (simp [*, errW_none, errW_some] <;> rfl), hb2 HB GE272 GE273⟩
 ·replace c6 := Bool.eq_false_iff.mpr c6; subst c6; rw [if_neg (show ¬ (false = true) by decide)] at H; obtain rfl := Option.some.inj H
  go_enter Tryd.func30, Tryd.ntmps30
  go_wp2_with (first | ((with_reducible refine gate_dst (N := 2) rfl ?_); refine be_ 2 #[.int .i64 a0_0, .slice A0_1 l0_1.length c0_1] 26 ?_; intro gb272 hg w28 hbox hb; have BK272 := Aside0.mk (hbox); have GW272 := wq (hb0 HB) hg; have GE272 := wq (hb0 HB) hg; replace HB := hs (hb0 HB) hb; clear hb hbox hg) | ((with_reducible refine gate_dst (N := 3) rfl ?_); refine be_ 3 #[.int .i64 a1_0, .slice A1_1 l1_1.length c1_1] 26 ?_; intro gb273 hg w29 hbox hb; have BK273 := Aside0.mk (hbox); have GW273 := wq (hb1 HB GE272) hg; have GE273 := wq (hb1 HB GE272) hg; replace HB := hs (hb1 HB GE272) hb; have NB272_273 := lx BK272 hg; have NB273_272 := gx BK272 hg; replace BK272 := kx BK272 hb; clear hb hbox hg; have hnb30 := NB272_273.out; have hnc30 := NB273_272.out; have hcz31_0 : w29.cell? ⟨gb272, 0, none⟩ = some (.int .i64 a0_0) := bc BK272 0; have hcz31_1 : w29.cell? ⟨gb272, 1, none⟩ = some (.slice A0_1 l0_1.length c0_1) := bc BK272 1; have hfz31_0 := blk_frozen BK272.out 0; have hfz31_1 := blk_frozen BK272.out 1) | ((with_reducible refine gate_callee (f := 25) rfl ?_); refine gl_ (some 9) Tryd.func25 #[.agg #[.int .i64 a0_0, .slice A0_1 l0_1.length c0_1]] ?_; (with_reducible refine (tangramref03_Valid.calls k a0_0 _ _ l0_1 false _ ?side1 ?side2 A3.out).mono ?_); (case side1 => repeat (first | exact (Kd.C_below HR0_1.out HB.out) | (with_reducible refine Kd.C_alloc ?_ _) | (with_reducible refine Kd.C_drewN ?_ _) | (with_reducible refine Kd.C_drew ?_))); (case side2 => exact HC0_1.out); rintro e w32 ⟨rfl, hb⟩; refine ⟨_, rfl, ?_⟩; replace BK272 := kx BK272 hb; replace BK273 := kx BK273 hb; replace HB := hs (hb2 HB GE272 GE273) hb; (try clear hb); (try clear hb2); (try clear hk); (try clear hi); have hcz33_0 : w32.cell? ⟨gb273, 0, none⟩ = some (.int .i64 a1_0) := bc BK273 0; have hcz33_1 : w32.cell? ⟨gb273, 1, none⟩ = some (.slice A1_1 l1_1.length c1_1) := bc BK273 1; have hfz33_0 := blk_frozen BK273.out 0; have hfz33_1 := blk_frozen BK273.out 1) | ((with_reducible refine gate_callee (f := 25) rfl ?_); refine gl_ (some 11) Tryd.func25 #[.agg #[.int .i64 a1_0, .slice A1_1 l1_1.length c1_1]] ?_; (with_reducible refine (tangramref03_Valid.calls k a1_0 _ _ l1_1 t275 _ ?side1 ?side2 A4.out).mono ?_); (case side1 => repeat (first | exact (Kd.C_below HR1_1.out HB.out) | (with_reducible refine Kd.C_alloc ?_ _) | (with_reducible refine Kd.C_drewN ?_ _) | (with_reducible refine Kd.C_drew ?_))); (case side2 => exact HC1_1.out); rintro e w34 ⟨rfl, hb⟩; refine ⟨_, rfl, ?_⟩; replace BK272 := kx BK272 hb; replace BK273 := kx BK273 hb; replace HB := hs (hb2 HB GE272 GE273) hb; (try clear hb); (try clear hb2); (try clear hk); (try clear hi); have hcz35_0 : w34.cell? ⟨gb272, 0, none⟩ = some (.int .i64 a0_0) := bc BK272 0; have hcz35_1 : w34.cell? ⟨gb272, 1, none⟩ = some (.slice A0_1 l0_1.length c0_1) := bc BK272 1; have hfz35_0 := blk_frozen BK272.out 0; have hfz35_1 := blk_frozen BK272.out 1; have hcz36_0 : w34.cell? ⟨gb273, 0, none⟩ = some (.int .i64 a1_0) := bc BK273 0; have hcz36_1 : w34.cell? ⟨gb273, 1, none⟩ = some (.slice A1_1 l1_1.length c1_1) := bc BK273 1; have hfz36_0 := blk_frozen BK273.out 0; have hfz36_1 := blk_frozen BK273.out 1) | ((with_reducible refine gate_callee (f := 15) rfl ?_); refine gl_ (some 14) Tryd.func15 #[.agg #[.int .i64 a0_0, .slice A0_1 l0_1.length c0_1], .agg #[.int .i64 a1_0, .slice A1_1 l1_1.length c1_1]] ?_; (with_reducible refine (tangramref03_Equal.calls k a0_0 _ _ l0_1 a1_0 _ _ l1_1 t276 _ ?side1 ?side2 ?side3 ?side4 A5.out).mono ?_); (case side1 => repeat (first | exact (Kd.C_below HR0_1.out HB.out) | (with_reducible refine Kd.C_alloc ?_ _) | (with_reducible refine Kd.C_drewN ?_ _) | (with_reducible refine Kd.C_drew ?_))); (case side2 => exact HC0_1.out); (case side3 => repeat (first | exact (Kd.C_below HR1_1.out HB.out) | (with_reducible refine Kd.C_alloc ?_ _) | (with_reducible refine Kd.C_drewN ?_ _) | (with_reducible refine Kd.C_drew ?_))); (case side4 => exact HC1_1.out); rintro e w37 ⟨rfl, hb⟩; refine ⟨_, rfl, ?_⟩; replace BK272 := kx BK272 hb; replace BK273 := kx BK273 hb; replace HB := hs (hb2 HB GE272 GE273) hb; (try clear hb); (try clear hb2); (try clear hk); (try clear hi)))
  go_ret
  exact ⟨by first | rfl | (simp [errW_none, errW_some] <;> rfl) | (simp [*, errW_none, errW_some] <;> rfl), hb2 HB GE272 GE273⟩

end Go.Proofs.YthejafdcdcchbaaDoor.PSimA

-- PRINTED by print.py (a twelfth state) out of the translation. Not trusted: Lean checks it.
namespace Go.Proofs.YthejafdcdcchbaaDoor.PSimA
open Go.RowKit Go.Proofs.YthejafdcdcchbaaDoorW.PrintWords Go.Proofs.YthejafdcdcchbaaDoorW.PrintLast Go.Proofs.YthejafdcdcchbaaDoorW.PrintMore
open Go.Proofs.YthejafdcdcchbaaDoorX
attribute [local go_sem] max2_int min2_int max_two min_two max_three min_three max_four min_four   -- for this text's walks alone
set_option linter.unusedVariables false
set_option linter.unusedSimpArgs false

attribute [local go_sem high] eqA42
/-! ### api_Edge_47: function 47 -/
def api_Edge_47.l0 : Nat → List (S42) → List (S42) → Int → Int → Option (Bool)
 | 0, _, _, _, _ => none
 | k + 1, x0, x1, x12, x13 => if x13 < x12 then (if 0 ≤ x13 then (if x13 < (x0.length : Int) then (if x13 < (x1.length : Int) then (if (!(((rd_T42 x0 x13).f0) == ((rd_T42 x1 x13).f0)) || (!(((rd_T42 x0 x13).f1) == ((rd_T42 x1 x13).f1)))) = true then (some false) else (api_Edge_47.l0 k x0 x1 x12 (wrap64 (x13 + 1)))) else (none)) else (none)) else (none)) else (some true)
def api_Edge_47.f (k : Nat) (l0 : List (S42)) (l1 : List (S42)) : Option (Bool) := if (l0.length : Int) = (l1.length : Int) then (api_Edge_47.l0 k l0 l1 (l0.length : Int) 0) else (some false)
theorem api_Edge_47.mono_l : ∀ k, (∀ y0 y1 y2 y3, LeO (api_Edge_47.l0 k y0 y1 y2 y3) (api_Edge_47.l0 (k + 1) y0 y1 y2 y3))
 | 0 => fun _ _ _ _ r h => by simp [api_Edge_47.l0] at h
 | k + 1 => by
  have ih0 := api_Edge_47.mono_l k
  ·intro y0 y1 y2 y3
   unfold api_Edge_47.l0
   repeat' first
   | (with_reducible exact ih0 _ _ _ _)
   | (with_reducible exact LeO.refl _)
   | (with_reducible exact LeO.none _)
   | (with_reducible refine LeO.ite ?_ ?_)
   | (with_reducible refine LeO.bind ?_ (fun _ => ?_))
   | exact ih0 _ _ _ _
   | exact LeO.none _
   | refine LeO.ite ?_ ?_
   | refine LeO.bind ?_ (fun _ => ?_)
theorem api_Edge_47.mono : ∀ a0 a1 k, LeO (api_Edge_47.f k a0 a1) (api_Edge_47.f (k + 1) a0 a1) := by
 intro a0 a1 k; have ih0 := api_Edge_47.mono_l k
 unfold api_Edge_47.f
 repeat' first
   | (with_reducible exact ih0 _ _ _ _)
   | (with_reducible exact LeO.refl _)
   | (with_reducible exact LeO.none _)
   | (with_reducible refine LeO.ite ?_ ?_)
   | (with_reducible refine LeO.bind ?_ (fun _ => ?_))
   | exact ih0 _ _ _ _
   | exact LeO.none _
   | refine LeO.ite ?_ ?_
   | refine LeO.bind ?_ (fun _ => ?_)
set_option maxHeartbeats 8000000 in
set_option maxRecDepth 100000 in
theorem api_Edge_47.calls (k : Nat) (A0 : Option Addr) (c0 : Nat) (l0 : List (S42)) (A1 : Option Addr) (c1 : Nat) (l1 : List (S42)) (r : Bool) (w : World) (hr0 : Kd.C k42 w A0 l0.length l0) (hc0 : l0.length ≤ c0) (hr1 : Kd.C k42 w A1 l1.length l1) (hc1 : l1.length ≤ c1) (h : api_Edge_47.f k l0 l1 = some r) :
  Calls Tryd.prog 47 #[.slice A0 l0.length c0, .slice A1 l1.length c1] w fun e w' => e = .returned (.bool r) ∧ Drawn0 w w' := by
 have hu42 := Tryd.underlying42; have HR0 := Aside0.mk hr0; have HC0 := Aside0.mk hc0; clear hr0 hc0; have HR1 := Aside0.mk hr1; have HC1 := Aside0.mk hc1; clear hr1 hc1; have H : (if (l0.length : Int) = (l1.length : Int) then (api_Edge_47.l0 k l0 l1 (l0.length : Int) 0) else (some false)) = some r := h; clear h
 by_cases c3 : (l0.length : Int) = (l1.length : Int)
 ·rw [if_pos c3] at H; have c3b0 : ((l0.length : Int) == (l1.length : Int)) = true := beq_iff_eq.mpr c3; have c3b1 : ((l0.length : Int) != (l1.length : Int)) = false := bne_eq_false_iff_eq.mpr c3; have c3b2 : (l0.length == l1.length) = true := by first | simpa using c3 | (simp at c3 ⊢; omega)
  clear c3; have H' := Aside0.mk H; clear H
  go_enter Tryd.func47, Tryd.ntmps47
  go_wp2
  repeat (go_quiet (fail); try go_wp2)
  go_loopg [13] k (fun kq v13 w' => ∃ (x13_1 : Int), v13 = .int .i64 x13_1 ∧ Aside0 (api_Edge_47.l0 kq l0 l1 (l0.length : Int) x13_1 = some r) ∧ Aside0 (kq ≤ k) ∧ Drawn0 w w')
  case atStart => exact ⟨(0), (by first | rfl | (simp; done) | (simp [*]; done)), H', ⟨Nat.le_refl _⟩, by repeat (first | exact Drawn0.refl _ | apply Drawn0.step)⟩
  case round =>
   clear H'
   try clear c1
   try clear p2
   try clear c3
   try clear c3b0
   try clear c3b1
   try clear c3b2
   obtain ⟨x13_1, rfl, HA, HK1, ⟨m1, rfl⟩⟩ := hrel
   cases gk with
   | zero => exact absurd HA.out (by simp [api_Edge_47.l0])
   | succ k1 =>
    have H := HA.out; clear HA; simp only [api_Edge_47.l0] at H
    by_cases c4 : x13_1 < (l0.length : Int)
    ·rw [if_pos c4] at H; have c4b0 : decide (x13_1 < (l0.length : Int)) = true := decide_eq_true c4; clear c4
     by_cases c5 : 0 ≤ x13_1
     ·rw [if_pos c5] at H; have c5b0 : decide (0 ≤ x13_1) = true := decide_eq_true c5; clear c5
      by_cases c6 : x13_1 < (l0.length : Int)
      ·rw [if_pos c6] at H; have c6b0 : decide (x13_1 < (l0.length : Int)) = true := decide_eq_true c6; clear c6
       by_cases c7 : x13_1 < (l1.length : Int)
       ·rw [if_pos c7] at H; have c7b0 : decide (x13_1 < (l1.length : Int)) = true := decide_eq_true c7; clear c7
        by_cases c8 : (!(((rd_T42 l0 x13_1).f0) == ((rd_T42 l1 x13_1).f0)) || (!(((rd_T42 l0 x13_1).f1) == ((rd_T42 l1 x13_1).f1)))) = true
        ·rw [if_pos c8] at H; have c8b0 : (!(((rd_T42 l0 x13_1).f0) == ((rd_T42 l1 x13_1).f0)) || (!(((rd_T42 l0 x13_1).f1) == ((rd_T42 l1 x13_1).f1)))) = true := c8; clear c8; obtain rfl := Option.some.inj H; have p277 : 0 ≤ (x13_1 : Int) := of_decide_eq_true (by first | (with_reducible assumption) | assumption); have q277 : x13_1 < (l0.length : Int) := of_decide_eq_true (by first | (with_reducible assumption) | assumption); obtain ⟨ad277, e277, hx277_0, hx277_1⟩ := at_T42 HR0.out x13_1 p277 q277
         cases e277
         replace p277 := eq_true p277; replace q277 := eq_true q277; have p278 : 0 ≤ (x13_1 : Int) := of_decide_eq_true (by first | (with_reducible assumption) | assumption); have q278 : x13_1 < (l1.length : Int) := of_decide_eq_true (by first | (with_reducible assumption) | assumption); obtain ⟨ad278, e278, hx278_0, hx278_1⟩ := at_T42 HR1.out x13_1 p278 q278
         cases e278
         replace p278 := eq_true p278; replace q278 := eq_true q278
         go_wp2
         repeat (go_quiet (fail); try go_wp2)
         go_ret
         exact ⟨by first | rfl | (simp; done) | (simp [*]; done), by repeat (first | exact Drawn0.refl _ | apply Drawn0.step)⟩
        ·rw [if_neg c8] at H; have c8b0 : (!(((rd_T42 l0 x13_1).f0) == ((rd_T42 l1 x13_1).f0)) || (!(((rd_T42 l0 x13_1).f1) == ((rd_T42 l1 x13_1).f1)))) = false := by simpa using c8
         clear c8; have H' := Aside0.mk H; clear H; have p277 : 0 ≤ (x13_1 : Int) := of_decide_eq_true (by first | (with_reducible assumption) | assumption); have q277 : x13_1 < (l0.length : Int) := of_decide_eq_true (by first | (with_reducible assumption) | assumption); obtain ⟨ad277, e277, hx277_0, hx277_1⟩ := at_T42 HR0.out x13_1 p277 q277
         cases e277
         replace p277 := eq_true p277; replace q277 := eq_true q277; have p278 : 0 ≤ (x13_1 : Int) := of_decide_eq_true (by first | (with_reducible assumption) | assumption); have q278 : x13_1 < (l1.length : Int) := of_decide_eq_true (by first | (with_reducible assumption) | assumption); obtain ⟨ad278, e278, hx278_0, hx278_1⟩ := at_T42 HR1.out x13_1 p278 q278
         cases e278
         replace p278 := eq_true p278; replace q278 := eq_true q278
         go_wp2
         repeat (go_quiet (fail); try go_wp2)
         go_roundg k1
         case measure => have := HK1.out; omega
         case rel => exact ⟨(wrap64 (x13_1 + 1)), (by first | rfl | (simp; done) | (simp [*]; done)), H', ⟨by have := HK1.out; omega⟩, by repeat (first | exact Drawn0.refl _ | apply Drawn0.step)⟩
       ·rw [if_neg c7] at H; exact absurd H (by simp)
      ·rw [if_neg c6] at H; exact absurd H (by simp)
     ·rw [if_neg c5] at H; exact absurd H (by simp)
    ·rw [if_neg c4] at H; have c4b0 : decide (x13_1 < (l0.length : Int)) = false := decide_eq_false c4; clear c4; obtain rfl := Option.some.inj H
     go_wp2
     repeat (go_quiet (fail); try go_wp2)
     go_ret
     exact ⟨by first | rfl | (simp; done) | (simp [*]; done), by repeat (first | exact Drawn0.refl _ | apply Drawn0.step)⟩
 ·rw [if_neg c3] at H; have c3b0 : ((l0.length : Int) == (l1.length : Int)) = false := beq_eq_false_iff_ne.mpr c3; have c3b1 : ((l0.length : Int) != (l1.length : Int)) = true := bne_iff_ne.mpr c3; have c3b2 : (l0.length == l1.length) = false := by first | simpa using c3 | (simp at c3 ⊢; omega)
  obtain rfl := Option.some.inj H
  go_enter Tryd.func47, Tryd.ntmps47
  go_wp2
  repeat (go_quiet (fail); try go_wp2)
  go_ret
  exact ⟨by first | rfl | (simp; done) | (simp [*]; done), by repeat (first | exact Drawn0.refl _ | apply Drawn0.step)⟩

end Go.Proofs.YthejafdcdcchbaaDoor.PSimA

-- PRINTED by print.py (a twelfth state) out of the translation. Not trusted: Lean checks it.
namespace Go.Proofs.YthejafdcdcchbaaDoor.PSimA
open Go.RowKit Go.Proofs.YthejafdcdcchbaaDoorW.PrintWords Go.Proofs.YthejafdcdcchbaaDoorW.PrintLast Go.Proofs.YthejafdcdcchbaaDoorW.PrintMore
open Go.Proofs.YthejafdcdcchbaaDoorX
attribute [local go_sem] max2_int min2_int max_two min_two max_three min_three max_four min_four   -- for this text's walks alone
set_option linter.unusedVariables false
set_option linter.unusedSimpArgs false

/-! ### simple_Same: function 31 -/
def simple_Same.f (k : Nat) (a0_0 : Int) (l0_1 : List (S42)) (a1_0 : Int) (l1_1 : List (S42)) : Option (Bool) := (simple_Valid.f k a0_0 l0_1).bind fun t281 => (if t281 = true then ((simple_Valid.f k a1_0 l1_1).bind fun t282 => (if t282 = true then (if a0_0 = a1_0 then ((api_Edge_47.f k l0_1 l1_1).bind fun t283 => (some t283)) else (some false)) else (some false))) else (some false))
theorem simple_Same.mono : ∀ a0 a1 a2 a3 k, LeO (simple_Same.f k a0 a1 a2 a3) (simple_Same.f (k + 1) a0 a1 a2 a3) := by
 intro a0 a1 a2 a3 k
 unfold simple_Same.f
 repeat' first
   | (with_reducible exact api_Edge_47.mono _ _ _)
   | (with_reducible exact simple_Valid.mono _ _ _)
   | (with_reducible exact LeO.refl _)
   | (with_reducible exact LeO.none _)
   | (with_reducible refine LeO.ite ?_ ?_)
   | (with_reducible refine LeO.bind ?_ (fun _ => ?_))
   | exact api_Edge_47.mono _ _ _
   | exact simple_Valid.mono _ _ _
   | exact LeO.none _
   | refine LeO.ite ?_ ?_
   | refine LeO.bind ?_ (fun _ => ?_)
set_option maxHeartbeats 8000000 in
set_option maxRecDepth 100000 in
theorem simple_Same.calls (k : Nat) (a0_0 : Int) (A0_1 : Option Addr) (c0_1 : Nat) (l0_1 : List (S42)) (a1_0 : Int) (A1_1 : Option Addr) (c1_1 : Nat) (l1_1 : List (S42)) (r : Bool) (w : World) (hr0_1 : Kd.C k42 w A0_1 l0_1.length l0_1) (hc0_1 : l0_1.length ≤ c0_1) (hr1_1 : Kd.C k42 w A1_1 l1_1.length l1_1) (hc1_1 : l1_1.length ≤ c1_1) (h : simple_Same.f k a0_0 l0_1 a1_0 l1_1 = some r) :
  Calls Tryd.prog 31 #[.agg #[.int .i64 a0_0, .slice A0_1 l0_1.length c0_1], .agg #[.int .i64 a1_0, .slice A1_1 l1_1.length c1_1]] w fun e w' => e = .returned (.bool r) ∧ Below w.heap.size w w' := by
 have hu26 := Tryd.underlying26; have HR0_1 := Aside0.mk hr0_1; have HC0_1 := Aside0.mk hc0_1; clear hr0_1 hc0_1; have HR1_1 := Aside0.mk hr1_1; have HC1_1 := Aside0.mk hc1_1; clear hr1_1 hc1_1; have HB := Aside0.mk (Below.refl w.heap.size w); have H : ((simple_Valid.f k a0_0 l0_1).bind fun t281 => (if t281 = true then ((simple_Valid.f k a1_0 l1_1).bind fun t282 => (if t282 = true then (if a0_0 = a1_0 then ((api_Edge_47.f k l0_1 l1_1).bind fun t283 => (some t283)) else (some false)) else (some false))) else (some false))) = some r := h; clear h; replace H := Option.bind_eq_some_iff.mp H; obtain ⟨t281, A30, H⟩ := H; (try dsimp only at H); have A3 := Aside0.mk A30; clear A30
 by_cases c4 : t281 = true
 ·subst c4; rw [if_pos rfl] at H; replace H := Option.bind_eq_some_iff.mp H; obtain ⟨t282, A50, H⟩ := H; (try dsimp only at H); have A5 := Aside0.mk A50; clear A50
  by_cases c6 : t282 = true
  ·subst c6; rw [if_pos rfl] at H
   by_cases c7 : a0_0 = a1_0
   ·rw [if_pos c7] at H; have c7b0 : (a0_0 == a1_0) = true := beq_iff_eq.mpr c7; have c7b1 : (a0_0 != a1_0) = false := bne_eq_false_iff_eq.mpr c7; clear c7; replace H := Option.bind_eq_some_iff.mp H; obtain ⟨t283, A80, H⟩ := H; (try dsimp only at H); have A8 := Aside0.mk A80; clear A80; obtain rfl := Option.some.inj H
    go_enter Tryd.func31, Tryd.ntmps31
    go_wp2_with (first | ((with_reducible refine gate_dst (N := 2) rfl ?_); refine be_ 2 #[.int .i64 a0_0, .slice A0_1 l0_1.length c0_1] 26 ?_; intro gb279 hg w9 hbox hb; have BK279 := Aside0.mk (hbox); have GW279 := wq (hb0 HB) hg; have GE279 := wq (hb0 HB) hg; replace HB := hs (hb0 HB) hb; clear hb hbox hg) | ((with_reducible refine gate_dst (N := 3) rfl ?_); refine be_ 3 #[.int .i64 a1_0, .slice A1_1 l1_1.length c1_1] 26 ?_; intro gb280 hg w10 hbox hb; have BK280 := Aside0.mk (hbox); have GW280 := wq (hb1 HB GE279) hg; have GE280 := wq (hb1 HB GE279) hg; replace HB := hs (hb1 HB GE279) hb; have NB279_280 := lx BK279 hg; have NB280_279 := gx BK279 hg; replace BK279 := kx BK279 hb; clear hb hbox hg; have hnb11 := NB279_280.out; have hnc11 := NB280_279.out; have hcz12_0 : w10.cell? ⟨gb279, 0, none⟩ = some (.int .i64 a0_0) := bc BK279 0; have hcz12_1 : w10.cell? ⟨gb279, 1, none⟩ = some (.slice A0_1 l0_1.length c0_1) := bc BK279 1; have hfz12_0 := blk_frozen BK279.out 0; have hfz12_1 := blk_frozen BK279.out 1) | ((with_reducible refine gate_callee (f := 24) rfl ?_); refine gl_ (some 6) Tryd.func24 #[.agg #[.int .i64 a0_0, .slice A0_1 l0_1.length c0_1]] ?_; (with_reducible refine (simple_Valid.calls k a0_0 _ _ l0_1 true _ ?side1 ?side2 A3.out).mono ?_); (case side1 => repeat (first | exact (Kd.C_below HR0_1.out HB.out) | (with_reducible refine Kd.C_alloc ?_ _) | (with_reducible refine Kd.C_drewN ?_ _) | (with_reducible refine Kd.C_drew ?_))); (case side2 => exact HC0_1.out); rintro e w13 ⟨rfl, hb⟩; refine ⟨_, rfl, ?_⟩; replace BK279 := kx BK279 hb; replace BK280 := kx BK280 hb; replace HB := hs (hb2 HB GE279 GE280) hb; (try clear hb); (try clear hb2); (try clear hk); (try clear hi); have hcz14_0 : w13.cell? ⟨gb280, 0, none⟩ = some (.int .i64 a1_0) := bc BK280 0; have hcz14_1 : w13.cell? ⟨gb280, 1, none⟩ = some (.slice A1_1 l1_1.length c1_1) := bc BK280 1; have hfz14_0 := blk_frozen BK280.out 0; have hfz14_1 := blk_frozen BK280.out 1) | (go_at_call 24; (with_reducible refine (simple_Valid.calls k a1_0 _ _ l1_1 true _ ?side1 ?side2 A5.out).mono ?_); (case side1 => repeat (first | exact (Kd.C_below HR1_1.out HB.out) | (with_reducible refine Kd.C_alloc ?_ _) | (with_reducible refine Kd.C_drewN ?_ _) | (with_reducible refine Kd.C_drew ?_))); (case side2 => exact HC1_1.out); rintro e w15 ⟨rfl, hb⟩; replace BK279 := kx BK279 hb; replace BK280 := kx BK280 hb; replace HB := hs (hb2 HB GE279 GE280) hb; (try clear hb); (try clear hb2); (try clear hk); (try clear hi); have hcz16_0 : w15.cell? ⟨gb279, 0, none⟩ = some (.int .i64 a0_0) := bc BK279 0; have hcz16_1 : w15.cell? ⟨gb279, 1, none⟩ = some (.slice A0_1 l0_1.length c0_1) := bc BK279 1; have hfz16_0 := blk_frozen BK279.out 0; have hfz16_1 := blk_frozen BK279.out 1; have hcz17_0 : w15.cell? ⟨gb280, 0, none⟩ = some (.int .i64 a1_0) := bc BK280 0; have hcz17_1 : w15.cell? ⟨gb280, 1, none⟩ = some (.slice A1_1 l1_1.length c1_1) := bc BK280 1; have hfz17_0 := blk_frozen BK280.out 0; have hfz17_1 := blk_frozen BK280.out 1) | (go_at_call 47; (with_reducible refine (api_Edge_47.calls k _ _ l0_1 _ _ l1_1 t283 _ ?side1 ?side2 ?side3 ?side4 A8.out).mono ?_); (case side1 => repeat (first | exact (Kd.C_below HR0_1.out HB.out) | (with_reducible refine Kd.C_alloc ?_ _) | (with_reducible refine Kd.C_drewN ?_ _) | (with_reducible refine Kd.C_drew ?_))); (case side2 => exact HC0_1.out); (case side3 => repeat (first | exact (Kd.C_below HR1_1.out HB.out) | (with_reducible refine Kd.C_alloc ?_ _) | (with_reducible refine Kd.C_drewN ?_ _) | (with_reducible refine Kd.C_drew ?_))); (case side4 => exact HC1_1.out); rintro e w' ⟨rfl, ⟨nd, rfl⟩⟩))
    go_ret
    exact ⟨by first | rfl | (simp [errW_none, errW_some] <;> rfl) | (simp [*, errW_none, errW_some] <;> rfl), hb2 HB GE279 GE280⟩
   ·rw [if_neg c7] at H; have c7b0 : (a0_0 == a1_0) = false := beq_eq_false_iff_ne.mpr c7; have c7b1 : (a0_0 != a1_0) = true := bne_iff_ne.mpr c7; obtain rfl := Option.some.inj H
    go_enter Tryd.func31, Tryd.ntmps31
    go_wp2_with (first | ((with_reducible refine gate_dst (N := 2) rfl ?_); refine be_ 2 #[.int .i64 a0_0, .slice A0_1 l0_1.length c0_1] 26 ?_; intro gb279 hg w18 hbox hb; have BK279 := Aside0.mk (hbox); have GW279 := wq (hb0 HB) hg; have GE279 := wq (hb0 HB) hg; replace HB := hs (hb0 HB) hb; clear hb hbox hg) | ((with_reducible refine gate_dst (N := 3) rfl ?_); refine be_ 3 #[.int .i64 a1_0, .slice A1_1 l1_1.length c1_1] 26 ?_; intro gb280 hg w19 hbox hb; have BK280 := Aside0.mk (hbox); have GW280 := wq (hb1 HB GE279) hg; have GE280 := wq (hb1 HB GE279) hg; replace HB := hs (hb1 HB GE279) hb; have NB279_280 := lx BK279 hg; have NB280_279 := gx BK279 hg; replace BK279 := kx BK279 hb; clear hb hbox hg; have hnb20 := NB279_280.out; have hnc20 := NB280_279.out; have hcz21_0 : w19.cell? ⟨gb279, 0, none⟩ = some (.int .i64 a0_0) := bc BK279 0; have hcz21_1 : w19.cell? ⟨gb279, 1, none⟩ = some (.slice A0_1 l0_1.length c0_1) := bc BK279 1; have hfz21_0 := blk_frozen BK279.out 0; have hfz21_1 := blk_frozen BK279.out 1) | ((with_reducible refine gate_callee (f := 24) rfl ?_); refine gl_ (some 6) Tryd.func24 #[.agg #[.int .i64 a0_0, .slice A0_1 l0_1.length c0_1]] ?_; (with_reducible refine (simple_Valid.calls k a0_0 _ _ l0_1 true _ ?side1 ?side2 A3.out).mono ?_); (case side1 => repeat (first | exact (Kd.C_below HR0_1.out HB.out) | (with_reducible refine Kd.C_alloc ?_ _) | (with_reducible refine Kd.C_drewN ?_ _) | (with_reducible refine Kd.C_drew ?_))); (case side2 => exact HC0_1.out); rintro e w22 ⟨rfl, hb⟩; refine ⟨_, rfl, ?_⟩; replace BK279 := kx BK279 hb; replace BK280 := kx BK280 hb; replace HB := hs (hb2 HB GE279 GE280) hb; (try clear hb); (try clear hb2); (try clear hk); (try clear hi); have hcz23_0 : w22.cell? ⟨gb280, 0, none⟩ = some (.int .i64 a1_0) := bc BK280 0; have hcz23_1 : w22.cell? ⟨gb280, 1, none⟩ = some (.slice A1_1 l1_1.length c1_1) := bc BK280 1; have hfz23_0 := blk_frozen BK280.out 0; have hfz23_1 := blk_frozen BK280.out 1) | (go_at_call 24; (with_reducible refine (simple_Valid.calls k a1_0 _ _ l1_1 true _ ?side1 ?side2 A5.out).mono ?_); (case side1 => repeat (first | exact (Kd.C_below HR1_1.out HB.out) | (with_reducible refine Kd.C_alloc ?_ _) | (with_reducible refine Kd.C_drewN ?_ _) | (with_reducible refine Kd.C_drew ?_))); (case side2 => exact HC1_1.out); rintro e w24 ⟨rfl, hb⟩; replace BK279 := kx BK279 hb; replace BK280 := kx BK280 hb; replace HB := hs (hb2 HB GE279 GE280) hb; (try clear hb); (try clear hb2); (try clear hk); (try clear hi); have hcz25_0 : w24.cell? ⟨gb279, 0, none⟩ = some (.int .i64 a0_0) := bc BK279 0; have hcz25_1 : w24.cell? ⟨gb279, 1, none⟩ = some (.slice A0_1 l0_1.length c0_1) := bc BK279 1; have hfz25_0 := blk_frozen BK279.out 0; have hfz25_1 := blk_frozen BK279.out 1; have hcz26_0 : w24.cell? ⟨gb280, 0, none⟩ = some (.int .i64 a1_0) := bc BK280 0; have hcz26_1 : w24.cell? ⟨gb280, 1, none⟩ = some (.slice A1_1 l1_1.length c1_1) := bc BK280 1; have hfz26_0 := blk_frozen BK280.out 0; have hfz26_1 := blk_frozen BK280.out 1))
    go_ret
    exact ⟨by first | rfl | (simp [errW_none, errW_some] <;> rfl) | (simp [*, errW_none, errW_some] <;> rfl), hb2 HB GE279 GE280⟩
  ·replace c6 := Bool.eq_false_iff.mpr c6; subst c6; rw [if_neg (show ¬ (false = true) by decide)] at H; obtain rfl := Option.some.inj H
   go_enter Tryd.func31, Tryd.ntmps31
   go_wp2_with (first | ((with_reducible refine gate_dst (N := 2) rfl ?_); refine be_ 2 #[.int .i64 a0_0, .slice A0_1 l0_1.length c0_1] 26 ?_; intro gb279 hg w27 hbox hb; have BK279 := Aside0.mk (hbox); have GW279 := wq (hb0 HB) hg; have GE279 := wq (hb0 HB) hg; replace HB := hs (hb0 HB) hb; clear hb hbox hg) | ((with_reducible refine gate_dst (N := 3) rfl ?_); refine be_ 3 #[.int .i64 a1_0, .slice A1_1 l1_1.length c1_1] 26 ?_; intro gb280 hg w28 hbox hb; have BK280 := Aside0.mk (hbox); have GW280 := wq (hb1 HB GE279) hg; have GE280 := wq (hb1 HB GE279) hg; replace HB := hs (hb1 HB GE279) hb; have NB279_280 := lx BK279 hg; have NB280_279 := gx BK279 hg; replace BK279 := kx BK279 hb; clear hb hbox hg; have hnb29 := NB279_280.out; have hnc29 := NB280_279.out; have hcz30_0 : w28.cell? ⟨gb279, 0, none⟩ = some (.int .i64 a0_0) := bc BK279 0; have hcz30_1 : w28.cell? ⟨gb279, 1, none⟩ = some (.slice A0_1 l0_1.length c0_1) := bc BK279 1; have hfz30_0 := blk_frozen BK279.out 0; have hfz30_1 := blk_frozen BK279.out 1) | ((with_reducible refine gate_callee (f := 24) rfl ?_); refine gl_ (some 6) Tryd.func24 #[.agg #[.int .i64 a0_0, .slice A0_1 l0_1.length c0_1]] ?_; (with_reducible refine (simple_Valid.calls k a0_0 _ _ l0_1 true _ ?side1 ?side2 A3.out).mono ?_); (case side1 => repeat (first | exact (Kd.C_below HR0_1.out HB.out) | (with_reducible refine Kd.C_alloc ?_ _) | (with_reducible refine Kd.C_drewN ?_ _) | (with_reducible refine Kd.C_drew ?_))); (case side2 => exact HC0_1.out); rintro e w31 ⟨rfl, hb⟩; refine ⟨_, rfl, ?_⟩; replace BK279 := kx BK279 hb; replace BK280 := kx BK280 hb; replace HB := hs (hb2 HB GE279 GE280) hb; (try clear hb); (try clear hb2); (try clear hk); (try clear hi); have hcz32_0 : w31.cell? ⟨gb280, 0, none⟩ = some (.int .i64 a1_0) := bc BK280 0; have hcz32_1 : w31.cell? ⟨gb280, 1, none⟩ = some (.slice A1_1 l1_1.length c1_1) := bc BK280 1; have hfz32_0 := blk_frozen BK280.out 0; have hfz32_1 := blk_frozen BK280.out 1) | (go_at_call 24; (with_reducible refine (simple_Valid.calls k a1_0 _ _ l1_1 false _ ?side1 ?side2 A5.out).mono ?_); (case side1 => repeat (first | exact (Kd.C_below HR1_1.out HB.out) | (with_reducible refine Kd.C_alloc ?_ _) | (with_reducible refine Kd.C_drewN ?_ _) | (with_reducible refine Kd.C_drew ?_))); (case side2 => exact HC1_1.out); rintro e w33 ⟨rfl, hb⟩; replace BK279 := kx BK279 hb; replace BK280 := kx BK280 hb; replace HB := hs (hb2 HB GE279 GE280) hb; (try clear hb); (try clear hb2); (try clear hk); (try clear hi)))
   go_ret
   exact ⟨by first | rfl | (simp [errW_none, errW_some] <;> rfl) | (simp [*, errW_none, errW_some] <;> rfl), hb2 HB GE279 GE280⟩
 ·replace c4 := Bool.eq_false_iff.mpr c4; subst c4; rw [if_neg (show ¬ (false = true) by decide)] at H; obtain rfl := Option.some.inj H
  go_enter Tryd.func31, Tryd.ntmps31
  go_wp2_with (first | ((with_reducible refine gate_dst (N := 2) rfl ?_); refine be_ 2 #[.int .i64 a0_0, .slice A0_1 l0_1.length c0_1] 26 ?_; intro gb279 hg w34 hbox hb; have BK279 := Aside0.mk (hbox); have GW279 := wq (hb0 HB) hg; have GE279 := wq (hb0 HB) hg; replace HB := hs (hb0 HB) hb; clear hb hbox hg) | ((with_reducible refine gate_dst (N := 3) rfl ?_); refine be_ 3 #[.int .i64 a1_0, .slice A1_1 l1_1.length c1_1] 26 ?_; intro gb280 hg w35 hbox hb; have BK280 := Aside0.mk (hbox); have GW280 := wq (hb1 HB GE279) hg; have GE280 := wq (hb1 HB GE279) hg; replace HB := hs (hb1 HB GE279) hb; have NB279_280 := lx BK279 hg; have NB280_279 := gx BK279 hg; replace BK279 := kx BK279 hb; clear hb hbox hg; have hnb36 := NB279_280.out; have hnc36 := NB280_279.out; have hcz37_0 : w35.cell? ⟨gb279, 0, none⟩ = some (.int .i64 a0_0) := bc BK279 0; have hcz37_1 : w35.cell? ⟨gb279, 1, none⟩ = some (.slice A0_1 l0_1.length c0_1) := bc BK279 1; have hfz37_0 := blk_frozen BK279.out 0; have hfz37_1 := blk_frozen BK279.out 1) | ((with_reducible refine gate_callee (f := 24) rfl ?_); refine gl_ (some 6) Tryd.func24 #[.agg #[.int .i64 a0_0, .slice A0_1 l0_1.length c0_1]] ?_; (with_reducible refine (simple_Valid.calls k a0_0 _ _ l0_1 false _ ?side1 ?side2 A3.out).mono ?_); (case side1 => repeat (first | exact (Kd.C_below HR0_1.out HB.out) | (with_reducible refine Kd.C_alloc ?_ _) | (with_reducible refine Kd.C_drewN ?_ _) | (with_reducible refine Kd.C_drew ?_))); (case side2 => exact HC0_1.out); rintro e w38 ⟨rfl, hb⟩; refine ⟨_, rfl, ?_⟩; replace BK279 := kx BK279 hb; replace BK280 := kx BK280 hb; replace HB := hs (hb2 HB GE279 GE280) hb; (try clear hb); (try clear hb2); (try clear hk); (try clear hi)))
  go_ret
  exact ⟨by first | rfl | (simp [errW_none, errW_some] <;> rfl) | (simp [*, errW_none, errW_some] <;> rfl), hb2 HB GE279 GE280⟩

end Go.Proofs.YthejafdcdcchbaaDoor.PSimA
