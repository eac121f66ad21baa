-- PRINTED by print.py (a twelfth state) out of the translation. Not trusted: Lean checks it.
import Derived.Test.YthejafdcdcchbaaDoorZPSimAx0
namespace Go.Proofs.YthejafdcdcchbaaDoor.PSimA
open Go.RowKit Go.Proofs.YthejafdcdcchbaaDoorW.PrintWords Go.Proofs.YthejafdcdcchbaaDoorW.PrintLast Go.Proofs.YthejafdcdcchbaaDoorW.PrintMore
open Go.Proofs.YthejafdcdcchbaaDoorX
attribute [local go_sem] max2_int min2_int max_two min_two max_three min_three max_four min_four   -- for this text's walks alone
set_option linter.unusedVariables false
set_option linter.unusedSimpArgs false

/-! ### tangramref03_Equal: function 15 -/
mutual
def tangramref03_Equal.j0 : Nat → Bool → Int → List (S42) → Int → List (S42) → Option (Bool)
 | 0, _, _, _, _, _ => none
 | k + 1, x19, x267000, x267001, x268000, x268001 => if x19 = true then (some false) else (tangramref03_Equal.l0 k 0 x267000 x267001 x268000 x268001)
def tangramref03_Equal.l0 : Nat → Int → Int → List (S42) → Int → List (S42) → Option (Bool)
 | 0, _, _, _, _, _ => none
 | k + 1, x5, x267000, x267001, x268000, x268001 => if x5 < (x267001.length : Int) then (if 0 ≤ x5 then (if x5 < (x268001.length : Int) then (if ((rd_T42 x267001 x5).f0) = ((rd_T42 x268001 x5).f0) then (if ((rd_T42 x267001 x5).f1) = ((rd_T42 x268001 x5).f1) then (tangramref03_Equal.l0 k (wrap64 (x5 + 1)) x267000 x267001 x268000 x268001) else (some false)) else (some false)) else (none)) else (none)) else (some true)
end
def tangramref03_Equal.f (k : Nat) (a0_0 : Int) (l0_1 : List (S42)) (a1_0 : Int) (l1_1 : List (S42)) : Option (Bool) := if a0_0 = a1_0 then (tangramref03_Equal.j0 k ((l0_1.length : Int) != (l1_1.length : Int)) a0_0 l0_1 a1_0 l1_1) else (tangramref03_Equal.j0 k true a0_0 l0_1 a1_0 l1_1)
theorem tangramref03_Equal.mono_l : ∀ k, (∀ y0 y1 y2 y3 y4, LeO (tangramref03_Equal.j0 k y0 y1 y2 y3 y4) (tangramref03_Equal.j0 (k + 1) y0 y1 y2 y3 y4)) ∧ (∀ y0 y1 y2 y3 y4, LeO (tangramref03_Equal.l0 k y0 y1 y2 y3 y4) (tangramref03_Equal.l0 (k + 1) y0 y1 y2 y3 y4))
 | 0 => ⟨fun _ _ _ _ _ r h => by simp [tangramref03_Equal.j0] at h, fun _ _ _ _ _ r h => by simp [tangramref03_Equal.l0] at h⟩
 | k + 1 => by
  obtain ⟨ih0, ih1⟩ := tangramref03_Equal.mono_l k; refine ⟨?_, ?_⟩
  ·intro y0 y1 y2 y3 y4
   unfold tangramref03_Equal.j0
   repeat' first
   | (with_reducible exact ih0 _ _ _ _ _)
   | (with_reducible exact ih1 _ _ _ _ _)
   | (with_reducible exact LeO.refl _)
   | (with_reducible exact LeO.none _)
   | (with_reducible refine LeO.ite ?_ ?_)
   | (with_reducible refine LeO.bind ?_ (fun _ => ?_))
   | exact ih0 _ _ _ _ _
   | exact ih1 _ _ _ _ _
   | exact LeO.none _
   | refine LeO.ite ?_ ?_
   | refine LeO.bind ?_ (fun _ => ?_)
  ·intro y0 y1 y2 y3 y4
   unfold tangramref03_Equal.l0
   repeat' first
   | (with_reducible exact ih0 _ _ _ _ _)
   | (with_reducible exact ih1 _ _ _ _ _)
   | (with_reducible exact LeO.refl _)
   | (with_reducible exact LeO.none _)
   | (with_reducible refine LeO.ite ?_ ?_)
   | (with_reducible refine LeO.bind ?_ (fun _ => ?_))
   | exact ih0 _ _ _ _ _
   | exact ih1 _ _ _ _ _
   | exact LeO.none _
   | refine LeO.ite ?_ ?_
   | refine LeO.bind ?_ (fun _ => ?_)
theorem tangramref03_Equal.mono : ∀ a0 a1 a2 a3 k, LeO (tangramref03_Equal.f k a0 a1 a2 a3) (tangramref03_Equal.f (k + 1) a0 a1 a2 a3) := by
 intro a0 a1 a2 a3 k; obtain ⟨ih0, ih1⟩ := tangramref03_Equal.mono_l k
 unfold tangramref03_Equal.f
 repeat' first
   | (with_reducible exact ih0 _ _ _ _ _)
   | (with_reducible exact ih1 _ _ _ _ _)
   | (with_reducible exact LeO.refl _)
   | (with_reducible exact LeO.none _)
   | (with_reducible refine LeO.ite ?_ ?_)
   | (with_reducible refine LeO.bind ?_ (fun _ => ?_))
   | exact ih0 _ _ _ _ _
   | exact ih1 _ _ _ _ _
   | exact LeO.none _
   | refine LeO.ite ?_ ?_
   | refine LeO.bind ?_ (fun _ => ?_)
set_option maxHeartbeats 8000000 in
set_option maxRecDepth 100000 in
theorem tangramref03_Equal.calls (k : Nat) (a0_0 : Int) (A0_1 : Option Addr) (c0_1 : Nat) (l0_1 : List (S42)) (a1_0 : Int) (A1_1 : Option Addr) (c1_1 : Nat) (l1_1 : List (S42)) (r : Bool) (w : World) (hr0_1 : Kd.C k42 w A0_1 l0_1.length l0_1) (hc0_1 : l0_1.length ≤ c0_1) (hr1_1 : Kd.C k42 w A1_1 l1_1.length l1_1) (hc1_1 : l1_1.length ≤ c1_1) (h : tangramref03_Equal.f k a0_0 l0_1 a1_0 l1_1 = some r) :
  Calls Tryd.prog 15 #[.agg #[.int .i64 a0_0, .slice A0_1 l0_1.length c0_1], .agg #[.int .i64 a1_0, .slice A1_1 l1_1.length c1_1]] w fun e w' => e = .returned (.bool r) ∧ Below w.heap.size w w' := by
 have hu26 := Tryd.underlying26; have HR0_1 := Aside0.mk hr0_1; have HC0_1 := Aside0.mk hc0_1; clear hr0_1 hc0_1; have HR1_1 := Aside0.mk hr1_1; have HC1_1 := Aside0.mk hc1_1; clear hr1_1 hc1_1; have HB := Aside0.mk (Below.refl w.heap.size w); have H : (if a0_0 = a1_0 then (tangramref03_Equal.j0 k ((l0_1.length : Int) != (l1_1.length : Int)) a0_0 l0_1 a1_0 l1_1) else (tangramref03_Equal.j0 k true a0_0 l0_1 a1_0 l1_1)) = some r := h; clear h; have HC3 := Aside0.mk H; clear H
 go_enter Tryd.func15, Tryd.ntmps15
 go_upto_region 1 with (first | ((with_reducible refine gate_dst (N := 2) rfl ?_); (try (refine gate_guard (by rfl) ?_; dsimp only)); refine be_ 2 #[.int .i64 a0_0, .slice A0_1 l0_1.length c0_1] 26 ?_; intro gb266 hg w4 hbox hb; have BK266 := Aside0.mk (hbox); have GW266 := wq (hb0 HB) hg; have GE266 := wq (hb0 HB) hg; replace HB := hs (hb0 HB) hb; clear hb hbox hg) | ((with_reducible refine gate_dst (N := 3) rfl ?_); (try (refine gate_guard (by rfl) ?_; dsimp only)); refine be_ 3 #[.int .i64 a1_0, .slice A1_1 l1_1.length c1_1] 26 ?_; intro gb267 hg w5 hbox hb; have BK267 := Aside0.mk (hbox); have GW267 := wq (hb1 HB GE266) hg; have GE267 := wq (hb1 HB GE266) hg; replace HB := hs (hb1 HB GE266) hb; have NB266_267 := lx BK266 hg; have NB267_266 := gx BK266 hg; replace BK266 := kx BK266 hb; clear hb hbox hg))
 repeat (go_quiet (first | ((with_reducible refine gate_dst (N := 2) rfl ?_); (try (refine gate_guard (by rfl) ?_; dsimp only)); refine be_ 2 #[.int .i64 a0_0, .slice A0_1 l0_1.length c0_1] 26 ?_; intro gb266 hg w4 hbox hb; have BK266 := Aside0.mk (hbox); have GW266 := wq (hb0 HB) hg; have GE266 := wq (hb0 HB) hg; replace HB := hs (hb0 HB) hb; clear hb hbox hg) | ((with_reducible refine gate_dst (N := 3) rfl ?_); (try (refine gate_guard (by rfl) ?_; dsimp only)); refine be_ 3 #[.int .i64 a1_0, .slice A1_1 l1_1.length c1_1] 26 ?_; intro gb267 hg w5 hbox hb; have BK267 := Aside0.mk (hbox); have GW267 := wq (hb1 HB GE266) hg; have GE267 := wq (hb1 HB GE266) hg; replace HB := hs (hb1 HB GE266) hb; have NB266_267 := lx BK266 hg; have NB267_266 := gx BK266 hg; replace BK266 := kx BK266 hb; clear hb hbox hg)); go_upto_region 1 with (first | ((with_reducible refine gate_dst (N := 2) rfl ?_); (try (refine gate_guard (by rfl) ?_; dsimp only)); refine be_ 2 #[.int .i64 a0_0, .slice A0_1 l0_1.length c0_1] 26 ?_; intro gb266 hg w4 hbox hb; have BK266 := Aside0.mk (hbox); have GW266 := wq (hb0 HB) hg; have GE266 := wq (hb0 HB) hg; replace HB := hs (hb0 HB) hb; clear hb hbox hg) | ((with_reducible refine gate_dst (N := 3) rfl ?_); (try (refine gate_guard (by rfl) ?_; dsimp only)); refine be_ 3 #[.int .i64 a1_0, .slice A1_1 l1_1.length c1_1] 26 ?_; intro gb267 hg w5 hbox hb; have BK267 := Aside0.mk (hbox); have GW267 := wq (hb1 HB GE266) hg; have GE267 := wq (hb1 HB GE266) hg; replace HB := hs (hb1 HB GE266) hb; have NB266_267 := lx BK266 hg; have NB267_266 := gx BK266 hg; replace BK266 := kx BK266 hb; clear hb hbox hg)))
 (try simp only [Act.put, List.setIfInBounds_toArray, List.set_cons_zero, List.set_cons_succ])
 go_cut [19] (fun v19 wc => ∃ (kq : Nat) (x19_2 : Bool), v19 = .bool x19_2 ∧ Aside0 (tangramref03_Equal.j0 kq x19_2 a0_0 l0_1 a1_0 l1_1 = some r) ∧ Aside0 (kq ≤ k) ∧ Aside0 (wc.heap[gb266]? = some (.cells #[.int .i64 a0_0, (.slice A0_1 l0_1.length c0_1)] 26 (0, 0))) ∧ Aside0 (wc.heap[gb267]? = some (.cells #[.int .i64 a1_0, (.slice A1_1 l1_1.length c1_1)] 26 (0, 0))) ∧ Aside0 (Below w.heap.size w wc))
 case first => as_aux_lemma =>
  have H := HC3.out; clear HC3
  by_cases c6 : a0_0 = a1_0
  ·rw [if_pos c6] at H; have c6b0 : (a0_0 == a1_0) = true := beq_iff_eq.mpr c6; have c6b1 : (a0_0 != a1_0) = false := bne_eq_false_iff_eq.mpr c6; clear c6
   (first | rw [c6b0] | (simp only [i64_w, i32_w]; rw [c6b0]) | skip)
   have H' := Aside0.mk H; clear H; have hnb7 := NB266_267.out; have hnc7 := NB267_266.out; have hcz8_0 : w5.cell? ⟨gb266, 0, none⟩ = some (.int .i64 a0_0) := bc BK266 0; have hcz8_1 : w5.cell? ⟨gb266, 1, none⟩ = some (.slice A0_1 l0_1.length c0_1) := bc BK266 1; have hfz8_0 := blk_frozen BK266.out 0; have hfz8_1 := blk_frozen BK266.out 1; have hcz9_0 : w5.cell? ⟨gb267, 0, none⟩ = some (.int .i64 a1_0) := bc BK267 0; have hcz9_1 : w5.cell? ⟨gb267, 1, none⟩ = some (.slice A1_1 l1_1.length c1_1) := bc BK267 1; have hfz9_0 := blk_frozen BK267.out 0; have hfz9_1 := blk_frozen BK267.out 1
   go_wp2
   repeat (go_quiet (fail); try go_wp2)
   go_meet
   case rel => exact ⟨_, (((l0_1.length : Int) != (l1_1.length : Int))), (by first | rfl | (simp; done) | (simp [*]; done)), H', ⟨by first | omega | exact Nat.le_refl _⟩, ⟨bx BK266⟩, ⟨bx BK267⟩, ⟨hb2 HB GE266 GE267⟩⟩
  ·rw [if_neg c6] at H; have c6b0 : (a0_0 == a1_0) = false := beq_eq_false_iff_ne.mpr c6; have c6b1 : (a0_0 != a1_0) = true := bne_iff_ne.mpr c6
   (first | rw [c6b0] | (simp only [i64_w, i32_w]; rw [c6b0]) | skip)
   have H' := Aside0.mk H; clear H; have hnb10 := NB266_267.out; have hnc10 := NB267_266.out; have hcz11_0 : w5.cell? ⟨gb266, 0, none⟩ = some (.int .i64 a0_0) := bc BK266 0; have hcz11_1 : w5.cell? ⟨gb266, 1, none⟩ = some (.slice A0_1 l0_1.length c0_1) := bc BK266 1; have hfz11_0 := blk_frozen BK266.out 0; have hfz11_1 := blk_frozen BK266.out 1; have hcz12_0 : w5.cell? ⟨gb267, 0, none⟩ = some (.int .i64 a1_0) := bc BK267 0; have hcz12_1 : w5.cell? ⟨gb267, 1, none⟩ = some (.slice A1_1 l1_1.length c1_1) := bc BK267 1; have hfz12_0 := blk_frozen BK267.out 0; have hfz12_1 := blk_frozen BK267.out 1
   go_wp2
   repeat (go_quiet (fail); try go_wp2)
   go_meet
   case rel => exact ⟨_, (true), (by first | rfl | (simp; done) | (simp [*]; done)), H', ⟨by first | omega | exact Nat.le_refl _⟩, ⟨bx BK266⟩, ⟨bx BK267⟩, ⟨hb2 HB GE266 GE267⟩⟩
 case rest => as_aux_lemma =>
  clear HC3
  try clear c1
  try clear p2
  try clear c6
  try clear c6b0
  try clear c6b1
  try clear c7
  try clear c10
  try clear hcz11_0
  try clear hcz11_1
  try clear hcz12_0
  try clear hcz12_1
  try clear hcz8_0
  try clear hcz8_1
  try clear hcz9_0
  try clear hcz9_1
  try clear hfz11_0
  try clear hfz11_1
  try clear hfz12_0
  try clear hfz12_1
  try clear hfz8_0
  try clear hfz8_1
  try clear hfz9_0
  try clear hfz9_1
  obtain ⟨kq, x19_2, rfl, HA, HJ2, BK266, BK267, HB⟩ := hcut
  cases kq with
  | zero => exact absurd HA.out (by simp [tangramref03_Equal.j0])
  | succ kj2 =>
   have H := HA.out; clear HA; simp only [tangramref03_Equal.j0] at H
   by_cases c13 : x19_2 = true
   ·subst c13; rw [if_pos rfl] at H; obtain rfl := Option.some.inj H
    go_wp2
    repeat (go_quiet (fail); try go_wp2)
    go_ret
    exact ⟨by first | rfl | (simp [errW_none, errW_some] <;> rfl) | (simp [*, errW_none, errW_some] <;> rfl), hb2 HB GE266 GE267⟩
   ·replace c13 := Bool.eq_false_iff.mpr c13; subst c13; rw [if_neg (show ¬ (false = true) by decide)] at H; have H' := Aside0.mk H; clear H
    go_wp2
    repeat (go_quiet (fail); try go_wp2)
    go_loopg [5] kj2 (fun kq v5 w' => ∃ (x5_2 : Int), v5 = .int .i64 x5_2 ∧ Aside0 (tangramref03_Equal.l0 kq x5_2 a0_0 l0_1 a1_0 l1_1 = some r) ∧ Aside0 (kq ≤ kj2) ∧ Aside0 (w'.heap[gb266]? = some (.cells #[.int .i64 a0_0, (.slice A0_1 l0_1.length c0_1)] 26 (0, 0))) ∧ Aside0 (w'.heap[gb267]? = some (.cells #[.int .i64 a1_0, (.slice A1_1 l1_1.length c1_1)] 26 (0, 0))) ∧ Aside0 (Below w.heap.size w w'))
    case atStart => exact ⟨(0), (by first | rfl | (simp; done) | (simp [*]; done)), H', ⟨Nat.le_refl _⟩, ⟨bx BK266⟩, ⟨bx BK267⟩, ⟨hb2 HB GE266 GE267⟩⟩
    case round =>
     clear H'
     try clear c1
     try clear p2
     try clear c6
     try clear c6b0
     try clear c6b1
     try clear c7
     try clear c10
     try clear c13
     try clear hcz11_0
     try clear hcz11_1
     try clear hcz12_0
     try clear hcz12_1
     try clear hcz8_0
     try clear hcz8_1
     try clear hcz9_0
     try clear hcz9_1
     try clear hfz11_0
     try clear hfz11_1
     try clear hfz12_0
     try clear hfz12_1
     try clear hfz8_0
     try clear hfz8_1
     try clear hfz9_0
     try clear hfz9_1
     try clear p2
     obtain ⟨x5_2, rfl, HA, HK2, BK266, BK267, HB⟩ := hrel
     cases gk with
     | zero => exact absurd HA.out (by simp [tangramref03_Equal.l0])
     | succ k2 =>
      have H := HA.out; clear HA; simp only [tangramref03_Equal.l0] at H
      by_cases c14 : x5_2 < (l0_1.length : Int)
      ·rw [if_pos c14] at H; have c14b0 : decide (x5_2 < (l0_1.length : Int)) = true := decide_eq_true c14; clear c14
       by_cases c15 : 0 ≤ x5_2
       ·rw [if_pos c15] at H; have c15b0 : decide (0 ≤ x5_2) = true := decide_eq_true c15; clear c15
        by_cases c16 : x5_2 < (l1_1.length : Int)
        ·rw [if_pos c16] at H; have c16b0 : decide (x5_2 < (l1_1.length : Int)) = true := decide_eq_true c16; clear c16
         by_cases c17 : ((rd_T42 l0_1 x5_2).f0) = ((rd_T42 l1_1 x5_2).f0)
         ·rw [if_pos c17] at H; have c17b0 : (((rd_T42 l0_1 x5_2).f0) == ((rd_T42 l1_1 x5_2).f0)) = true := beq_iff_eq.mpr c17; have c17b1 : (((rd_T42 l0_1 x5_2).f0) != ((rd_T42 l1_1 x5_2).f0)) = false := bne_eq_false_iff_eq.mpr c17; clear c17
          by_cases c18 : ((rd_T42 l0_1 x5_2).f1) = ((rd_T42 l1_1 x5_2).f1)
          ·rw [if_pos c18] at H; have c18b0 : (((rd_T42 l0_1 x5_2).f1) == ((rd_T42 l1_1 x5_2).f1)) = true := beq_iff_eq.mpr c18; have c18b1 : (((rd_T42 l0_1 x5_2).f1) != ((rd_T42 l1_1 x5_2).f1)) = false := bne_eq_false_iff_eq.mpr c18; clear c18; have H' := Aside0.mk H; clear H; have hnb19 := NB266_267.out; have hnc19 := NB267_266.out; have hcz20_0 : wr.cell? ⟨gb266, 0, none⟩ = some (.int .i64 a0_0) := bc BK266 0; have hcz20_1 : wr.cell? ⟨gb266, 1, none⟩ = some (.slice A0_1 l0_1.length c0_1) := bc BK266 1; have hfz20_0 := blk_frozen BK266.out 0; have hfz20_1 := blk_frozen BK266.out 1; have p268 : 0 ≤ (x5_2 : Int) := of_decide_eq_true (by first | (with_reducible assumption) | assumption); have q268 : x5_2 < (l0_1.length : Int) := of_decide_eq_true (by first | (with_reducible assumption) | assumption); obtain ⟨ad268, e268, hx268_0, hx268_1⟩ := at_T42 HR0_1.out x5_2 p268 q268
           cases e268
           replace hx268_0 := (HB.out.cell (World.block_lt_of_cell? w _ hx268_0)).trans hx268_0; replace hx268_1 := (HB.out.cell (World.block_lt_of_cell? w _ hx268_1)).trans hx268_1; replace p268 := eq_true p268; replace q268 := eq_true q268; have hcz21_0 : wr.cell? ⟨gb267, 0, none⟩ = some (.int .i64 a1_0) := bc BK267 0; have hcz21_1 : wr.cell? ⟨gb267, 1, none⟩ = some (.slice A1_1 l1_1.length c1_1) := bc BK267 1; have hfz21_0 := blk_frozen BK267.out 0; have hfz21_1 := blk_frozen BK267.out 1; have p269 : 0 ≤ (x5_2 : Int) := of_decide_eq_true (by first | (with_reducible assumption) | assumption); have q269 : x5_2 < (l1_1.length : Int) := of_decide_eq_true (by first | (with_reducible assumption) | assumption); obtain ⟨ad269, e269, hx269_0, hx269_1⟩ := at_T42 HR1_1.out x5_2 p269 q269
           cases e269
           replace hx269_0 := (HB.out.cell (World.block_lt_of_cell? w _ hx269_0)).trans hx269_0; replace hx269_1 := (HB.out.cell (World.block_lt_of_cell? w _ hx269_1)).trans hx269_1; replace p269 := eq_true p269; replace q269 := eq_true q269; have p270 : 0 ≤ (x5_2 : Int) := of_decide_eq_true (by first | (with_reducible assumption) | assumption); have q270 : x5_2 < (l0_1.length : Int) := of_decide_eq_true (by first | (with_reducible assumption) | assumption); obtain ⟨ad270, e270, hx270_0, hx270_1⟩ := at_T42 HR0_1.out x5_2 p270 q270; obtain rfl : ad268 = ad270 := (by injection e270); replace hx270_0 := (HB.out.cell (World.block_lt_of_cell? w _ hx270_0)).trans hx270_0; replace hx270_1 := (HB.out.cell (World.block_lt_of_cell? w _ hx270_1)).trans hx270_1; replace p270 := eq_true p270; replace q270 := eq_true q270; have p271 : 0 ≤ (x5_2 : Int) := of_decide_eq_true (by first | (with_reducible assumption) | assumption); have q271 : x5_2 < (l1_1.length : Int) := of_decide_eq_true (by first | (with_reducible assumption) | assumption); obtain ⟨ad271, e271, hx271_0, hx271_1⟩ := at_T42 HR1_1.out x5_2 p271 q271; obtain rfl : ad269 = ad271 := (by injection e271); replace hx271_0 := (HB.out.cell (World.block_lt_of_cell? w _ hx271_0)).trans hx271_0; replace hx271_1 := (HB.out.cell (World.block_lt_of_cell? w _ hx271_1)).trans hx271_1; replace p271 := eq_true p271; replace q271 := eq_true q271
           go_wp2
           repeat (go_quiet (fail); try go_wp2)
           go_roundg k2
           case measure => have := HJ2.out; have := HK2.out; omega
           case rel => exact ⟨(wrap64 (x5_2 + 1)), (by first | rfl | (simp; done) | (simp [*]; done)), H', ⟨by have := HJ2.out; have := HK2.out; omega⟩, ⟨bx BK266⟩, ⟨bx BK267⟩, ⟨hb2 HB GE266 GE267⟩⟩
          ·rw [if_neg c18] at H; have c18b0 : (((rd_T42 l0_1 x5_2).f1) == ((rd_T42 l1_1 x5_2).f1)) = false := beq_eq_false_iff_ne.mpr c18; have c18b1 : (((rd_T42 l0_1 x5_2).f1) != ((rd_T42 l1_1 x5_2).f1)) = true := bne_iff_ne.mpr c18; obtain rfl := Option.some.inj H; have hnb22 := NB266_267.out; have hnc22 := NB267_266.out; have hcz23_0 : wr.cell? ⟨gb266, 0, none⟩ = some (.int .i64 a0_0) := bc BK266 0; have hcz23_1 : wr.cell? ⟨gb266, 1, none⟩ = some (.slice A0_1 l0_1.length c0_1) := bc BK266 1; have hfz23_0 := blk_frozen BK266.out 0; have hfz23_1 := blk_frozen BK266.out 1; have p268 : 0 ≤ (x5_2 : Int) := of_decide_eq_true (by first | (with_reducible assumption) | assumption); have q268 : x5_2 < (l0_1.length : Int) := of_decide_eq_true (by first | (with_reducible assumption) | assumption); obtain ⟨ad268, e268, hx268_0, hx268_1⟩ := at_T42 HR0_1.out x5_2 p268 q268
           cases e268
           replace hx268_0 := (HB.out.cell (World.block_lt_of_cell? w _ hx268_0)).trans hx268_0; replace hx268_1 := (HB.out.cell (World.block_lt_of_cell? w _ hx268_1)).trans hx268_1; replace p268 := eq_true p268; replace q268 := eq_true q268; have hcz24_0 : wr.cell? ⟨gb267, 0, none⟩ = some (.int .i64 a1_0) := bc BK267 0; have hcz24_1 : wr.cell? ⟨gb267, 1, none⟩ = some (.slice A1_1 l1_1.length c1_1) := bc BK267 1; have hfz24_0 := blk_frozen BK267.out 0; have hfz24_1 := blk_frozen BK267.out 1; have p269 : 0 ≤ (x5_2 : Int) := of_decide_eq_true (by first | (with_reducible assumption) | assumption); have q269 : x5_2 < (l1_1.length : Int) := of_decide_eq_true (by first | (with_reducible assumption) | assumption); obtain ⟨ad269, e269, hx269_0, hx269_1⟩ := at_T42 HR1_1.out x5_2 p269 q269
           cases e269
           replace hx269_0 := (HB.out.cell (World.block_lt_of_cell? w _ hx269_0)).trans hx269_0; replace hx269_1 := (HB.out.cell (World.block_lt_of_cell? w _ hx269_1)).trans hx269_1; replace p269 := eq_true p269; replace q269 := eq_true q269; have p270 : 0 ≤ (x5_2 : Int) := of_decide_eq_true (by first | (with_reducible assumption) | assumption); have q270 : x5_2 < (l0_1.length : Int) := of_decide_eq_true (by first | (with_reducible assumption) | assumption); obtain ⟨ad270, e270, hx270_0, hx270_1⟩ := at_T42 HR0_1.out x5_2 p270 q270; obtain rfl : ad268 = ad270 := (by injection e270); replace hx270_0 := (HB.out.cell (World.block_lt_of_cell? w _ hx270_0)).trans hx270_0; replace hx270_1 := (HB.out.cell (World.block_lt_of_cell? w _ hx270_1)).trans hx270_1; replace p270 := eq_true p270; replace q270 := eq_true q270; have p271 : 0 ≤ (x5_2 : Int) := of_decide_eq_true (by first | (with_reducible assumption) | assumption); have q271 : x5_2 < (l1_1.length : Int) := of_decide_eq_true (by first | (with_reducible assumption) | assumption); obtain ⟨ad271, e271, hx271_0, hx271_1⟩ := at_T42 HR1_1.out x5_2 p271 q271; obtain rfl : ad269 = ad271 := (by injection e271); replace hx271_0 := (HB.out.cell (World.block_lt_of_cell? w _ hx271_0)).trans hx271_0; replace hx271_1 := (HB.out.cell (World.block_lt_of_cell? w _ hx271_1)).trans hx271_1; replace p271 := eq_true p271; replace q271 := eq_true q271
           go_wp2
           repeat (go_quiet (fail); try go_wp2)
           go_ret
           exact ⟨by first | rfl | (simp [errW_none, errW_some] <;> rfl) | (simp [*, errW_none, errW_some] <;> rfl), hb2 HB GE266 GE267⟩
         ·rw [if_neg c17] at H; have c17b0 : (((rd_T42 l0_1 x5_2).f0) == ((rd_T42 l1_1 x5_2).f0)) = false := beq_eq_false_iff_ne.mpr c17; have c17b1 : (((rd_T42 l0_1 x5_2).f0) != ((rd_T42 l1_1 x5_2).f0)) = true := bne_iff_ne.mpr c17; obtain rfl := Option.some.inj H; have hnb25 := NB266_267.out; have hnc25 := NB267_266.out; have hcz26_0 : wr.cell? ⟨gb266, 0, none⟩ = some (.int .i64 a0_0) := bc BK266 0; have hcz26_1 : wr.cell? ⟨gb266, 1, none⟩ = some (.slice A0_1 l0_1.length c0_1) := bc BK266 1; have hfz26_0 := blk_frozen BK266.out 0; have hfz26_1 := blk_frozen BK266.out 1; have p268 : 0 ≤ (x5_2 : Int) := of_decide_eq_true (by first | (with_reducible assumption) | assumption); have q268 : x5_2 < (l0_1.length : Int) := of_decide_eq_true (by first | (with_reducible assumption) | assumption); obtain ⟨ad268, e268, hx268_0, hx268_1⟩ := at_T42 HR0_1.out x5_2 p268 q268
          cases e268
          replace hx268_0 := (HB.out.cell (World.block_lt_of_cell? w _ hx268_0)).trans hx268_0; replace hx268_1 := (HB.out.cell (World.block_lt_of_cell? w _ hx268_1)).trans hx268_1; replace p268 := eq_true p268; replace q268 := eq_true q268; have hcz27_0 : wr.cell? ⟨gb267, 0, none⟩ = some (.int .i64 a1_0) := bc BK267 0; have hcz27_1 : wr.cell? ⟨gb267, 1, none⟩ = some (.slice A1_1 l1_1.length c1_1) := bc BK267 1; have hfz27_0 := blk_frozen BK267.out 0; have hfz27_1 := blk_frozen BK267.out 1; have p269 : 0 ≤ (x5_2 : Int) := of_decide_eq_true (by first | (with_reducible assumption) | assumption); have q269 : x5_2 < (l1_1.length : Int) := of_decide_eq_true (by first | (with_reducible assumption) | assumption); obtain ⟨ad269, e269, hx269_0, hx269_1⟩ := at_T42 HR1_1.out x5_2 p269 q269
          cases e269
          replace hx269_0 := (HB.out.cell (World.block_lt_of_cell? w _ hx269_0)).trans hx269_0; replace hx269_1 := (HB.out.cell (World.block_lt_of_cell? w _ hx269_1)).trans hx269_1; replace p269 := eq_true p269; replace q269 := eq_true q269
          go_wp2
          repeat (go_quiet (fail); try go_wp2)
          go_ret
          exact ⟨by first | rfl | (simp [errW_none, errW_some] <;> rfl) | (simp [*, errW_none, errW_some] <;> rfl), hb2 HB GE266 GE267⟩
        ·rw [if_neg c16] at H; exact absurd H (by simp)
       ·rw [if_neg c15] at H; exact absurd H (by simp)
      ·rw [if_neg c14] at H; have c14b0 : decide (x5_2 < (l0_1.length : Int)) = false := decide_eq_false c14; clear c14; obtain rfl := Option.some.inj H; have hnb28 := NB266_267.out; have hnc28 := NB267_266.out; have hcz29_0 : wr.cell? ⟨gb266, 0, none⟩ = some (.int .i64 a0_0) := bc BK266 0; have hcz29_1 : wr.cell? ⟨gb266, 1, none⟩ = some (.slice A0_1 l0_1.length c0_1) := bc BK266 1; have hfz29_0 := blk_frozen BK266.out 0; have hfz29_1 := blk_frozen BK266.out 1
       go_wp2
       repeat (go_quiet (fail); try go_wp2)
       go_ret
       exact ⟨by first | rfl | (simp [errW_none, errW_some] <;> rfl) | (simp [*, errW_none, errW_some] <;> rfl), hb2 HB GE266 GE267⟩

end Go.Proofs.YthejafdcdcchbaaDoor.PSimA
