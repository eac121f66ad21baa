-- PRINTED by print.py (a twelfth state) out of the translation. Not trusted: Lean checks it.
import Derived.Test.YtdaeaejmikhmcaaZPEditCx0
import Derived.Test.YtdaeaejmikhmcaaZPEditCx1
namespace Go.Proofs.Ytdaeaejmikhmcaa.PEditC
open Go.RowKit Go.Proofs.YtdaeaejmikhmcaaW.PrintWords Go.Proofs.YtdaeaejmikhmcaaW.PrintLast Go.Proofs.YtdaeaejmikhmcaaW.PrintMore
open Go.Proofs.YtdaeaejmikhmcaaX
attribute [local go_sem] max2_int min2_int max_two min_two max_three min_three max_four min_four   -- for this text's walks alone
set_option linter.unusedVariables false
set_option linter.unusedSimpArgs false

attribute [local go_sem high] eqA46
/-! ### tangramref14_Same: function 15 -/
mutual
def tangramref14_Same.j0 : Nat → Bool → Int → List (S46) → Int → List (S46) → Option (Bool)
 | 0, _, _, _, _, _ => none
 | k + 1, x19, x257000, x257001, x258000, x258001 => if x19 = true then (some false) else (tangramref14_Same.l0 k 0 x257000 x257001 x258000 x258001)
def tangramref14_Same.l0 : Nat → Int → Int → List (S46) → Int → List (S46) → Option (Bool)
 | 0, _, _, _, _, _ => none
 | k + 1, x5, x257000, x257001, x258000, x258001 => if x5 < (x257001.length : Int) then (if 0 ≤ x5 then (if x5 < (x258001.length : Int) then (if (!(((rd_T46 x257001 x5).f0) == ((rd_T46 x258001 x5).f0)) || (!(((rd_T46 x257001 x5).f1) == ((rd_T46 x258001 x5).f1)))) = true then (some false) else (tangramref14_Same.l0 k (wrap64 (x5 + 1)) x257000 x257001 x258000 x258001)) else (none)) else (none)) else (some true)
end
def tangramref14_Same.f (k : Nat) (a0_0 : Int) (l0_1 : List (S46)) (a1_0 : Int) (l1_1 : List (S46)) : Option (Bool) := if a0_0 = a1_0 then (tangramref14_Same.j0 k ((l0_1.length : Int) != (l1_1.length : Int)) a0_0 l0_1 a1_0 l1_1) else (tangramref14_Same.j0 k true a0_0 l0_1 a1_0 l1_1)
theorem tangramref14_Same.mono_l : ∀ k, (∀ y0 y1 y2 y3 y4, LeO (tangramref14_Same.j0 k y0 y1 y2 y3 y4) (tangramref14_Same.j0 (k + 1) y0 y1 y2 y3 y4)) ∧ (∀ y0 y1 y2 y3 y4, LeO (tangramref14_Same.l0 k y0 y1 y2 y3 y4) (tangramref14_Same.l0 (k + 1) y0 y1 y2 y3 y4))
 | 0 => ⟨fun _ _ _ _ _ r h => by simp [tangramref14_Same.j0] at h, fun _ _ _ _ _ r h => by simp [tangramref14_Same.l0] at h⟩
 | k + 1 => by
  obtain ⟨ih0, ih1⟩ := tangramref14_Same.mono_l k; refine ⟨?_, ?_⟩
  ·intro y0 y1 y2 y3 y4
   unfold tangramref14_Same.j0
   repeat' first
   | (with_reducible exact ih0 _ _ _ _ _)
   | (with_reducible exact ih1 _ _ _ _ _)
   | (with_reducible exact LeO.refl _)
   | (with_reducible exact LeO.none _)
   | (with_reducible refine LeO.ite ?_ ?_)
   | (with_reducible refine LeO.bind ?_ (fun _ => ?_))
   | exact ih0 _ _ _ _ _
   | exact ih1 _ _ _ _ _
   | exact LeO.none _
   | refine LeO.ite ?_ ?_
   | refine LeO.bind ?_ (fun _ => ?_)
  ·intro y0 y1 y2 y3 y4
   unfold tangramref14_Same.l0
   repeat' first
   | (with_reducible exact ih0 _ _ _ _ _)
   | (with_reducible exact ih1 _ _ _ _ _)
   | (with_reducible exact LeO.refl _)
   | (with_reducible exact LeO.none _)
   | (with_reducible refine LeO.ite ?_ ?_)
   | (with_reducible refine LeO.bind ?_ (fun _ => ?_))
   | exact ih0 _ _ _ _ _
   | exact ih1 _ _ _ _ _
   | exact LeO.none _
   | refine LeO.ite ?_ ?_
   | refine LeO.bind ?_ (fun _ => ?_)
theorem tangramref14_Same.mono : ∀ a0 a1 a2 a3 k, LeO (tangramref14_Same.f k a0 a1 a2 a3) (tangramref14_Same.f (k + 1) a0 a1 a2 a3) := by
 intro a0 a1 a2 a3 k; obtain ⟨ih0, ih1⟩ := tangramref14_Same.mono_l k
 unfold tangramref14_Same.f
 repeat' first
   | (with_reducible exact ih0 _ _ _ _ _)
   | (with_reducible exact ih1 _ _ _ _ _)
   | (with_reducible exact LeO.refl _)
   | (with_reducible exact LeO.none _)
   | (with_reducible refine LeO.ite ?_ ?_)
   | (with_reducible refine LeO.bind ?_ (fun _ => ?_))
   | exact ih0 _ _ _ _ _
   | exact ih1 _ _ _ _ _
   | exact LeO.none _
   | refine LeO.ite ?_ ?_
   | refine LeO.bind ?_ (fun _ => ?_)
set_option maxHeartbeats 8000000 in
set_option maxRecDepth 100000 in
theorem tangramref14_Same.calls (k : Nat) (a0_0 : Int) (A0_1 : Option Addr) (c0_1 : Nat) (l0_1 : List (S46)) (a1_0 : Int) (A1_1 : Option Addr) (c1_1 : Nat) (l1_1 : List (S46)) (r : Bool) (w : World) (hr0_1 : Kd.C k46 w A0_1 l0_1.length l0_1) (hc0_1 : l0_1.length ≤ c0_1) (hr1_1 : Kd.C k46 w A1_1 l1_1.length l1_1) (hc1_1 : l1_1.length ≤ c1_1) (h : tangramref14_Same.f k a0_0 l0_1 a1_0 l1_1 = some r) :
  Calls Try.prog 15 #[.agg #[.int .i64 a0_0, .slice A0_1 l0_1.length c0_1], .agg #[.int .i64 a1_0, .slice A1_1 l1_1.length c1_1]] w fun e w' => e = .returned (.bool r) ∧ Below w.heap.size w w' := by
 have hu25 := Try.underlying25; have hu46 := Try.underlying46; have HR0_1 := Aside0.mk hr0_1; have HC0_1 := Aside0.mk hc0_1; clear hr0_1 hc0_1; have HR1_1 := Aside0.mk hr1_1; have HC1_1 := Aside0.mk hc1_1; clear hr1_1 hc1_1; have HB := Aside0.mk (Below.refl w.heap.size w); have H : (if a0_0 = a1_0 then (tangramref14_Same.j0 k ((l0_1.length : Int) != (l1_1.length : Int)) a0_0 l0_1 a1_0 l1_1) else (tangramref14_Same.j0 k true a0_0 l0_1 a1_0 l1_1)) = some r := h; clear h; have HC3 := Aside0.mk H; clear H
 go_enter Try.func15, Try.ntmps15
 go_upto_region 1 with (first | ((with_reducible refine gate_dst (N := 2) rfl ?_); (try (refine gate_guard (by rfl) ?_; dsimp only)); refine be_ 2 #[.int .i64 a0_0, .slice A0_1 l0_1.length c0_1] 25 ?_; intro gb256 hg w4 hbox hb; have BK256 := Aside0.mk (hbox); have GW256 := wq (hb0 HB) hg; have GE256 := wq (hb0 HB) hg; replace HB := hs (hb0 HB) hb; clear hb hbox hg) | ((with_reducible refine gate_dst (N := 3) rfl ?_); (try (refine gate_guard (by rfl) ?_; dsimp only)); refine be_ 3 #[.int .i64 a1_0, .slice A1_1 l1_1.length c1_1] 25 ?_; intro gb257 hg w5 hbox hb; have BK257 := Aside0.mk (hbox); have GW257 := wq (hb1 HB GE256) hg; have GE257 := wq (hb1 HB GE256) hg; replace HB := hs (hb1 HB GE256) hb; have NB256_257 := lx BK256 hg; have NB257_256 := gx BK256 hg; replace BK256 := kx BK256 hb; clear hb hbox hg))
 repeat (go_quiet (first | ((with_reducible refine gate_dst (N := 2) rfl ?_); (try (refine gate_guard (by rfl) ?_; dsimp only)); refine be_ 2 #[.int .i64 a0_0, .slice A0_1 l0_1.length c0_1] 25 ?_; intro gb256 hg w4 hbox hb; have BK256 := Aside0.mk (hbox); have GW256 := wq (hb0 HB) hg; have GE256 := wq (hb0 HB) hg; replace HB := hs (hb0 HB) hb; clear hb hbox hg) | ((with_reducible refine gate_dst (N := 3) rfl ?_); (try (refine gate_guard (by rfl) ?_; dsimp only)); refine be_ 3 #[.int .i64 a1_0, .slice A1_1 l1_1.length c1_1] 25 ?_; intro gb257 hg w5 hbox hb; have BK257 := Aside0.mk (hbox); have GW257 := wq (hb1 HB GE256) hg; have GE257 := wq (hb1 HB GE256) hg; replace HB := hs (hb1 HB GE256) hb; have NB256_257 := lx BK256 hg; have NB257_256 := gx BK256 hg; replace BK256 := kx BK256 hb; clear hb hbox hg)); go_upto_region 1 with (first | ((with_reducible refine gate_dst (N := 2) rfl ?_); (try (refine gate_guard (by rfl) ?_; dsimp only)); refine be_ 2 #[.int .i64 a0_0, .slice A0_1 l0_1.length c0_1] 25 ?_; intro gb256 hg w4 hbox hb; have BK256 := Aside0.mk (hbox); have GW256 := wq (hb0 HB) hg; have GE256 := wq (hb0 HB) hg; replace HB := hs (hb0 HB) hb; clear hb hbox hg) | ((with_reducible refine gate_dst (N := 3) rfl ?_); (try (refine gate_guard (by rfl) ?_; dsimp only)); refine be_ 3 #[.int .i64 a1_0, .slice A1_1 l1_1.length c1_1] 25 ?_; intro gb257 hg w5 hbox hb; have BK257 := Aside0.mk (hbox); have GW257 := wq (hb1 HB GE256) hg; have GE257 := wq (hb1 HB GE256) hg; replace HB := hs (hb1 HB GE256) hb; have NB256_257 := lx BK256 hg; have NB257_256 := gx BK256 hg; replace BK256 := kx BK256 hb; clear hb hbox hg)))
 (try simp only [Act.put, List.setIfInBounds_toArray, List.set_cons_zero, List.set_cons_succ])
 go_cut [19] (fun v19 wc => ∃ (kq : Nat) (x19_2 : Bool), v19 = .bool x19_2 ∧ Aside0 (tangramref14_Same.j0 kq x19_2 a0_0 l0_1 a1_0 l1_1 = some r) ∧ Aside0 (kq ≤ k) ∧ Aside0 (wc.heap[gb256]? = some (.cells #[.int .i64 a0_0, (.slice A0_1 l0_1.length c0_1)] 25 (0, 0))) ∧ Aside0 (wc.heap[gb257]? = some (.cells #[.int .i64 a1_0, (.slice A1_1 l1_1.length c1_1)] 25 (0, 0))) ∧ Aside0 (Below w.heap.size w wc))
 case first => as_aux_lemma =>
  have H := HC3.out; clear HC3
  by_cases c6 : a0_0 = a1_0
  ·rw [if_pos c6] at H; have c6b0 : (a0_0 == a1_0) = true := beq_iff_eq.mpr c6; have c6b1 : (a0_0 != a1_0) = false := bne_eq_false_iff_eq.mpr c6; clear c6
   (first | rw [c6b0] | (simp only [i64_w, i32_w]; rw [c6b0]) | skip)
   have H' := Aside0.mk H; clear H; have hnb7 := NB256_257.out; have hnc7 := NB257_256.out; have hcz8_0 : w5.cell? ⟨gb256, 0, none⟩ = some (.int .i64 a0_0) := bc BK256 0; have hcz8_1 : w5.cell? ⟨gb256, 1, none⟩ = some (.slice A0_1 l0_1.length c0_1) := bc BK256 1; have hfz8_0 := blk_frozen BK256.out 0; have hfz8_1 := blk_frozen BK256.out 1; have hcz9_0 : w5.cell? ⟨gb257, 0, none⟩ = some (.int .i64 a1_0) := bc BK257 0; have hcz9_1 : w5.cell? ⟨gb257, 1, none⟩ = some (.slice A1_1 l1_1.length c1_1) := bc BK257 1; have hfz9_0 := blk_frozen BK257.out 0; have hfz9_1 := blk_frozen BK257.out 1
   go_wp2
   repeat (go_quiet (fail); try go_wp2)
   go_meet
   case rel => exact ⟨_, (((l0_1.length : Int) != (l1_1.length : Int))), (by first | rfl | (simp; done) | (simp [*]; done)), H', ⟨by first | omega | exact Nat.le_refl _⟩, ⟨bx BK256⟩, ⟨bx BK257⟩, ⟨hb2 HB GE256 GE257⟩⟩
  ·rw [if_neg c6] at H; have c6b0 : (a0_0 == a1_0) = false := beq_eq_false_iff_ne.mpr c6; have c6b1 : (a0_0 != a1_0) = true := bne_iff_ne.mpr c6
   (first | rw [c6b0] | (simp only [i64_w, i32_w]; rw [c6b0]) | skip)
   have H' := Aside0.mk H; clear H; have hnb10 := NB256_257.out; have hnc10 := NB257_256.out; have hcz11_0 : w5.cell? ⟨gb256, 0, none⟩ = some (.int .i64 a0_0) := bc BK256 0; have hcz11_1 : w5.cell? ⟨gb256, 1, none⟩ = some (.slice A0_1 l0_1.length c0_1) := bc BK256 1; have hfz11_0 := blk_frozen BK256.out 0; have hfz11_1 := blk_frozen BK256.out 1; have hcz12_0 : w5.cell? ⟨gb257, 0, none⟩ = some (.int .i64 a1_0) := bc BK257 0; have hcz12_1 : w5.cell? ⟨gb257, 1, none⟩ = some (.slice A1_1 l1_1.length c1_1) := bc BK257 1; have hfz12_0 := blk_frozen BK257.out 0; have hfz12_1 := blk_frozen BK257.out 1
   go_wp2
   repeat (go_quiet (fail); try go_wp2)
   go_meet
   case rel => exact ⟨_, (true), (by first | rfl | (simp; done) | (simp [*]; done)), H', ⟨by first | omega | exact Nat.le_refl _⟩, ⟨bx BK256⟩, ⟨bx BK257⟩, ⟨hb2 HB GE256 GE257⟩⟩
 case rest => as_aux_lemma =>
  clear HC3
  try clear c1
  try clear p2
  try clear c6
  try clear c6b0
  try clear c6b1
  try clear c7
  try clear c10
  try clear hcz11_0
  try clear hcz11_1
  try clear hcz12_0
  try clear hcz12_1
  try clear hcz8_0
  try clear hcz8_1
  try clear hcz9_0
  try clear hcz9_1
  try clear hfz11_0
  try clear hfz11_1
  try clear hfz12_0
  try clear hfz12_1
  try clear hfz8_0
  try clear hfz8_1
  try clear hfz9_0
  try clear hfz9_1
  obtain ⟨kq, x19_2, rfl, HA, HJ2, BK256, BK257, HB⟩ := hcut
  cases kq with
  | zero => exact absurd HA.out (by simp [tangramref14_Same.j0])
  | succ kj2 =>
   have H := HA.out; clear HA; simp only [tangramref14_Same.j0] at H
   by_cases c13 : x19_2 = true
   ·subst c13; rw [if_pos rfl] at H; obtain rfl := Option.some.inj H
    go_wp2
    repeat (go_quiet (fail); try go_wp2)
    go_ret
    exact ⟨by first | rfl | (simp [errW_none, errW_some] <;> rfl) | (simp [*, errW_none, errW_some] <;> rfl), hb2 HB GE256 GE257⟩
   ·replace c13 := Bool.eq_false_iff.mpr c13; subst c13; rw [if_neg (show ¬ (false = true) by decide)] at H; have H' := Aside0.mk H; clear H
    go_wp2
    repeat (go_quiet (fail); try go_wp2)
    go_loopg [5] kj2 (fun kq v5 w' => ∃ (x5_2 : Int), v5 = .int .i64 x5_2 ∧ Aside0 (tangramref14_Same.l0 kq x5_2 a0_0 l0_1 a1_0 l1_1 = some r) ∧ Aside0 (kq ≤ kj2) ∧ Aside0 (w'.heap[gb256]? = some (.cells #[.int .i64 a0_0, (.slice A0_1 l0_1.length c0_1)] 25 (0, 0))) ∧ Aside0 (w'.heap[gb257]? = some (.cells #[.int .i64 a1_0, (.slice A1_1 l1_1.length c1_1)] 25 (0, 0))) ∧ Aside0 (Below w.heap.size w w'))
    case atStart => exact ⟨(0), (by first | rfl | (simp; done) | (simp [*]; done)), H', ⟨Nat.le_refl _⟩, ⟨bx BK256⟩, ⟨bx BK257⟩, ⟨hb2 HB GE256 GE257⟩⟩
    case round =>
     clear H'
     try clear c1
     try clear p2
     try clear c6
     try clear c6b0
     try clear c6b1
     try clear c7
     try clear c10
     try clear c13
     try clear hcz11_0
     try clear hcz11_1
     try clear hcz12_0
     try clear hcz12_1
     try clear hcz8_0
     try clear hcz8_1
     try clear hcz9_0
     try clear hcz9_1
     try clear hfz11_0
     try clear hfz11_1
     try clear hfz12_0
     try clear hfz12_1
     try clear hfz8_0
     try clear hfz8_1
     try clear hfz9_0
     try clear hfz9_1
     try clear p2
     obtain ⟨x5_2, rfl, HA, HK2, BK256, BK257, HB⟩ := hrel
     cases gk with
     | zero => exact absurd HA.out (by simp [tangramref14_Same.l0])
     | succ k2 =>
      have H := HA.out; clear HA; simp only [tangramref14_Same.l0] at H
      by_cases c14 : x5_2 < (l0_1.length : Int)
      ·rw [if_pos c14] at H; have c14b0 : decide (x5_2 < (l0_1.length : Int)) = true := decide_eq_true c14; clear c14
       by_cases c15 : 0 ≤ x5_2
       ·rw [if_pos c15] at H; have c15b0 : decide (0 ≤ x5_2) = true := decide_eq_true c15; clear c15
        by_cases c16 : x5_2 < (l1_1.length : Int)
        ·rw [if_pos c16] at H; have c16b0 : decide (x5_2 < (l1_1.length : Int)) = true := decide_eq_true c16; clear c16
         by_cases c17 : (!(((rd_T46 l0_1 x5_2).f0) == ((rd_T46 l1_1 x5_2).f0)) || (!(((rd_T46 l0_1 x5_2).f1) == ((rd_T46 l1_1 x5_2).f1)))) = true
         ·rw [if_pos c17] at H; have c17b0 : (!(((rd_T46 l0_1 x5_2).f0) == ((rd_T46 l1_1 x5_2).f0)) || (!(((rd_T46 l0_1 x5_2).f1) == ((rd_T46 l1_1 x5_2).f1)))) = true := c17; clear c17; obtain rfl := Option.some.inj H; have hnb18 := NB256_257.out; have hnc18 := NB257_256.out; have hcz19_0 : wr.cell? ⟨gb256, 0, none⟩ = some (.int .i64 a0_0) := bc BK256 0; have hcz19_1 : wr.cell? ⟨gb256, 1, none⟩ = some (.slice A0_1 l0_1.length c0_1) := bc BK256 1; have hfz19_0 := blk_frozen BK256.out 0; have hfz19_1 := blk_frozen BK256.out 1; have p258 : 0 ≤ (x5_2 : Int) := of_decide_eq_true (by first | (with_reducible assumption) | assumption); have q258 : x5_2 < (l0_1.length : Int) := of_decide_eq_true (by first | (with_reducible assumption) | assumption); obtain ⟨ad258, e258, hx258_0, hx258_1⟩ := at_T46 HR0_1.out x5_2 p258 q258
          cases e258
          replace hx258_0 := (HB.out.cell (World.block_lt_of_cell? w _ hx258_0)).trans hx258_0; replace hx258_1 := (HB.out.cell (World.block_lt_of_cell? w _ hx258_1)).trans hx258_1; replace p258 := eq_true p258; replace q258 := eq_true q258; have hcz20_0 : wr.cell? ⟨gb257, 0, none⟩ = some (.int .i64 a1_0) := bc BK257 0; have hcz20_1 : wr.cell? ⟨gb257, 1, none⟩ = some (.slice A1_1 l1_1.length c1_1) := bc BK257 1; have hfz20_0 := blk_frozen BK257.out 0; have hfz20_1 := blk_frozen BK257.out 1; have p259 : 0 ≤ (x5_2 : Int) := of_decide_eq_true (by first | (with_reducible assumption) | assumption); have q259 : x5_2 < (l1_1.length : Int) := of_decide_eq_true (by first | (with_reducible assumption) | assumption); obtain ⟨ad259, e259, hx259_0, hx259_1⟩ := at_T46 HR1_1.out x5_2 p259 q259
          cases e259
          replace hx259_0 := (HB.out.cell (World.block_lt_of_cell? w _ hx259_0)).trans hx259_0; replace hx259_1 := (HB.out.cell (World.block_lt_of_cell? w _ hx259_1)).trans hx259_1; replace p259 := eq_true p259; replace q259 := eq_true q259
          go_wp2
          repeat (go_quiet (fail); try go_wp2)
          go_ret
          exact ⟨by first | rfl | (simp [errW_none, errW_some] <;> rfl) | (simp [*, errW_none, errW_some] <;> rfl), hb2 HB GE256 GE257⟩
         ·rw [if_neg c17] at H; have c17b0 : (!(((rd_T46 l0_1 x5_2).f0) == ((rd_T46 l1_1 x5_2).f0)) || (!(((rd_T46 l0_1 x5_2).f1) == ((rd_T46 l1_1 x5_2).f1)))) = false := by simpa using c17
          clear c17; have H' := Aside0.mk H; clear H; have hnb21 := NB256_257.out; have hnc21 := NB257_256.out; have hcz22_0 : wr.cell? ⟨gb256, 0, none⟩ = some (.int .i64 a0_0) := bc BK256 0; have hcz22_1 : wr.cell? ⟨gb256, 1, none⟩ = some (.slice A0_1 l0_1.length c0_1) := bc BK256 1; have hfz22_0 := blk_frozen BK256.out 0; have hfz22_1 := blk_frozen BK256.out 1; have p258 : 0 ≤ (x5_2 : Int) := of_decide_eq_true (by first | (with_reducible assumption) | assumption); have q258 : x5_2 < (l0_1.length : Int) := of_decide_eq_true (by first | (with_reducible assumption) | assumption); obtain ⟨ad258, e258, hx258_0, hx258_1⟩ := at_T46 HR0_1.out x5_2 p258 q258
          cases e258
          replace hx258_0 := (HB.out.cell (World.block_lt_of_cell? w _ hx258_0)).trans hx258_0; replace hx258_1 := (HB.out.cell (World.block_lt_of_cell? w _ hx258_1)).trans hx258_1; replace p258 := eq_true p258; replace q258 := eq_true q258; have hcz23_0 : wr.cell? ⟨gb257, 0, none⟩ = some (.int .i64 a1_0) := bc BK257 0; have hcz23_1 : wr.cell? ⟨gb257, 1, none⟩ = some (.slice A1_1 l1_1.length c1_1) := bc BK257 1; have hfz23_0 := blk_frozen BK257.out 0; have hfz23_1 := blk_frozen BK257.out 1; have p259 : 0 ≤ (x5_2 : Int) := of_decide_eq_true (by first | (with_reducible assumption) | assumption); have q259 : x5_2 < (l1_1.length : Int) := of_decide_eq_true (by first | (with_reducible assumption) | assumption); obtain ⟨ad259, e259, hx259_0, hx259_1⟩ := at_T46 HR1_1.out x5_2 p259 q259
          cases e259
          replace hx259_0 := (HB.out.cell (World.block_lt_of_cell? w _ hx259_0)).trans hx259_0; replace hx259_1 := (HB.out.cell (World.block_lt_of_cell? w _ hx259_1)).trans hx259_1; replace p259 := eq_true p259; replace q259 := eq_true q259
          go_wp2
          repeat (go_quiet (fail); try go_wp2)
          go_roundg k2
          case measure => have := HJ2.out; have := HK2.out; omega
          case rel => exact ⟨(wrap64 (x5_2 + 1)), (by first | rfl | (simp; done) | (simp [*]; done)), H', ⟨by have := HJ2.out; have := HK2.out; omega⟩, ⟨bx BK256⟩, ⟨bx BK257⟩, ⟨hb2 HB GE256 GE257⟩⟩
        ·rw [if_neg c16] at H; exact absurd H (by simp)
       ·rw [if_neg c15] at H; exact absurd H (by simp)
      ·rw [if_neg c14] at H; have c14b0 : decide (x5_2 < (l0_1.length : Int)) = false := decide_eq_false c14; clear c14; obtain rfl := Option.some.inj H; have hnb24 := NB256_257.out; have hnc24 := NB257_256.out; have hcz25_0 : wr.cell? ⟨gb256, 0, none⟩ = some (.int .i64 a0_0) := bc BK256 0; have hcz25_1 : wr.cell? ⟨gb256, 1, none⟩ = some (.slice A0_1 l0_1.length c0_1) := bc BK256 1; have hfz25_0 := blk_frozen BK256.out 0; have hfz25_1 := blk_frozen BK256.out 1
       go_wp2
       repeat (go_quiet (fail); try go_wp2)
       go_ret
       exact ⟨by first | rfl | (simp [errW_none, errW_some] <;> rfl) | (simp [*, errW_none, errW_some] <;> rfl), hb2 HB GE256 GE257⟩

end Go.Proofs.Ytdaeaejmikhmcaa.PEditC
