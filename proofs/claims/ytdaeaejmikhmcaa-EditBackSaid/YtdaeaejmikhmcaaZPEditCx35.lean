-- PRINTED by print.py (a twelfth state) out of the translation. Not trusted: Lean checks it.
import Derived.Test.YtdaeaejmikhmcaaZPEditCx0
import Derived.Test.YtdaeaejmikhmcaaZPEditCx3
import Derived.Test.YtdaeaejmikhmcaaZPEditCx5
import Derived.Test.YtdaeaejmikhmcaaZPEditCx21
import Derived.Test.YtdaeaejmikhmcaaZPEditCx34
namespace Go.Proofs.Ytdaeaejmikhmcaa.PEditC
open Go.RowKit Go.Proofs.YtdaeaejmikhmcaaW.PrintWords Go.Proofs.YtdaeaejmikhmcaaW.PrintLast Go.Proofs.YtdaeaejmikhmcaaW.PrintMore
open Go.Proofs.YtdaeaejmikhmcaaX
attribute [local go_sem] max2_int min2_int max_two min_two max_three min_three max_four min_four   -- for this text's walks alone
set_option linter.unusedVariables false
set_option linter.unusedSimpArgs false

/-! ### edit_With: function 29 -/
def edit_With.j0 : Nat → Bool → Int → List (S46) → Int → Int → Option (Int × (List (S46)) × Int)
 | 0, _, _, _, _, _ => none
 | k + 1, x11, x492000, x492001, x493000, x493001 => if x11 = true then (some (0, ([] : List (S46)), 2)) else ((simple_Find.f k x492000 x492001 x493000 x493001).bind fun t495 => (if t495 ≥ 0 then (some (0, ([] : List (S46)), 140)) else (if (x492001.length : Int) ≥ 4194304 then (some (0, ([] : List (S46)), 141)) else ((api_Edge_40.f x492001).bind fun t496 => ((some (([(⟨x493000, x493001⟩ : S46)] : List (S46)) : List (S46))).bind fun y499 => (if t496.length + y499.length < 8796093022208 then ((edit_made.f k x492000 (t496 ++ y499)).bind fun bt505 => (some (bt505.1, bt505.2, 0))) else (none)))))))
def edit_With.f (k : Nat) (a0_0 : Int) (l0_1 : List (S46)) (a1_0 : Int) (a1_1 : Int) : Option (Int × (List (S46)) × Int) := (simple_Valid.f k a0_0 l0_1).bind fun t494 => (if t494 = true then (if a1_0 < 0 then (edit_With.j0 k true a0_0 l0_1 a1_0 a1_1) else (if a1_0 ≥ a1_1 then (edit_With.j0 k true a0_0 l0_1 a1_0 a1_1) else (edit_With.j0 k (decide (a1_1 ≥ a0_0)) a0_0 l0_1 a1_0 a1_1))) else (some (0, ([] : List (S46)), 1)))
theorem edit_With.mono_l : ∀ k, (∀ y0 y1 y2 y3 y4, LeO (edit_With.j0 k y0 y1 y2 y3 y4) (edit_With.j0 (k + 1) y0 y1 y2 y3 y4))
 | 0 => fun _ _ _ _ _ r h => by simp [edit_With.j0] at h
 | k + 1 => by
  have ih0 := edit_With.mono_l k
  ·intro y0 y1 y2 y3 y4
   unfold edit_With.j0
   repeat' first
   | (with_reducible exact ih0 _ _ _ _ _)
   | (with_reducible exact edit_made.mono _ _ _)
   | (with_reducible exact simple_Find.mono _ _ _ _ _)
   | (with_reducible exact simple_Valid.mono _ _ _)
   | (with_reducible exact LeO.refl _)
   | (with_reducible exact LeO.none _)
   | (with_reducible refine LeO.ite ?_ ?_)
   | (with_reducible refine LeO.bind ?_ (fun _ => ?_))
   | exact ih0 _ _ _ _ _
   | exact edit_made.mono _ _ _
   | exact simple_Find.mono _ _ _ _ _
   | exact simple_Valid.mono _ _ _
   | exact LeO.none _
   | refine LeO.ite ?_ ?_
   | refine LeO.bind ?_ (fun _ => ?_)
theorem edit_With.mono : ∀ a0 a1 a2 a3 k, LeO (edit_With.f k a0 a1 a2 a3) (edit_With.f (k + 1) a0 a1 a2 a3) := by
 intro a0 a1 a2 a3 k; have ih0 := edit_With.mono_l k
 unfold edit_With.f
 repeat' first
   | (with_reducible exact ih0 _ _ _ _ _)
   | (with_reducible exact edit_made.mono _ _ _)
   | (with_reducible exact simple_Find.mono _ _ _ _ _)
   | (with_reducible exact simple_Valid.mono _ _ _)
   | (with_reducible exact LeO.refl _)
   | (with_reducible exact LeO.none _)
   | (with_reducible refine LeO.ite ?_ ?_)
   | (with_reducible refine LeO.bind ?_ (fun _ => ?_))
   | exact ih0 _ _ _ _ _
   | exact edit_made.mono _ _ _
   | exact simple_Find.mono _ _ _ _ _
   | exact simple_Valid.mono _ _ _
   | exact LeO.none _
   | refine LeO.ite ?_ ?_
   | refine LeO.bind ?_ (fun _ => ?_)
def edit_With.T9 : Bool × List (List Nat × List Nat) := (true, [([], []), ([0], [0]), ([], []), ([2], [2]), ([3], [3]), ([], []), ([5], [5]), ([4, 6, 4], [4, 6]), ([1, 7, 7], [1, 7]), ([8, 8, 0, 1, 2, 3, 4, 5, 6, 7, 8], [8]), ([9, 0, 1, 2, 3, 4, 5, 6, 7, 8, 9], [])])
def edit_With.B9 : List Nat := [0, 1, 0, 4, 12, 0, 32, 124, 255, 511, 1023]
theorem edit_With.tab9 : rtab .any (opsOf Try.f29 9) = edit_With.T9 := by kernel_rfl
theorem edit_With.bits9 : waitsOk edit_With.T9.2 edit_With.B9 = true := by kernel_rfl
set_option maxHeartbeats 8000000 in
set_option maxRecDepth 100000 in
theorem edit_With.calls (k : Nat) (a0_0 : Int) (A0_1 : Option Addr) (c0_1 : Nat) (l0_1 : List (S46)) (a1_0 : Int) (a1_1 : Int) (r1 : Int) (r2 : List (S46)) (r3 : Int) (w : World) (hr0_1 : Kd.C k46 w A0_1 l0_1.length l0_1) (hc0_1 : l0_1.length ≤ c0_1) (h : edit_With.f k a0_0 l0_1 a1_0 a1_1 = some (r1, r2, r3)) :
  Calls Try.prog 29 #[.agg #[.int .i64 a0_0, .slice A0_1 l0_1.length c0_1], .agg #[.int .i64 a1_0, .int .i64 a1_1]] w fun e w' => ∃ v1_ : Value, e = .returned (.tuple #[.agg #[.int .i64 r1, v1_], .int .i64 r3]) ∧ Kd.R k46 46 w' w.heap.size (fun _ => True) v1_ r2 ∧ Below w.heap.size w w' := by
 have hu25 := Try.underlying25; have hu46 := Try.underlying46; have HR0_1 := Aside0.mk hr0_1; have HC0_1 := Aside0.mk hc0_1; clear hr0_1 hc0_1; have HB := Aside0.mk (Below.refl w.heap.size w); have H : ((simple_Valid.f k a0_0 l0_1).bind fun t494 => (if t494 = true then (if a1_0 < 0 then (edit_With.j0 k true a0_0 l0_1 a1_0 a1_1) else (if a1_0 ≥ a1_1 then (edit_With.j0 k true a0_0 l0_1 a1_0 a1_1) else (edit_With.j0 k (decide (a1_1 ≥ a0_0)) a0_0 l0_1 a1_0 a1_1))) else (some (0, ([] : List (S46)), 1)))) = some (r1, r2, r3) := h; clear h; replace H := Option.bind_eq_some_iff.mp H; obtain ⟨t494, A30, H⟩ := H; replace H : (if t494 = true then (if a1_0 < 0 then (edit_With.j0 k true a0_0 l0_1 a1_0 a1_1) else (if a1_0 ≥ a1_1 then (edit_With.j0 k true a0_0 l0_1 a1_0 a1_1) else (edit_With.j0 k (decide (a1_1 ≥ a0_0)) a0_0 l0_1 a1_0 a1_1))) else (some (0, ([] : List (S46)), 1))) = some (r1, r2, r3) := H; have A3 := Aside0.mk A30; clear A30
 by_cases c4 : t494 = true
 ·subst c4; have H1 : (if a1_0 < 0 then (edit_With.j0 k true a0_0 l0_1 a1_0 a1_1) else (if a1_0 ≥ a1_1 then (edit_With.j0 k true a0_0 l0_1 a1_0 a1_1) else (edit_With.j0 k (decide (a1_1 ≥ a0_0)) a0_0 l0_1 a1_0 a1_1))) = some (r1, r2, r3) := by rw [if_pos rfl] at H; exact H
  clear H; have H := H1; clear H1; have HC5 := Aside0.mk H; clear H
  go_enter Try.func29, Try.ntmps29
  go_upto_region 3 with (first | ((with_reducible refine gate_dst (N := 2) rfl ?_); refine be_ 2 #[.int .i64 a0_0, .slice A0_1 l0_1.length c0_1] 25 ?_; intro gb491 hg w6 hbox hb; have BK491 := Aside0.mk (hbox); have GW491 := wq (hb0 HB) hg; have GE491 := wq (hb0 HB) hg; replace HB := hs (hb0 HB) hb; clear hb hbox hg) | ((with_reducible refine gate_dst (N := 3) rfl ?_); refine be_ 3 #[.int .i64 a1_0, .int .i64 a1_1] 46 ?_; intro gb492 hg w7 hbox hb; have BK492 := Aside0.mk (hbox); have GW492 := wq (hb1 HB GE491) hg; have GE492 := wq (hb1 HB GE491) hg; replace HB := hs (hb1 HB GE491) hb; have NB491_492 := lx BK491 hg; have NB492_491 := gx BK491 hg; replace BK491 := kx BK491 hb; clear hb hbox hg) | ((with_reducible refine gate_dst (N := 4) rfl ?_); refine be_ 4 #[.int .i64 0, .slice none 0 0] 25 ?_; intro gb493 hg w8 hbox hb; have BK493 := Aside0.mk (hbox); have GW493 := wq (hb2 HB GE491 GE492) hg; have GE493 := wq (hb2 HB GE491 GE492) hg; replace HB := hs (hb2 HB GE491 GE492) hb; have NB491_493 := lx BK491 hg; have NB493_491 := gx BK491 hg; replace BK491 := kx BK491 hb; have NB492_493 := lx BK492 hg; have NB493_492 := gx BK492 hg; replace BK492 := kx BK492 hb; clear hb hbox hg; have hnb9 := NB491_492.out; have hnc9 := NB492_491.out; have hnb10 := NB491_493.out; have hnc10 := NB493_491.out; have hcz11_0 : w8.cell? ⟨gb491, 0, none⟩ = some (.int .i64 a0_0) := bc BK491 0; have hcz11_1 : w8.cell? ⟨gb491, 1, none⟩ = some (.slice A0_1 l0_1.length c0_1) := bc BK491 1; have hfz11_0 := blk_frozen BK491.out 0; have hfz11_1 := blk_frozen BK491.out 1) | ((with_reducible refine gate_callee (f := 37) rfl ?_); refine gl_ (some 8) Try.func37 #[.agg #[.int .i64 a0_0, .slice A0_1 l0_1.length c0_1]] ?_; (with_reducible refine (simple_Valid.calls k a0_0 _ _ l0_1 true _ ?side1 ?side2 A3.out).mono ?_); (case side1 => repeat (first | exact (Kd.C_below HR0_1.out HB.out) | (with_reducible refine Kd.C_alloc ?_ _) | (with_reducible refine Kd.C_drewN ?_ _) | (with_reducible refine Kd.C_drew ?_))); (case side2 => exact HC0_1.out); rintro e w12 ⟨rfl, hb⟩; refine ⟨_, rfl, ?_⟩; replace BK491 := kx BK491 hb; replace BK492 := kx BK492 hb; replace BK493 := kx BK493 hb; replace HB := hs (hb3 HB GE491 GE492 GE493) hb; (try clear hb); (try clear hb2); (try clear hk); (try clear hi)))
  (try simp only [Act.put, List.setIfInBounds_toArray, List.set_cons_zero, List.set_cons_succ])
  go_cut [11] (fun v11 wc => ∃ (kq : Nat) (x11_4 : Bool), v11 = .bool x11_4 ∧ Aside0 (edit_With.j0 kq x11_4 a0_0 l0_1 a1_0 a1_1 = some (r1, r2, r3)) ∧ Aside0 (kq ≤ k) ∧ Aside0 (wc.heap[gb491]? = some (.cells #[.int .i64 a0_0, (.slice A0_1 l0_1.length c0_1)] 25 (0, 0))) ∧ Aside0 (wc.heap[gb492]? = some (.cells #[.int .i64 a1_0, .int .i64 a1_1] 46 (0, 0))) ∧ Aside0 (wc.heap[gb493]? = some (.cells #[.int .i64 0, (.slice none 0 0)] 25 (0, 0))) ∧ Aside0 (Below w.heap.size w wc))
  case first => as_aux_lemma =>
   have H := HC5.out; clear HC5
   by_cases c13 : a1_0 < 0
   ·rw [if_pos c13] at H; have c13b0 : decide (a1_0 < 0) = true := decide_eq_true c13; clear c13
    (first | rw [c13b0] | (simp only [i64_w, i32_w]; rw [c13b0]) | skip)
    have H' := Aside0.mk H; clear H; have hnb14 := NB492_491.out; have hnc14 := NB491_492.out; have hnb15 := NB492_493.out; have hnc15 := NB493_492.out; have hcz16_0 : w12.cell? ⟨gb492, 0, none⟩ = some (.int .i64 a1_0) := bc BK492 0; have hcz16_1 : w12.cell? ⟨gb492, 1, none⟩ = some (.int .i64 a1_1) := bc BK492 1; have hfz16_0 := blk_frozen BK492.out 0; have hfz16_1 := blk_frozen BK492.out 1
    go_wp2
    go_meet
    case rel => exact ⟨_, (true), (by first | rfl | (simp; done) | (simp [*]; done)), H', ⟨by first | omega | exact Nat.le_refl _⟩, ⟨bx BK491⟩, ⟨bx BK492⟩, ⟨bx BK493⟩, ⟨hb3 HB GE491 GE492 GE493⟩⟩
   ·rw [if_neg c13] at H; have c13b0 : decide (a1_0 < 0) = false := decide_eq_false c13; clear c13
    (first | rw [c13b0] | (simp only [i64_w, i32_w]; rw [c13b0]) | skip)
    by_cases c17 : a1_0 ≥ a1_1
    ·rw [if_pos c17] at H; have c17b0 : decide (a1_1 ≤ a1_0) = true := decide_eq_true c17; clear c17; have H' := Aside0.mk H; clear H; have hnb18 := NB492_491.out; have hnc18 := NB491_492.out; have hnb19 := NB492_493.out; have hnc19 := NB493_492.out; have hcz20_0 : w12.cell? ⟨gb492, 0, none⟩ = some (.int .i64 a1_0) := bc BK492 0; have hcz20_1 : w12.cell? ⟨gb492, 1, none⟩ = some (.int .i64 a1_1) := bc BK492 1; have hfz20_0 := blk_frozen BK492.out 0; have hfz20_1 := blk_frozen BK492.out 1
     go_wp2
     go_meet
     case rel => exact ⟨_, (true), (by first | rfl | (simp; done) | (simp [*]; done)), H', ⟨by first | omega | exact Nat.le_refl _⟩, ⟨bx BK491⟩, ⟨bx BK492⟩, ⟨bx BK493⟩, ⟨hb3 HB GE491 GE492 GE493⟩⟩
    ·rw [if_neg c17] at H; have c17b0 : decide (a1_1 ≤ a1_0) = false := decide_eq_false c17; clear c17; have H' := Aside0.mk H; clear H; have hnb21 := NB492_491.out; have hnc21 := NB491_492.out; have hnb22 := NB492_493.out; have hnc22 := NB493_492.out; have hcz23_0 : w12.cell? ⟨gb492, 0, none⟩ = some (.int .i64 a1_0) := bc BK492 0; have hcz23_1 : w12.cell? ⟨gb492, 1, none⟩ = some (.int .i64 a1_1) := bc BK492 1; have hfz23_0 := blk_frozen BK492.out 0; have hfz23_1 := blk_frozen BK492.out 1; have hnb24 := NB491_493.out; have hnc24 := NB493_491.out; have hcz25_0 : w12.cell? ⟨gb491, 0, none⟩ = some (.int .i64 a0_0) := bc BK491 0; have hcz25_1 : w12.cell? ⟨gb491, 1, none⟩ = some (.slice A0_1 l0_1.length c0_1) := bc BK491 1; have hfz25_0 := blk_frozen BK491.out 0; have hfz25_1 := blk_frozen BK491.out 1
     go_wp2
     go_meet
     case rel => exact ⟨_, (decide (a1_1 ≥ a0_0)), (by first | rfl | (simp; done) | (simp [*]; done)), H', ⟨by first | omega | exact Nat.le_refl _⟩, ⟨bx BK491⟩, ⟨bx BK492⟩, ⟨bx BK493⟩, ⟨hb3 HB GE491 GE492 GE493⟩⟩
  case rest => as_aux_lemma =>
   clear HC5
   try clear c1
   try clear c2
   try clear p2
   try clear c3
   try clear c4
   try clear c9
   try clear c10
   try clear c13
   try clear c13b0
   try clear c14
   try clear c15
   try clear c17
   try clear c17b0
   try clear c18
   try clear c19
   try clear c21
   try clear c22
   try clear c24
   try clear hcz11_0
   try clear hcz11_1
   try clear hcz16_0
   try clear hcz16_1
   try clear hcz20_0
   try clear hcz20_1
   try clear hcz23_0
   try clear hcz23_1
   try clear hcz25_0
   try clear hcz25_1
   try clear hfz11_0
   try clear hfz11_1
   try clear hfz16_0
   try clear hfz16_1
   try clear hfz20_0
   try clear hfz20_1
   try clear hfz23_0
   try clear hfz23_1
   try clear hfz25_0
   try clear hfz25_1
   obtain ⟨kq, x11_4, rfl, HA, HJ4, BK491, BK492, BK493, HB⟩ := hcut
   cases kq with
   | zero => exact absurd HA.out (by simp [edit_With.j0])
   | succ kj4 =>
    have H := HA.out; clear HA; simp only [edit_With.j0] at H
    by_cases c26 : x11_4 = true
    ·subst c26; have H1 : (some (0, ([] : List (S46)), 2)) = some (r1, r2, r3) := by rw [if_pos rfl] at H; exact H
     clear H; have H := H1; clear H1; simp only [Option.some.injEq, Prod.mk.injEq] at H; obtain ⟨rfl, rfl, rfl⟩ := H; have hnb27 := NB493_491.out; have hnc27 := NB491_493.out; have hnb28 := NB493_492.out; have hnc28 := NB492_493.out; have hcz29_0 : wc.cell? ⟨gb493, 0, none⟩ = some (.int .i64 0) := bc BK493 0; have hcz29_1 : wc.cell? ⟨gb493, 1, none⟩ = some (.slice none 0 0) := bc BK493 1; have hfz29_0 := blk_frozen BK493.out 0; have hfz29_1 := blk_frozen BK493.out 1
     go_wp2
     refine bodyPost_ret (results_ct rfl _ _ gb493 25 #[.int .i64 0, .slice none 0 0] (0, 0) _ rfl (bp BK493) Try.underlying25 rfl (by kernel_rfl)) rfl ?_; exact ⟨_, by first | rfl | (simp [errW_none, errW_some] <;> rfl) | (simp [*, errW_none, errW_some] <;> rfl), by first | exact Kd.R_nil _ _ _ _ _ | exact Kd.N_nil _ _ _ _ _ | exact Kd.V_nil _ _ _ _ _ | exact Kd.Q_nil _ _ _ _ _ | exact Kd.S_nil _ _ _ _ _, hb3 HB GE491 GE492 GE493⟩
    ·replace c26 := Bool.eq_false_iff.mpr c26; subst c26; have H1 : ((simple_Find.f kj4 a0_0 l0_1 a1_0 a1_1).bind fun t495 => (if t495 ≥ 0 then (some (0, ([] : List (S46)), 140)) else (if (l0_1.length : Int) ≥ 4194304 then (some (0, ([] : List (S46)), 141)) else ((api_Edge_40.f l0_1).bind fun t496 => ((some (([(⟨a1_0, a1_1⟩ : S46)] : List (S46)) : List (S46))).bind fun y499 => (if t496.length + y499.length < 8796093022208 then ((edit_made.f kj4 a0_0 (t496 ++ y499)).bind fun bt505 => (some (bt505.1, bt505.2, 0))) else (none))))))) = some (r1, r2, r3) := by rw [if_neg (show ¬ (false = true) by decide)] at H; exact H
     clear H; have H := H1; clear H1; replace H := Option.bind_eq_some_iff.mp H; obtain ⟨t495, A300, H⟩ := H; replace H : (if t495 ≥ 0 then (some (0, ([] : List (S46)), 140)) else (if (l0_1.length : Int) ≥ 4194304 then (some (0, ([] : List (S46)), 141)) else ((api_Edge_40.f l0_1).bind fun t496 => ((some (([(⟨a1_0, a1_1⟩ : S46)] : List (S46)) : List (S46))).bind fun y499 => (if t496.length + y499.length < 8796093022208 then ((edit_made.f kj4 a0_0 (t496 ++ y499)).bind fun bt505 => (some (bt505.1, bt505.2, 0))) else (none)))))) = some (r1, r2, r3) := H; have A30 := Aside0.mk A300; clear A300
     by_cases c31 : t495 ≥ 0
     ·rw [if_pos c31] at H; have c31b0 : decide (0 ≤ t495) = true := decide_eq_true c31; clear c31; simp only [Option.some.injEq, Prod.mk.injEq] at H; obtain ⟨rfl, rfl, rfl⟩ := H; have hnb32 := NB491_492.out; have hnc32 := NB492_491.out; have hnb33 := NB491_493.out; have hnc33 := NB493_491.out; have hcz34_0 : wc.cell? ⟨gb491, 0, none⟩ = some (.int .i64 a0_0) := bc BK491 0; have hcz34_1 : wc.cell? ⟨gb491, 1, none⟩ = some (.slice A0_1 l0_1.length c0_1) := bc BK491 1; have hfz34_0 := blk_frozen BK491.out 0; have hfz34_1 := blk_frozen BK491.out 1; have hnb35 := NB492_493.out; have hnc35 := NB493_492.out; have hcz36_0 : wc.cell? ⟨gb492, 0, none⟩ = some (.int .i64 a1_0) := bc BK492 0; have hcz36_1 : wc.cell? ⟨gb492, 1, none⟩ = some (.int .i64 a1_1) := bc BK492 1; have hfz36_0 := blk_frozen BK492.out 0; have hfz36_1 := blk_frozen BK492.out 1
      go_wp2_with (first | ((with_reducible refine gate_callee (f := 47) rfl ?_); refine gl_ (some 33) Try.func47 #[.agg #[.int .i64 a0_0, .slice A0_1 l0_1.length c0_1], .agg #[.int .i64 a1_0, .int .i64 a1_1]] ?_; (with_reducible refine (simple_Find.calls kj4 a0_0 _ _ l0_1 a1_0 a1_1 t495 _ ?side1 ?side2 A30.out).mono ?_); (case side1 => repeat (first | exact (Kd.C_below HR0_1.out HB.out) | (with_reducible refine Kd.C_alloc ?_ _) | (with_reducible refine Kd.C_drewN ?_ _) | (with_reducible refine Kd.C_drew ?_))); (case side2 => exact HC0_1.out); rintro e w37 ⟨rfl, hb⟩; refine ⟨_, rfl, ?_⟩; replace BK491 := kx BK491 hb; replace BK492 := kx BK492 hb; replace BK493 := kx BK493 hb; replace HB := hs (hb3 HB GE491 GE492 GE493) hb; (try clear hb); (try clear hb2); (try clear hk); (try clear hi); have hcz38_0 : w37.cell? ⟨gb493, 0, none⟩ = some (.int .i64 0) := bc BK493 0; have hcz38_1 : w37.cell? ⟨gb493, 1, none⟩ = some (.slice none 0 0) := bc BK493 1; have hfz38_0 := blk_frozen BK493.out 0; have hfz38_1 := blk_frozen BK493.out 1))
      refine bodyPost_ret (results_ct rfl _ _ gb493 25 #[.int .i64 0, .slice none 0 0] (0, 0) _ rfl (bp BK493) Try.underlying25 rfl (by kernel_rfl)) rfl ?_; exact ⟨_, by first | rfl | (simp [errW_none, errW_some] <;> rfl) | (simp [*, errW_none, errW_some] <;> rfl), by first | exact Kd.R_nil _ _ _ _ _ | exact Kd.N_nil _ _ _ _ _ | exact Kd.V_nil _ _ _ _ _ | exact Kd.Q_nil _ _ _ _ _ | exact Kd.S_nil _ _ _ _ _, hb3 HB GE491 GE492 GE493⟩
     ·rw [if_neg c31] at H; have c31b0 : decide (0 ≤ t495) = false := decide_eq_false c31; clear c31
      by_cases c39 : (l0_1.length : Int) ≥ 4194304
      ·rw [if_pos c39] at H; have c39b0 : decide (4194304 ≤ (l0_1.length : Int)) = true := decide_eq_true c39; have c39b1 : decide (4194304 ≤ l0_1.length) = true := decide_eq_true (by omega); clear c39; simp only [Option.some.injEq, Prod.mk.injEq] at H; obtain ⟨rfl, rfl, rfl⟩ := H; have hnb40 := NB491_492.out; have hnc40 := NB492_491.out; have hnb41 := NB491_493.out; have hnc41 := NB493_491.out; have hcz42_0 : wc.cell? ⟨gb491, 0, none⟩ = some (.int .i64 a0_0) := bc BK491 0; have hcz42_1 : wc.cell? ⟨gb491, 1, none⟩ = some (.slice A0_1 l0_1.length c0_1) := bc BK491 1; have hfz42_0 := blk_frozen BK491.out 0; have hfz42_1 := blk_frozen BK491.out 1; have hnb43 := NB492_493.out; have hnc43 := NB493_492.out; have hcz44_0 : wc.cell? ⟨gb492, 0, none⟩ = some (.int .i64 a1_0) := bc BK492 0; have hcz44_1 : wc.cell? ⟨gb492, 1, none⟩ = some (.int .i64 a1_1) := bc BK492 1; have hfz44_0 := blk_frozen BK492.out 0; have hfz44_1 := blk_frozen BK492.out 1
       go_wp2_with (first | ((with_reducible refine gate_callee (f := 47) rfl ?_); refine gl_ (some 33) Try.func47 #[.agg #[.int .i64 a0_0, .slice A0_1 l0_1.length c0_1], .agg #[.int .i64 a1_0, .int .i64 a1_1]] ?_; (with_reducible refine (simple_Find.calls kj4 a0_0 _ _ l0_1 a1_0 a1_1 t495 _ ?side1 ?side2 A30.out).mono ?_); (case side1 => repeat (first | exact (Kd.C_below HR0_1.out HB.out) | (with_reducible refine Kd.C_alloc ?_ _) | (with_reducible refine Kd.C_drewN ?_ _) | (with_reducible refine Kd.C_drew ?_))); (case side2 => exact HC0_1.out); rintro e w45 ⟨rfl, hb⟩; refine ⟨_, rfl, ?_⟩; replace BK491 := kx BK491 hb; replace BK492 := kx BK492 hb; replace BK493 := kx BK493 hb; replace HB := hs (hb3 HB GE491 GE492 GE493) hb; (try clear hb); (try clear hb2); (try clear hk); (try clear hi); have hcz46_0 : w45.cell? ⟨gb491, 0, none⟩ = some (.int .i64 a0_0) := bc BK491 0; have hcz46_1 : w45.cell? ⟨gb491, 1, none⟩ = some (.slice A0_1 l0_1.length c0_1) := bc BK491 1; have hfz46_0 := blk_frozen BK491.out 0; have hfz46_1 := blk_frozen BK491.out 1; have hcz47_0 : w45.cell? ⟨gb493, 0, none⟩ = some (.int .i64 0) := bc BK493 0; have hcz47_1 : w45.cell? ⟨gb493, 1, none⟩ = some (.slice none 0 0) := bc BK493 1; have hfz47_0 := blk_frozen BK493.out 0; have hfz47_1 := blk_frozen BK493.out 1))
       refine bodyPost_ret (results_ct rfl _ _ gb493 25 #[.int .i64 0, .slice none 0 0] (0, 0) _ rfl (bp BK493) Try.underlying25 rfl (by kernel_rfl)) rfl ?_; exact ⟨_, by first | rfl | (simp [errW_none, errW_some] <;> rfl) | (simp [*, errW_none, errW_some] <;> rfl), by first | exact Kd.R_nil _ _ _ _ _ | exact Kd.N_nil _ _ _ _ _ | exact Kd.V_nil _ _ _ _ _ | exact Kd.Q_nil _ _ _ _ _ | exact Kd.S_nil _ _ _ _ _, hb3 HB GE491 GE492 GE493⟩
      ·rw [if_neg c39] at H; have c39b0 : decide (4194304 ≤ (l0_1.length : Int)) = false := decide_eq_false c39; have c39b1 : decide (4194304 ≤ l0_1.length) = false := decide_eq_false (by omega); clear c39; replace H := Option.bind_eq_some_iff.mp H; obtain ⟨t496, A480, H⟩ := H; replace H : ((some (([(⟨a1_0, a1_1⟩ : S46)] : List (S46)) : List (S46))).bind fun y499 => (if t496.length + y499.length < 8796093022208 then ((edit_made.f kj4 a0_0 (t496 ++ y499)).bind fun bt505 => (some (bt505.1, bt505.2, 0))) else (none))) = some (r1, r2, r3) := H; have A48 := Aside0.mk A480; clear A480; obtain ⟨y499, hy499⟩ : ∃ y_ : List (S46), y_ = (([(⟨a1_0, a1_1⟩ : S46)] : List (S46))) := ⟨_, rfl⟩; replace H : (if t496.length + y499.length < 8796093022208 then ((edit_made.f kj4 a0_0 (t496 ++ y499)).bind fun bt505 => (some (bt505.1, bt505.2, 0))) else (none)) = some (r1, r2, r3) := by first | (rw [hy499]; with_reducible exact H) | (have H2_ := (Option.bind_some _ _).symm.trans H; rw [hy499]; with_reducible exact H2_) | (have H2_ := (Option.bind_some _ _).symm.trans H; with_reducible exact H2_) | with_reducible exact H | (rw [hy499]; exact H) | exact H
       have Ny499 := Aside0.mk hy499; clear hy499
       by_cases c49 : t496.length + y499.length < 8796093022208
       ·rw [if_pos c49] at H; have LMc49 := Aside0.mk c49; clear c49; obtain ⟨y502, hy502⟩ : ∃ y_ : List (S46), y_ = (t496 ++ y499) := ⟨_, rfl⟩; replace H : ((edit_made.f kj4 a0_0 y502).bind fun bt505 => (some (bt505.1, bt505.2, 0))) = some (r1, r2, r3) := by first | (rw [hy502]; with_reducible exact H) | (have H2_ := (Option.bind_some _ _).symm.trans H; rw [hy502]; with_reducible exact H2_) | (have H2_ := (Option.bind_some _ _).symm.trans H; with_reducible exact H2_) | with_reducible exact H | (rw [hy502]; exact H) | exact H
        have Ny502 := Aside0.mk hy502; clear hy502; replace H := Option.bind_eq_some_iff.mp H; obtain ⟨⟨t505, t506⟩, A500, H⟩ := H; replace H : (some (t505, t506, 0)) = some (r1, r2, r3) := H; have A50 := Aside0.mk A500; clear A500; simp only [Option.some.injEq, Prod.mk.injEq] at H; obtain ⟨rfl, rfl, rfl⟩ := H; have hnb51 := NB491_492.out; have hnc51 := NB492_491.out; have hnb52 := NB491_493.out; have hnc52 := NB493_491.out; have hcz53_0 : wc.cell? ⟨gb491, 0, none⟩ = some (.int .i64 a0_0) := bc BK491 0; have hcz53_1 : wc.cell? ⟨gb491, 1, none⟩ = some (.slice A0_1 l0_1.length c0_1) := bc BK491 1; have hfz53_0 := blk_frozen BK491.out 0; have hfz53_1 := blk_frozen BK491.out 1; have hnb54 := NB492_493.out; have hnc54 := NB493_492.out; have hcz55_0 : wc.cell? ⟨gb492, 0, none⟩ = some (.int .i64 a1_0) := bc BK492 0; have hcz55_1 : wc.cell? ⟨gb492, 1, none⟩ = some (.int .i64 a1_1) := bc BK492 1; have hfz55_0 := blk_frozen BK492.out 0; have hfz55_1 := blk_frozen BK492.out 1
        try go_wp2_with (first | ((with_reducible refine gate_callee (f := 47) rfl ?_); refine gl_ (some 33) Try.func47 #[.agg #[.int .i64 a0_0, .slice A0_1 l0_1.length c0_1], .agg #[.int .i64 a1_0, .int .i64 a1_1]] ?_; (with_reducible refine (simple_Find.calls kj4 a0_0 _ _ l0_1 a1_0 a1_1 t495 _ ?side1 ?side2 A30.out).mono ?_); (case side1 => repeat (first | exact (Kd.C_below HR0_1.out HB.out) | (with_reducible refine Kd.C_alloc ?_ _) | (with_reducible refine Kd.C_drewN ?_ _) | (with_reducible refine Kd.C_drew ?_))); (case side2 => exact HC0_1.out); rintro e w56 ⟨rfl, hb⟩; refine ⟨_, rfl, ?_⟩; replace BK491 := kx BK491 hb; replace BK492 := kx BK492 hb; replace BK493 := kx BK493 hb; replace HB := hs (hb3 HB GE491 GE492 GE493) hb; (try clear hb); (try clear hb2); (try clear hk); (try clear hi); have hcz57_0 : w56.cell? ⟨gb491, 0, none⟩ = some (.int .i64 a0_0) := bc BK491 0; have hcz57_1 : w56.cell? ⟨gb491, 1, none⟩ = some (.slice A0_1 l0_1.length c0_1) := bc BK491 1; have hfz57_0 := blk_frozen BK491.out 0; have hfz57_1 := blk_frozen BK491.out 1))
        replace BK491 := bd BK491; replace BK492 := bd BK492; replace BK493 := bd BK493; replace HB := Aside0.mk (below_drew1 HB.out); refine start_ (n := 11) (S := fun w' => w'.cell? ⟨gb491, 0, none⟩ = some (.int .i64 a0_0) ∧ w'.cell? ⟨gb491, 1, none⟩ = some (.slice A0_1 l0_1.length c0_1) ∧ w'.cell? ⟨gb492, 0, none⟩ = some (.int .i64 a1_0) ∧ w'.cell? ⟨gb492, 1, none⟩ = some (.int .i64 a1_1)) (ds := []) (pf 0 11) (by kernel_rfl) rfl rfl ⟨bc BK491 0, bc BK491 1, bc BK492 0, bc BK492 1⟩ (fun hHeld => ?_); refine with_tabW edit_With.tab9 edit_With.bits9 (fun HT_ HW_ => ?_); generalize w56.drew = w58 at BK491 BK492 BK493 HB hHeld ⊢; refine pu_ 0 (some 42) (pf 1 11) HT_ ?_; refine pu_ 2 (some 44) #[T_,F_,T_,F_,F_,F_,F_,F_,F_,F_,F_] HT_ ?_; refine tk4_ 1 (some 43) (pf 3 11) HT_ HW_ hHeld ?_; refine tk4_ 3 (some 45) (pf 4 11) HT_ HW_ hHeld ?_; refine tk4_ 5 (some 47) #[T_,T_,T_,T_,F_,T_,F_,F_,F_,F_,F_] HT_ HW_ hHeld ?_; refine join_ (σ := Value × Value) 4 (pf 7 11) (fun s_ => [(46, s_.1), (48, s_.2)]) (fun s_ w' => (w'.cell? ⟨gb491, 0, none⟩ = some (.int .i64 a0_0) ∧ w'.cell? ⟨gb491, 1, none⟩ = some (.slice A0_1 l0_1.length c0_1) ∧ w'.cell? ⟨gb492, 0, none⟩ = some (.int .i64 a1_0) ∧ w'.cell? ⟨gb492, 1, none⟩ = some (.int .i64 a1_1)) ∧ (Kd.R k46 46 w' w.heap.size (fun k_ => some k_ ≠ (s_.2 : Value).ownBlock ∧ k_ ≠ gb492) s_.1 t496) ∧ (Kd.R k46 46 w' w.heap.size (fun k_ => some k_ ≠ (s_.1 : Value).ownBlock ∧ k_ ≠ gb492) s_.2 y499) ∧ (w'.heap[gb491]? = some (.cells #[.int .i64 a0_0, .slice A0_1 l0_1.length c0_1] 25 (0, 0))) ∧ (w'.heap[gb492]? = some (.cells #[.int .i64 a1_0, .int .i64 a1_1] 46 (0, 0))) ∧ (w'.heap[gb493]? = some (.cells #[.int .i64 0, .slice none 0 0] 25 (0, 0))) ∧ (Below w.heap.size w w')) ?_ ?_
        rotate_left
        ·intro hCont; refine two_ (i := 4) (j := 6) (Ni := some 46) (Nj := some 48) (pf 6 11) #[T_,T_,T_,T_,F_,T_,T_,F_,F_,F_,F_] rfl rfl rfl rfl (two_of HT_.out (by kernel_rfl)) (by decide) (by decide) (fun K hK => ?_) (fun K hK => ?_)
         ·skip
          refine gs_ Try.func40 #[.slice A0_1 l0_1.length c0_1] ?_
          with_reducible refine (api_Edge_40.calls _ _ l0_1 t496 _ ?side1 ?side2 A48.out).mono ?_
          (case side1 => repeat (first | exact (Kd.C_below HR0_1.out HB.out) | (with_reducible refine Kd.C_alloc ?_ _) | (with_reducible refine Kd.C_drewN ?_ _) | (with_reducible refine Kd.C_drew ?_)))
          (case side2 => exact HC0_1.out)
          rintro e w59 ⟨v497, rfl, ho0, hb⟩; refine ⟨_, rfl, ?_⟩; have HO498 := Aside0.mk (Kd.R_lower (Kd.R_newB ho0 (bx BK492)) (below_size (hb3 HB GE491 GE492 GE493))); replace BK491 := kx BK491 hb; replace BK492 := kx BK492 hb; replace BK493 := kx BK493 hb; replace HB := hs (hb3 HB GE491 GE492 GE493) hb
          (try clear hb)
          (try clear hb2)
          (try clear hk)
          (try clear hi)
          (try clear ho0)
          refine hK.out _ _ ⟨bc BK491 0, bc BK491 1, bc BK492 0, bc BK492 1⟩ (fun hHeld => ?_); clear hK K; refine nm_ (some 46) ?_; refine on_ 6 (some 48) (pf 7 11) HT_ (fun K hK => ?_); refine Kd.R_lit_step k46 _ 46 ?hg (N := 48) ?hd (xs := ([(⟨a1_0, a1_1⟩ : S46)] : List (S46))) (inner := [.int .i64 a1_0, .int .i64 a1_1]) (ok := fun _ => True) (okp := fun _ => True) ?hr ?hp (fun _ hk => hk) trivial (Below.refl _ _) (Nat.le_refl _) (by simp) ?_; (case hd => rfl); (case hg => rfl); (case hr => first | (go_simp; done) | (go_simp; rfl)); (case hp => exact (Reps.c2 (show Kd.M k46 _ _ _ (⟨a1_0, a1_1⟩ : S46) [.int .i64 a1_0, .int .i64 a1_1] from (k46_mkM _ _ _ (⟨a1_0, a1_1⟩ : S46) )) (Reps.none _ _))); intro v500 w60 ho61 hb hg_ hnew_; clear hg_ hnew_
          (first | rw [← Ny499.out] at ho61 | (simp only [Int.reduceToNat] at ho61; rw [← Ny499.out] at ho61))
          have HO501 := Aside0.mk (Kd.R_lower (Kd.R_newB (Kd.R_new' ho61 (Kd.R_lt (rx HO498))) (bx BK492)) (below_size (hb3 HB GE491 GE492 GE493))); replace HO498 := Aside0.mk (Kd.R_elder' (rx HO498) (Kd.R_base ho61) hb); replace BK491 := kx BK491 hb; replace BK492 := kx BK492 hb; replace BK493 := kx BK493 hb; replace HB := hs (hb3 HB GE491 GE492 GE493) hb; clear hb ho61; refine hK.out _ _ ⟨bc BK491 0, bc BK491 1, bc BK492 0, bc BK492 1⟩ (fun hHeld => ?_); clear hK K; refine nm_ (some 48) ?_; exact norm_ (by simp only [putAll, Act.put, List.setIfInBounds_toArray, List.set_cons_zero, List.set_cons_succ]) (hCont (v497, v500) _ ⟨hHeld, (Kd.R_mono (rx HO498) (fun _ hk => ⟨hk.2, hk.1.2⟩)), (Kd.R_mono (rx HO501) (fun _ hk => ⟨hk.1.2, hk.2⟩)), (bx BK491), (bx BK492), (bx BK493), (hb3 HB GE491 GE492 GE493)⟩)
         ·skip
          refine Kd.R_lit_step k46 _ 46 ?hg (N := 48) ?hd (xs := ([(⟨a1_0, a1_1⟩ : S46)] : List (S46))) (inner := [.int .i64 a1_0, .int .i64 a1_1]) (ok := fun _ => True) (okp := fun _ => True) ?hr ?hp (fun _ hk => hk) trivial (Below.refl _ _) (Nat.le_refl _) (by simp) ?_; (case hd => rfl); (case hg => rfl); (case hr => first | (go_simp; done) | (go_simp; rfl)); (case hp => exact (Reps.c2 (show Kd.M k46 _ _ _ (⟨a1_0, a1_1⟩ : S46) [.int .i64 a1_0, .int .i64 a1_1] from (k46_mkM _ _ _ (⟨a1_0, a1_1⟩ : S46) )) (Reps.none _ _))); intro v500 w59 ho60 hb hg_ hnew_; clear hg_ hnew_
          (first | rw [← Ny499.out] at ho60 | (simp only [Int.reduceToNat] at ho60; rw [← Ny499.out] at ho60))
          have HO501 := Aside0.mk (Kd.R_lower (Kd.R_newB ho60 (bx BK492)) (below_size (hb3 HB GE491 GE492 GE493))); replace BK491 := kx BK491 hb; replace BK492 := kx BK492 hb; replace BK493 := kx BK493 hb; replace HB := hs (hb3 HB GE491 GE492 GE493) hb; clear hb ho60; refine hK.out _ _ ⟨bc BK491 0, bc BK491 1, bc BK492 0, bc BK492 1⟩ (fun hHeld => ?_); clear hK K; refine nm_ (some 48) ?_; refine on_ 4 (some 46) (pf 7 11) HT_ (fun K hK => ?_); refine gs_ Try.func40 #[.slice A0_1 l0_1.length c0_1] ?_
          with_reducible refine (api_Edge_40.calls _ _ l0_1 t496 _ ?side1 ?side2 A48.out).mono ?_
          (case side1 => repeat (first | exact (Kd.C_below HR0_1.out HB.out) | (with_reducible refine Kd.C_alloc ?_ _) | (with_reducible refine Kd.C_drewN ?_ _) | (with_reducible refine Kd.C_drew ?_)))
          (case side2 => exact HC0_1.out)
          rintro e w61 ⟨v497, rfl, ho0, hb⟩; refine ⟨_, rfl, ?_⟩; have HO498 := Aside0.mk (Kd.R_lower (Kd.R_newB (Kd.R_new' ho0 (Kd.R_lt (rx HO501))) (bx BK492)) (below_size (hb3 HB GE491 GE492 GE493))); replace HO501 := el (rx HO501) ho0 hb; replace BK491 := kx BK491 hb; replace BK492 := kx BK492 hb; replace BK493 := kx BK493 hb; replace HB := hs (hb3 HB GE491 GE492 GE493) hb
          (try clear hb)
          (try clear hb2)
          (try clear hk)
          (try clear hi)
          (try clear ho0)
          refine hK.out _ _ ⟨bc BK491 0, bc BK491 1, bc BK492 0, bc BK492 1⟩ (fun hHeld => ?_); clear hK K; refine nm_ (some 46) ?_; exact norm_ (by simp only [putAll, Act.put, List.setIfInBounds_toArray, List.set_cons_zero, List.set_cons_succ]) (hCont (v497, v500) _ ⟨hHeld, (Kd.R_mono (rx HO498) (fun _ hk => ⟨hk.1.2, hk.2⟩)), (Kd.R_mono (rx HO501) (fun _ hk => ⟨hk.2, hk.1.2⟩)), (bx BK491), (bx BK492), (bx BK493), (hb3 HB GE491 GE492 GE493)⟩)
        rintro ⟨v497, v500⟩ w62 ⟨hS_, h0_, h1_, h2_, h3_, h4_, h5_⟩; have n0_ : Aside0 (Kd.R k46 46 w62 w.heap.size (fun k_ => some k_ ≠ (v500 : Value).ownBlock ∧ k_ ≠ gb492) v497 t496) := ⟨h0_⟩; have n1_ : Aside0 (Kd.R k46 46 w62 w.heap.size (fun k_ => some k_ ≠ (v497 : Value).ownBlock ∧ k_ ≠ gb492) v500 y499) := ⟨h1_⟩; have n2_ : Aside0 (w62.heap[gb491]? = some (.cells #[.int .i64 a0_0, .slice A0_1 l0_1.length c0_1] 25 (0, 0))) := ⟨h2_⟩; have n3_ : Aside0 (w62.heap[gb492]? = some (.cells #[.int .i64 a1_0, .int .i64 a1_1] 46 (0, 0))) := ⟨h3_⟩; have n4_ : Aside0 (w62.heap[gb493]? = some (.cells #[.int .i64 0, .slice none 0 0] 25 (0, 0))) := ⟨h4_⟩; have n5_ : Aside0 (Below w.heap.size w w62) := ⟨h5_⟩; clear BK491 BK492 BK493 HB h0_ h1_ h2_ h3_ h4_ h5_; have HO498 := n0_; have HO501 := n1_; have BK491 := n2_; have BK492 := n3_; have BK493 := n4_; have HB := n5_; clear n0_ n1_ n2_ n3_ n4_ n5_; have hHeld : w62.cell? ⟨gb491, 0, none⟩ = some (.int .i64 a0_0) ∧ w62.cell? ⟨gb491, 1, none⟩ = some (.slice A0_1 l0_1.length c0_1) ∧ w62.cell? ⟨gb492, 0, none⟩ = some (.int .i64 a1_0) ∧ w62.cell? ⟨gb492, 1, none⟩ = some (.int .i64 a1_1) := hS_; obtain ⟨Ao64, co64, eo64⟩ := Kd.R_slice HO501.out
        (first | subst eo64 | obtain ⟨rfl, rfl⟩ := sx eo64)
        refine norm_ (a' := ?_) ?_ ?_; rotate_left
        ·simp only [putAll, Act.put, List.setIfInBounds_toArray, List.set_cons_zero, List.set_cons_succ]; rfl
        refine on_ 7 (some 49) (pf 8 11) HT_ (fun K hK => ?_); refine Kd.R_append_rows_step k46 (w0 := w) w.heap.size (by rfl) (.tmp 46) (.tmp 48) 23 46 (.agg #[(.int .i64 0), (.int .i64 0)]) 16 rfl Try.underlying23 info46 rfl (by decide) (by omega) v497 t496 y499 _ _ _ (fun k_ => some k_ ≠ (.slice Ao64 y499.length co64 : Value).ownBlock ∧ k_ ≠ gb492) (fun _ => False) rfl rfl ?aO ?aR (fun _ _ h => h) (fun _ h => h.elim) ?aF ?aB ?aS ?aL ?_
        (case aR => repeat (first | exact (Kd.R_reads' HO501.out).2.2 | (with_reducible refine Kd.C_alloc ?_ _) | (with_reducible refine Kd.C_drewN ?_ _) | (with_reducible refine Kd.C_drew ?_)))
        (case aB => exact (hb3 HB GE491 GE492 GE493))
        (case aF => exact (fun k_ hk => ⟨Kd.fresh' (Kd.R_lt (rx HO501)) k_ hk, Kd.freshB (bx BK492) k_ hk⟩))
        (case aO => exact (rx HO498))
        (case aS => exact (below_size (hb3 HB GE491 GE492 GE493)))
        (case aL => have := LMc49.out; omega)
        intro v503 w63 ho hb hg hat; rw [← Ny502.out] at ho; have n0_ := Aside0.mk (blk_grown (bx BK491) hg (Kd.R_ne HO498.out BK491.out (by decide))); have n1_ := Aside0.mk (blk_grown (bx BK492) hg (Kd.R_away HO498.out (fun _ hk => hk.2))); have n2_ := Aside0.mk (blk_grown (bx BK493) hg (Kd.R_ne HO498.out BK493.out (by decide))); have n3_ := Aside0.mk (Kd.R_after (ok := (fun k_ => k_ ≠ gb492)) (Kd.R_mono (rx HO501) (fun _ hk => ⟨hk.2, hk.1⟩)) hg hat); have n4_ := Aside0.mk (hb); have n5_ := Aside0.mk (ho); clear BK491 BK492 BK493 HO501 HB HO498; have BK491 := n0_; have BK492 := n1_; have BK493 := n2_; have HO501 := n3_; have HB := n4_; have HO504 := n5_; clear n0_ n1_ n2_ n3_ n4_ n5_ ho hb hg hat; obtain ⟨Ao65, co65, eo65⟩ := Kd.R_slice HO504.out
        (first | subst eo65 | obtain ⟨rfl, rfl⟩ := sx eo65)
        refine hK.out _ _ ⟨bc BK491 0, bc BK491 1, bc BK492 0, bc BK492 1⟩ (fun hHeld => ?_); clear hK K; refine nm_ (some 49) ?_; refine on_ 8 (some 50) (pf 9 11) HT_ (fun K hK => ?_); refine gs_ Try.func38 #[.int .i64 a0_0, .slice Ao65 y502.length co65] ?_
        with_reducible refine (edit_made.calls kj4 a0_0 _ _ y502 t505 t506 _ ?side1 ?side2 A50.out).mono ?_
        (case side1 => exact cr HO504)
        (case side2 => exact (Kd.R_reads' HO504.out).2.1)
        rintro e w66 ⟨v507, rfl, ho0, hb⟩; refine ⟨_, rfl, ?_⟩; have HO508 := Aside0.mk (Kd.R_lower (Kd.R_newB (Kd.R_new' (Kd.R_new' ho0 (Kd.R_lt (rx HO501))) (Kd.R_lt (rx HO504))) (bx BK492)) (below_size (hb3 HB GE491 GE492 GE493))); replace HO501 := el (rx HO501) ho0 hb; replace HO504 := el (rx HO504) ho0 hb; replace BK491 := kx BK491 hb; replace BK492 := kx BK492 hb; replace BK493 := kx BK493 hb; replace HB := hs (hb3 HB GE491 GE492 GE493) hb
        (try clear hb)
        (try clear hb2)
        (try clear hk)
        (try clear hi)
        (try clear ho0)
        obtain ⟨Ao68, co68, eo68⟩ := Kd.R_slice HO508.out
        (first | subst eo68 | obtain ⟨rfl, rfl⟩ := sx eo68)
        refine hK.out _ _ ⟨bc BK491 0, bc BK491 1, bc BK492 0, bc BK492 1⟩ (fun hHeld => ?_); clear hK K; refine nm_ (some 50) ?_; refine on_ 9 none (pf 10 11) HT_ (fun K hK => ?_); have hs67 : w66.cell? ⟨gb493, 0, none⟩ = some (.int .i64 0) := bc BK493 0; have hfs67 := blk_frozen BK493.out 0; have hns67_0 := NB491_493.out; have hns67_1 := NB492_493.out; have hms67_0 := NB493_491.out; have hms67_1 := NB493_492.out; have hs69 : w66.cell? ⟨gb493, 1, none⟩ = some (.slice none 0 0) := bc BK493 1; have hfs69 := blk_frozen BK493.out 1; have hns69_0 := NB491_493.out; have hns69_1 := NB492_493.out; have hms69_0 := NB493_491.out; have hms69_1 := NB493_492.out; refine skip_ (w1 := ?_) (by rfl) rfl ?_ ?_; rotate_left
        ·go_simp; rfl
        refine hK.out _ _ ⟨((cell_far (p := ⟨gb493, _, none⟩) NB491_493.out _).trans (((cell_far (p := ⟨gb493, _, none⟩) NB491_493.out _).trans (hHeld.1)))), ((cell_far (p := ⟨gb493, _, none⟩) NB491_493.out _).trans (((cell_far (p := ⟨gb493, _, none⟩) NB491_493.out _).trans (hHeld.2.1)))), ((cell_far (p := ⟨gb493, _, none⟩) NB492_493.out _).trans (((cell_far (p := ⟨gb493, _, none⟩) NB492_493.out _).trans (hHeld.2.2.1)))), ((cell_far (p := ⟨gb493, _, none⟩) NB492_493.out _).trans (((cell_far (p := ⟨gb493, _, none⟩) NB492_493.out _).trans (hHeld.2.2.2))))⟩ (fun hHeld => ?_); clear hK K; refine pu_ 10 (some 5) (pf 11 11) HT_ ?_; refine done_ (done_of HT_.out (by kernel_rfl)) ?_
        try go_wp2
        refine bodyPost_ret (results_ct rfl _ _ gb493 25 #[.int .i64 t505, .slice Ao68 t506.length co68] (0, 0) _ rfl (bp BK493) Try.underlying25 rfl (by kernel_rfl)) rfl ?_; exact ⟨_, by first | rfl | (simp [errW_none, errW_some] <;> rfl) | (simp [*, errW_none, errW_some] <;> rfl), Kd.R_mono (rf HO508 BK493) (fun _ hk => trivial), hb3 HB GE491 GE492 GE493⟩
       ·rw [if_neg c49] at H; exact absurd H (by simp)
 ·replace c4 := Bool.eq_false_iff.mpr c4; subst c4; have H1 : (some (0, ([] : List (S46)), 1)) = some (r1, r2, r3) := by rw [if_neg (show ¬ (false = true) by decide)] at H; exact H
  clear H; have H := H1; clear H1; simp only [Option.some.injEq, Prod.mk.injEq] at H; obtain ⟨rfl, rfl, rfl⟩ := H
  go_enter Try.func29, Try.ntmps29
  go_wp2_with (first | ((with_reducible refine gate_dst (N := 2) rfl ?_); refine be_ 2 #[.int .i64 a0_0, .slice A0_1 l0_1.length c0_1] 25 ?_; intro gb491 hg w70 hbox hb; have BK491 := Aside0.mk (hbox); have GW491 := wq (hb0 HB) hg; have GE491 := wq (hb0 HB) hg; replace HB := hs (hb0 HB) hb; clear hb hbox hg) | ((with_reducible refine gate_dst (N := 3) rfl ?_); refine be_ 3 #[.int .i64 a1_0, .int .i64 a1_1] 46 ?_; intro gb492 hg w71 hbox hb; have BK492 := Aside0.mk (hbox); have GW492 := wq (hb1 HB GE491) hg; have GE492 := wq (hb1 HB GE491) hg; replace HB := hs (hb1 HB GE491) hb; have NB491_492 := lx BK491 hg; have NB492_491 := gx BK491 hg; replace BK491 := kx BK491 hb; clear hb hbox hg) | ((with_reducible refine gate_dst (N := 4) rfl ?_); refine be_ 4 #[.int .i64 0, .slice none 0 0] 25 ?_; intro gb493 hg w72 hbox hb; have BK493 := Aside0.mk (hbox); have GW493 := wq (hb2 HB GE491 GE492) hg; have GE493 := wq (hb2 HB GE491 GE492) hg; replace HB := hs (hb2 HB GE491 GE492) hb; have NB491_493 := lx BK491 hg; have NB493_491 := gx BK491 hg; replace BK491 := kx BK491 hb; have NB492_493 := lx BK492 hg; have NB493_492 := gx BK492 hg; replace BK492 := kx BK492 hb; clear hb hbox hg; have hnb73 := NB491_492.out; have hnc73 := NB492_491.out; have hnb74 := NB491_493.out; have hnc74 := NB493_491.out; have hcz75_0 : w72.cell? ⟨gb491, 0, none⟩ = some (.int .i64 a0_0) := bc BK491 0; have hcz75_1 : w72.cell? ⟨gb491, 1, none⟩ = some (.slice A0_1 l0_1.length c0_1) := bc BK491 1; have hfz75_0 := blk_frozen BK491.out 0; have hfz75_1 := blk_frozen BK491.out 1) | ((with_reducible refine gate_callee (f := 37) rfl ?_); refine gl_ (some 8) Try.func37 #[.agg #[.int .i64 a0_0, .slice A0_1 l0_1.length c0_1]] ?_; (with_reducible refine (simple_Valid.calls k a0_0 _ _ l0_1 false _ ?side1 ?side2 A3.out).mono ?_); (case side1 => repeat (first | exact (Kd.C_below HR0_1.out HB.out) | (with_reducible refine Kd.C_alloc ?_ _) | (with_reducible refine Kd.C_drewN ?_ _) | (with_reducible refine Kd.C_drew ?_))); (case side2 => exact HC0_1.out); rintro e w76 ⟨rfl, hb⟩; refine ⟨_, rfl, ?_⟩; replace BK491 := kx BK491 hb; replace BK492 := kx BK492 hb; replace BK493 := kx BK493 hb; replace HB := hs (hb3 HB GE491 GE492 GE493) hb; (try clear hb); (try clear hb2); (try clear hk); (try clear hi); have hnb77 := NB493_492.out; have hnc77 := NB492_493.out; have hcz78_0 : w76.cell? ⟨gb493, 0, none⟩ = some (.int .i64 0) := bc BK493 0; have hcz78_1 : w76.cell? ⟨gb493, 1, none⟩ = some (.slice none 0 0) := bc BK493 1; have hfz78_0 := blk_frozen BK493.out 0; have hfz78_1 := blk_frozen BK493.out 1))
  refine bodyPost_ret (results_ct rfl _ _ gb493 25 #[.int .i64 0, .slice none 0 0] (0, 0) _ rfl (bp BK493) Try.underlying25 rfl (by kernel_rfl)) rfl ?_; exact ⟨_, by first | rfl | (simp [errW_none, errW_some] <;> rfl) | (simp [*, errW_none, errW_some] <;> rfl), by first | exact Kd.R_nil _ _ _ _ _ | exact Kd.N_nil _ _ _ _ _ | exact Kd.V_nil _ _ _ _ _ | exact Kd.Q_nil _ _ _ _ _ | exact Kd.S_nil _ _ _ _ _, hb3 HB GE491 GE492 GE493⟩

end Go.Proofs.Ytdaeaejmikhmcaa.PEditC
