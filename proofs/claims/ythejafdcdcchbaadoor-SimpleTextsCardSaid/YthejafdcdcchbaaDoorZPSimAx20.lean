-- PRINTED by print.py (a twelfth state) out of the translation. Not trusted: Lean checks it.
import Derived.Test.YthejafdcdcchbaaDoorZPSimAx0
import Derived.Test.YthejafdcdcchbaaDoorZPSimAx17
import Derived.Test.YthejafdcdcchbaaDoorZPSimAx18
import Derived.Test.YthejafdcdcchbaaDoorZPSimAx19
namespace Go.Proofs.YthejafdcdcchbaaDoor.PSimA
open Go.RowKit Go.Proofs.YthejafdcdcchbaaDoorW.PrintWords Go.Proofs.YthejafdcdcchbaaDoorW.PrintLast Go.Proofs.YthejafdcdcchbaaDoorW.PrintMore
open Go.Proofs.YthejafdcdcchbaaDoorX
attribute [local go_sem] max2_int min2_int max_two min_two max_three min_three max_four min_four   -- for this text's walks alone
set_option linter.unusedVariables false
set_option linter.unusedSimpArgs false

/-! ### tangramref03_Ends: function 20 -/
def tangramref03_Ends.j0 : Nat → Int → Bool → Int → List (S42) → Option (Int × Int × Bool)
 | 0, _, _, _, _ => none
 | k + 1, x1, x23, x196000, x196001 => if x23 = true then (some (0, 0, false)) else ((tangramref03_From.f x196000 x196001 x1).bind fun t197 => ((tangramref03_To.f x196000 x196001 x1).bind fun t198 => (some (t197, t198, true))))
def tangramref03_Ends.f (k : Nat) (a0_0 : Int) (l0_1 : List (S42)) (a1 : Int) : Option (Int × Int × Bool) := (tangramref03_Valid.f k a0_0 l0_1).bind fun t196 => (if t196 = true then (if a1 < 0 then (tangramref03_Ends.j0 k a1 true a0_0 l0_1) else (tangramref03_Ends.j0 k a1 (decide ((wrap64 (Int.tdiv a1 2)) ≥ (l0_1.length : Int))) a0_0 l0_1)) else (tangramref03_Ends.j0 k a1 true a0_0 l0_1))
theorem tangramref03_Ends.mono_l : ∀ k, (∀ y0 y1 y2 y3, LeO (tangramref03_Ends.j0 k y0 y1 y2 y3) (tangramref03_Ends.j0 (k + 1) y0 y1 y2 y3))
 | 0 => fun _ _ _ _ r h => by simp [tangramref03_Ends.j0] at h
 | k + 1 => by
  have ih0 := tangramref03_Ends.mono_l k
  ·intro y0 y1 y2 y3
   unfold tangramref03_Ends.j0
   repeat' first
   | (with_reducible exact ih0 _ _ _ _)
   | (with_reducible exact tangramref03_Valid.mono _ _ _)
   | (with_reducible exact LeO.refl _)
   | (with_reducible exact LeO.none _)
   | (with_reducible refine LeO.ite ?_ ?_)
   | (with_reducible refine LeO.bind ?_ (fun _ => ?_))
   | exact ih0 _ _ _ _
   | exact tangramref03_Valid.mono _ _ _
   | exact LeO.none _
   | refine LeO.ite ?_ ?_
   | refine LeO.bind ?_ (fun _ => ?_)
theorem tangramref03_Ends.mono : ∀ a0 a1 a2 k, LeO (tangramref03_Ends.f k a0 a1 a2) (tangramref03_Ends.f (k + 1) a0 a1 a2) := by
 intro a0 a1 a2 k; have ih0 := tangramref03_Ends.mono_l k
 unfold tangramref03_Ends.f
 repeat' first
   | (with_reducible exact ih0 _ _ _ _)
   | (with_reducible exact tangramref03_Valid.mono _ _ _)
   | (with_reducible exact LeO.refl _)
   | (with_reducible exact LeO.none _)
   | (with_reducible refine LeO.ite ?_ ?_)
   | (with_reducible refine LeO.bind ?_ (fun _ => ?_))
   | exact ih0 _ _ _ _
   | exact tangramref03_Valid.mono _ _ _
   | exact LeO.none _
   | refine LeO.ite ?_ ?_
   | refine LeO.bind ?_ (fun _ => ?_)
def tangramref03_Ends.T4 : Bool × List (List Nat × List Nat) := (true, [([], []), ([], []), ([0, 1], [0, 1]), ([], []), ([], []), ([3, 4, 2], [3, 4]), ([2, 5, 0, 1, 2], [2]), ([5, 6, 0, 1, 2, 3, 4, 5, 6], [5]), ([7, 0, 1, 2, 3, 4, 5, 6, 7], [])])
def tangramref03_Ends.B4 : List Nat := [0, 0, 3, 0, 0, 31, 63, 127, 255]
theorem tangramref03_Ends.tab4 : rtab .any (opsOf Tryd.f20 4) = tangramref03_Ends.T4 := by kernel_rfl
theorem tangramref03_Ends.bits4 : waitsOk tangramref03_Ends.T4.2 tangramref03_Ends.B4 = true := by kernel_rfl
set_option maxHeartbeats 8000000 in
set_option maxRecDepth 100000 in
theorem tangramref03_Ends.calls (k : Nat) (a0_0 : Int) (A0_1 : Option Addr) (c0_1 : Nat) (l0_1 : List (S42)) (a1 : Int) (r1 : Int) (r2 : Int) (r3 : Bool) (w : World) (hr0_1 : Kd.C k42 w A0_1 l0_1.length l0_1) (hc0_1 : l0_1.length ≤ c0_1) (h : tangramref03_Ends.f k a0_0 l0_1 a1 = some (r1, r2, r3)) :
  Calls Tryd.prog 20 #[.agg #[.int .i64 a0_0, .slice A0_1 l0_1.length c0_1], .int .i64 a1] w fun e w' => e = .returned (.tuple #[.int .i64 r1, .int .i64 r2, .bool r3]) ∧ Below w.heap.size w w' := by
 have hu26 := Tryd.underlying26; have HR0_1 := Aside0.mk hr0_1; have HC0_1 := Aside0.mk hc0_1; clear hr0_1 hc0_1; have HB := Aside0.mk (Below.refl w.heap.size w); have H : ((tangramref03_Valid.f k a0_0 l0_1).bind fun t196 => (if t196 = true then (if a1 < 0 then (tangramref03_Ends.j0 k a1 true a0_0 l0_1) else (tangramref03_Ends.j0 k a1 (decide ((wrap64 (Int.tdiv a1 2)) ≥ (l0_1.length : Int))) a0_0 l0_1)) else (tangramref03_Ends.j0 k a1 true a0_0 l0_1))) = some (r1, r2, r3) := h; clear h; replace H := Option.bind_eq_some_iff.mp H; obtain ⟨t196, A30, H⟩ := H; replace H : (if t196 = true then (if a1 < 0 then (tangramref03_Ends.j0 k a1 true a0_0 l0_1) else (tangramref03_Ends.j0 k a1 (decide ((wrap64 (Int.tdiv a1 2)) ≥ (l0_1.length : Int))) a0_0 l0_1)) else (tangramref03_Ends.j0 k a1 true a0_0 l0_1)) = some (r1, r2, r3) := H; have A3 := Aside0.mk A30; clear A30; have HC4 := Aside0.mk H; clear H
 go_enter Tryd.func20, Tryd.ntmps20
 go_upto_region 2 with (first | ((with_reducible refine gate_dst (N := 2) rfl ?_); (try (refine gate_guard (by rfl) ?_; dsimp only)); refine be_ 2 #[.int .i64 a0_0, .slice A0_1 l0_1.length c0_1] 26 ?_; intro gb195 hg w5 hbox hb; have BK195 := Aside0.mk (hbox); have GW195 := wq (hb0 HB) hg; have GE195 := wq (hb0 HB) hg; replace HB := hs (hb0 HB) hb; clear hb hbox hg; have hcz6_0 : w5.cell? ⟨gb195, 0, none⟩ = some (.int .i64 a0_0) := bc BK195 0; have hcz6_1 : w5.cell? ⟨gb195, 1, none⟩ = some (.slice A0_1 l0_1.length c0_1) := bc BK195 1; have hfz6_0 := blk_frozen BK195.out 0; have hfz6_1 := blk_frozen BK195.out 1) | ((with_reducible refine gate_callee (f := 25) rfl ?_); refine gl_ (some 9) Tryd.func25 #[.agg #[.int .i64 a0_0, .slice A0_1 l0_1.length c0_1]] ?_; (with_reducible refine (tangramref03_Valid.calls k a0_0 _ _ l0_1 t196 _ ?side1 ?side2 A3.out).mono ?_); (case side1 => repeat (first | exact (Kd.C_below HR0_1.out HB.out) | (with_reducible refine Kd.C_alloc ?_ _) | (with_reducible refine Kd.C_drewN ?_ _) | (with_reducible refine Kd.C_drew ?_))); (case side2 => exact HC0_1.out); rintro e w7 ⟨rfl, hb⟩; refine ⟨_, rfl, ?_⟩; replace BK195 := kx BK195 hb; replace HB := hs (hb1 HB GE195) hb; (try clear hb); (try clear hb2); (try clear hk); (try clear hi)))
 (try simp only [Act.put, List.setIfInBounds_toArray, List.set_cons_zero, List.set_cons_succ])
 go_cut [23] (fun v23 wc => ∃ (kq : Nat) (x23_3 : Bool), v23 = .bool x23_3 ∧ Aside0 (tangramref03_Ends.j0 kq a1 x23_3 a0_0 l0_1 = some (r1, r2, r3)) ∧ Aside0 (kq ≤ k) ∧ Aside0 (wc.heap[gb195]? = some (.cells #[.int .i64 a0_0, (.slice A0_1 l0_1.length c0_1)] 26 (0, 0))) ∧ Aside0 (Below w.heap.size w wc))
 case first => as_aux_lemma =>
  have H := HC4.out; clear HC4
  by_cases c8 : t196 = true
  ·subst c8; have H1 : (if a1 < 0 then (tangramref03_Ends.j0 k a1 true a0_0 l0_1) else (tangramref03_Ends.j0 k a1 (decide ((wrap64 (Int.tdiv a1 2)) ≥ (l0_1.length : Int))) a0_0 l0_1)) = some (r1, r2, r3) := by rw [if_pos rfl] at H; exact H
   clear H; have H := H1; clear H1
   by_cases c9 : a1 < 0
   ·rw [if_pos c9] at H; have c9b0 : decide (a1 < 0) = true := decide_eq_true c9; clear c9
    (first | rw [c9b0] | (simp only [i64_w, i32_w]; rw [c9b0]) | skip)
    have H' := Aside0.mk H; clear H
    go_wp2
    go_meet
    case rel => exact ⟨_, (true), (by first | rfl | (simp; done) | (simp [*]; done)), H', ⟨by first | omega | exact Nat.le_refl _⟩, ⟨bx BK195⟩, ⟨hb1 HB GE195⟩⟩
   ·rw [if_neg c9] at H; have c9b0 : decide (a1 < 0) = false := decide_eq_false c9; clear c9
    (first | rw [c9b0] | (simp only [i64_w, i32_w]; rw [c9b0]) | skip)
    have H' := Aside0.mk H; clear H; have hcz10_0 : w7.cell? ⟨gb195, 0, none⟩ = some (.int .i64 a0_0) := bc BK195 0; have hcz10_1 : w7.cell? ⟨gb195, 1, none⟩ = some (.slice A0_1 l0_1.length c0_1) := bc BK195 1; have hfz10_0 := blk_frozen BK195.out 0; have hfz10_1 := blk_frozen BK195.out 1
    go_wp2
    go_meet
    case rel => exact ⟨_, (decide ((wrap64 (Int.tdiv a1 2)) ≥ (l0_1.length : Int))), (by first | rfl | (simp; done) | (simp [*]; done)), H', ⟨by first | omega | exact Nat.le_refl _⟩, ⟨bx BK195⟩, ⟨hb1 HB GE195⟩⟩
  ·replace c8 := Bool.eq_false_iff.mpr c8; subst c8; have H1 : (tangramref03_Ends.j0 k a1 true a0_0 l0_1) = some (r1, r2, r3) := by rw [if_neg (show ¬ (false = true) by decide)] at H; exact H
   clear H; have H := H1; clear H1; have H' := Aside0.mk H; clear H
   go_wp2
   go_meet
   case rel => exact ⟨_, (true), (by first | rfl | (simp; done) | (simp [*]; done)), H', ⟨by first | omega | exact Nat.le_refl _⟩, ⟨bx BK195⟩, ⟨hb1 HB GE195⟩⟩
 case rest => as_aux_lemma =>
  clear HC4
  try clear c2
  try clear p2
  try clear p6
  try clear c8
  try clear c9
  try clear c9b0
  try clear hcz10_0
  try clear hcz10_1
  try clear hcz6_0
  try clear hcz6_1
  try clear hfz10_0
  try clear hfz10_1
  try clear hfz6_0
  try clear hfz6_1
  obtain ⟨kq, x23_3, rfl, HA, HJ3, BK195, HB⟩ := hcut
  cases kq with
  | zero => exact absurd HA.out (by simp [tangramref03_Ends.j0])
  | succ kj3 =>
   have H := HA.out; clear HA; simp only [tangramref03_Ends.j0] at H
   by_cases c11 : x23_3 = true
   ·subst c11; have H1 : (some (0, 0, false)) = some (r1, r2, r3) := by rw [if_pos rfl] at H; exact H
    clear H; have H := H1; clear H1; simp only [Option.some.injEq, Prod.mk.injEq] at H; obtain ⟨rfl, rfl, rfl⟩ := H
    go_wp2
    go_ret3
    exact ⟨by first | rfl | (simp [errW_none, errW_some] <;> rfl) | (simp [*, errW_none, errW_some] <;> rfl), hb1 HB GE195⟩
   ·replace c11 := Bool.eq_false_iff.mpr c11; subst c11; have H1 : ((tangramref03_From.f a0_0 l0_1 a1).bind fun t197 => ((tangramref03_To.f a0_0 l0_1 a1).bind fun t198 => (some (t197, t198, true)))) = some (r1, r2, r3) := by rw [if_neg (show ¬ (false = true) by decide)] at H; exact H
    clear H; have H := H1; clear H1; replace H := Option.bind_eq_some_iff.mp H; obtain ⟨t197, A120, H⟩ := H; replace H : ((tangramref03_To.f a0_0 l0_1 a1).bind fun t198 => (some (t197, t198, true))) = some (r1, r2, r3) := H; have A12 := Aside0.mk A120; clear A120; replace H := Option.bind_eq_some_iff.mp H; obtain ⟨t198, A130, H⟩ := H; replace H : (some (t197, t198, true)) = some (r1, r2, r3) := H; have A13 := Aside0.mk A130; clear A130; simp only [Option.some.injEq, Prod.mk.injEq] at H; obtain ⟨rfl, rfl, rfl⟩ := H
    try go_wp2
    replace BK195 := bd BK195; replace HB := Aside0.mk (below_drew1 HB.out); refine start_ (n := 9) (S := fun w' => w'.cell? ⟨gb195, 0, none⟩ = some (.int .i64 a0_0) ∧ w'.cell? ⟨gb195, 1, none⟩ = some (.slice A0_1 l0_1.length c0_1)) (ds := []) (pf 0 9) (by kernel_rfl) rfl rfl ⟨bc BK195 0, bc BK195 1⟩ (fun hHeld => ?_); refine with_tabW tangramref03_Ends.tab4 tangramref03_Ends.bits4 (fun HT_ HW_ => ?_); generalize wc.drew = w14 at BK195 HB hHeld ⊢; refine pu_ 1 (some 25) #[F_,T_,F_,F_,F_,F_,F_,F_,F_] HT_ ?_; refine pu_ 4 (some 28) #[F_,T_,F_,F_,T_,F_,F_,F_,F_] HT_ ?_; refine tk2_ 0 (some 24) #[T_,T_,F_,F_,T_,F_,F_,F_,F_] HT_ HW_ hHeld ?_; refine tk2_ 3 (some 27) #[T_,T_,F_,T_,T_,F_,F_,F_,F_] HT_ HW_ hHeld ?_; refine on_ 2 (some 26) (pf 5 9) HT_ (fun K hK => ?_); refine gs_ Tryd.func43 #[.agg #[.int .i64 a0_0, .slice A0_1 l0_1.length c0_1], .int .i64 a1] ?_
    with_reducible refine (tangramref03_From.calls a0_0 _ _ l0_1 a1 t197 _ ?side1 ?side2 A12.out).mono ?_
    (case side1 => repeat (first | exact (Kd.C_below HR0_1.out HB.out) | (with_reducible refine Kd.C_alloc ?_ _) | (with_reducible refine Kd.C_drewN ?_ _) | (with_reducible refine Kd.C_drew ?_)))
    (case side2 => exact HC0_1.out)
    rintro e w15 ⟨rfl, hb⟩; refine ⟨_, rfl, ?_⟩; replace BK195 := kx BK195 hb; replace HB := hs (hb1 HB GE195) hb
    (try clear hb)
    (try clear hb2)
    (try clear hk)
    (try clear hi)
    refine hK.out _ _ ⟨bc BK195 0, bc BK195 1⟩ (fun hHeld => ?_); clear hK K; refine nm_ (some 26) ?_; refine on_ 5 (some 29) (pf 6 9) HT_ (fun K hK => ?_); refine gs_ Tryd.func44 #[.agg #[.int .i64 a0_0, .slice A0_1 l0_1.length c0_1], .int .i64 a1] ?_
    with_reducible refine (tangramref03_To.calls a0_0 _ _ l0_1 a1 t198 _ ?side1 ?side2 A13.out).mono ?_
    (case side1 => repeat (first | exact (Kd.C_below HR0_1.out HB.out) | (with_reducible refine Kd.C_alloc ?_ _) | (with_reducible refine Kd.C_drewN ?_ _) | (with_reducible refine Kd.C_drew ?_)))
    (case side2 => exact HC0_1.out)
    rintro e w16 ⟨rfl, hb⟩; refine ⟨_, rfl, ?_⟩; replace BK195 := kx BK195 hb; replace HB := hs (hb1 HB GE195) hb
    (try clear hb)
    (try clear hb2)
    (try clear hk)
    (try clear hi)
    refine hK.out _ _ ⟨bc BK195 0, bc BK195 1⟩ (fun hHeld => ?_); clear hK K; refine nm_ (some 29) ?_; refine pu_ 6 (some 4) (pf 7 9) HT_ ?_; refine pu_ 7 (some 5) (pf 8 9) HT_ ?_; refine pu_ 8 (some 6) (pf 9 9) HT_ ?_; refine done_ (done_of HT_.out (by kernel_rfl)) ?_
    try go_wp2
    go_ret3
    exact ⟨by first | rfl | (simp [errW_none, errW_some] <;> rfl) | (simp [*, errW_none, errW_some] <;> rfl), hb1 HB GE195⟩

end Go.Proofs.YthejafdcdcchbaaDoor.PSimA
