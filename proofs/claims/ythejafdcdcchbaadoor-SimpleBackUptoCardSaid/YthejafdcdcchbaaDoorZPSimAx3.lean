import Derived.Test.YthejafdcdcchbaaDoorZPSimAx0
-- PRINTED by print.py (a twelfth state) out of the translation. Not trusted: Lean checks it.
namespace Go.Proofs.YthejafdcdcchbaaDoor.PSimA
open Go.RowKit Go.Proofs.YthejafdcdcchbaaDoorW.PrintWords Go.Proofs.YthejafdcdcchbaaDoorW.PrintLast Go.Proofs.YthejafdcdcchbaaDoorW.PrintMore
open Go.Proofs.YthejafdcdcchbaaDoorX
attribute [local go_sem] max2_int min2_int max_two min_two max_three min_three max_four min_four   -- for this text's walks alone
set_option linter.unusedVariables false
set_option linter.unusedSimpArgs false

/-! ### tangramref03_Less: function 45 -/
def tangramref03_Less.f (a0_0 : Int) (a0_1 : Int) (a1_0 : Int) (a1_1 : Int) : Option (Bool) := if a0_0 < a1_0 then (some true) else (if a0_0 = a1_0 then (some (decide (a0_1 < a1_1))) else (some false))
set_option maxHeartbeats 8000000 in
set_option maxRecDepth 100000 in
theorem tangramref03_Less.calls (a0_0 : Int) (a0_1 : Int) (a1_0 : Int) (a1_1 : Int) (r : Bool) (w : World) (h : tangramref03_Less.f a0_0 a0_1 a1_0 a1_1 = some r) :
  Calls Tryd.prog 45 #[.agg #[.int .i64 a0_0, .int .i64 a0_1], .agg #[.int .i64 a1_0, .int .i64 a1_1]] w fun e w' => e = .returned (.bool r) ∧ Below w.heap.size w w' := by
 have hu42 := Tryd.underlying42; have HB := Aside0.mk (Below.refl w.heap.size w); have H : (if a0_0 < a1_0 then (some true) else (if a0_0 = a1_0 then (some (decide (a0_1 < a1_1))) else (some false))) = some r := h; clear h
 by_cases c3 : a0_0 < a1_0
 ·rw [if_pos c3] at H; have c3b0 : decide (a0_0 < a1_0) = true := decide_eq_true c3; clear c3; obtain rfl := Option.some.inj H
  go_enter Tryd.func45, Tryd.ntmps45
  go_wp2_with (first | ((with_reducible refine gate_dst (N := 2) rfl ?_); refine be_ 2 #[.int .i64 a0_0, .int .i64 a0_1] 42 ?_; intro gb101 hg w4 hbox hb; have BK101 := Aside0.mk (hbox); have GW101 := wq (hb0 HB) hg; have GE101 := wq (hb0 HB) hg; replace HB := hs (hb0 HB) hb; clear hb hbox hg) | ((with_reducible refine gate_dst (N := 3) rfl ?_); refine be_ 3 #[.int .i64 a1_0, .int .i64 a1_1] 42 ?_; intro gb102 hg w5 hbox hb; have BK102 := Aside0.mk (hbox); have GW102 := wq (hb1 HB GE101) hg; have GE102 := wq (hb1 HB GE101) hg; replace HB := hs (hb1 HB GE101) hb; have NB101_102 := lx BK101 hg; have NB102_101 := gx BK101 hg; replace BK101 := kx BK101 hb; clear hb hbox hg; have hnb6 := NB101_102.out; have hnc6 := NB102_101.out; have hcz7_0 : w5.cell? ⟨gb101, 0, none⟩ = some (.int .i64 a0_0) := bc BK101 0; have hcz7_1 : w5.cell? ⟨gb101, 1, none⟩ = some (.int .i64 a0_1) := bc BK101 1; have hfz7_0 := blk_frozen BK101.out 0; have hfz7_1 := blk_frozen BK101.out 1; have hcz8_0 : w5.cell? ⟨gb102, 0, none⟩ = some (.int .i64 a1_0) := bc BK102 0; have hcz8_1 : w5.cell? ⟨gb102, 1, none⟩ = some (.int .i64 a1_1) := bc BK102 1; have hfz8_0 := blk_frozen BK102.out 0; have hfz8_1 := blk_frozen BK102.out 1))
  go_ret
  exact ⟨by first | rfl | (simp [errW_none, errW_some] <;> rfl) | (simp [*, errW_none, errW_some] <;> rfl), hb2 HB GE101 GE102⟩
 ·rw [if_neg c3] at H; have c3b0 : decide (a0_0 < a1_0) = false := decide_eq_false c3; clear c3
  by_cases c9 : a0_0 = a1_0
  ·rw [if_pos c9] at H; have c9b0 : (a0_0 == a1_0) = true := beq_iff_eq.mpr c9; have c9b1 : (a0_0 != a1_0) = false := bne_eq_false_iff_eq.mpr c9; clear c9; obtain rfl := Option.some.inj H
   go_enter Tryd.func45, Tryd.ntmps45
   go_wp2_with (first | ((with_reducible refine gate_dst (N := 2) rfl ?_); refine be_ 2 #[.int .i64 a0_0, .int .i64 a0_1] 42 ?_; intro gb101 hg w10 hbox hb; have BK101 := Aside0.mk (hbox); have GW101 := wq (hb0 HB) hg; have GE101 := wq (hb0 HB) hg; replace HB := hs (hb0 HB) hb; clear hb hbox hg) | ((with_reducible refine gate_dst (N := 3) rfl ?_); refine be_ 3 #[.int .i64 a1_0, .int .i64 a1_1] 42 ?_; intro gb102 hg w11 hbox hb; have BK102 := Aside0.mk (hbox); have GW102 := wq (hb1 HB GE101) hg; have GE102 := wq (hb1 HB GE101) hg; replace HB := hs (hb1 HB GE101) hb; have NB101_102 := lx BK101 hg; have NB102_101 := gx BK101 hg; replace BK101 := kx BK101 hb; clear hb hbox hg; have hnb12 := NB101_102.out; have hnc12 := NB102_101.out; have hcz13_0 : w11.cell? ⟨gb101, 0, none⟩ = some (.int .i64 a0_0) := bc BK101 0; have hcz13_1 : w11.cell? ⟨gb101, 1, none⟩ = some (.int .i64 a0_1) := bc BK101 1; have hfz13_0 := blk_frozen BK101.out 0; have hfz13_1 := blk_frozen BK101.out 1; have hcz14_0 : w11.cell? ⟨gb102, 0, none⟩ = some (.int .i64 a1_0) := bc BK102 0; have hcz14_1 : w11.cell? ⟨gb102, 1, none⟩ = some (.int .i64 a1_1) := bc BK102 1; have hfz14_0 := blk_frozen BK102.out 0; have hfz14_1 := blk_frozen BK102.out 1))
   go_ret
   exact ⟨by first | rfl | (simp [errW_none, errW_some] <;> rfl) | (simp [*, errW_none, errW_some] <;> rfl), hb2 HB GE101 GE102⟩
  ·rw [if_neg c9] at H; have c9b0 : (a0_0 == a1_0) = false := beq_eq_false_iff_ne.mpr c9; have c9b1 : (a0_0 != a1_0) = true := bne_iff_ne.mpr c9; obtain rfl := Option.some.inj H
   go_enter Tryd.func45, Tryd.ntmps45
   go_wp2_with (first | ((with_reducible refine gate_dst (N := 2) rfl ?_); refine be_ 2 #[.int .i64 a0_0, .int .i64 a0_1] 42 ?_; intro gb101 hg w15 hbox hb; have BK101 := Aside0.mk (hbox); have GW101 := wq (hb0 HB) hg; have GE101 := wq (hb0 HB) hg; replace HB := hs (hb0 HB) hb; clear hb hbox hg) | ((with_reducible refine gate_dst (N := 3) rfl ?_); refine be_ 3 #[.int .i64 a1_0, .int .i64 a1_1] 42 ?_; intro gb102 hg w16 hbox hb; have BK102 := Aside0.mk (hbox); have GW102 := wq (hb1 HB GE101) hg; have GE102 := wq (hb1 HB GE101) hg; replace HB := hs (hb1 HB GE101) hb; have NB101_102 := lx BK101 hg; have NB102_101 := gx BK101 hg; replace BK101 := kx BK101 hb; clear hb hbox hg; have hnb17 := NB101_102.out; have hnc17 := NB102_101.out; have hcz18_0 : w16.cell? ⟨gb101, 0, none⟩ = some (.int .i64 a0_0) := bc BK101 0; have hcz18_1 : w16.cell? ⟨gb101, 1, none⟩ = some (.int .i64 a0_1) := bc BK101 1; have hfz18_0 := blk_frozen BK101.out 0; have hfz18_1 := blk_frozen BK101.out 1; have hcz19_0 : w16.cell? ⟨gb102, 0, none⟩ = some (.int .i64 a1_0) := bc BK102 0; have hcz19_1 : w16.cell? ⟨gb102, 1, none⟩ = some (.int .i64 a1_1) := bc BK102 1; have hfz19_0 := blk_frozen BK102.out 0; have hfz19_1 := blk_frozen BK102.out 1))
   go_ret
   exact ⟨by first | rfl | (simp [errW_none, errW_some] <;> rfl) | (simp [*, errW_none, errW_some] <;> rfl), hb2 HB GE101 GE102⟩

end Go.Proofs.YthejafdcdcchbaaDoor.PSimA

-- PRINTED by print.py (a twelfth state) out of the translation. Not trusted: Lean checks it.
namespace Go.Proofs.YthejafdcdcchbaaDoor.PSimA
open Go.RowKit Go.Proofs.YthejafdcdcchbaaDoorW.PrintWords Go.Proofs.YthejafdcdcchbaaDoorW.PrintLast Go.Proofs.YthejafdcdcchbaaDoorW.PrintMore
open Go.Proofs.YthejafdcdcchbaaDoorX
attribute [local go_sem] max2_int min2_int max_two min_two max_three min_three max_four min_four   -- for this text's walks alone
set_option linter.unusedVariables false
set_option linter.unusedSimpArgs false

attribute [local go_sem high] eqA42
/-! ### tangramref03_Put: function 35 -/
mutual
def tangramref03_Put.j1 : Nat → List (S42) → List (S42) → Int → Int → Int → Option ((List (S42)))
 | 0, _, _, _, _, _ => none
 | k + 1, x0, x5, x6, x104000, x104001 => if x6 < (x0.length : Int) then (if 0 ≤ x6 then (tangramref03_Put.j2 k x0 x5 x6 (((rd_T42 x0 x6).f0) == x104000 && (((rd_T42 x0 x6).f1) == x104001)) x104000 x104001) else (none)) else (tangramref03_Put.j2 k x0 x5 x6 false x104000 x104001)
def tangramref03_Put.j2 : Nat → List (S42) → List (S42) → Int → Bool → Int → Int → Option ((List (S42)))
 | 0, _, _, _, _, _, _ => none
 | k + 1, x0, x5, x6, x40, x104000, x104001 => if x40 = true then (some x0) else (if x5.length < 8796093022208 then (tangramref03_Put.l1 k x0 (x5 ++ [(⟨x104000, x104001⟩ : S42)]) x6) else (none))
def tangramref03_Put.l1 : Nat → List (S42) → List (S42) → Int → Option ((List (S42)))
 | 0, _, _, _ => none
 | k + 1, x0, x5, x6 => if x6 < (x0.length : Int) then (if 0 ≤ x6 then (if x5.length < 8796093022208 then (tangramref03_Put.l1 k x0 (x5 ++ [(⟨(rd_T42 x0 x6).f0, (rd_T42 x0 x6).f1⟩ : S42)]) (wrap64 (x6 + 1))) else (none)) else (none)) else (some x5)
def tangramref03_Put.l0 : Nat → List (S42) → List (S42) → Int → Int → Int → Option ((List (S42)))
 | 0, _, _, _, _, _ => none
 | k + 1, x0, x5, x6, x104000, x104001 => if x6 < (x0.length : Int) then (if 0 ≤ x6 then ((tangramref03_Less.f ((rd_T42 x0 x6).f0) ((rd_T42 x0 x6).f1) x104000 x104001).bind fun t105 => (if t105 = true then (if x5.length < 8796093022208 then (tangramref03_Put.l0 k x0 (x5 ++ [(⟨(rd_T42 x0 x6).f0, (rd_T42 x0 x6).f1⟩ : S42)]) (wrap64 (x6 + 1)) x104000 x104001) else (none)) else (tangramref03_Put.j1 k x0 x5 x6 x104000 x104001))) else (none)) else (tangramref03_Put.j1 k x0 x5 x6 x104000 x104001)
end
def tangramref03_Put.f (k : Nat) (l0 : List (S42)) (a1_0 : Int) (a1_1 : Int) : Option ((List (S42))) := tangramref03_Put.l0 k l0 ([] : List (S42)) 0 a1_0 a1_1
theorem tangramref03_Put.mono_l : ∀ k, (∀ y0 y1 y2 y3 y4, LeO (tangramref03_Put.j1 k y0 y1 y2 y3 y4) (tangramref03_Put.j1 (k + 1) y0 y1 y2 y3 y4)) ∧ (∀ y0 y1 y2 y3 y4 y5, LeO (tangramref03_Put.j2 k y0 y1 y2 y3 y4 y5) (tangramref03_Put.j2 (k + 1) y0 y1 y2 y3 y4 y5)) ∧ (∀ y0 y1 y2, LeO (tangramref03_Put.l1 k y0 y1 y2) (tangramref03_Put.l1 (k + 1) y0 y1 y2)) ∧ (∀ y0 y1 y2 y3 y4, LeO (tangramref03_Put.l0 k y0 y1 y2 y3 y4) (tangramref03_Put.l0 (k + 1) y0 y1 y2 y3 y4))
 | 0 => ⟨fun _ _ _ _ _ r h => by simp [tangramref03_Put.j1] at h, fun _ _ _ _ _ _ r h => by simp [tangramref03_Put.j2] at h, fun _ _ _ r h => by simp [tangramref03_Put.l1] at h, fun _ _ _ _ _ r h => by simp [tangramref03_Put.l0] at h⟩
 | k + 1 => by
  obtain ⟨ih0, ih1, ih2, ih3⟩ := tangramref03_Put.mono_l k; refine ⟨?_, ?_, ?_, ?_⟩
  ·intro y0 y1 y2 y3 y4
   unfold tangramref03_Put.j1
   repeat' first
   | (with_reducible exact ih0 _ _ _ _ _)
   | (with_reducible exact ih1 _ _ _ _ _ _)
   | (with_reducible exact ih2 _ _ _)
   | (with_reducible exact ih3 _ _ _ _ _)
   | (with_reducible exact LeO.refl _)
   | (with_reducible exact LeO.none _)
   | (with_reducible refine LeO.ite ?_ ?_)
   | (with_reducible refine LeO.bind ?_ (fun _ => ?_))
   | exact ih0 _ _ _ _ _
   | exact ih1 _ _ _ _ _ _
   | exact ih2 _ _ _
   | exact ih3 _ _ _ _ _
   | exact LeO.none _
   | refine LeO.ite ?_ ?_
   | refine LeO.bind ?_ (fun _ => ?_)
  ·intro y0 y1 y2 y3 y4 y5
   unfold tangramref03_Put.j2
   repeat' first
   | (with_reducible exact ih0 _ _ _ _ _)
   | (with_reducible exact ih1 _ _ _ _ _ _)
   | (with_reducible exact ih2 _ _ _)
   | (with_reducible exact ih3 _ _ _ _ _)
   | (with_reducible exact LeO.refl _)
   | (with_reducible exact LeO.none _)
   | (with_reducible refine LeO.ite ?_ ?_)
   | (with_reducible refine LeO.bind ?_ (fun _ => ?_))
   | exact ih0 _ _ _ _ _
   | exact ih1 _ _ _ _ _ _
   | exact ih2 _ _ _
   | exact ih3 _ _ _ _ _
   | exact LeO.none _
   | refine LeO.ite ?_ ?_
   | refine LeO.bind ?_ (fun _ => ?_)
  ·intro y0 y1 y2
   unfold tangramref03_Put.l1
   repeat' first
   | (with_reducible exact ih0 _ _ _ _ _)
   | (with_reducible exact ih1 _ _ _ _ _ _)
   | (with_reducible exact ih2 _ _ _)
   | (with_reducible exact ih3 _ _ _ _ _)
   | (with_reducible exact LeO.refl _)
   | (with_reducible exact LeO.none _)
   | (with_reducible refine LeO.ite ?_ ?_)
   | (with_reducible refine LeO.bind ?_ (fun _ => ?_))
   | exact ih0 _ _ _ _ _
   | exact ih1 _ _ _ _ _ _
   | exact ih2 _ _ _
   | exact ih3 _ _ _ _ _
   | exact LeO.none _
   | refine LeO.ite ?_ ?_
   | refine LeO.bind ?_ (fun _ => ?_)
  ·intro y0 y1 y2 y3 y4
   unfold tangramref03_Put.l0
   repeat' first
   | (with_reducible exact ih0 _ _ _ _ _)
   | (with_reducible exact ih1 _ _ _ _ _ _)
   | (with_reducible exact ih2 _ _ _)
   | (with_reducible exact ih3 _ _ _ _ _)
   | (with_reducible exact LeO.refl _)
   | (with_reducible exact LeO.none _)
   | (with_reducible refine LeO.ite ?_ ?_)
   | (with_reducible refine LeO.bind ?_ (fun _ => ?_))
   | exact ih0 _ _ _ _ _
   | exact ih1 _ _ _ _ _ _
   | exact ih2 _ _ _
   | exact ih3 _ _ _ _ _
   | exact LeO.none _
   | refine LeO.ite ?_ ?_
   | refine LeO.bind ?_ (fun _ => ?_)
theorem tangramref03_Put.mono : ∀ a0 a1 a2 k, LeO (tangramref03_Put.f k a0 a1 a2) (tangramref03_Put.f (k + 1) a0 a1 a2) := by
 intro a0 a1 a2 k; obtain ⟨ih0, ih1, ih2, ih3⟩ := tangramref03_Put.mono_l k
 unfold tangramref03_Put.f
 repeat' first
   | (with_reducible exact ih0 _ _ _ _ _)
   | (with_reducible exact ih1 _ _ _ _ _ _)
   | (with_reducible exact ih2 _ _ _)
   | (with_reducible exact ih3 _ _ _ _ _)
   | (with_reducible exact LeO.refl _)
   | (with_reducible exact LeO.none _)
   | (with_reducible refine LeO.ite ?_ ?_)
   | (with_reducible refine LeO.bind ?_ (fun _ => ?_))
   | exact ih0 _ _ _ _ _
   | exact ih1 _ _ _ _ _ _
   | exact ih2 _ _ _
   | exact ih3 _ _ _ _ _
   | exact LeO.none _
   | refine LeO.ite ?_ ?_
   | refine LeO.bind ?_ (fun _ => ?_)
def tangramref03_Put.T8 : Bool × List (List Nat × List Nat) := (true, [([], []), ([], []), ([1], [1]), ([0, 2], [0, 2]), ([3], [3]), ([4], [4]), ([4], [4]), ([5, 6, 4], [4, 5, 6]), ([7, 4], [4, 7]), ([4], [4]), ([8, 9, 4], [4, 8, 9]), ([4, 10], [4, 10])])
def tangramref03_Put.B8 : List Nat := [0, 0, 2, 7, 15, 31, 31, 127, 255, 31, 1023, 2047]
theorem tangramref03_Put.tab8 : rtab .any (opsOf Tryd.f35 8) = tangramref03_Put.T8 := by kernel_rfl
theorem tangramref03_Put.bits8 : waitsOk tangramref03_Put.T8.2 tangramref03_Put.B8 = true := by kernel_rfl
set_option maxHeartbeats 8000000 in
set_option maxRecDepth 100000 in
theorem tangramref03_Put.calls (k : Nat) (P0_ : Nat → Prop) (u9000_ : Value) (l0 : List (S42)) (a1_0 : Int) (a1_1 : Int) (r : List (S42)) (w0 w : World) (hB : Below w0.heap.size w0 w) (ho0 : Kd.R k42 42 w w0.heap.size P0_ u9000_ l0) (h : tangramref03_Put.f k l0 a1_0 a1_1 = some r) :
  Calls Tryd.prog 35 #[u9000_, .agg #[.int .i64 a1_0, .int .i64 a1_1]] w fun e w' => ∃ v0_ : Value, e = .returned (v0_) ∧ Kd.R k42 42 w' w0.heap.size (fun k_ => (P0_ k_ ∨ w.heap.size ≤ k_)) v0_ r ∧ Below w0.heap.size w0 w' ∧ Kept w w' (fun k_ => P0_ k_) := by
 have hu42 := Tryd.underlying42; have HO0 := Aside0.mk (show Kd.R k42 42 w w0.heap.size (fun k_ => (P0_ k_ ∨ w.heap.size ≤ k_)) u9000_ l0 from Kd.R_mono ho0 (fun k_ hk => (.inl hk))); have HK := Aside0.mk (Kept.refl w (fun k_ => P0_ k_)); have HW0 := Aside0.mk hB.size; have HB := Aside0.mk hB; clear hB; have H : (tangramref03_Put.l0 k l0 ([] : List (S42)) 0 a1_0 a1_1) = some r := h; clear h; have HC3 := Aside0.mk H; clear H
 go_enter Tryd.func35, Tryd.ntmps35
 go_upto_block 0 with (first | ((with_reducible refine gate_dst (N := 3) rfl ?_); refine be_ 3 #[.int .i64 a1_0, .int .i64 a1_1] 42 ?_; intro gb103 hg w4 hbox hb; replace HO0 := Aside0.mk (Kd.R_below (Kd.R_elderB (rx HO0) gb103 (Nat.le_of_eq hg.symm)) hb); have BK103 := Aside0.mk (hbox); have GW103 := Aside0.mk ((by rw [hg]; exact (by first | exact HK.out.1 | exact (show Kept w _ (fun k_ => P0_ k_) from by repeat (first | (with_reducible first | exact HK.out | apply Kept.alloc | apply Kept.drewN | apply Kept.drew) | exact HK.out)).1) : w.heap.size ≤ gb103)); replace HK := Aside0.mk (Kept.below (S := (fun k_ => P0_ k_)) (by repeat (first | (with_reducible first | exact HK.out | apply Kept.alloc | apply Kept.drewN | apply Kept.drew) | exact HK.out)) hb); have GE103 := wq (hb0 HB) hg; replace HB := hs (hb0 HB) hb; clear hb hbox hg))
 (try simp only [Act.put, List.setIfInBounds_toArray, List.set_cons_zero, List.set_cons_succ])
 go_cut [5, 6] (fun v5 v6 wc => ∃ (kq : Nat) (x5_2 : List (S42)) (x6_2 : Int), v6 = .int .i64 x6_2 ∧ Aside0 (tangramref03_Put.j1 kq l0 x5_2 x6_2 a1_0 a1_1 = some r) ∧ Aside0 (kq ≤ k) ∧ Aside0 (Kd.R k42 42 wc w0.heap.size (fun k_ => (P0_ k_ ∨ w.heap.size ≤ k_) ∧ some k_ ≠ (v5 : Value).ownBlock ∧ k_ ≠ gb103) u9000_ l0) ∧ Aside0 (Kd.R k42 42 wc w0.heap.size (fun k_ => (P0_ k_ ∨ w.heap.size ≤ k_) ∧ some k_ ≠ (u9000_ : Value).ownBlock ∧ k_ ≠ gb103) v5 x5_2) ∧ Aside0 (wc.heap[gb103]? = some (.cells #[.int .i64 a1_0, .int .i64 a1_1] 42 (0, 0))) ∧ Aside0 (Kept w wc (fun k_ => P0_ k_)) ∧ Aside0 (Below w0.heap.size w0 wc))
 case first => as_aux_lemma =>
  have H := HC3.out; clear HC3; have H' := Aside0.mk H; clear H
  go_wp2
  go_loopg [5, 6] k (fun kq v5 v6 w' => ∃ (x5_1 : List (S42)) (x6_1 : Int), v6 = .int .i64 x6_1 ∧ Aside0 (tangramref03_Put.l0 kq l0 x5_1 x6_1 a1_0 a1_1 = some r) ∧ Aside0 (kq ≤ k) ∧ Aside0 (Kd.R k42 42 w' w0.heap.size (fun k_ => (P0_ k_ ∨ w.heap.size ≤ k_) ∧ some k_ ≠ (v5 : Value).ownBlock ∧ k_ ≠ gb103) u9000_ l0) ∧ Aside0 (Kd.R k42 42 w' w0.heap.size (fun k_ => (P0_ k_ ∨ w.heap.size ≤ k_) ∧ some k_ ≠ (u9000_ : Value).ownBlock ∧ k_ ≠ gb103) v5 x5_1) ∧ Aside0 (w'.heap[gb103]? = some (.cells #[.int .i64 a1_0, .int .i64 a1_1] 42 (0, 0))) ∧ Aside0 (Kept w w' (fun k_ => P0_ k_)) ∧ Aside0 (Below w0.heap.size w0 w'))
  case atStart => exact ⟨(([] : List (S42))), (0), (by first | rfl | (simp; done) | (simp [*]; done)), H', ⟨Nat.le_refl _⟩, ⟨by (with_reducible repeat (first | apply Kd.R_alloc | apply Kd.R_drewN | apply Kd.R_drew)); exact Kd.R_mono HO0.out (fun _ hk => ⟨hk.1, ⟨(by simp [Value.ownBlock]), hk.2⟩⟩)⟩, ⟨by first | exact Kd.R_nil _ _ _ _ _ | exact Kd.N_nil _ _ _ _ _ | exact Kd.V_nil _ _ _ _ _ | exact Kd.Q_nil _ _ _ _ _ | exact Kd.S_nil _ _ _ _ _⟩, ⟨bx BK103⟩, ⟨by repeat (first | (with_reducible first | exact HK.out | apply Kept.alloc | apply Kept.drewN | apply Kept.drew | refine Kept.setCell ?_ (.inr GW103.out) _) | exact HK.out)⟩, ⟨hb1 HB GE103⟩⟩
  case round =>
   clear H'
   try clear p2
   try clear c3
   obtain ⟨x5_1, x6_1, rfl, HA, HK1, HO_0, HO_5, BK103, HK, HB⟩ := hrel
   cases gk with
   | zero => exact absurd HA.out (by simp [tangramref03_Put.l0])
   | succ k1 =>
    have H := HA.out; clear HA; simp only [tangramref03_Put.l0] at H
    by_cases c5 : x6_1 < (l0.length : Int)
    ·rw [if_pos c5] at H; have c5b0 : decide (x6_1 < (l0.length : Int)) = true := decide_eq_true c5; clear c5
     (first | rw [c5b0] | (simp only [i64_w, i32_w]; rw [c5b0]) | skip)
     by_cases c6 : 0 ≤ x6_1
     ·rw [if_pos c6] at H; have c6b0 : decide (0 ≤ x6_1) = true := decide_eq_true c6; clear c6; replace H := Option.bind_eq_some_iff.mp H; obtain ⟨t105, A70, H⟩ := H; (try dsimp only at H); have A7 := Aside0.mk A70; clear A70
      by_cases c8 : t105 = true
      ·subst c8; rw [if_pos rfl] at H
       by_cases c9 : x5_1.length < 8796093022208
       ·rw [if_pos c9] at H; have LMc9 := Aside0.mk c9; clear c9; obtain ⟨y107, hy107⟩ : ∃ y_ : List (S42), y_ = (x5_1 ++ [(⟨(rd_T42 l0 x6_1).f0, (rd_T42 l0 x6_1).f1⟩ : S42)]) := ⟨_, rfl⟩; replace H : (tangramref03_Put.l0 k1 l0 y107 (wrap64 (x6_1 + 1)) a1_0 a1_1) = some r := by first | (rw [hy107]; with_reducible exact H) | (have H2_ := (Option.bind_some _ _).symm.trans H; rw [hy107]; with_reducible exact H2_) | (have H2_ := (Option.bind_some _ _).symm.trans H; with_reducible exact H2_) | with_reducible exact H | (rw [hy107]; exact H) | exact H
        have Ny107 := Aside0.mk hy107; clear hy107; have H' := Aside0.mk H; clear H; obtain ⟨Ao10, co10, eo10⟩ := Kd.R_slice HO_0.out; subst eo10
        try go_wp2
        replace HO_0 := rd HO_0; replace HO_5 := rd HO_5; replace BK103 := bd BK103; replace HK := Aside0.mk (Kept.drew HK.out); replace HB := Aside0.mk (below_drew1 HB.out); have p104 : 0 ≤ (x6_1 : Int) := of_decide_eq_true (by first | (with_reducible assumption) | assumption); have q104 : x6_1 < (l0.length : Int) := of_decide_eq_true (by first | (with_reducible assumption) | assumption); obtain ⟨ad104, e104, hx104_0, hx104_1⟩ := at_T42 (Kd.R_reads' HO_0.out).2.2 x6_1 p104 q104
        cases e104
        replace p104 := eq_true p104; replace q104 := eq_true q104; refine start_ (n := 7) (S := fun w' => w'.cell? ⟨gb103, 0, none⟩ = some (.int .i64 a1_0) ∧ w'.cell? ⟨gb103, 1, none⟩ = some (.int .i64 a1_1) ∧ w'.cell? (ad104.add ((x6_1).toNat * 2)) = some (.int .i64 ((rd_T42 l0 x6_1).f0)) ∧ w'.cell? ⟨(ad104.add ((x6_1).toNat * 2)).block, (ad104.add ((x6_1).toNat * 2)).off + 1, none⟩ = some (.int .i64 ((rd_T42 l0 x6_1).f1))) (ds := []) (pf 0 7) (by kernel_rfl) rfl rfl ⟨bc BK103 0, bc BK103 1, hx104_0, hx104_1⟩ (fun hHeld => ?_); generalize wr.drew = w11 at HO_0 HO_5 BK103 HK HB hx104_0 hx104_1 hHeld ⊢; refine pure_ (i := 0) (N := some 12) (v := ?_) (a' := ?_) (pf 1 7) rfl rfl (by kernel_rfl) (fun _ _ _ h => h) (Or.inl ⟨by rfl, ?_⟩) ?_ ?_; rotate_left
        ·intro w'; go_simp
         with_reducible rfl
        rotate_left
        ·simp only [Act.put, List.setIfInBounds_toArray, List.set_cons_zero, List.set_cons_succ, i64_w, i32_w]; rfl
        refine pure_ (i := 1) (N := some 13) (v := ?_) (a' := ?_) (pf 2 7) rfl rfl (by kernel_rfl) (fun _ _ _ h => h) (Or.inl ⟨by rfl, ?_⟩) ?_ ?_; rotate_left
        ·intro w'; go_simp
         with_reducible rfl
        rotate_left
        ·simp only [Act.put, List.setIfInBounds_toArray, List.set_cons_zero, List.set_cons_succ, i64_w, i32_w]; rfl
        refine pure_ (i := 2) (N := some 14) (v := ?_) (a' := ?_) (pf 3 7) rfl rfl (by kernel_rfl) (fun _ _ _ h => h) (Or.inl ⟨by rfl, ?_⟩) ?_ ?_; rotate_left
        ·intro w'; go_simp
         with_reducible rfl
        rotate_left
        ·simp only [Act.put, List.setIfInBounds_toArray, List.set_cons_zero, List.set_cons_succ, i64_w, i32_w]; rfl
        refine take_ (i := 3) (N := some 15) (v := ?_) (a' := ?_) (pf 4 7) rfl rfl (by kernel_rfl) (fun _ _ _ h => h) (Or.inl ⟨by rfl, ?_⟩) hHeld ?_ ?_; rotate_left
        ·rintro w' ⟨s0, s1, s2, s3⟩; go_simp
         with_reducible rfl
        rotate_left
        ·simp only [Act.put, List.setIfInBounds_toArray, List.set_cons_zero, List.set_cons_succ, i64_w, i32_w]; rfl
        refine take_ (i := 4) (N := some 16) (v := ?_) (a' := ?_) (pf 5 7) rfl rfl (by kernel_rfl) (fun _ _ _ h => h) (Or.inl ⟨by rfl, ?_⟩) hHeld ?_ ?_; rotate_left
        ·rintro w' ⟨s0, s1, s2, s3⟩; go_simp
         with_reducible rfl
        rotate_left
        ·simp only [Act.put, List.setIfInBounds_toArray, List.set_cons_zero, List.set_cons_succ, i64_w, i32_w]; rfl
        refine one_ (i := 5) (N := some 17) (pf 6 7) rfl rfl (by kernel_rfl) (by decide) (fun K hK => ?_); refine gs_ Tryd.func45 #[.agg #[.int .i64 ((rd_T42 l0 x6_1).f0), .int .i64 ((rd_T42 l0 x6_1).f1)], .agg #[.int .i64 a1_0, .int .i64 a1_1]] ?_
        with_reducible refine (tangramref03_Less.calls ((rd_T42 l0 x6_1).f0) ((rd_T42 l0 x6_1).f1) a1_0 a1_1 true _ A7.out).mono ?_
        rintro e w12 ⟨rfl, hb⟩; have HS2_ := (hb.cell (World.block_lt_of_cell? _ _ (hHeld.2.2.1))).trans (hHeld.2.2.1); have HS3_ := (hb.cell (World.block_lt_of_cell? _ _ (hHeld.2.2.2))).trans (hHeld.2.2.2); refine ⟨_, rfl, ?_⟩; replace HO_0 := ry HO_0 hb; replace HO_5 := ry HO_5 hb; replace BK103 := kx BK103 hb; replace HK := Aside0.mk (Kept.below (S := (fun k_ => P0_ k_)) (by repeat (first | (with_reducible first | exact HK.out | apply Kept.alloc | apply Kept.drewN | apply Kept.drew | refine Kept.setCell ?_ (.inr GW103.out) _) | exact HK.out)) hb); replace HB := hs (hb1 HB GE103) hb
        (try clear hb)
        (try clear hb2)
        (try clear hk)
        (try clear hi)
        refine hK.out _ _ ⟨bc BK103 0, bc BK103 1, HS2_, HS3_⟩ (fun hHeld => ?_); clear hK K; refine nm_ (some 17) ?_; refine pure_ (i := 6) (N := some 7) (v := ?_) (a' := ?_) (pf 7 7) rfl rfl (by kernel_rfl) (fun _ _ _ h => h) (Or.inl ⟨by rfl, ?_⟩) ?_ ?_; rotate_left
        ·intro w'; go_simp
         with_reducible rfl
        rotate_left
        ·simp only [Act.put, List.setIfInBounds_toArray, List.set_cons_zero, List.set_cons_succ, i64_w, i32_w]; rfl
        refine done_ (by kernel_rfl) ?_; have p106 : 0 ≤ (x6_1 : Int) := of_decide_eq_true (by first | (with_reducible assumption) | assumption); have q106 : x6_1 < (l0.length : Int) := of_decide_eq_true (by first | (with_reducible assumption) | assumption); obtain ⟨ad106, e106, hx106_0, hx106_1⟩ := at_T42 (Kd.R_reads' HO_0.out).2.2 x6_1 p106 q106; obtain rfl : ad104 = ad106 := (by injection e106); replace p106 := eq_true p106; replace q106 := eq_true q106
        try go_wp2_with (first | ((with_reducible refine gate_builtin (b := .append) (xs := #[.tmp 20, .tmp 25]) rfl ?_); at_builtin; refine Kd.R_append k42 (w0 := w0) w0.heap.size rfl (.tmp 20) (.tmp 25) 24 42 (.agg #[(.int .i64 0), (.int .i64 0)]) 16 rfl Tryd.underlying24 info42 rfl (by decide) (by omega) u5 x5_1 (⟨(rd_T42 l0 x6_1).f0, (rd_T42 l0 x6_1).f1⟩ : S42) [.int .i64 ((rd_T42 l0 x6_1).f0), .int .i64 ((rd_T42 l0 x6_1).f1)] (fun k_ => (P0_ k_ ∨ w.heap.size ≤ k_) ∧ some k_ ≠ (.slice (some ad104) l0.length co10 : Value).ownBlock ∧ k_ ≠ gb103) (fun _ => False) rfl rfl ?aP (fun _ hk => hk.elim) ?aF ?aO ?aB ?aS ?aL ?_; (case aP => exact k42_mkM _ _ _ (⟨(rd_T42 l0 x6_1).f0, (rd_T42 l0 x6_1).f1⟩ : S42)); (case aB => exact (hb1 HB GE103)); (case aF => exact (fun k_ hk => ⟨(.inr (Nat.le_trans (by first | exact HK.out.1 | exact (show Kept w _ (fun k_ => P0_ k_) from by repeat (first | (with_reducible first | exact HK.out | apply Kept.alloc | apply Kept.drewN | apply Kept.drew | refine Kept.setCell ?_ (.inr GW103.out) _) | exact HK.out)).1) hk)), Kd.fresh' (Kd.R_lt (rx HO_0)) k_ hk, Kd.freshB (bx BK103) k_ hk⟩)); (case aO => exact (rx HO_5)); (case aS => exact (below_size (hb1 HB GE103))); (case aL => have := LMc9.out; omega); intro v108 w13 ho hb hg hat; rw [← Ny107.out] at ho; have n0_ := Aside0.mk (Kd.R_after (ok := (fun k_ => (P0_ k_ ∨ w.heap.size ≤ k_) ∧ k_ ≠ gb103)) (Kd.R_mono (rx HO_0) (fun _ hk => ⟨⟨hk.1, hk.2.2⟩, hk.2.1⟩)) hg hat); have n1_ := Aside0.mk (blk_grown (bx BK103) hg (Kd.R_away HO_5.out (fun _ hk => hk.2.2))); have n2_ := Aside0.mk (hb); have n3_ := Aside0.mk (Kept.of_grown (S := (fun k_ => P0_ k_)) hg (by repeat (first | (with_reducible first | exact HK.out | apply Kept.alloc | apply Kept.drewN | apply Kept.drew | refine Kept.setCell ?_ (.inr GW103.out) _) | exact HK.out)) (fun k_ e_ => (HO_5.out.1 k_ e_).1)); have n4_ := Aside0.mk (ho); clear HO_0; clear BK103; clear HB; clear HK; clear HO_5; have HO_0 := n0_; have BK103 := n1_; have HB := n2_; have HK := n3_; have HO109 := n4_; clear n0_ n1_ n2_ n3_ n4_; clear ho hb hg hat))
        go_roundg k1
        case measure => have := HK1.out; omega
        case rel => exact ⟨(y107), (wrap64 (x6_1 + 1)), (by first | rfl | (simp; done) | (simp [*]; done)), H', ⟨by have := HK1.out; omega⟩, ⟨Kd.R_mono (rx HO_0) (fun _ hk => ⟨hk.1.1, ⟨hk.2, hk.1.2⟩⟩)⟩, ⟨rx HO109⟩, ⟨bx BK103⟩, ⟨by repeat (first | (with_reducible first | exact HK.out | apply Kept.alloc | apply Kept.drewN | apply Kept.drew | refine Kept.setCell ?_ (.inr GW103.out) _) | exact HK.out)⟩, ⟨hb1 HB GE103⟩⟩
       ·rw [if_neg c9] at H; exact absurd H (by simp)
      ·replace c8 := Bool.eq_false_iff.mpr c8; subst c8; rw [if_neg (show ¬ (false = true) by decide)] at H; have H' := Aside0.mk H; clear H; obtain ⟨Ao14, co14, eo14⟩ := Kd.R_slice HO_0.out; subst eo14
       try go_wp2
       replace HO_0 := rd HO_0; replace HO_5 := rd HO_5; replace BK103 := bd BK103; replace HK := Aside0.mk (Kept.drew HK.out); replace HB := Aside0.mk (below_drew1 HB.out); have p104 : 0 ≤ (x6_1 : Int) := of_decide_eq_true (by first | (with_reducible assumption) | assumption); have q104 : x6_1 < (l0.length : Int) := of_decide_eq_true (by first | (with_reducible assumption) | assumption); obtain ⟨ad104, e104, hx104_0, hx104_1⟩ := at_T42 (Kd.R_reads' HO_0.out).2.2 x6_1 p104 q104
       cases e104
       replace p104 := eq_true p104; replace q104 := eq_true q104; refine start_ (n := 7) (S := fun w' => w'.cell? ⟨gb103, 0, none⟩ = some (.int .i64 a1_0) ∧ w'.cell? ⟨gb103, 1, none⟩ = some (.int .i64 a1_1) ∧ w'.cell? (ad104.add ((x6_1).toNat * 2)) = some (.int .i64 ((rd_T42 l0 x6_1).f0)) ∧ w'.cell? ⟨(ad104.add ((x6_1).toNat * 2)).block, (ad104.add ((x6_1).toNat * 2)).off + 1, none⟩ = some (.int .i64 ((rd_T42 l0 x6_1).f1))) (ds := []) (pf 0 7) (by kernel_rfl) rfl rfl ⟨bc BK103 0, bc BK103 1, hx104_0, hx104_1⟩ (fun hHeld => ?_); generalize wr.drew = w15 at HO_0 HO_5 BK103 HK HB hx104_0 hx104_1 hHeld ⊢; refine pure_ (i := 0) (N := some 12) (v := ?_) (a' := ?_) (pf 1 7) rfl rfl (by kernel_rfl) (fun _ _ _ h => h) (Or.inl ⟨by rfl, ?_⟩) ?_ ?_; rotate_left
       ·intro w'; go_simp
        with_reducible rfl
       rotate_left
       ·simp only [Act.put, List.setIfInBounds_toArray, List.set_cons_zero, List.set_cons_succ, i64_w, i32_w]; rfl
       refine pure_ (i := 1) (N := some 13) (v := ?_) (a' := ?_) (pf 2 7) rfl rfl (by kernel_rfl) (fun _ _ _ h => h) (Or.inl ⟨by rfl, ?_⟩) ?_ ?_; rotate_left
       ·intro w'; go_simp
        with_reducible rfl
       rotate_left
       ·simp only [Act.put, List.setIfInBounds_toArray, List.set_cons_zero, List.set_cons_succ, i64_w, i32_w]; rfl
       refine pure_ (i := 2) (N := some 14) (v := ?_) (a' := ?_) (pf 3 7) rfl rfl (by kernel_rfl) (fun _ _ _ h => h) (Or.inl ⟨by rfl, ?_⟩) ?_ ?_; rotate_left
       ·intro w'; go_simp
        with_reducible rfl
       rotate_left
       ·simp only [Act.put, List.setIfInBounds_toArray, List.set_cons_zero, List.set_cons_succ, i64_w, i32_w]; rfl
       refine take_ (i := 3) (N := some 15) (v := ?_) (a' := ?_) (pf 4 7) rfl rfl (by kernel_rfl) (fun _ _ _ h => h) (Or.inl ⟨by rfl, ?_⟩) hHeld ?_ ?_; rotate_left
       ·rintro w' ⟨s0, s1, s2, s3⟩; go_simp
        with_reducible rfl
       rotate_left
       ·simp only [Act.put, List.setIfInBounds_toArray, List.set_cons_zero, List.set_cons_succ, i64_w, i32_w]; rfl
       refine take_ (i := 4) (N := some 16) (v := ?_) (a' := ?_) (pf 5 7) rfl rfl (by kernel_rfl) (fun _ _ _ h => h) (Or.inl ⟨by rfl, ?_⟩) hHeld ?_ ?_; rotate_left
       ·rintro w' ⟨s0, s1, s2, s3⟩; go_simp
        with_reducible rfl
       rotate_left
       ·simp only [Act.put, List.setIfInBounds_toArray, List.set_cons_zero, List.set_cons_succ, i64_w, i32_w]; rfl
       refine one_ (i := 5) (N := some 17) (pf 6 7) rfl rfl (by kernel_rfl) (by decide) (fun K hK => ?_); refine gs_ Tryd.func45 #[.agg #[.int .i64 ((rd_T42 l0 x6_1).f0), .int .i64 ((rd_T42 l0 x6_1).f1)], .agg #[.int .i64 a1_0, .int .i64 a1_1]] ?_
       with_reducible refine (tangramref03_Less.calls ((rd_T42 l0 x6_1).f0) ((rd_T42 l0 x6_1).f1) a1_0 a1_1 false _ A7.out).mono ?_
       rintro e w16 ⟨rfl, hb⟩; have HS2_ := (hb.cell (World.block_lt_of_cell? _ _ (hHeld.2.2.1))).trans (hHeld.2.2.1); have HS3_ := (hb.cell (World.block_lt_of_cell? _ _ (hHeld.2.2.2))).trans (hHeld.2.2.2); refine ⟨_, rfl, ?_⟩; replace HO_0 := ry HO_0 hb; replace HO_5 := ry HO_5 hb; replace BK103 := kx BK103 hb; replace HK := Aside0.mk (Kept.below (S := (fun k_ => P0_ k_)) (by repeat (first | (with_reducible first | exact HK.out | apply Kept.alloc | apply Kept.drewN | apply Kept.drew | refine Kept.setCell ?_ (.inr GW103.out) _) | exact HK.out)) hb); replace HB := hs (hb1 HB GE103) hb
       (try clear hb)
       (try clear hb2)
       (try clear hk)
       (try clear hi)
       refine hK.out _ _ ⟨bc BK103 0, bc BK103 1, HS2_, HS3_⟩ (fun hHeld => ?_); clear hK K; refine nm_ (some 17) ?_; refine pure_ (i := 6) (N := some 7) (v := ?_) (a' := ?_) (pf 7 7) rfl rfl (by kernel_rfl) (fun _ _ _ h => h) (Or.inl ⟨by rfl, ?_⟩) ?_ ?_; rotate_left
       ·intro w'; go_simp
        with_reducible rfl
       rotate_left
       ·simp only [Act.put, List.setIfInBounds_toArray, List.set_cons_zero, List.set_cons_succ, i64_w, i32_w]; rfl
       refine done_ (by kernel_rfl) ?_
       try go_wp2
       go_meet
       case rel => exact ⟨_, (x5_1), (x6_1), (by first | rfl | (simp; done) | (simp [*]; done)), H', ⟨by have := HK1.out; first | omega | exact Nat.le_refl _⟩, ⟨rx HO_0⟩, ⟨rx HO_5⟩, ⟨bx BK103⟩, ⟨by repeat (first | (with_reducible first | exact HK.out | apply Kept.alloc | apply Kept.drewN | apply Kept.drew | refine Kept.setCell ?_ (.inr GW103.out) _) | exact HK.out)⟩, ⟨hb1 HB GE103⟩⟩
     ·rw [if_neg c6] at H; exact absurd H (by simp)
    ·rw [if_neg c5] at H; have c5b0 : decide (x6_1 < (l0.length : Int)) = false := decide_eq_false c5; clear c5
     (first | rw [c5b0] | (simp only [i64_w, i32_w]; rw [c5b0]) | skip)
     have H' := Aside0.mk H; clear H; obtain ⟨Ao17, co17, eo17⟩ := Kd.R_slice HO_0.out; subst eo17
     go_wp2
     go_meet
     case rel => exact ⟨_, (x5_1), (x6_1), (by first | rfl | (simp; done) | (simp [*]; done)), H', ⟨by have := HK1.out; first | omega | exact Nat.le_refl _⟩, ⟨rx HO_0⟩, ⟨rx HO_5⟩, ⟨bx BK103⟩, ⟨by repeat (first | (with_reducible first | exact HK.out | apply Kept.alloc | apply Kept.drewN | apply Kept.drew | refine Kept.setCell ?_ (.inr GW103.out) _) | exact HK.out)⟩, ⟨hb1 HB GE103⟩⟩
 case rest => as_aux_lemma =>
  clear HC3
  try clear p1
  try clear q1
  try clear hx1
  try clear p2
  try clear c3
  try clear c4
  try clear c5
  try clear c5b0
  try clear c6
  try clear c6b0
  try clear p6
  try clear c8
  try clear c9
  try clear p10
  try clear q10
  try clear hx10
  try clear hx104_0
  try clear hx104_1
  try clear hx106_0
  try clear hx106_1
  try clear p104
  try clear p106
  try clear p2
  try clear q104
  try clear q106
  obtain ⟨kq, x5_2, x6_2, rfl, HA, HJ2, HO_0, HO_5, BK103, HK, HB⟩ := hcut
  cases kq with
  | zero => exact absurd HA.out (by simp [tangramref03_Put.j1])
  | succ kj2 =>
   have H := HA.out; clear HA; simp only [tangramref03_Put.j1] at H; have HC18 := Aside0.mk H; clear H
   go_upto_region 8 with (fail)
   go_cut [40] (fun v40 wc => ∃ (kq : Nat) (x40_17 : Bool), v40 = .bool x40_17 ∧ Aside0 (tangramref03_Put.j2 kq l0 x5_2 x6_2 x40_17 a1_0 a1_1 = some r) ∧ Aside0 (kq ≤ kj2) ∧ Aside0 (Kd.R k42 42 wc w0.heap.size (fun k_ => (P0_ k_ ∨ w.heap.size ≤ k_) ∧ some k_ ≠ (u5 : Value).ownBlock ∧ k_ ≠ gb103) u9000_ l0) ∧ Aside0 (Kd.R k42 42 wc w0.heap.size (fun k_ => (P0_ k_ ∨ w.heap.size ≤ k_) ∧ some k_ ≠ (u9000_ : Value).ownBlock ∧ k_ ≠ gb103) u5 x5_2) ∧ Aside0 (wc.heap[gb103]? = some (.cells #[.int .i64 a1_0, .int .i64 a1_1] 42 (0, 0))) ∧ Aside0 (Kept w wc (fun k_ => P0_ k_)) ∧ Aside0 (Below w0.heap.size w0 wc))
   case first => as_aux_lemma =>
    have H := HC18.out; clear HC18
    by_cases c19 : x6_2 < (l0.length : Int)
    ·rw [if_pos c19] at H; have c19b0 : decide (x6_2 < (l0.length : Int)) = true := decide_eq_true c19; clear c19
     (first | rw [c19b0] | (simp only [i64_w, i32_w]; rw [c19b0]) | skip)
     by_cases c20 : 0 ≤ x6_2
     ·rw [if_pos c20] at H; have c20b0 : decide (0 ≤ x6_2) = true := decide_eq_true c20; clear c20; have H' := Aside0.mk H; clear H
      try go_wp2
      replace HO_0 := rd HO_0; replace HO_5 := rd HO_5; replace BK103 := bd BK103; replace HK := Aside0.mk (Kept.drew HK.out); replace HB := Aside0.mk (below_drew1 HB.out); obtain ⟨Ao22, co22, eo22⟩ := Kd.R_slice HO_0.out
      (first | subst eo22 | obtain ⟨rfl, rfl⟩ := sx eo22)
      have p110 : 0 ≤ (x6_2 : Int) := of_decide_eq_true (by first | (with_reducible assumption) | assumption); have q110 : x6_2 < (l0.length : Int) := of_decide_eq_true (by first | (with_reducible assumption) | assumption); obtain ⟨ad110, e110, hx110_0, hx110_1⟩ := at_T42 (Kd.R_reads' HO_0.out).2.2 x6_2 p110 q110
      cases e110
      replace p110 := eq_true p110; replace q110 := eq_true q110; refine start_ (n := 12) (S := fun w' => w'.cell? ⟨gb103, 0, none⟩ = some (.int .i64 a1_0) ∧ w'.cell? ⟨gb103, 1, none⟩ = some (.int .i64 a1_1) ∧ w'.cell? (ad110.add ((x6_2).toNat * 2)) = some (.int .i64 ((rd_T42 l0 x6_2).f0)) ∧ w'.cell? ⟨(ad110.add ((x6_2).toNat * 2)).block, (ad110.add ((x6_2).toNat * 2)).off + 1, none⟩ = some (.int .i64 ((rd_T42 l0 x6_2).f1))) (ds := []) (pf 0 12) (by kernel_rfl) rfl rfl ⟨bc BK103 0, bc BK103 1, hx110_0, hx110_1⟩ (fun hHeld => ?_); refine with_tabW tangramref03_Put.tab8 tangramref03_Put.bits8 (fun HT_ HW_ => ?_); generalize wc.drew = w21 at HO_0 HO_5 BK103 HK HB hx110_0 hx110_1 hHeld ⊢; refine pu_ 0 (some 29) (pf 1 12) HT_ ?_; refine pu_ 1 (some 30) (pf 2 12) HT_ ?_; refine pu_ 2 (some 31) (pf 3 12) HT_ ?_; refine pu_ 3 (some 32) (pf 4 12) HT_ ?_; refine pu_ 4 (some 33) (pf 5 12) HT_ ?_; refine pu_ 5 (some 34) (pf 6 12) HT_ ?_; refine pu_ 6 (some 35) (pf 7 12) HT_ ?_; refine pu_ 7 (some 36) (pf 8 12) HT_ ?_; refine tk4_ 8 (some 37) (pf 9 12) HT_ HW_ hHeld ?_; refine tk4_ 9 (some 38) (pf 10 12) HT_ HW_ hHeld ?_; refine pu_ 10 (some 39) (pf 11 12) HT_ ?_
      refine pu_ 11 (some 40) (pf 12 12) HT_ ?_; refine done_ (done_of HT_.out (by kernel_rfl)) ?_
      try go_wp2
      go_meet
      case rel => exact ⟨_, ((((rd_T42 l0 x6_2).f0) == a1_0 && (((rd_T42 l0 x6_2).f1) == a1_1))), (by first | rfl | (simp; done) | (simp [*]; done)), H', ⟨by have := HJ2.out; first | omega | exact Nat.le_refl _⟩, ⟨rx HO_0⟩, ⟨rx HO_5⟩, ⟨bx BK103⟩, ⟨by repeat (first | (with_reducible first | exact HK.out | apply Kept.alloc | apply Kept.drewN | apply Kept.drew | refine Kept.setCell ?_ (.inr GW103.out) _) | exact HK.out)⟩, ⟨hb1 HB GE103⟩⟩
     ·rw [if_neg c20] at H; exact absurd H (by simp)
    ·rw [if_neg c19] at H; have c19b0 : decide (x6_2 < (l0.length : Int)) = false := decide_eq_false c19; clear c19
     (first | rw [c19b0] | (simp only [i64_w, i32_w]; rw [c19b0]) | skip)
     have H' := Aside0.mk H; clear H
     try go_wp2
     replace HO_0 := rd HO_0; replace HO_5 := rd HO_5; replace BK103 := bd BK103; replace HK := Aside0.mk (Kept.drew HK.out); replace HB := Aside0.mk (below_drew1 HB.out); obtain ⟨Ao24, co24, eo24⟩ := Kd.R_slice HO_0.out
     (first | subst eo24 | obtain ⟨rfl, rfl⟩ := sx eo24)
     refine start_ (n := 12) (S := fun w' => True) (ds := []) (pf 0 12) (by kernel_rfl) rfl rfl trivial (fun hHeld => ?_); refine with_tabW tangramref03_Put.tab8 tangramref03_Put.bits8 (fun HT_ HW_ => ?_); generalize wc.drew = w23 at HO_0 HO_5 BK103 HK HB hHeld ⊢; refine pu_ 0 (some 29) (pf 1 12) HT_ ?_; refine pu_ 1 (some 30) (pf 2 12) HT_ ?_; refine pu_ 2 (some 31) (pf 3 12) HT_ ?_; refine pu_ 3 (some 32) (pf 4 12) HT_ ?_; refine pu_ 4 (some 33) (pf 5 12) HT_ ?_; refine pn_ 5 (some 34) (pf 6 12) HT_ ?_; refine pn_ 6 (some 35) (pf 7 12) HT_ ?_; refine pn_ 7 (some 36) (pf 8 12) HT_ ?_; refine pn_ 8 (some 37) (pf 9 12) HT_ ?_; refine pn_ 9 (some 38) (pf 10 12) HT_ ?_; refine pn_ 10 (some 39) (pf 11 12) HT_ ?_; refine pu_ 11 (some 40) (pf 12 12) HT_ ?_; refine done_ (done_of HT_.out (by kernel_rfl)) ?_
     try go_wp2
     go_meet
     case rel => exact ⟨_, (false), (by first | rfl | (simp; done) | (simp [*]; done)), H', ⟨by have := HJ2.out; first | omega | exact Nat.le_refl _⟩, ⟨rx HO_0⟩, ⟨rx HO_5⟩, ⟨bx BK103⟩, ⟨by repeat (first | (with_reducible first | exact HK.out | apply Kept.alloc | apply Kept.drewN | apply Kept.drew | refine Kept.setCell ?_ (.inr GW103.out) _) | exact HK.out)⟩, ⟨hb1 HB GE103⟩⟩
   case rest => as_aux_lemma =>
    clear HC18
    try clear c1
    try clear p1
    try clear q1
    try clear hx1
    try clear c2
    try clear p2
    try clear c3
    try clear c4
    try clear c5
    try clear c5b0
    try clear c6
    try clear c6b0
    try clear p6
    try clear c8
    try clear c9
    try clear p10
    try clear q10
    try clear hx10
    try clear p11
    try clear q11
    try clear hx11
    try clear c19
    try clear c19b0
    try clear c20
    try clear c20b0
    try clear hx104_0
    try clear hx104_1
    try clear hx106_0
    try clear hx106_1
    try clear hx110_0
    try clear hx110_1
    try clear p1
    try clear p10
    try clear p104
    try clear p106
    try clear p110
    try clear p2
    try clear p6
    try clear q1
    try clear q10
    try clear q104
    try clear q106
    try clear q110
    obtain ⟨kq, x40_17, rfl, HA, HJ17, HO_0, HO_5, BK103, HK, HB⟩ := hcut
    cases kq with
    | zero => exact absurd HA.out (by simp [tangramref03_Put.j2])
    | succ kj17 =>
     have H := HA.out; clear HA; simp only [tangramref03_Put.j2] at H
     by_cases c25 : x40_17 = true
     ·subst c25; rw [if_pos rfl] at H; obtain rfl := Option.some.inj H
      go_wp2
      go_ret
      exact ⟨_, by first | rfl | (simp [errW_none, errW_some] <;> rfl) | (simp [*, errW_none, errW_some] <;> rfl), by (with_reducible repeat (first | apply Kd.R_alloc | apply Kd.R_drewN | apply Kd.R_drew)); exact Kd.R_mono HO_0.out (fun _ hk => hk.1), hb1 HB GE103, by repeat (first | (with_reducible first | exact HK.out | apply Kept.alloc | apply Kept.drewN | apply Kept.drew | refine Kept.setCell ?_ (.inr GW103.out) _) | exact HK.out)⟩
     ·replace c25 := Bool.eq_false_iff.mpr c25; subst c25; rw [if_neg (show ¬ (false = true) by decide)] at H
      by_cases c26 : x5_2.length < 8796093022208
      ·rw [if_pos c26] at H; have LMc26 := Aside0.mk c26; clear c26; obtain ⟨y111, hy111⟩ : ∃ y_ : List (S42), y_ = (x5_2 ++ [(⟨a1_0, a1_1⟩ : S42)]) := ⟨_, rfl⟩; replace H : (tangramref03_Put.l1 kj17 l0 y111 x6_2) = some r := by first | (rw [hy111]; with_reducible exact H) | (have H2_ := (Option.bind_some _ _).symm.trans H; rw [hy111]; with_reducible exact H2_) | (have H2_ := (Option.bind_some _ _).symm.trans H; with_reducible exact H2_) | with_reducible exact H | (rw [hy111]; exact H) | exact H
       have Ny111 := Aside0.mk hy111; clear hy111; have H' := Aside0.mk H; clear H; have hcz27_0 : wc.cell? ⟨gb103, 0, none⟩ = some (.int .i64 a1_0) := bc BK103 0; have hcz27_1 : wc.cell? ⟨gb103, 1, none⟩ = some (.int .i64 a1_1) := bc BK103 1; have hfz27_0 := blk_frozen BK103.out 0; have hfz27_1 := blk_frozen BK103.out 1
       go_wp2_with (first | ((with_reducible refine gate_builtin (b := .append) (xs := #[.tmp 42, .tmp 44]) rfl ?_); at_builtin; refine Kd.R_append k42 (w0 := w0) w0.heap.size rfl (.tmp 42) (.tmp 44) 24 42 (.agg #[(.int .i64 0), (.int .i64 0)]) 16 rfl Tryd.underlying24 info42 rfl (by decide) (by omega) u5 x5_2 (⟨a1_0, a1_1⟩ : S42) [.int .i64 a1_0, .int .i64 a1_1] (fun k_ => (P0_ k_ ∨ w.heap.size ≤ k_) ∧ some k_ ≠ (u9000_ : Value).ownBlock ∧ k_ ≠ gb103) (fun _ => False) rfl rfl ?aP (fun _ hk => hk.elim) ?aF ?aO ?aB ?aS ?aL ?_; (case aP => exact k42_mkM _ _ _ (⟨a1_0, a1_1⟩ : S42)); (case aB => exact (hb1 HB GE103)); (case aF => exact (fun k_ hk => ⟨(.inr (Nat.le_trans (by first | exact HK.out.1 | exact (show Kept w _ (fun k_ => P0_ k_) from by repeat (first | (with_reducible first | exact HK.out | apply Kept.alloc | apply Kept.drewN | apply Kept.drew | refine Kept.setCell ?_ (.inr GW103.out) _) | exact HK.out)).1) hk)), Kd.fresh' (Kd.R_lt (rx HO_0)) k_ hk, Kd.freshB (bx BK103) k_ hk⟩)); (case aO => exact (rx HO_5)); (case aS => exact (below_size (hb1 HB GE103))); (case aL => have := LMc26.out; omega); intro v112 w28 ho hb hg hat; rw [← Ny111.out] at ho; have n0_ := Aside0.mk (Kd.R_after (ok := (fun k_ => (P0_ k_ ∨ w.heap.size ≤ k_) ∧ k_ ≠ gb103)) (Kd.R_mono (rx HO_0) (fun _ hk => ⟨⟨hk.1, hk.2.2⟩, hk.2.1⟩)) hg hat); have n1_ := Aside0.mk (blk_grown (bx BK103) hg (Kd.R_away HO_5.out (fun _ hk => hk.2.2))); have n2_ := Aside0.mk (hb); have n3_ := Aside0.mk (Kept.of_grown (S := (fun k_ => P0_ k_)) hg (by repeat (first | (with_reducible first | exact HK.out | apply Kept.alloc | apply Kept.drewN | apply Kept.drew | refine Kept.setCell ?_ (.inr GW103.out) _) | exact HK.out)) (fun k_ e_ => (HO_5.out.1 k_ e_).1)); have n4_ := Aside0.mk (ho); clear HO_0; clear BK103; clear HB; clear HK; clear HO_5; have HO_0 := n0_; have BK103 := n1_; have HB := n2_; have HK := n3_; have HO113 := n4_; clear n0_ n1_ n2_ n3_ n4_; clear ho hb hg hat))
       go_loopg [5, 6] kj17 (fun kq v5 v6 w' => ∃ (x5_3 : List (S42)) (x6_3 : Int), v6 = .int .i64 x6_3 ∧ Aside0 (tangramref03_Put.l1 kq l0 x5_3 x6_3 = some r) ∧ Aside0 (kq ≤ kj17) ∧ Aside0 (Kd.R k42 42 w' w0.heap.size (fun k_ => (P0_ k_ ∨ w.heap.size ≤ k_) ∧ some k_ ≠ (v5 : Value).ownBlock ∧ k_ ≠ gb103) u9000_ l0) ∧ Aside0 (Kd.R k42 42 w' w0.heap.size (fun k_ => (P0_ k_ ∨ w.heap.size ≤ k_) ∧ some k_ ≠ (u9000_ : Value).ownBlock ∧ k_ ≠ gb103) v5 x5_3) ∧ Aside0 (w'.heap[gb103]? = some (.cells #[.int .i64 a1_0, .int .i64 a1_1] 42 (0, 0))) ∧ Aside0 (Kept w w' (fun k_ => P0_ k_)) ∧ Aside0 (Below w0.heap.size w0 w'))
       case atStart => exact ⟨(y111), (x6_2), (by first | rfl | (simp; done) | (simp [*]; done)), H', ⟨Nat.le_refl _⟩, ⟨Kd.R_mono (rx HO_0) (fun _ hk => ⟨hk.1.1, ⟨hk.2, hk.1.2⟩⟩)⟩, ⟨rx HO113⟩, ⟨bx BK103⟩, ⟨by repeat (first | (with_reducible first | exact HK.out | apply Kept.alloc | apply Kept.drewN | apply Kept.drew | refine Kept.setCell ?_ (.inr GW103.out) _) | exact HK.out)⟩, ⟨hb1 HB GE103⟩⟩
       case round =>
        clear H'
        try clear c1
        try clear p1
        try clear q1
        try clear hx1
        try clear c2
        try clear p2
        try clear c3
        try clear c4
        try clear c5
        try clear c5b0
        try clear c6
        try clear c6b0
        try clear p6
        try clear c8
        try clear c9
        try clear p10
        try clear q10
        try clear hx10
        try clear p11
        try clear q11
        try clear hx11
        try clear c19
        try clear c19b0
        try clear c20
        try clear c20b0
        try clear c25
        try clear c26
        try clear hcz27_0
        try clear hcz27_1
        try clear hfz27_0
        try clear hfz27_1
        try clear hx104_0
        try clear hx104_1
        try clear hx106_0
        try clear hx106_1
        try clear hx110_0
        try clear hx110_1
        try clear p1
        try clear p10
        try clear p104
        try clear p106
        try clear p11
        try clear p110
        try clear p2
        try clear p6
        try clear q1
        try clear q10
        try clear q104
        try clear q106
        try clear q11
        try clear q110
        obtain ⟨x5_3, x6_3, rfl, HA, HK3, HO_0, HO_5, BK103, HK, HB⟩ := hrel
        cases gk with
        | zero => exact absurd HA.out (by simp [tangramref03_Put.l1])
        | succ k3 =>
         have H := HA.out; clear HA; simp only [tangramref03_Put.l1] at H
         by_cases c29 : x6_3 < (l0.length : Int)
         ·rw [if_pos c29] at H; have c29b0 : decide (x6_3 < (l0.length : Int)) = true := decide_eq_true c29; clear c29
          by_cases c30 : 0 ≤ x6_3
          ·rw [if_pos c30] at H; have c30b0 : decide (0 ≤ x6_3) = true := decide_eq_true c30; clear c30
           by_cases c31 : x5_3.length < 8796093022208
           ·rw [if_pos c31] at H; have LMc31 := Aside0.mk c31; clear c31; obtain ⟨y115, hy115⟩ : ∃ y_ : List (S42), y_ = (x5_3 ++ [(⟨(rd_T42 l0 x6_3).f0, (rd_T42 l0 x6_3).f1⟩ : S42)]) := ⟨_, rfl⟩; replace H : (tangramref03_Put.l1 k3 l0 y115 (wrap64 (x6_3 + 1))) = some r := by first | (rw [hy115]; with_reducible exact H) | (have H2_ := (Option.bind_some _ _).symm.trans H; rw [hy115]; with_reducible exact H2_) | (have H2_ := (Option.bind_some _ _).symm.trans H; with_reducible exact H2_) | with_reducible exact H | (rw [hy115]; exact H) | exact H
            have Ny115 := Aside0.mk hy115; clear hy115; have H' := Aside0.mk H; clear H; obtain ⟨Ao32, co32, eo32⟩ := Kd.R_slice HO_0.out; subst eo32; have p114 : 0 ≤ (x6_3 : Int) := of_decide_eq_true (by first | (with_reducible assumption) | assumption); have q114 : x6_3 < (l0.length : Int) := of_decide_eq_true (by first | (with_reducible assumption) | assumption); obtain ⟨ad114, e114, hx114_0, hx114_1⟩ := at_T42 (Kd.R_reads' HO_0.out).2.2 x6_3 p114 q114
            cases e114
            replace p114 := eq_true p114; replace q114 := eq_true q114
            go_wp2_with (first | ((with_reducible refine gate_builtin (b := .append) (xs := #[.tmp 50, .tmp 55]) rfl ?_); at_builtin; refine Kd.R_append k42 (w0 := w0) w0.heap.size rfl (.tmp 50) (.tmp 55) 24 42 (.agg #[(.int .i64 0), (.int .i64 0)]) 16 rfl Tryd.underlying24 info42 rfl (by decide) (by omega) u5 x5_3 (⟨(rd_T42 l0 x6_3).f0, (rd_T42 l0 x6_3).f1⟩ : S42) [.int .i64 ((rd_T42 l0 x6_3).f0), .int .i64 ((rd_T42 l0 x6_3).f1)] (fun k_ => (P0_ k_ ∨ w.heap.size ≤ k_) ∧ some k_ ≠ (.slice (some ad114) l0.length co32 : Value).ownBlock ∧ k_ ≠ gb103) (fun _ => False) rfl rfl ?aP (fun _ hk => hk.elim) ?aF ?aO ?aB ?aS ?aL ?_; (case aP => exact k42_mkM _ _ _ (⟨(rd_T42 l0 x6_3).f0, (rd_T42 l0 x6_3).f1⟩ : S42)); (case aB => exact (hb1 HB GE103)); (case aF => exact (fun k_ hk => ⟨(.inr (Nat.le_trans (by first | exact HK.out.1 | exact (show Kept w _ (fun k_ => P0_ k_) from by repeat (first | (with_reducible first | exact HK.out | apply Kept.alloc | apply Kept.drewN | apply Kept.drew | refine Kept.setCell ?_ (.inr GW103.out) _) | exact HK.out)).1) hk)), Kd.fresh' (Kd.R_lt (rx HO_0)) k_ hk, Kd.freshB (bx BK103) k_ hk⟩)); (case aO => exact (rx HO_5)); (case aS => exact (below_size (hb1 HB GE103))); (case aL => have := LMc31.out; omega); intro v116 w33 ho hb hg hat; rw [← Ny115.out] at ho; have n0_ := Aside0.mk (Kd.R_after (ok := (fun k_ => (P0_ k_ ∨ w.heap.size ≤ k_) ∧ k_ ≠ gb103)) (Kd.R_mono (rx HO_0) (fun _ hk => ⟨⟨hk.1, hk.2.2⟩, hk.2.1⟩)) hg hat); have n1_ := Aside0.mk (blk_grown (bx BK103) hg (Kd.R_away HO_5.out (fun _ hk => hk.2.2))); have n2_ := Aside0.mk (hb); have n3_ := Aside0.mk (Kept.of_grown (S := (fun k_ => P0_ k_)) hg (by repeat (first | (with_reducible first | exact HK.out | apply Kept.alloc | apply Kept.drewN | apply Kept.drew | refine Kept.setCell ?_ (.inr GW103.out) _) | exact HK.out)) (fun k_ e_ => (HO_5.out.1 k_ e_).1)); have n4_ := Aside0.mk (ho); clear HO_0; clear BK103; clear HB; clear HK; clear HO_5; have HO_0 := n0_; have BK103 := n1_; have HB := n2_; have HK := n3_; have HO117 := n4_; clear n0_ n1_ n2_ n3_ n4_; clear ho hb hg hat))
            go_roundg k3
            case measure => have := HJ2.out; have := HJ17.out; have := HK3.out; omega
            case rel => exact ⟨(y115), (wrap64 (x6_3 + 1)), (by first | rfl | (simp; done) | (simp [*]; done)), H', ⟨by have := HJ2.out; have := HJ17.out; have := HK3.out; omega⟩, ⟨Kd.R_mono (rx HO_0) (fun _ hk => ⟨hk.1.1, ⟨hk.2, hk.1.2⟩⟩)⟩, ⟨rx HO117⟩, ⟨bx BK103⟩, ⟨by repeat (first | (with_reducible first | exact HK.out | apply Kept.alloc | apply Kept.drewN | apply Kept.drew | refine Kept.setCell ?_ (.inr GW103.out) _) | exact HK.out)⟩, ⟨hb1 HB GE103⟩⟩
           ·rw [if_neg c31] at H; exact absurd H (by simp)
          ·rw [if_neg c30] at H; exact absurd H (by simp)
         ·rw [if_neg c29] at H; have c29b0 : decide (x6_3 < (l0.length : Int)) = false := decide_eq_false c29; clear c29; obtain rfl := Option.some.inj H; obtain ⟨Ao34, co34, eo34⟩ := Kd.R_slice HO_0.out; subst eo34
          go_wp2
          go_ret
          exact ⟨_, by first | rfl | (simp [errW_none, errW_some] <;> rfl) | (simp [*, errW_none, errW_some] <;> rfl), by (with_reducible repeat (first | apply Kd.R_alloc | apply Kd.R_drewN | apply Kd.R_drew)); exact Kd.R_mono HO_5.out (fun _ hk => hk.1), hb1 HB GE103, by repeat (first | (with_reducible first | exact HK.out | apply Kept.alloc | apply Kept.drewN | apply Kept.drew | refine Kept.setCell ?_ (.inr GW103.out) _) | exact HK.out)⟩
      ·rw [if_neg c26] at H; exact absurd H (by simp)

end Go.Proofs.YthejafdcdcchbaaDoor.PSimA

-- PRINTED by print.py (a twelfth state) out of the translation. Not trusted: Lean checks it.
namespace Go.Proofs.YthejafdcdcchbaaDoor.PSimA
open Go.RowKit Go.Proofs.YthejafdcdcchbaaDoorW.PrintWords Go.Proofs.YthejafdcdcchbaaDoorW.PrintLast Go.Proofs.YthejafdcdcchbaaDoorW.PrintMore
open Go.Proofs.YthejafdcdcchbaaDoorX
attribute [local go_sem] max2_int min2_int max_two min_two max_three min_three max_four min_four   -- for this text's walks alone
set_option linter.unusedVariables false
set_option linter.unusedSimpArgs false

/-! ### tangramref03_Make: function 12 -/
mutual
def tangramref03_Make.j0 : Nat → Int → List (S53) → Bool → Option (Int × (List (S42)) × Int)
 | 0, _, _, _ => none
 | k + 1, x0, x1, x18 => if x18 = true then (some (0, ([] : List (S42)), 2)) else (tangramref03_Make.l0 k x0 x1 0)
def tangramref03_Make.l0 : Nat → Int → List (S53) → Int → Option (Int × (List (S42)) × Int)
 | 0, _, _, _ => none
 | k + 1, x0, x1, x6 => if x6 < (x1.length : Int) then (if 0 ≤ x6 then (if ((rd_T53 x1 x6).f0) < 0 then (some (0, ([] : List (S42)), 2)) else (if ((rd_T53 x1 x6).f0) ≥ x0 then (some (0, ([] : List (S42)), 2)) else (if ((rd_T53 x1 x6).f1) < 0 then (some (0, ([] : List (S42)), 2)) else (if ((rd_T53 x1 x6).f1) ≥ x0 then (some (0, ([] : List (S42)), 2)) else (tangramref03_Make.l0 k x0 x1 (wrap64 (x6 + 1))))))) else (none)) else (tangramref03_Make.l1 k x0 x1 ([] : List (S42)) 0)
def tangramref03_Make.l1 : Nat → Int → List (S53) → List (S42) → Int → Option (Int × (List (S42)) × Int)
 | 0, _, _, _, _ => none
 | k + 1, x0, x1, x9, x10 => if x10 < (x1.length : Int) then (if 0 ≤ x10 then (if ((rd_T53 x1 x10).f0) < ((rd_T53 x1 x10).f1) then ((tangramref03_Put.f k x9 ((rd_T53 x1 x10).f0) ((rd_T53 x1 x10).f1)).bind fun t123 => (if ((rd_T53 x1 x10).f1) < ((rd_T53 x1 x10).f0) then ((tangramref03_Put.f k t123 ((rd_T53 x1 x10).f1) ((rd_T53 x1 x10).f0)).bind fun t126 => (tangramref03_Make.l1 k x0 x1 t126 (wrap64 (x10 + 1)))) else (tangramref03_Make.l1 k x0 x1 t123 (wrap64 (x10 + 1))))) else (if ((rd_T53 x1 x10).f1) < ((rd_T53 x1 x10).f0) then ((tangramref03_Put.f k x9 ((rd_T53 x1 x10).f1) ((rd_T53 x1 x10).f0)).bind fun t129 => (tangramref03_Make.l1 k x0 x1 t129 (wrap64 (x10 + 1)))) else (tangramref03_Make.l1 k x0 x1 x9 (wrap64 (x10 + 1))))) else (none)) else (if (x9.length : Int) > 4194304 then (some (0, ([] : List (S42)), 141)) else (some (x0, x9, 0)))
end
def tangramref03_Make.f (k : Nat) (a0 : Int) (l1 : List (S53)) : Option (Int × (List (S42)) × Int) := if a0 < 0 then (tangramref03_Make.j0 k a0 l1 true) else (tangramref03_Make.j0 k a0 l1 (decide (a0 > 1048576)))
theorem tangramref03_Make.mono_l : ∀ k, (∀ y0 y1 y2, LeO (tangramref03_Make.j0 k y0 y1 y2) (tangramref03_Make.j0 (k + 1) y0 y1 y2)) ∧ (∀ y0 y1 y2, LeO (tangramref03_Make.l0 k y0 y1 y2) (tangramref03_Make.l0 (k + 1) y0 y1 y2)) ∧ (∀ y0 y1 y2 y3, LeO (tangramref03_Make.l1 k y0 y1 y2 y3) (tangramref03_Make.l1 (k + 1) y0 y1 y2 y3))
 | 0 => ⟨fun _ _ _ r h => by simp [tangramref03_Make.j0] at h, fun _ _ _ r h => by simp [tangramref03_Make.l0] at h, fun _ _ _ _ r h => by simp [tangramref03_Make.l1] at h⟩
 | k + 1 => by
  obtain ⟨ih0, ih1, ih2⟩ := tangramref03_Make.mono_l k; refine ⟨?_, ?_, ?_⟩
  ·intro y0 y1 y2
   unfold tangramref03_Make.j0
   repeat' first
   | (with_reducible exact ih0 _ _ _)
   | (with_reducible exact ih1 _ _ _)
   | (with_reducible exact ih2 _ _ _ _)
   | (with_reducible exact tangramref03_Put.mono _ _ _ _)
   | (with_reducible exact LeO.refl _)
   | (with_reducible exact LeO.none _)
   | (with_reducible refine LeO.ite ?_ ?_)
   | (with_reducible refine LeO.bind ?_ (fun _ => ?_))
   | exact ih0 _ _ _
   | exact ih1 _ _ _
   | exact ih2 _ _ _ _
   | exact tangramref03_Put.mono _ _ _ _
   | exact LeO.none _
   | refine LeO.ite ?_ ?_
   | refine LeO.bind ?_ (fun _ => ?_)
  ·intro y0 y1 y2
   unfold tangramref03_Make.l0
   repeat' first
   | (with_reducible exact ih0 _ _ _)
   | (with_reducible exact ih1 _ _ _)
   | (with_reducible exact ih2 _ _ _ _)
   | (with_reducible exact tangramref03_Put.mono _ _ _ _)
   | (with_reducible exact LeO.refl _)
   | (with_reducible exact LeO.none _)
   | (with_reducible refine LeO.ite ?_ ?_)
   | (with_reducible refine LeO.bind ?_ (fun _ => ?_))
   | exact ih0 _ _ _
   | exact ih1 _ _ _
   | exact ih2 _ _ _ _
   | exact tangramref03_Put.mono _ _ _ _
   | exact LeO.none _
   | refine LeO.ite ?_ ?_
   | refine LeO.bind ?_ (fun _ => ?_)
  ·intro y0 y1 y2 y3
   unfold tangramref03_Make.l1
   repeat' first
   | (with_reducible exact ih0 _ _ _)
   | (with_reducible exact ih1 _ _ _)
   | (with_reducible exact ih2 _ _ _ _)
   | (with_reducible exact tangramref03_Put.mono _ _ _ _)
   | (with_reducible exact LeO.refl _)
   | (with_reducible exact LeO.none _)
   | (with_reducible refine LeO.ite ?_ ?_)
   | (with_reducible refine LeO.bind ?_ (fun _ => ?_))
   | exact ih0 _ _ _
   | exact ih1 _ _ _
   | exact ih2 _ _ _ _
   | exact tangramref03_Put.mono _ _ _ _
   | exact LeO.none _
   | refine LeO.ite ?_ ?_
   | refine LeO.bind ?_ (fun _ => ?_)
theorem tangramref03_Make.mono : ∀ a0 a1 k, LeO (tangramref03_Make.f k a0 a1) (tangramref03_Make.f (k + 1) a0 a1) := by
 intro a0 a1 k; obtain ⟨ih0, ih1, ih2⟩ := tangramref03_Make.mono_l k
 unfold tangramref03_Make.f
 repeat' first
   | (with_reducible exact ih0 _ _ _)
   | (with_reducible exact ih1 _ _ _)
   | (with_reducible exact ih2 _ _ _ _)
   | (with_reducible exact tangramref03_Put.mono _ _ _ _)
   | (with_reducible exact LeO.refl _)
   | (with_reducible exact LeO.none _)
   | (with_reducible refine LeO.ite ?_ ?_)
   | (with_reducible refine LeO.bind ?_ (fun _ => ?_))
   | exact ih0 _ _ _
   | exact ih1 _ _ _
   | exact ih2 _ _ _ _
   | exact tangramref03_Put.mono _ _ _ _
   | exact LeO.none _
   | refine LeO.ite ?_ ?_
   | refine LeO.bind ?_ (fun _ => ?_)
set_option maxHeartbeats 8000000 in
set_option maxRecDepth 100000 in
theorem tangramref03_Make.calls (k : Nat) (a0 : Int) (A1 : Option Addr) (c1 : Nat) (l1 : List (S53)) (r1 : Int) (r2 : List (S42)) (r3 : Int) (w : World) (hr1 : Kd.C k53 w A1 l1.length l1) (hc1 : l1.length ≤ c1) (h : tangramref03_Make.f k a0 l1 = some (r1, r2, r3)) :
  Calls Tryd.prog 12 #[.int .i64 a0, .slice A1 l1.length c1] w fun e w' => ∃ v1_ : Value, e = .returned (.tuple #[.agg #[.int .i64 r1, v1_], .int .i64 r3]) ∧ Kd.R k42 42 w' w.heap.size (fun _ => True) v1_ r2 ∧ Below w.heap.size w w' := by
 have hu26 := Tryd.underlying26; have hu42 := Tryd.underlying42; have HR1 := Aside0.mk hr1; have HC1 := Aside0.mk hc1; clear hr1 hc1; have HB := Aside0.mk (Below.refl w.heap.size w); have H : (if a0 < 0 then (tangramref03_Make.j0 k a0 l1 true) else (tangramref03_Make.j0 k a0 l1 (decide (a0 > 1048576)))) = some (r1, r2, r3) := h; clear h; have HC3 := Aside0.mk H; clear H
 go_enter Tryd.func12, Tryd.ntmps12
 go_upto_region 1 with (first | ((with_reducible refine gate_dst (N := 4) rfl ?_); refine be_ 4 #[.int .i64 0, .slice none 0 0] 26 ?_; intro gb118 hg w4 hbox hb; have BK118 := Aside0.mk (hbox); have GW118 := wq (hb0 HB) hg; have GE118 := wq (hb0 HB) hg; replace HB := hs (hb0 HB) hb; clear hb hbox hg))
 (try simp only [Act.put, List.setIfInBounds_toArray, List.set_cons_zero, List.set_cons_succ])
 go_cut [18] (fun v18 wc => ∃ (kq : Nat) (x18_2 : Bool), v18 = .bool x18_2 ∧ Aside0 (tangramref03_Make.j0 kq a0 l1 x18_2 = some (r1, r2, r3)) ∧ Aside0 (kq ≤ k) ∧ Aside0 (wc.heap[gb118]? = some (.cells #[.int .i64 0, (.slice none 0 0)] 26 (0, 0))) ∧ Aside0 (Below w.heap.size w wc))
 case first => as_aux_lemma =>
  have H := HC3.out; clear HC3
  by_cases c5 : a0 < 0
  ·rw [if_pos c5] at H; have c5b0 : decide (a0 < 0) = true := decide_eq_true c5; clear c5
   (first | rw [c5b0] | (simp only [i64_w, i32_w]; rw [c5b0]) | skip)
   have H' := Aside0.mk H; clear H
   go_wp2
   go_meet
   case rel => exact ⟨_, (true), (by first | rfl | (simp; done) | (simp [*]; done)), H', ⟨by first | omega | exact Nat.le_refl _⟩, ⟨bx BK118⟩, ⟨hb1 HB GE118⟩⟩
  ·rw [if_neg c5] at H; have c5b0 : decide (a0 < 0) = false := decide_eq_false c5; clear c5
   (first | rw [c5b0] | (simp only [i64_w, i32_w]; rw [c5b0]) | skip)
   have H' := Aside0.mk H; clear H
   go_wp2
   go_meet
   case rel => exact ⟨_, (decide (a0 > 1048576)), (by first | rfl | (simp; done) | (simp [*]; done)), H', ⟨by first | omega | exact Nat.le_refl _⟩, ⟨bx BK118⟩, ⟨hb1 HB GE118⟩⟩
 case rest => as_aux_lemma =>
  clear HC3
  try clear c1
  try clear p2
  try clear c5
  try clear c5b0
  obtain ⟨kq, x18_2, rfl, HA, HJ2, BK118, HB⟩ := hcut
  cases kq with
  | zero => exact absurd HA.out (by simp [tangramref03_Make.j0])
  | succ kj2 =>
   have H := HA.out; clear HA; simp only [tangramref03_Make.j0] at H
   by_cases c6 : x18_2 = true
   ·subst c6; have H1 : (some (0, ([] : List (S42)), 2)) = some (r1, r2, r3) := by rw [if_pos rfl] at H; exact H
    clear H; have H := H1; clear H1; simp only [Option.some.injEq, Prod.mk.injEq] at H; obtain ⟨rfl, rfl, rfl⟩ := H; have hcz7_0 : wc.cell? ⟨gb118, 0, none⟩ = some (.int .i64 0) := bc BK118 0; have hcz7_1 : wc.cell? ⟨gb118, 1, none⟩ = some (.slice none 0 0) := bc BK118 1; have hfz7_0 := blk_frozen BK118.out 0; have hfz7_1 := blk_frozen BK118.out 1
    go_wp2
    refine bodyPost_ret (results_ct rfl _ _ gb118 26 #[.int .i64 0, .slice none 0 0] (0, 0) _ rfl (bp BK118) Tryd.underlying26 rfl (by kernel_rfl)) rfl ?_; exact ⟨_, by first | rfl | (simp [errW_none, errW_some] <;> rfl) | (simp [*, errW_none, errW_some] <;> rfl), by first | exact Kd.R_nil _ _ _ _ _ | exact Kd.N_nil _ _ _ _ _ | exact Kd.V_nil _ _ _ _ _ | exact Kd.Q_nil _ _ _ _ _ | exact Kd.S_nil _ _ _ _ _, hb1 HB GE118⟩
   ·replace c6 := Bool.eq_false_iff.mpr c6; subst c6; have H1 : (tangramref03_Make.l0 kj2 a0 l1 0) = some (r1, r2, r3) := by rw [if_neg (show ¬ (false = true) by decide)] at H; exact H
    clear H; have H := H1; clear H1; have H' := Aside0.mk H; clear H
    go_wp2
    go_loopg [6] kj2 (fun kq v6 w' => ∃ (x6_2 : Int) (x119000_2 : Int), v6 = .int .i64 x6_2 ∧ Aside0 (tangramref03_Make.l0 kq a0 l1 x6_2 = some (r1, r2, r3)) ∧ Aside0 (kq ≤ kj2) ∧ Aside0 (w'.heap[gb118]? = some (.cells #[.int .i64 x119000_2, (.slice none 0 0)] 26 (0, 0))) ∧ Aside0 (Below w.heap.size w w'))
    case atStart => exact ⟨(0), (0), (by first | rfl | (simp; done) | (simp [*]; done)), H', ⟨Nat.le_refl _⟩, ⟨bx BK118⟩, ⟨hb1 HB GE118⟩⟩
    case round =>
     clear H'
     try clear c1
     try clear p2
     try clear c5
     try clear c5b0
     try clear c6
     try clear hcz7_0
     try clear hcz7_1
     try clear hfz7_0
     try clear hfz7_1
     try clear p2
     obtain ⟨x6_2, x119000_2, rfl, HA, HK2, BK118, HB⟩ := hrel
     cases gk with
     | zero => exact absurd HA.out (by simp [tangramref03_Make.l0])
     | succ k2 =>
      have H := HA.out; clear HA; simp only [tangramref03_Make.l0] at H
      by_cases c8 : x6_2 < (l1.length : Int)
      ·rw [if_pos c8] at H; have c8b0 : decide (x6_2 < (l1.length : Int)) = true := decide_eq_true c8; clear c8
       by_cases c9 : 0 ≤ x6_2
       ·rw [if_pos c9] at H; have c9b0 : decide (0 ≤ x6_2) = true := decide_eq_true c9; clear c9
        by_cases c10 : ((rd_T53 l1 x6_2).f0) < 0
        ·rw [if_pos c10] at H; have c10b0 : decide (((rd_T53 l1 x6_2).f0) < 0) = true := decide_eq_true c10; clear c10; simp only [Option.some.injEq, Prod.mk.injEq] at H; obtain ⟨rfl, rfl, rfl⟩ := H; have p119 : 0 ≤ (x6_2 : Int) := of_decide_eq_true (by first | (with_reducible assumption) | assumption); have q119 : x6_2 < (l1.length : Int) := of_decide_eq_true (by first | (with_reducible assumption) | assumption); obtain ⟨ad119, e119, hx119_0, hx119_1⟩ := at_T53 HR1.out x6_2 p119 q119
         cases e119
         replace hx119_0 := (HB.out.cell (World.block_lt_of_cell? w _ hx119_0)).trans hx119_0; replace hx119_1 := (HB.out.cell (World.block_lt_of_cell? w _ hx119_1)).trans hx119_1; replace p119 := eq_true p119; replace q119 := eq_true q119; have p120 : 0 ≤ (x6_2 : Int) := of_decide_eq_true (by first | (with_reducible assumption) | assumption); have q120 : x6_2 < (l1.length : Int) := of_decide_eq_true (by first | (with_reducible assumption) | assumption); obtain ⟨ad120, e120, hx120_0, hx120_1⟩ := at_T53 HR1.out x6_2 p120 q120; obtain rfl : ad119 = ad120 := (by injection e120); replace hx120_0 := (HB.out.cell (World.block_lt_of_cell? w _ hx120_0)).trans hx120_0; replace hx120_1 := (HB.out.cell (World.block_lt_of_cell? w _ hx120_1)).trans hx120_1; replace p120 := eq_true p120; replace q120 := eq_true q120; have hcz11_0 : wr.cell? ⟨gb118, 0, none⟩ = some (.int .i64 x119000_2) := bc BK118 0; have hcz11_1 : wr.cell? ⟨gb118, 1, none⟩ = some (.slice none 0 0) := bc BK118 1; have hfz11_0 := blk_frozen BK118.out 0; have hfz11_1 := blk_frozen BK118.out 1
         go_wp2
         refine bodyPost_ret (results_ct rfl _ _ gb118 26 #[.int .i64 0, .slice none 0 0] (0, 0) _ rfl (bp BK118) Tryd.underlying26 rfl (by kernel_rfl)) rfl ?_; exact ⟨_, by first | rfl | (simp [errW_none, errW_some] <;> rfl) | (simp [*, errW_none, errW_some] <;> rfl), by first | exact Kd.R_nil _ _ _ _ _ | exact Kd.N_nil _ _ _ _ _ | exact Kd.V_nil _ _ _ _ _ | exact Kd.Q_nil _ _ _ _ _ | exact Kd.S_nil _ _ _ _ _, hb1 HB GE118⟩
        ·rw [if_neg c10] at H; have c10b0 : decide (((rd_T53 l1 x6_2).f0) < 0) = false := decide_eq_false c10; clear c10
         by_cases c12 : ((rd_T53 l1 x6_2).f0) ≥ a0
         ·rw [if_pos c12] at H; have c12b0 : decide (a0 ≤ ((rd_T53 l1 x6_2).f0)) = true := decide_eq_true c12; clear c12; simp only [Option.some.injEq, Prod.mk.injEq] at H; obtain ⟨rfl, rfl, rfl⟩ := H; have p119 : 0 ≤ (x6_2 : Int) := of_decide_eq_true (by first | (with_reducible assumption) | assumption); have q119 : x6_2 < (l1.length : Int) := of_decide_eq_true (by first | (with_reducible assumption) | assumption); obtain ⟨ad119, e119, hx119_0, hx119_1⟩ := at_T53 HR1.out x6_2 p119 q119
          cases e119
          replace hx119_0 := (HB.out.cell (World.block_lt_of_cell? w _ hx119_0)).trans hx119_0; replace hx119_1 := (HB.out.cell (World.block_lt_of_cell? w _ hx119_1)).trans hx119_1; replace p119 := eq_true p119; replace q119 := eq_true q119; have p120 : 0 ≤ (x6_2 : Int) := of_decide_eq_true (by first | (with_reducible assumption) | assumption); have q120 : x6_2 < (l1.length : Int) := of_decide_eq_true (by first | (with_reducible assumption) | assumption); obtain ⟨ad120, e120, hx120_0, hx120_1⟩ := at_T53 HR1.out x6_2 p120 q120; obtain rfl : ad119 = ad120 := (by injection e120); replace hx120_0 := (HB.out.cell (World.block_lt_of_cell? w _ hx120_0)).trans hx120_0; replace hx120_1 := (HB.out.cell (World.block_lt_of_cell? w _ hx120_1)).trans hx120_1; replace p120 := eq_true p120; replace q120 := eq_true q120; have hcz13_0 : wr.cell? ⟨gb118, 0, none⟩ = some (.int .i64 x119000_2) := bc BK118 0; have hcz13_1 : wr.cell? ⟨gb118, 1, none⟩ = some (.slice none 0 0) := bc BK118 1; have hfz13_0 := blk_frozen BK118.out 0; have hfz13_1 := blk_frozen BK118.out 1
          go_wp2
          refine bodyPost_ret (results_ct rfl _ _ gb118 26 #[.int .i64 0, .slice none 0 0] (0, 0) _ rfl (bp BK118) Tryd.underlying26 rfl (by kernel_rfl)) rfl ?_; exact ⟨_, by first | rfl | (simp [errW_none, errW_some] <;> rfl) | (simp [*, errW_none, errW_some] <;> rfl), by first | exact Kd.R_nil _ _ _ _ _ | exact Kd.N_nil _ _ _ _ _ | exact Kd.V_nil _ _ _ _ _ | exact Kd.Q_nil _ _ _ _ _ | exact Kd.S_nil _ _ _ _ _, hb1 HB GE118⟩
         ·rw [if_neg c12] at H; have c12b0 : decide (a0 ≤ ((rd_T53 l1 x6_2).f0)) = false := decide_eq_false c12; clear c12
          by_cases c14 : ((rd_T53 l1 x6_2).f1) < 0
          ·rw [if_pos c14] at H; have c14b0 : decide (((rd_T53 l1 x6_2).f1) < 0) = true := decide_eq_true c14; clear c14; simp only [Option.some.injEq, Prod.mk.injEq] at H; obtain ⟨rfl, rfl, rfl⟩ := H; have p119 : 0 ≤ (x6_2 : Int) := of_decide_eq_true (by first | (with_reducible assumption) | assumption); have q119 : x6_2 < (l1.length : Int) := of_decide_eq_true (by first | (with_reducible assumption) | assumption); obtain ⟨ad119, e119, hx119_0, hx119_1⟩ := at_T53 HR1.out x6_2 p119 q119
           cases e119
           replace hx119_0 := (HB.out.cell (World.block_lt_of_cell? w _ hx119_0)).trans hx119_0; replace hx119_1 := (HB.out.cell (World.block_lt_of_cell? w _ hx119_1)).trans hx119_1; replace p119 := eq_true p119; replace q119 := eq_true q119; have p120 : 0 ≤ (x6_2 : Int) := of_decide_eq_true (by first | (with_reducible assumption) | assumption); have q120 : x6_2 < (l1.length : Int) := of_decide_eq_true (by first | (with_reducible assumption) | assumption); obtain ⟨ad120, e120, hx120_0, hx120_1⟩ := at_T53 HR1.out x6_2 p120 q120; obtain rfl : ad119 = ad120 := (by injection e120); replace hx120_0 := (HB.out.cell (World.block_lt_of_cell? w _ hx120_0)).trans hx120_0; replace hx120_1 := (HB.out.cell (World.block_lt_of_cell? w _ hx120_1)).trans hx120_1; replace p120 := eq_true p120; replace q120 := eq_true q120; have hcz15_0 : wr.cell? ⟨gb118, 0, none⟩ = some (.int .i64 x119000_2) := bc BK118 0; have hcz15_1 : wr.cell? ⟨gb118, 1, none⟩ = some (.slice none 0 0) := bc BK118 1; have hfz15_0 := blk_frozen BK118.out 0; have hfz15_1 := blk_frozen BK118.out 1
           go_wp2
           refine bodyPost_ret (results_ct rfl _ _ gb118 26 #[.int .i64 0, .slice none 0 0] (0, 0) _ rfl (bp BK118) Tryd.underlying26 rfl (by kernel_rfl)) rfl ?_; exact ⟨_, by first | rfl | (simp [errW_none, errW_some] <;> rfl) | (simp [*, errW_none, errW_some] <;> rfl), by first | exact Kd.R_nil _ _ _ _ _ | exact Kd.N_nil _ _ _ _ _ | exact Kd.V_nil _ _ _ _ _ | exact Kd.Q_nil _ _ _ _ _ | exact Kd.S_nil _ _ _ _ _, hb1 HB GE118⟩
          ·rw [if_neg c14] at H; have c14b0 : decide (((rd_T53 l1 x6_2).f1) < 0) = false := decide_eq_false c14; clear c14
           by_cases c16 : ((rd_T53 l1 x6_2).f1) ≥ a0
           ·rw [if_pos c16] at H; have c16b0 : decide (a0 ≤ ((rd_T53 l1 x6_2).f1)) = true := decide_eq_true c16; clear c16; simp only [Option.some.injEq, Prod.mk.injEq] at H; obtain ⟨rfl, rfl, rfl⟩ := H; have p119 : 0 ≤ (x6_2 : Int) := of_decide_eq_true (by first | (with_reducible assumption) | assumption); have q119 : x6_2 < (l1.length : Int) := of_decide_eq_true (by first | (with_reducible assumption) | assumption); obtain ⟨ad119, e119, hx119_0, hx119_1⟩ := at_T53 HR1.out x6_2 p119 q119
            cases e119
            replace hx119_0 := (HB.out.cell (World.block_lt_of_cell? w _ hx119_0)).trans hx119_0; replace hx119_1 := (HB.out.cell (World.block_lt_of_cell? w _ hx119_1)).trans hx119_1; replace p119 := eq_true p119; replace q119 := eq_true q119; have p120 : 0 ≤ (x6_2 : Int) := of_decide_eq_true (by first | (with_reducible assumption) | assumption); have q120 : x6_2 < (l1.length : Int) := of_decide_eq_true (by first | (with_reducible assumption) | assumption); obtain ⟨ad120, e120, hx120_0, hx120_1⟩ := at_T53 HR1.out x6_2 p120 q120; obtain rfl : ad119 = ad120 := (by injection e120); replace hx120_0 := (HB.out.cell (World.block_lt_of_cell? w _ hx120_0)).trans hx120_0; replace hx120_1 := (HB.out.cell (World.block_lt_of_cell? w _ hx120_1)).trans hx120_1; replace p120 := eq_true p120; replace q120 := eq_true q120; have hcz17_0 : wr.cell? ⟨gb118, 0, none⟩ = some (.int .i64 x119000_2) := bc BK118 0; have hcz17_1 : wr.cell? ⟨gb118, 1, none⟩ = some (.slice none 0 0) := bc BK118 1; have hfz17_0 := blk_frozen BK118.out 0; have hfz17_1 := blk_frozen BK118.out 1
            go_wp2
            refine bodyPost_ret (results_ct rfl _ _ gb118 26 #[.int .i64 0, .slice none 0 0] (0, 0) _ rfl (bp BK118) Tryd.underlying26 rfl (by kernel_rfl)) rfl ?_; exact ⟨_, by first | rfl | (simp [errW_none, errW_some] <;> rfl) | (simp [*, errW_none, errW_some] <;> rfl), by first | exact Kd.R_nil _ _ _ _ _ | exact Kd.N_nil _ _ _ _ _ | exact Kd.V_nil _ _ _ _ _ | exact Kd.Q_nil _ _ _ _ _ | exact Kd.S_nil _ _ _ _ _, hb1 HB GE118⟩
           ·rw [if_neg c16] at H; have c16b0 : decide (a0 ≤ ((rd_T53 l1 x6_2).f1)) = false := decide_eq_false c16; clear c16; have H' := Aside0.mk H; clear H; have p119 : 0 ≤ (x6_2 : Int) := of_decide_eq_true (by first | (with_reducible assumption) | assumption); have q119 : x6_2 < (l1.length : Int) := of_decide_eq_true (by first | (with_reducible assumption) | assumption); obtain ⟨ad119, e119, hx119_0, hx119_1⟩ := at_T53 HR1.out x6_2 p119 q119
            cases e119
            replace hx119_0 := (HB.out.cell (World.block_lt_of_cell? w _ hx119_0)).trans hx119_0; replace hx119_1 := (HB.out.cell (World.block_lt_of_cell? w _ hx119_1)).trans hx119_1; replace p119 := eq_true p119; replace q119 := eq_true q119; have p120 : 0 ≤ (x6_2 : Int) := of_decide_eq_true (by first | (with_reducible assumption) | assumption); have q120 : x6_2 < (l1.length : Int) := of_decide_eq_true (by first | (with_reducible assumption) | assumption); obtain ⟨ad120, e120, hx120_0, hx120_1⟩ := at_T53 HR1.out x6_2 p120 q120; obtain rfl : ad119 = ad120 := (by injection e120); replace hx120_0 := (HB.out.cell (World.block_lt_of_cell? w _ hx120_0)).trans hx120_0; replace hx120_1 := (HB.out.cell (World.block_lt_of_cell? w _ hx120_1)).trans hx120_1; replace p120 := eq_true p120; replace q120 := eq_true q120
            go_wp2
            go_roundg k2
            case measure => have := HJ2.out; have := HK2.out; omega
            case rel => exact ⟨(wrap64 (x6_2 + 1)), (x119000_2), (by first | rfl | (simp; done) | (simp [*]; done)), H', ⟨by have := HJ2.out; have := HK2.out; omega⟩, ⟨bx BK118⟩, ⟨hb1 HB GE118⟩⟩
       ·rw [if_neg c9] at H; exact absurd H (by simp)
      ·rw [if_neg c8] at H; have c8b0 : decide (x6_2 < (l1.length : Int)) = false := decide_eq_false c8; clear c8; have H' := Aside0.mk H; clear H
       go_wp2
       go_loopg [9, 10] k2 (fun kq v9 v10 w' => ∃ (x9_3 : List (S42)) (x10_3 : Int), v10 = .int .i64 x10_3 ∧ Aside0 (tangramref03_Make.l1 kq a0 l1 x9_3 x10_3 = some (r1, r2, r3)) ∧ Aside0 (kq ≤ k2) ∧ Aside0 (Kd.R k42 42 w' w.heap.size (fun _ => True) v9 x9_3) ∧ Aside0 (w'.heap[gb118]? = some (.cells #[.int .i64 x119000_2, (.slice none 0 0)] 26 (0, 0))) ∧ Aside0 (Below w.heap.size w w'))
       case atStart => exact ⟨(([] : List (S42))), (0), (by first | rfl | (simp; done) | (simp [*]; done)), H', ⟨Nat.le_refl _⟩, ⟨by first | exact Kd.R_nil _ _ _ _ _ | exact Kd.N_nil _ _ _ _ _ | exact Kd.V_nil _ _ _ _ _ | exact Kd.Q_nil _ _ _ _ _ | exact Kd.S_nil _ _ _ _ _⟩, ⟨bx BK118⟩, ⟨hb1 HB GE118⟩⟩
       case round =>
        clear H'
        try clear c1
        try clear p1
        try clear q1
        try clear hx1
        try clear p2
        try clear c5
        try clear c5b0
        try clear c6
        try clear p6
        try clear c8
        try clear c8b0
        try clear c9
        try clear c9b0
        try clear c10
        try clear c10b0
        try clear p11
        try clear q11
        try clear hx11
        try clear c12
        try clear c12b0
        try clear p12
        try clear q12
        try clear hx12
        try clear c14
        try clear c14b0
        try clear c16
        try clear c16b0
        try clear hcz11_0
        try clear hcz11_1
        try clear hcz13_0
        try clear hcz13_1
        try clear hcz15_0
        try clear hcz15_1
        try clear hcz17_0
        try clear hcz17_1
        try clear hcz7_0
        try clear hcz7_1
        try clear hfz11_0
        try clear hfz11_1
        try clear hfz13_0
        try clear hfz13_1
        try clear hfz15_0
        try clear hfz15_1
        try clear hfz17_0
        try clear hfz17_1
        try clear hfz7_0
        try clear hfz7_1
        try clear hx119_0
        try clear hx119_1
        try clear hx120_0
        try clear hx120_1
        try clear p119
        try clear p120
        try clear p2
        try clear q119
        try clear q120
        obtain ⟨x9_3, x10_3, rfl, HA, HK3, HO_9, BK118, HB⟩ := hrel
        cases gk with
        | zero => exact absurd HA.out (by simp [tangramref03_Make.l1])
        | succ k3 =>
         have H := HA.out; clear HA; simp only [tangramref03_Make.l1] at H
         by_cases c18 : x10_3 < (l1.length : Int)
         ·rw [if_pos c18] at H; have c18b0 : decide (x10_3 < (l1.length : Int)) = true := decide_eq_true c18; clear c18
          by_cases c19 : 0 ≤ x10_3
          ·rw [if_pos c19] at H; have c19b0 : decide (0 ≤ x10_3) = true := decide_eq_true c19; clear c19
           by_cases c20 : ((rd_T53 l1 x10_3).f0) < ((rd_T53 l1 x10_3).f1)
           ·rw [if_pos c20] at H; have c20b0 : decide (((rd_T53 l1 x10_3).f0) < ((rd_T53 l1 x10_3).f1)) = true := decide_eq_true c20; clear c20; replace H := Option.bind_eq_some_iff.mp H; obtain ⟨t123, A210, H⟩ := H; replace H : (if ((rd_T53 l1 x10_3).f1) < ((rd_T53 l1 x10_3).f0) then ((tangramref03_Put.f k3 t123 ((rd_T53 l1 x10_3).f1) ((rd_T53 l1 x10_3).f0)).bind fun t126 => (tangramref03_Make.l1 k3 a0 l1 t126 (wrap64 (x10_3 + 1)))) else (tangramref03_Make.l1 k3 a0 l1 t123 (wrap64 (x10_3 + 1)))) = some (r1, r2, r3) := H; have A21 := Aside0.mk A210; clear A210
            by_cases c22 : ((rd_T53 l1 x10_3).f1) < ((rd_T53 l1 x10_3).f0)
            ·rw [if_pos c22] at H; have c22b0 : decide (((rd_T53 l1 x10_3).f1) < ((rd_T53 l1 x10_3).f0)) = true := decide_eq_true c22; clear c22; replace H := Option.bind_eq_some_iff.mp H; obtain ⟨t126, A230, H⟩ := H; replace H : (tangramref03_Make.l1 k3 a0 l1 t126 (wrap64 (x10_3 + 1))) = some (r1, r2, r3) := H; have A23 := Aside0.mk A230; clear A230; have H' := Aside0.mk H; clear H; have p121 : 0 ≤ (x10_3 : Int) := of_decide_eq_true (by first | (with_reducible assumption) | assumption); have q121 : x10_3 < (l1.length : Int) := of_decide_eq_true (by first | (with_reducible assumption) | assumption); obtain ⟨ad121, e121, hx121_0, hx121_1⟩ := at_T53 HR1.out x10_3 p121 q121
             cases e121
             replace hx121_0 := (HB.out.cell (World.block_lt_of_cell? w _ hx121_0)).trans hx121_0; replace hx121_1 := (HB.out.cell (World.block_lt_of_cell? w _ hx121_1)).trans hx121_1; replace p121 := eq_true p121; replace q121 := eq_true q121; have p122 : 0 ≤ (x10_3 : Int) := of_decide_eq_true (by first | (with_reducible assumption) | assumption); have q122 : x10_3 < (l1.length : Int) := of_decide_eq_true (by first | (with_reducible assumption) | assumption); obtain ⟨ad122, e122, hx122_0, hx122_1⟩ := at_T53 HR1.out x10_3 p122 q122; obtain rfl : ad121 = ad122 := (by injection e122); replace hx122_0 := (HB.out.cell (World.block_lt_of_cell? w _ hx122_0)).trans hx122_0; replace hx122_1 := (HB.out.cell (World.block_lt_of_cell? w _ hx122_1)).trans hx122_1; replace p122 := eq_true p122; replace q122 := eq_true q122; obtain ⟨Ao24, co24, eo24⟩ := Kd.R_slice HO_9.out; subst eo24
             go_wp2_with (first | ((with_reducible refine gate_callee (f := 35) rfl ?_); refine gl_ (some 76) Tryd.func35 #[.slice Ao24 x9_3.length co24, .agg #[.int .i64 ((rd_T53 l1 x10_3).f0), .int .i64 ((rd_T53 l1 x10_3).f1)]] ?_; (with_reducible refine (tangramref03_Put.calls k3 (fun k_ => some k_ = (.slice Ao24 x9_3.length co24 : Value).ownBlock) (.slice Ao24 x9_3.length co24) x9_3 ((rd_T53 l1 x10_3).f0) ((rd_T53 l1 x10_3).f1) t123 w _ ?side1 ?side2 A21.out).mono ?_); (case side1 => repeat (first | (with_reducible first | exact HB.out | apply below_alloc | apply pw_below_drewN | apply below_drew1 | refine below_set ?_ GE118.out) | exact HB.out)); (case side2 => exact Kd.R_tight rfl HO_9.out); rintro e w25 ⟨v124, rfl, ho0, hb, hkp⟩; refine ⟨_, rfl, ?_⟩; have n0_ := Aside0.mk (blk_kept (bx BK118) hkp (fun hs_ => (fun e_ => (Kd.R_ne HO_9.out BK118.out (by decide)) e_) hs_)); have n1_ := Aside0.mk (Kd.R_mono (ok' := fun k_ => True) ho0 (fun k_ hk_ => trivial)); have n2_ := Aside0.mk (hb); clear BK118; clear HB; clear HO_9; have BK118 := n0_; have HO125 := n1_; have HB := n2_; clear n0_ n1_ n2_; (try clear hb); (try clear hkp); (try clear ho0); obtain ⟨Ao26, co26, eo26⟩ := Kd.R_slice HO125.out; subst eo26) | ((with_reducible refine gate_callee (f := 35) rfl ?_); refine gl_ (some 84) Tryd.func35 #[.slice Ao26 t123.length co26, .agg #[.int .i64 ((rd_T53 l1 x10_3).f1), .int .i64 ((rd_T53 l1 x10_3).f0)]] ?_; (with_reducible refine (tangramref03_Put.calls k3 (fun k_ => some k_ = (.slice Ao26 t123.length co26 : Value).ownBlock) (.slice Ao26 t123.length co26) t123 ((rd_T53 l1 x10_3).f1) ((rd_T53 l1 x10_3).f0) t126 w _ ?side1 ?side2 A23.out).mono ?_); (case side1 => repeat (first | (with_reducible first | exact HB.out | apply below_alloc | apply pw_below_drewN | apply below_drew1 | refine below_set ?_ GE118.out) | exact HB.out)); (case side2 => exact Kd.R_tight rfl HO125.out); rintro e w27 ⟨v127, rfl, ho0, hb, hkp⟩; refine ⟨_, rfl, ?_⟩; have n0_ := Aside0.mk (blk_kept (bx BK118) hkp (fun hs_ => (fun e_ => (Kd.R_ne HO125.out BK118.out (by decide)) e_) hs_)); have n1_ := Aside0.mk (Kd.R_mono (ok' := fun k_ => True) ho0 (fun k_ hk_ => trivial)); have n2_ := Aside0.mk (hb); clear BK118; clear HB; clear HO125; have BK118 := n0_; have HO128 := n1_; have HB := n2_; clear n0_ n1_ n2_; (try clear hb); (try clear hkp); (try clear ho0)))
             go_roundg k3
             case measure => have := HJ2.out; have := HK2.out; have := HK3.out; omega
             case rel => exact ⟨(t126), (wrap64 (x10_3 + 1)), (by first | rfl | (simp; done) | (simp [*]; done)), H', ⟨by have := HJ2.out; have := HK2.out; have := HK3.out; omega⟩, ⟨rx HO128⟩, ⟨bx BK118⟩, ⟨hb1 HB GE118⟩⟩
            ·rw [if_neg c22] at H; have c22b0 : decide (((rd_T53 l1 x10_3).f1) < ((rd_T53 l1 x10_3).f0)) = false := decide_eq_false c22; clear c22; have H' := Aside0.mk H; clear H; have p121 : 0 ≤ (x10_3 : Int) := of_decide_eq_true (by first | (with_reducible assumption) | assumption); have q121 : x10_3 < (l1.length : Int) := of_decide_eq_true (by first | (with_reducible assumption) | assumption); obtain ⟨ad121, e121, hx121_0, hx121_1⟩ := at_T53 HR1.out x10_3 p121 q121
             cases e121
             replace hx121_0 := (HB.out.cell (World.block_lt_of_cell? w _ hx121_0)).trans hx121_0; replace hx121_1 := (HB.out.cell (World.block_lt_of_cell? w _ hx121_1)).trans hx121_1; replace p121 := eq_true p121; replace q121 := eq_true q121; have p122 : 0 ≤ (x10_3 : Int) := of_decide_eq_true (by first | (with_reducible assumption) | assumption); have q122 : x10_3 < (l1.length : Int) := of_decide_eq_true (by first | (with_reducible assumption) | assumption); obtain ⟨ad122, e122, hx122_0, hx122_1⟩ := at_T53 HR1.out x10_3 p122 q122; obtain rfl : ad121 = ad122 := (by injection e122); replace hx122_0 := (HB.out.cell (World.block_lt_of_cell? w _ hx122_0)).trans hx122_0; replace hx122_1 := (HB.out.cell (World.block_lt_of_cell? w _ hx122_1)).trans hx122_1; replace p122 := eq_true p122; replace q122 := eq_true q122; obtain ⟨Ao28, co28, eo28⟩ := Kd.R_slice HO_9.out; subst eo28
             go_wp2_with (first | ((with_reducible refine gate_callee (f := 35) rfl ?_); refine gl_ (some 76) Tryd.func35 #[.slice Ao28 x9_3.length co28, .agg #[.int .i64 ((rd_T53 l1 x10_3).f0), .int .i64 ((rd_T53 l1 x10_3).f1)]] ?_; (with_reducible refine (tangramref03_Put.calls k3 (fun k_ => some k_ = (.slice Ao28 x9_3.length co28 : Value).ownBlock) (.slice Ao28 x9_3.length co28) x9_3 ((rd_T53 l1 x10_3).f0) ((rd_T53 l1 x10_3).f1) t123 w _ ?side1 ?side2 A21.out).mono ?_); (case side1 => repeat (first | (with_reducible first | exact HB.out | apply below_alloc | apply pw_below_drewN | apply below_drew1 | refine below_set ?_ GE118.out) | exact HB.out)); (case side2 => exact Kd.R_tight rfl HO_9.out); rintro e w29 ⟨v124, rfl, ho0, hb, hkp⟩; refine ⟨_, rfl, ?_⟩; have n0_ := Aside0.mk (blk_kept (bx BK118) hkp (fun hs_ => (fun e_ => (Kd.R_ne HO_9.out BK118.out (by decide)) e_) hs_)); have n1_ := Aside0.mk (Kd.R_mono (ok' := fun k_ => True) ho0 (fun k_ hk_ => trivial)); have n2_ := Aside0.mk (hb); clear BK118; clear HB; clear HO_9; have BK118 := n0_; have HO125 := n1_; have HB := n2_; clear n0_ n1_ n2_; (try clear hb); (try clear hkp); (try clear ho0)))
             go_roundg k3
             case measure => have := HJ2.out; have := HK2.out; have := HK3.out; omega
             case rel => exact ⟨(t123), (wrap64 (x10_3 + 1)), (by first | rfl | (simp; done) | (simp [*]; done)), H', ⟨by have := HJ2.out; have := HK2.out; have := HK3.out; omega⟩, ⟨rx HO125⟩, ⟨bx BK118⟩, ⟨hb1 HB GE118⟩⟩
           ·rw [if_neg c20] at H; have c20b0 : decide (((rd_T53 l1 x10_3).f0) < ((rd_T53 l1 x10_3).f1)) = false := decide_eq_false c20; clear c20
            by_cases c30 : ((rd_T53 l1 x10_3).f1) < ((rd_T53 l1 x10_3).f0)
            ·rw [if_pos c30] at H; have c30b0 : decide (((rd_T53 l1 x10_3).f1) < ((rd_T53 l1 x10_3).f0)) = true := decide_eq_true c30; clear c30; replace H := Option.bind_eq_some_iff.mp H; obtain ⟨t129, A310, H⟩ := H; replace H : (tangramref03_Make.l1 k3 a0 l1 t129 (wrap64 (x10_3 + 1))) = some (r1, r2, r3) := H; have A31 := Aside0.mk A310; clear A310; have H' := Aside0.mk H; clear H; have p121 : 0 ≤ (x10_3 : Int) := of_decide_eq_true (by first | (with_reducible assumption) | assumption); have q121 : x10_3 < (l1.length : Int) := of_decide_eq_true (by first | (with_reducible assumption) | assumption); obtain ⟨ad121, e121, hx121_0, hx121_1⟩ := at_T53 HR1.out x10_3 p121 q121
             cases e121
             replace hx121_0 := (HB.out.cell (World.block_lt_of_cell? w _ hx121_0)).trans hx121_0; replace hx121_1 := (HB.out.cell (World.block_lt_of_cell? w _ hx121_1)).trans hx121_1; replace p121 := eq_true p121; replace q121 := eq_true q121; have p122 : 0 ≤ (x10_3 : Int) := of_decide_eq_true (by first | (with_reducible assumption) | assumption); have q122 : x10_3 < (l1.length : Int) := of_decide_eq_true (by first | (with_reducible assumption) | assumption); obtain ⟨ad122, e122, hx122_0, hx122_1⟩ := at_T53 HR1.out x10_3 p122 q122; obtain rfl : ad121 = ad122 := (by injection e122); replace hx122_0 := (HB.out.cell (World.block_lt_of_cell? w _ hx122_0)).trans hx122_0; replace hx122_1 := (HB.out.cell (World.block_lt_of_cell? w _ hx122_1)).trans hx122_1; replace p122 := eq_true p122; replace q122 := eq_true q122; obtain ⟨Ao32, co32, eo32⟩ := Kd.R_slice HO_9.out; subst eo32
             go_wp2_with (first | ((with_reducible refine gate_callee (f := 35) rfl ?_); refine gl_ (some 84) Tryd.func35 #[.slice Ao32 x9_3.length co32, .agg #[.int .i64 ((rd_T53 l1 x10_3).f1), .int .i64 ((rd_T53 l1 x10_3).f0)]] ?_; (with_reducible refine (tangramref03_Put.calls k3 (fun k_ => some k_ = (.slice Ao32 x9_3.length co32 : Value).ownBlock) (.slice Ao32 x9_3.length co32) x9_3 ((rd_T53 l1 x10_3).f1) ((rd_T53 l1 x10_3).f0) t129 w _ ?side1 ?side2 A31.out).mono ?_); (case side1 => repeat (first | (with_reducible first | exact HB.out | apply below_alloc | apply pw_below_drewN | apply below_drew1 | refine below_set ?_ GE118.out) | exact HB.out)); (case side2 => exact Kd.R_tight rfl HO_9.out); rintro e w33 ⟨v130, rfl, ho0, hb, hkp⟩; refine ⟨_, rfl, ?_⟩; have n0_ := Aside0.mk (blk_kept (bx BK118) hkp (fun hs_ => (fun e_ => (Kd.R_ne HO_9.out BK118.out (by decide)) e_) hs_)); have n1_ := Aside0.mk (Kd.R_mono (ok' := fun k_ => True) ho0 (fun k_ hk_ => trivial)); have n2_ := Aside0.mk (hb); clear BK118; clear HB; clear HO_9; have BK118 := n0_; have HO131 := n1_; have HB := n2_; clear n0_ n1_ n2_; (try clear hb); (try clear hkp); (try clear ho0)))
             go_roundg k3
             case measure => have := HJ2.out; have := HK2.out; have := HK3.out; omega
             case rel => exact ⟨(t129), (wrap64 (x10_3 + 1)), (by first | rfl | (simp; done) | (simp [*]; done)), H', ⟨by have := HJ2.out; have := HK2.out; have := HK3.out; omega⟩, ⟨rx HO131⟩, ⟨bx BK118⟩, ⟨hb1 HB GE118⟩⟩
            ·rw [if_neg c30] at H; have c30b0 : decide (((rd_T53 l1 x10_3).f1) < ((rd_T53 l1 x10_3).f0)) = false := decide_eq_false c30; clear c30; have H' := Aside0.mk H; clear H; have p121 : 0 ≤ (x10_3 : Int) := of_decide_eq_true (by first | (with_reducible assumption) | assumption); have q121 : x10_3 < (l1.length : Int) := of_decide_eq_true (by first | (with_reducible assumption) | assumption); obtain ⟨ad121, e121, hx121_0, hx121_1⟩ := at_T53 HR1.out x10_3 p121 q121
             cases e121
             replace hx121_0 := (HB.out.cell (World.block_lt_of_cell? w _ hx121_0)).trans hx121_0; replace hx121_1 := (HB.out.cell (World.block_lt_of_cell? w _ hx121_1)).trans hx121_1; replace p121 := eq_true p121; replace q121 := eq_true q121; have p122 : 0 ≤ (x10_3 : Int) := of_decide_eq_true (by first | (with_reducible assumption) | assumption); have q122 : x10_3 < (l1.length : Int) := of_decide_eq_true (by first | (with_reducible assumption) | assumption); obtain ⟨ad122, e122, hx122_0, hx122_1⟩ := at_T53 HR1.out x10_3 p122 q122; obtain rfl : ad121 = ad122 := (by injection e122); replace hx122_0 := (HB.out.cell (World.block_lt_of_cell? w _ hx122_0)).trans hx122_0; replace hx122_1 := (HB.out.cell (World.block_lt_of_cell? w _ hx122_1)).trans hx122_1; replace p122 := eq_true p122; replace q122 := eq_true q122
             go_wp2
             go_roundg k3
             case measure => have := HJ2.out; have := HK2.out; have := HK3.out; omega
             case rel => exact ⟨(x9_3), (wrap64 (x10_3 + 1)), (by first | rfl | (simp; done) | (simp [*]; done)), H', ⟨by have := HJ2.out; have := HK2.out; have := HK3.out; omega⟩, ⟨rx HO_9⟩, ⟨bx BK118⟩, ⟨hb1 HB GE118⟩⟩
          ·rw [if_neg c19] at H; exact absurd H (by simp)
         ·rw [if_neg c18] at H; have c18b0 : decide (x10_3 < (l1.length : Int)) = false := decide_eq_false c18; clear c18
          by_cases c34 : (x9_3.length : Int) > 4194304
          ·rw [if_pos c34] at H; have c34b0 : decide (4194304 < (x9_3.length : Int)) = true := decide_eq_true c34; have c34b1 : decide (4194304 < x9_3.length) = true := decide_eq_true (by omega); clear c34; simp only [Option.some.injEq, Prod.mk.injEq] at H; obtain ⟨rfl, rfl, rfl⟩ := H; obtain ⟨Ao35, co35, eo35⟩ := Kd.R_slice HO_9.out; subst eo35; have hcz36_0 : wr.cell? ⟨gb118, 0, none⟩ = some (.int .i64 x119000_2) := bc BK118 0; have hcz36_1 : wr.cell? ⟨gb118, 1, none⟩ = some (.slice none 0 0) := bc BK118 1; have hfz36_0 := blk_frozen BK118.out 0; have hfz36_1 := blk_frozen BK118.out 1
           go_wp2
           refine bodyPost_ret (results_ct rfl _ _ gb118 26 #[.int .i64 0, .slice none 0 0] (0, 0) _ rfl (bp BK118) Tryd.underlying26 rfl (by kernel_rfl)) rfl ?_; exact ⟨_, by first | rfl | (simp [errW_none, errW_some] <;> rfl) | (simp [*, errW_none, errW_some] <;> rfl), by first | exact Kd.R_nil _ _ _ _ _ | exact Kd.N_nil _ _ _ _ _ | exact Kd.V_nil _ _ _ _ _ | exact Kd.Q_nil _ _ _ _ _ | exact Kd.S_nil _ _ _ _ _, hb1 HB GE118⟩
          ·rw [if_neg c34] at H; have c34b0 : decide (4194304 < (x9_3.length : Int)) = false := decide_eq_false c34; have c34b1 : decide (4194304 < x9_3.length) = false := decide_eq_false (by omega); clear c34; simp only [Option.some.injEq, Prod.mk.injEq] at H; obtain ⟨rfl, rfl, rfl⟩ := H; obtain ⟨Ao37, co37, eo37⟩ := Kd.R_slice HO_9.out; subst eo37; have hcz38_0 : wr.cell? ⟨gb118, 0, none⟩ = some (.int .i64 x119000_2) := bc BK118 0; have hcz38_1 : wr.cell? ⟨gb118, 1, none⟩ = some (.slice none 0 0) := bc BK118 1; have hfz38_0 := blk_frozen BK118.out 0; have hfz38_1 := blk_frozen BK118.out 1
           go_wp2
           refine bodyPost_ret (results_ct rfl _ _ gb118 26 #[.int .i64 a0, .slice Ao37 x9_3.length co37] (0, 0) _ rfl (bp BK118) Tryd.underlying26 rfl (by kernel_rfl)) rfl ?_; exact ⟨_, by first | rfl | (simp [errW_none, errW_some] <;> rfl) | (simp [*, errW_none, errW_some] <;> rfl), Kd.R_mono (rf HO_9 BK118) (fun _ hk => trivial), hb1 HB GE118⟩

end Go.Proofs.YthejafdcdcchbaaDoor.PSimA
