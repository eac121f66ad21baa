import Derived.Test.YthfoliejhdpbaaaZPCroAx0
namespace Go.Proofs.Ythfoliejhdpbaaa.PCroA
open Go.RowKit Go.Proofs.YthfoliejhdpbaaaW.PrintWords Go.Proofs.YthfoliejhdpbaaaW.PrintLast Go.Proofs.YthfoliejhdpbaaaW.PrintMore
open Go.Proofs.YthfoliejhdpbaaaX
attribute [local go_sem] max2_int min2_int max_two min_two max_three min_three max_four min_four
set_option linter.unusedVariables false
set_option linter.unusedSimpArgs false

/-! ### tangramlaw26_graph: function 19 -/
def tangramlaw26_graph.f (a0_0 : Int) (l0_1 : List (S62)) : Option (Int × (List (S62))) := (some (([] : List (S62)) : List (S62))).bind fun y468 => (if y468.length + l0_1.length < 8796093022208 then (some (a0_0, (y468 ++ l0_1))) else (none))
def tangramlaw26_graph.T1 : Bool × List (List Nat × List Nat) := (true, [([], []), ([0], [0]), ([], []), ([], []), ([3], [3]), ([2, 4], [2, 4]), ([1, 5], [1, 5]), ([6, 5, 0, 1, 2, 3, 4, 5, 6], [6])])
def tangramlaw26_graph.B1 : List Nat := [0, 1, 0, 0, 8, 28, 63, 127]
theorem tangramlaw26_graph.tab1 : rtab .any (opsOf Try.f19 1) = tangramlaw26_graph.T1 := by kernel_rfl
theorem tangramlaw26_graph.bits1 : waitsOk tangramlaw26_graph.T1.2 tangramlaw26_graph.B1 = true := by kernel_rfl
set_option maxHeartbeats 8000000 in
set_option maxRecDepth 100000 in
theorem tangramlaw26_graph.calls (a0_0 : Int) (A0_1 : Option Addr) (c0_1 : Nat) (l0_1 : List (S62)) (r1 : Int) (r2 : List (S62)) (w : World) (hr0_1 : Kd.C k62 w A0_1 l0_1.length l0_1) (hc0_1 : l0_1.length ≤ c0_1) (h : tangramlaw26_graph.f a0_0 l0_1 = some (r1, r2)) :
  Calls Try.prog 19 #[.agg #[.int .i64 a0_0, .slice A0_1 l0_1.length c0_1]] w fun e w' => ∃ v1_ : Value, e = .returned (.agg #[.int .i64 r1, v1_]) ∧ Kd.R k62 62 w' w.heap.size (fun _ => True) v1_ r2 ∧ Below w.heap.size w w' := by
 have hu31 := Try.underlying31; have HR0_1 := Aside0.mk hr0_1; have HC0_1 := Aside0.mk hc0_1; clear hr0_1 hc0_1; have HB := Aside0.mk (Below.refl w.heap.size w); have H : ((some (([] : List (S62)) : List (S62))).bind fun y468 => (if y468.length + l0_1.length < 8796093022208 then (some (a0_0, (y468 ++ l0_1))) else (none))) = some (r1, r2) := h; clear h; obtain ⟨y468, hy468⟩ : ∃ y_ : List (S62), y_ = (([] : List (S62))) := ⟨_, rfl⟩; replace H : (if y468.length + l0_1.length < 8796093022208 then (some (a0_0, (y468 ++ l0_1))) else (none)) = some (r1, r2) := by first | (rw [hy468]; with_reducible exact H) | (have H2_ := (Option.bind_some _ _).symm.trans H; rw [hy468]; with_reducible exact H2_) | (have H2_ := (Option.bind_some _ _).symm.trans H; with_reducible exact H2_) | with_reducible exact H | (rw [hy468]; exact H) | exact H
 have Ny468 := Aside0.mk hy468; clear hy468
 by_cases c2 : y468.length + l0_1.length < 8796093022208
 ·rw [if_pos c2] at H; have LMc2 := Aside0.mk c2; clear c2; obtain ⟨y471, hy471⟩ : ∃ y_ : List (S62), y_ = (y468 ++ l0_1) := ⟨_, rfl⟩; replace H : (some (a0_0, y471)) = some (r1, r2) := by first | (rw [hy471]; with_reducible exact H) | (have H2_ := (Option.bind_some _ _).symm.trans H; rw [hy471]; with_reducible exact H2_) | (have H2_ := (Option.bind_some _ _).symm.trans H; with_reducible exact H2_) | with_reducible exact H | (rw [hy471]; exact H) | exact H
  have Ny471 := Aside0.mk hy471; clear hy471; simp only [Option.some.injEq, Prod.mk.injEq] at H; obtain ⟨rfl, rfl⟩ := H
  go_enter Try.func19, Try.ntmps19
  try go_wp2_with (first | ((with_reducible refine gate_dst (N := 1) rfl ?_); refine be_ 1 #[.int .i64 a0_0, .slice A0_1 l0_1.length c0_1] 31 ?_; intro gb466 hg w3 hbox hb; have BK466 := Aside0.mk (hbox); have GW466 := wq (hb0 HB) hg; have GE466 := wq (hb0 HB) hg; replace HB := hs (hb0 HB) hb; clear hb hbox hg) | ((with_reducible refine gate_dst (N := 2) rfl ?_); refine be_ 2 #[.int .i64 0, .slice none 0 0] 31 ?_; intro gb467 hg w4 hbox hb; have BK467 := Aside0.mk (hbox); have GW467 := wq (hb1 HB GE466) hg; have GE467 := wq (hb1 HB GE466) hg; replace HB := hs (hb1 HB GE466) hb; have NB466_467 := lx BK466 hg; have NB467_466 := gx BK466 hg; replace BK466 := kx BK466 hb; clear hb hbox hg))
  replace BK466 := bd BK466; replace BK467 := bd BK467; replace HB := Aside0.mk (below_drew1 HB.out); refine start_ (n := 8) (S := fun w' => w'.cell? ⟨gb466, 0, none⟩ = some (.int .i64 a0_0) ∧ w'.cell? ⟨gb466, 1, none⟩ = some (.slice A0_1 l0_1.length c0_1)) (ds := []) (pf 0 8) (by kernel_rfl) rfl rfl ⟨bc BK466 0, bc BK466 1⟩ (fun hHeld => ?_); refine with_tabW tangramlaw26_graph.tab1 tangramlaw26_graph.bits1 (fun HT_ HW_ => ?_); generalize w4.drew = w5 at BK466 BK467 HB hHeld ⊢; refine pu_ 0 (some 3) (pf 1 8) HT_ ?_; refine pu_ 3 (some 6) #[T_,F_,F_,T_,F_,F_,F_,F_] HT_ ?_; refine tk2_ 1 (some 4) #[T_,T_,F_,T_,F_,F_,F_,F_] HT_ HW_ hHeld ?_; refine tk2_ 4 (some 7) #[T_,T_,F_,T_,T_,F_,F_,F_] HT_ HW_ hHeld ?_; refine on_ 2 (some 5) (pf 5 8) HT_ (fun K hK => ?_); refine Kd.R_lit_step k62 _ 62 ?hg (N := 5) ?hd (xs := ([] : List (S62))) (inner := []) (ok := fun _ => True) (okp := fun _ => True) ?hr ?hp (fun _ hk => hk) trivial (Below.refl _ _) (Nat.le_refl _) (by simp) ?_; (case hd => rfl); (case hg => rfl); (case hr => first | (go_simp; done) | (go_simp; rfl)); (case hp => exact (Reps.none _ _)); intro v469 w6 ho7 hb hg_ hnew_; clear hg_ hnew_
  (first | rw [← Ny468.out] at ho7 | (simp only [Int.reduceToNat] at ho7; rw [← Ny468.out] at ho7))
  have HO470 := Aside0.mk (Kd.R_lower ho7 (below_size (hb2 HB GE466 GE467))); replace BK466 := kx BK466 hb; replace BK467 := kx BK467 hb; replace HB := hs (hb2 HB GE466 GE467) hb; clear hb ho7; refine hK.out _ _ ⟨bc BK466 0, bc BK466 1⟩ (fun hHeld => ?_); clear hK K; refine nm_ (some 5) ?_; refine on_ 5 (some 8) (pf 6 8) HT_ (fun K hK => ?_); refine Kd.R_append_rows_step k62 (w0 := w) w.heap.size (by rfl) (.tmp 5) (.tmp 7) 29 62 (.agg #[(.int .i64 0), (.int .i64 0)]) 16 rfl Try.underlying29 info62 rfl (by decide) (by omega) v469 y468 l0_1 _ _ _ (fun _ => True) (fun _ => False) rfl rfl ?aO ?aR (fun _ _ h => h) (fun _ h => h.elim) ?aF ?aB ?aS ?aL ?_
  (case aR => repeat (first | exact (Kd.C_below HR0_1.out HB.out) | (with_reducible refine Kd.C_alloc ?_ _) | (with_reducible refine Kd.C_drewN ?_ _) | (with_reducible refine Kd.C_drew ?_)))
  (case aB => exact (hb2 HB GE466 GE467))
  (case aF => exact (fun _ _ => trivial))
  (case aO => exact (rx HO470))
  (case aS => exact (below_size (hb2 HB GE466 GE467)))
  (case aL => have := LMc2.out; omega)
  intro v472 w8 ho hb hg hat; rw [← Ny471.out] at ho; have n0_ := Aside0.mk (blk_grown (bx BK466) hg (Kd.R_ne HO470.out BK466.out (by decide))); have n1_ := Aside0.mk (blk_grown (bx BK467) hg (Kd.R_ne HO470.out BK467.out (by decide))); have n2_ := Aside0.mk (hb); have n3_ := Aside0.mk (ho); clear BK466 BK467 HB HO470; have BK466 := n0_; have BK467 := n1_; have HB := n2_; have HO473 := n3_; clear n0_ n1_ n2_ n3_ ho hb hg hat; obtain ⟨Ao9, co9, eo9⟩ := Kd.R_slice HO473.out
  (first | subst eo9 | obtain ⟨rfl, rfl⟩ := sx eo9)
  refine hK.out _ _ ⟨bc BK466 0, bc BK466 1⟩ (fun hHeld => ?_); clear hK K; refine nm_ (some 8) ?_; refine pu_ 6 (some 9) (pf 7 8) HT_ ?_; refine on_ 7 none (pf 8 8) HT_ (fun K hK => ?_); have hs10 : w8.cell? ⟨gb467, 0, none⟩ = some (.int .i64 0) := bc BK467 0; have hfs10 := blk_frozen BK467.out 0; have hns10_0 := NB466_467.out; have hms10_0 := NB467_466.out; have hs11 : w8.cell? ⟨gb467, 1, none⟩ = some (.slice none 0 0) := bc BK467 1; have hfs11 := blk_frozen BK467.out 1; have hns11_0 := NB466_467.out; have hms11_0 := NB467_466.out; refine skip_ (w1 := ?_) (by rfl) rfl ?_ ?_; rotate_left
  ·go_simp; rfl
  refine hK.out _ _ ⟨((cell_far (p := ⟨gb467, _, none⟩) NB466_467.out _).trans (((cell_far (p := ⟨gb467, _, none⟩) NB466_467.out _).trans (hHeld.1)))), ((cell_far (p := ⟨gb467, _, none⟩) NB466_467.out _).trans (((cell_far (p := ⟨gb467, _, none⟩) NB466_467.out _).trans (hHeld.2))))⟩ (fun hHeld => ?_); clear hK K; refine done_ (done_of HT_.out (by kernel_rfl)) ?_
  try go_wp2
  refine bodyPost_ret (results_cell_row rfl _ _ gb467 31 #[.int .i64 a0_0, .slice Ao9 y471.length co9] (0, 0) _ rfl (bp BK467) Try.underlying31 rfl (by kernel_rfl)) rfl ?_; exact ⟨_, by rfl, Kd.R_mono (rf HO473 BK467) (fun _ hk => trivial), hb2 HB GE466 GE467⟩
 ·rw [if_neg c2] at H; exact absurd H (by simp)

end Go.Proofs.Ythfoliejhdpbaaa.PCroA
