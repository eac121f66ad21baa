-- PRINTED by print.py (a twelfth state) out of the translation. Not trusted: Lean checks it.
import Derived.Test.YtdaeaejmikhmcaaZPEditCx0
import Derived.Test.YtdaeaejmikhmcaaZPEditCx23
namespace Go.Proofs.Ytdaeaejmikhmcaa.PEditC
open Go.RowKit Go.Proofs.YtdaeaejmikhmcaaW.PrintWords Go.Proofs.YtdaeaejmikhmcaaW.PrintLast Go.Proofs.YtdaeaejmikhmcaaW.PrintMore
open Go.Proofs.YtdaeaejmikhmcaaX
attribute [local go_sem] max2_int min2_int max_two min_two max_three min_three max_four min_four   -- for this text's walks alone
set_option linter.unusedVariables false
set_option linter.unusedSimpArgs false

/-! ### tangramref14_Copy: function 19 -/
def tangramref14_Copy.f (a0_0 : Int) (l0_1 : List (S46)) : Option (Int × (List (S46))) := (tangramref14_kept.f l0_1).bind fun t294 => (some (a0_0, t294))
set_option maxHeartbeats 8000000 in
set_option maxRecDepth 100000 in
theorem tangramref14_Copy.calls (a0_0 : Int) (A0_1 : Option Addr) (c0_1 : Nat) (l0_1 : List (S46)) (r1 : Int) (r2 : List (S46)) (w : World) (hr0_1 : Kd.C k46 w A0_1 l0_1.length l0_1) (hc0_1 : l0_1.length ≤ c0_1) (h : tangramref14_Copy.f a0_0 l0_1 = some (r1, r2)) :
  Calls Try.prog 19 #[.agg #[.int .i64 a0_0, .slice A0_1 l0_1.length c0_1]] w fun e w' => ∃ v1_ : Value, e = .returned (.agg #[.int .i64 r1, v1_]) ∧ Kd.R k46 46 w' w.heap.size (fun _ => True) v1_ r2 ∧ Below w.heap.size w w' := by
 have hu25 := Try.underlying25; have HR0_1 := Aside0.mk hr0_1; have HC0_1 := Aside0.mk hc0_1; clear hr0_1 hc0_1; have HB := Aside0.mk (Below.refl w.heap.size w); have H : ((tangramref14_kept.f l0_1).bind fun t294 => (some (a0_0, t294))) = some (r1, r2) := h; clear h; replace H := Option.bind_eq_some_iff.mp H; obtain ⟨t294, A20, H⟩ := H; replace H : (some (a0_0, t294)) = some (r1, r2) := H; have A2 := Aside0.mk A20; clear A20; simp only [Option.some.injEq, Prod.mk.injEq] at H; obtain ⟨rfl, rfl⟩ := H
 go_enter Try.func19, Try.ntmps19
 try go_wp2_with (first | ((with_reducible refine gate_dst (N := 1) rfl ?_); refine be_ 1 #[.int .i64 a0_0, .slice A0_1 l0_1.length c0_1] 25 ?_; intro gb292 hg w3 hbox hb; have BK292 := Aside0.mk (hbox); have GW292 := wq (hb0 HB) hg; have GE292 := wq (hb0 HB) hg; replace HB := hs (hb0 HB) hb; clear hb hbox hg) | ((with_reducible refine gate_dst (N := 2) rfl ?_); refine be_ 2 #[.int .i64 0, .slice none 0 0] 25 ?_; intro gb293 hg w4 hbox hb; have BK293 := Aside0.mk (hbox); have GW293 := wq (hb1 HB GE292) hg; have GE293 := wq (hb1 HB GE292) hg; replace HB := hs (hb1 HB GE292) hb; have NB292_293 := lx BK292 hg; have NB293_292 := gx BK292 hg; replace BK292 := kx BK292 hb; clear hb hbox hg))
 replace BK292 := bd BK292; replace BK293 := bd BK293; replace HB := Aside0.mk (below_drew1 HB.out); refine start_ (n := 7) (S := fun w' => w'.cell? ⟨gb292, 0, none⟩ = some (.int .i64 a0_0) ∧ w'.cell? ⟨gb292, 1, none⟩ = some (.slice A0_1 l0_1.length c0_1)) (ds := []) (pf 0 7) (by kernel_rfl) rfl rfl ⟨bc BK292 0, bc BK292 1⟩ (fun hHeld => ?_); generalize w4.drew = w5 at BK292 BK293 HB hHeld ⊢; refine pure_ (i := 0) (N := some 3) (v := ?_) (a' := ?_) (pf 1 7) rfl rfl (by kernel_rfl) (fun _ _ _ h => h) (Or.inl ⟨by rfl, ?_⟩) ?_ ?_; rotate_left
 ·intro w'; go_simp
  with_reducible rfl
 rotate_left
 ·simp only [Act.put, List.setIfInBounds_toArray, List.set_cons_zero, List.set_cons_succ, i64_w, i32_w]; rfl
 refine pure_ (i := 2) (N := some 5) (v := ?_) (a' := ?_) #[T_,F_,T_,F_,F_,F_,F_] rfl rfl (by kernel_rfl) (fun _ _ _ h => h) (Or.inl ⟨by rfl, ?_⟩) ?_ ?_; rotate_left
 ·intro w'; go_simp
  with_reducible rfl
 rotate_left
 ·simp only [Act.put, List.setIfInBounds_toArray, List.set_cons_zero, List.set_cons_succ, i64_w, i32_w]; rfl
 refine take_ (i := 1) (N := some 4) (v := ?_) (a' := ?_) (pf 3 7) rfl rfl (by kernel_rfl) (fun _ _ _ h => h) (Or.inl ⟨by rfl, ?_⟩) hHeld ?_ ?_; rotate_left
 ·rintro w' ⟨s0, s1⟩; go_simp
  with_reducible rfl
 rotate_left
 ·simp only [Act.put, List.setIfInBounds_toArray, List.set_cons_zero, List.set_cons_succ, i64_w, i32_w]; rfl
 refine take_ (i := 3) (N := some 6) (v := ?_) (a' := ?_) (pf 4 7) rfl rfl (by kernel_rfl) (fun _ _ _ h => h) (Or.inl ⟨by rfl, ?_⟩) hHeld ?_ ?_; rotate_left
 ·rintro w' ⟨s0, s1⟩; go_simp
  with_reducible rfl
 rotate_left
 ·simp only [Act.put, List.setIfInBounds_toArray, List.set_cons_zero, List.set_cons_succ, i64_w, i32_w]; rfl
 refine one_ (i := 4) (N := some 7) (pf 5 7) rfl rfl (by kernel_rfl) (by decide) (fun K hK => ?_); refine gs_ Try.func41 #[.slice A0_1 l0_1.length c0_1] ?_
 with_reducible refine (tangramref14_kept.calls _ _ l0_1 t294 _ ?side1 ?side2 A2.out).mono ?_
 (case side1 => repeat (first | exact (Kd.C_below HR0_1.out HB.out) | (with_reducible refine Kd.C_alloc ?_ _) | (with_reducible refine Kd.C_drewN ?_ _) | (with_reducible refine Kd.C_drew ?_)))
 (case side2 => exact HC0_1.out)
 rintro e w6 ⟨v295, rfl, ho0, hb⟩; refine ⟨_, rfl, ?_⟩; have HO296 := Aside0.mk (Kd.R_lower ho0 (below_size (hb2 HB GE292 GE293))); replace BK292 := kx BK292 hb; replace BK293 := kx BK293 hb; replace HB := hs (hb2 HB GE292 GE293) hb
 (try clear hb)
 (try clear hb2)
 (try clear hk)
 (try clear hi)
 (try clear ho0)
 obtain ⟨Ao7, co7, eo7⟩ := Kd.R_slice HO296.out
 (first | subst eo7 | obtain ⟨rfl, rfl⟩ := sx eo7)
 refine hK.out _ _ ⟨bc BK292 0, bc BK292 1⟩ (fun hHeld => ?_); clear hK K; refine nm_ (some 7) ?_; refine pure_ (i := 5) (N := some 8) (v := ?_) (a' := ?_) (pf 6 7) rfl rfl (by kernel_rfl) (fun _ _ _ h => h) (Or.inl ⟨by rfl, ?_⟩) ?_ ?_; rotate_left
 ·intro w'; go_simp
  with_reducible rfl
 rotate_left
 ·simp only [Act.put, List.setIfInBounds_toArray, List.set_cons_zero, List.set_cons_succ, i64_w, i32_w]; rfl
 refine one_ (i := 6) (N := none) (pf 7 7) rfl rfl (by kernel_rfl) (by decide) (fun K hK => ?_); have hs8 : w6.cell? ⟨gb293, 0, none⟩ = some (.int .i64 0) := bc BK293 0; have hfs8 := blk_frozen BK293.out 0; have hns8_0 := NB292_293.out; have hms8_0 := NB293_292.out; have hs9 : w6.cell? ⟨gb293, 1, none⟩ = some (.slice none 0 0) := bc BK293 1; have hfs9 := blk_frozen BK293.out 1; have hns9_0 := NB292_293.out; have hms9_0 := NB293_292.out; refine skip_ (w1 := ?_) (by rfl) rfl ?_ ?_; rotate_left
 ·go_simp; rfl
 refine hK.out _ _ ⟨((cell_far (p := ⟨gb293, _, none⟩) NB292_293.out _).trans (((cell_far (p := ⟨gb293, _, none⟩) NB292_293.out _).trans (hHeld.1)))), ((cell_far (p := ⟨gb293, _, none⟩) NB292_293.out _).trans (((cell_far (p := ⟨gb293, _, none⟩) NB292_293.out _).trans (hHeld.2))))⟩ (fun hHeld => ?_); clear hK K; refine done_ (by kernel_rfl) ?_
 try go_wp2
 refine bodyPost_ret (results_cell_row rfl _ _ gb293 25 #[.int .i64 a0_0, .slice Ao7 t294.length co7] (0, 0) _ rfl (bp BK293) Try.underlying25 rfl (by kernel_rfl)) rfl ?_; exact ⟨_, by first | rfl | (simp [errW_none, errW_some] <;> rfl) | (simp [*, errW_none, errW_some] <;> rfl), Kd.R_mono (rf HO296 BK293) (fun _ hk => trivial), hb2 HB GE292 GE293⟩

end Go.Proofs.Ytdaeaejmikhmcaa.PEditC
