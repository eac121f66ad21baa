-- PRINTED by print.py (a twelfth state) out of the translation. Not trusted: Lean checks it.
import Derived.Test.YtdaeaejmikhmcaaZPEditCx0
import Derived.Test.YtdaeaejmikhmcaaZPEditCx44
namespace Go.Proofs.Ytdaeaejmikhmcaa.PEditC
open Go.RowKit Go.Proofs.YtdaeaejmikhmcaaW.PrintWords Go.Proofs.YtdaeaejmikhmcaaW.PrintLast Go.Proofs.YtdaeaejmikhmcaaW.PrintMore
open Go.Proofs.YtdaeaejmikhmcaaX
attribute [local go_sem] max2_int min2_int max_two min_two max_three min_three max_four min_four   -- for this text's walks alone
set_option linter.unusedVariables false
set_option linter.unusedSimpArgs false

/-! ### edit_keptSub: function 95 -/
def edit_keptSub.l0 : Nat → List Bool → List (S46) → List (S46) → Int → Int → Option ((List (S46)))
 | 0, _, _, _, _, _ => none
 | k + 1, x1, x5, x9, x10, x11 => if x11 < x10 then (if 0 ≤ x11 then (if x11 < (x9.length : Int) then ((edit_Sub_c1.f x11 ((rd_T46 x9 x11).f0) ((rd_T46 x9 x11).f1) x1).bind fun t746 => (if t746 = true then (if x5.length < 8796093022208 then (edit_keptSub.l0 k x1 (x5 ++ [(⟨(rd_T46 x9 x11).f0, (rd_T46 x9 x11).f1⟩ : S46)]) x9 x10 (wrap64 (x11 + 1))) else (none)) else (edit_keptSub.l0 k x1 x5 x9 x10 (wrap64 (x11 + 1))))) else (none)) else (none)) else (some x5)
def edit_keptSub.f (k : Nat) (a0_0 : Int) (l0_1 : List (S46)) (l1 : List Bool) : Option ((List (S46))) := edit_keptSub.l0 k l1 ([] : List (S46)) l0_1 (l0_1.length : Int) 0
theorem edit_keptSub.mono_l : ∀ k, (∀ y0 y1 y2 y3 y4, LeO (edit_keptSub.l0 k y0 y1 y2 y3 y4) (edit_keptSub.l0 (k + 1) y0 y1 y2 y3 y4))
 | 0 => fun _ _ _ _ _ r h => by simp [edit_keptSub.l0] at h
 | k + 1 => by
  have ih0 := edit_keptSub.mono_l k
  ·intro y0 y1 y2 y3 y4
   unfold edit_keptSub.l0
   repeat' first
   | (with_reducible exact ih0 _ _ _ _ _)
   | (with_reducible exact LeO.refl _)
   | (with_reducible exact LeO.none _)
   | (with_reducible refine LeO.ite ?_ ?_)
   | (with_reducible refine LeO.bind ?_ (fun _ => ?_))
   | exact ih0 _ _ _ _ _
   | exact LeO.none _
   | refine LeO.ite ?_ ?_
   | refine LeO.bind ?_ (fun _ => ?_)
theorem edit_keptSub.mono : ∀ a0 a1 a2 k, LeO (edit_keptSub.f k a0 a1 a2) (edit_keptSub.f (k + 1) a0 a1 a2) := by
 intro a0 a1 a2 k; have ih0 := edit_keptSub.mono_l k
 unfold edit_keptSub.f
 repeat' first
   | (with_reducible exact ih0 _ _ _ _ _)
   | (with_reducible exact LeO.refl _)
   | (with_reducible exact LeO.none _)
   | (with_reducible refine LeO.ite ?_ ?_)
   | (with_reducible refine LeO.bind ?_ (fun _ => ?_))
   | exact ih0 _ _ _ _ _
   | exact LeO.none _
   | refine LeO.ite ?_ ?_
   | refine LeO.bind ?_ (fun _ => ?_)
set_option maxHeartbeats 8000000 in
set_option maxRecDepth 100000 in
theorem edit_keptSub.calls (k : Nat) (a0_0 : Int) (A0_1 : Option Addr) (c0_1 : Nat) (l0_1 : List (S46)) (A1 : Option Addr) (c1 : Nat) (l1 : List Bool) (r : List (S46)) (w : World) (hr0_1 : Kd.C k46 w A0_1 l0_1.length l0_1) (hc0_1 : l0_1.length ≤ c0_1) {g1 : Nat} (hr1 : BxB w g1 A1 c1 l1) (hc1 : l1.length ≤ c1) (h : edit_keptSub.f k a0_0 l0_1 l1 = some r) :
  Calls Try.prog 42 #[.agg #[.int .i64 a0_0, .slice A0_1 l0_1.length c0_1], .func (Fn.func 43) #[] #[.pointer (some ⟨g1, 0, none⟩)]] w fun e w' => ∃ v0_ : Value, e = .returned (v0_) ∧ Kd.R k46 46 w' w.heap.size (fun _ => True) v0_ r ∧ Below w.heap.size w w' := by
 have hu25 := Try.underlying25; have hu46 := Try.underlying46; have HR0_1 := Aside0.mk hr0_1; have HC0_1 := Aside0.mk hc0_1; clear hr0_1 hc0_1; have HR1 := Aside0.mk hr1; have HC1 := Aside0.mk hc1; clear hr1 hc1; have HB := Aside0.mk (Below.refl w.heap.size w); have H : (edit_keptSub.l0 k l1 ([] : List (S46)) l0_1 (l0_1.length : Int) 0) = some r := h; clear h; have H' := Aside0.mk H; clear H
 go_enter Try.func42, Try.ntmps42
 go_wp2_with (first | ((with_reducible refine gate_dst (N := 2) rfl ?_); refine be_ 2 #[.int .i64 a0_0, .slice A0_1 l0_1.length c0_1] 25 ?_; intro gb743 hg w3 hbox hb; have BK743 := Aside0.mk (hbox); have GW743 := wq (hb0 HB) hg; have GE743 := wq (hb0 HB) hg; replace HB := hs (hb0 HB) hb; clear hb hbox hg; have hcz4_0 : w3.cell? ⟨gb743, 0, none⟩ = some (.int .i64 a0_0) := bc BK743 0; have hcz4_1 : w3.cell? ⟨gb743, 1, none⟩ = some (.slice A0_1 l0_1.length c0_1) := bc BK743 1; have hfz4_0 := blk_frozen BK743.out 0; have hfz4_1 := blk_frozen BK743.out 1))
 go_loopg [5, 11] k (fun kq v5 v11 w' => ∃ (x5_1 : List (S46)) (x11_1 : Int), v11 = .int .i64 x11_1 ∧ Aside0 (edit_keptSub.l0 kq l1 x5_1 l0_1 (l0_1.length : Int) x11_1 = some r) ∧ Aside0 (kq ≤ k) ∧ Aside0 (Kd.R k46 46 w' w.heap.size (fun _ => True) v5 x5_1) ∧ Aside0 (w'.heap[gb743]? = some (.cells #[.int .i64 a0_0, (.slice A0_1 l0_1.length c0_1)] 25 (0, 0))) ∧ Aside0 (Below w.heap.size w w'))
 case atStart => exact ⟨(([] : List (S46))), (0), (by first | rfl | (simp; done) | (simp [*]; done)), H', ⟨Nat.le_refl _⟩, ⟨by first | exact Kd.R_nil _ _ _ _ _ | exact Kd.N_nil _ _ _ _ _ | exact Kd.V_nil _ _ _ _ _ | exact Kd.Q_nil _ _ _ _ _ | exact Kd.S_nil _ _ _ _ _⟩, ⟨bx BK743⟩, ⟨hb1 HB GE743⟩⟩
 case round =>
  clear H'
  try clear c1
  try clear p2
  try clear hcz4_0
  try clear hcz4_1
  try clear hfz4_0
  try clear hfz4_1
  obtain ⟨x5_1, x11_1, rfl, HA, HK1, HO_5, BK743, HB⟩ := hrel
  cases gk with
  | zero => exact absurd HA.out (by simp [edit_keptSub.l0])
  | succ k1 =>
   have H := HA.out; clear HA; simp only [edit_keptSub.l0] at H
   by_cases c5 : x11_1 < (l0_1.length : Int)
   ·rw [if_pos c5] at H; have c5b0 : decide (x11_1 < (l0_1.length : Int)) = true := decide_eq_true c5; clear c5
    by_cases c6 : 0 ≤ x11_1
    ·rw [if_pos c6] at H; have c6b0 : decide (0 ≤ x11_1) = true := decide_eq_true c6; clear c6
     by_cases c7 : x11_1 < (l0_1.length : Int)
     ·rw [if_pos c7] at H; have c7b0 : decide (x11_1 < (l0_1.length : Int)) = true := decide_eq_true c7; clear c7; replace H := Option.bind_eq_some_iff.mp H; obtain ⟨t746, A80, H⟩ := H; (try dsimp only at H); have A8 := Aside0.mk A80; clear A80
      by_cases c9 : t746 = true
      ·subst c9; rw [if_pos rfl] at H
       by_cases c10 : x5_1.length < 8796093022208
       ·rw [if_pos c10] at H; have LMc10 := Aside0.mk c10; clear c10; obtain ⟨y747, hy747⟩ : ∃ y_ : List (S46), y_ = (x5_1 ++ [(⟨(rd_T46 l0_1 x11_1).f0, (rd_T46 l0_1 x11_1).f1⟩ : S46)]) := ⟨_, rfl⟩; replace H : (edit_keptSub.l0 k1 l1 y747 l0_1 (l0_1.length : Int) (wrap64 (x11_1 + 1))) = some r := by first | (rw [hy747]; with_reducible exact H) | (have H2_ := (Option.bind_some _ _).symm.trans H; rw [hy747]; with_reducible exact H2_) | (have H2_ := (Option.bind_some _ _).symm.trans H; with_reducible exact H2_) | with_reducible exact H | (rw [hy747]; exact H) | exact H
        have Ny747 := Aside0.mk hy747; clear hy747; have H' := Aside0.mk H; clear H; have p744 : 0 ≤ (x11_1 : Int) := of_decide_eq_true (by first | (with_reducible assumption) | assumption); have q744 : x11_1 < (l0_1.length : Int) := of_decide_eq_true (by first | (with_reducible assumption) | assumption); obtain ⟨ad744, e744, hx744_0, hx744_1⟩ := at_T46 HR0_1.out x11_1 p744 q744
        cases e744
        replace hx744_0 := (HB.out.cell (World.block_lt_of_cell? w _ hx744_0)).trans hx744_0; replace hx744_1 := (HB.out.cell (World.block_lt_of_cell? w _ hx744_1)).trans hx744_1; replace p744 := eq_true p744; replace q744 := eq_true q744
        go_wp2_with (first | ((with_reducible refine gate_dst (N := 7) rfl ?_); refine be_ 7 #[.int .i64 0, .int .i64 0] 46 ?_; intro gb745 hg w11 hbox hb; replace HO_5 := Aside0.mk (Kd.R_below (Kd.R_elderB (rx HO_5) gb745 (Nat.le_of_eq hg.symm)) hb); have BK745 := Aside0.mk (hbox); have GW745 := wq (hb1 HB GE743) hg; have GE745 := wq (hb1 HB GE743) hg; replace HB := hs (hb1 HB GE743) hb; have NB743_745 := lx BK743 hg; have NB745_743 := gx BK743 hg; replace BK743 := kx BK743 hb; clear hb hbox hg; have hnb12 := NB745_743.out; have hnc12 := NB743_745.out; have hcz13_0 : w11.cell? ⟨gb745, 0, none⟩ = some (.int .i64 0) := bc BK745 0; have hcz13_1 : w11.cell? ⟨gb745, 1, none⟩ = some (.int .i64 0) := bc BK745 1; have hfz13_0 := blk_frozen BK745.out 0; have hfz13_1 := blk_frozen BK745.out 1) | (go_at_call 43; (with_reducible refine (edit_Sub_c1.calls x11_1 ((rd_T46 l0_1 x11_1).f0) ((rd_T46 l0_1 x11_1).f1) A1 c1 l1 true _ ?side1 ?side2 A8.out).mono ?_); (case side1 => exact BxB.below HR1.out (hb2 HB GE743 GE745)); (case side2 => exact HC1.out); rintro e w14 ⟨rfl, hb⟩; replace HO_5 := Aside0.mk (Kd.R_below (by (with_reducible repeat (first | apply Kd.R_alloc | apply Kd.R_drewN | apply Kd.R_drew)); exact (Kd.R_mono (Kd.R_far (p := ⟨gb745, 1, none⟩) (Kd.R_far (p := ⟨gb745, 0, none⟩) (Kd.R_mono HO_5.out (fun k_ hk => (⟨hk, hk.2⟩ : _ ∧ k_ ≠ gb745))) (fun _ hk => hk.2) (.int .i64 ((rd_T46 l0_1 x11_1).f0))) (fun _ hk => hk.2) (.int .i64 ((rd_T46 l0_1 x11_1).f1))) (fun _ h_ => h_.1))) hb); replace BK743 := kb (bx1 BK743 NB743_745) hb; replace BK745 := Aside0.mk (blk_below (g := gb745) (o := .cells #[.int .i64 ((rd_T46 l0_1 x11_1).f0), .int .i64 ((rd_T46 l0_1 x11_1).f1)] 46 (0, 0)) (bp BK745) hb); replace HB := hs (hb2 HB GE743 GE745) hb; (try clear hb); (try clear hb2); (try clear hk); (try clear hi); have hcz15_0 : w14.cell? ⟨gb745, 0, none⟩ = some (.int .i64 ((rd_T46 l0_1 x11_1).f0)) := bc BK745 0; have hcz15_1 : w14.cell? ⟨gb745, 1, none⟩ = some (.int .i64 ((rd_T46 l0_1 x11_1).f1)) := bc BK745 1; have hfz15_0 := blk_frozen BK745.out 0; have hfz15_1 := blk_frozen BK745.out 1) | ((with_reducible refine gate_builtin (b := .append) (xs := #[.tmp 20, .tmp 22]) rfl ?_); at_builtin; refine Kd.R_append k46 (w0 := w) w.heap.size rfl (.tmp 20) (.tmp 22) 23 46 (.agg #[(.int .i64 0), (.int .i64 0)]) 16 rfl Try.underlying23 info46 rfl (by decide) (by omega) u5 x5_1 (⟨(rd_T46 l0_1 x11_1).f0, (rd_T46 l0_1 x11_1).f1⟩ : S46) [.int .i64 ((rd_T46 l0_1 x11_1).f0), .int .i64 ((rd_T46 l0_1 x11_1).f1)] (fun k_ => k_ ≠ gb745) (fun _ => False) rfl rfl ?aP (fun _ hk => hk.elim) ?aF ?aO ?aB ?aS ?aL ?_; (case aP => exact k46_mkM _ _ _ (⟨(rd_T46 l0_1 x11_1).f0, (rd_T46 l0_1 x11_1).f1⟩ : S46)); (case aB => exact (hb2 HB GE743 GE745)); (case aF => exact (fun k_ hk => Kd.freshB (bx BK745) k_ hk)); (case aO => exact (Kd.R_mono (rx HO_5) (fun _ hk => hk.2))); (case aS => exact (below_size (hb2 HB GE743 GE745))); (case aL => have := LMc10.out; omega); intro v748 w16 ho hb hg hat; rw [← Ny747.out] at ho; have n0_ := Aside0.mk (blk_grown (bx BK743) hg (Kd.R_ne HO_5.out BK743.out (by decide))); have n1_ := Aside0.mk (blk_grown (bx BK745) hg (Kd.R_away HO_5.out (fun _ hk => hk.2))); have n2_ := Aside0.mk (hb); have n3_ := Aside0.mk (ho); clear BK743; clear BK745; clear HB; clear HO_5; have BK743 := n0_; have BK745 := n1_; have HB := n2_; have HO749 := n3_; clear n0_ n1_ n2_ n3_; clear ho hb hg hat))
        go_roundg k1
        case measure => have := HK1.out; omega
        case rel => exact ⟨(y747), (wrap64 (x11_1 + 1)), (by first | rfl | (simp; done) | (simp [*]; done)), H', ⟨by have := HK1.out; omega⟩, ⟨Kd.R_mono (rx HO749) (fun _ hk => trivial)⟩, ⟨bx BK743⟩, ⟨hb2 HB GE743 GE745⟩⟩
       ·rw [if_neg c10] at H; exact absurd H (by simp)
      ·replace c9 := Bool.eq_false_iff.mpr c9; subst c9; rw [if_neg (show ¬ (false = true) by decide)] at H; have H' := Aside0.mk H; clear H; have p744 : 0 ≤ (x11_1 : Int) := of_decide_eq_true (by first | (with_reducible assumption) | assumption); have q744 : x11_1 < (l0_1.length : Int) := of_decide_eq_true (by first | (with_reducible assumption) | assumption); obtain ⟨ad744, e744, hx744_0, hx744_1⟩ := at_T46 HR0_1.out x11_1 p744 q744
       cases e744
       replace hx744_0 := (HB.out.cell (World.block_lt_of_cell? w _ hx744_0)).trans hx744_0; replace hx744_1 := (HB.out.cell (World.block_lt_of_cell? w _ hx744_1)).trans hx744_1; replace p744 := eq_true p744; replace q744 := eq_true q744
       go_wp2_with (first | ((with_reducible refine gate_dst (N := 7) rfl ?_); refine be_ 7 #[.int .i64 0, .int .i64 0] 46 ?_; intro gb745 hg w17 hbox hb; replace HO_5 := Aside0.mk (Kd.R_below (Kd.R_elderB (rx HO_5) gb745 (Nat.le_of_eq hg.symm)) hb); have BK745 := Aside0.mk (hbox); have GW745 := wq (hb1 HB GE743) hg; have GE745 := wq (hb1 HB GE743) hg; replace HB := hs (hb1 HB GE743) hb; have NB743_745 := lx BK743 hg; have NB745_743 := gx BK743 hg; replace BK743 := kx BK743 hb; clear hb hbox hg; have hnb18 := NB745_743.out; have hnc18 := NB743_745.out; have hcz19_0 : w17.cell? ⟨gb745, 0, none⟩ = some (.int .i64 0) := bc BK745 0; have hcz19_1 : w17.cell? ⟨gb745, 1, none⟩ = some (.int .i64 0) := bc BK745 1; have hfz19_0 := blk_frozen BK745.out 0; have hfz19_1 := blk_frozen BK745.out 1) | (go_at_call 43; (with_reducible refine (edit_Sub_c1.calls x11_1 ((rd_T46 l0_1 x11_1).f0) ((rd_T46 l0_1 x11_1).f1) A1 c1 l1 false _ ?side1 ?side2 A8.out).mono ?_); (case side1 => exact BxB.below HR1.out (hb2 HB GE743 GE745)); (case side2 => exact HC1.out); rintro e w20 ⟨rfl, hb⟩; replace HO_5 := Aside0.mk (Kd.R_below (by (with_reducible repeat (first | apply Kd.R_alloc | apply Kd.R_drewN | apply Kd.R_drew)); exact (Kd.R_mono (Kd.R_far (p := ⟨gb745, 1, none⟩) (Kd.R_far (p := ⟨gb745, 0, none⟩) (Kd.R_mono HO_5.out (fun k_ hk => (⟨hk, hk.2⟩ : _ ∧ k_ ≠ gb745))) (fun _ hk => hk.2) (.int .i64 ((rd_T46 l0_1 x11_1).f0))) (fun _ hk => hk.2) (.int .i64 ((rd_T46 l0_1 x11_1).f1))) (fun _ h_ => h_.1))) hb); replace BK743 := kb (bx1 BK743 NB743_745) hb; replace BK745 := Aside0.mk (blk_below (g := gb745) (o := .cells #[.int .i64 ((rd_T46 l0_1 x11_1).f0), .int .i64 ((rd_T46 l0_1 x11_1).f1)] 46 (0, 0)) (bp BK745) hb); replace HB := hs (hb2 HB GE743 GE745) hb; (try clear hb); (try clear hb2); (try clear hk); (try clear hi)))
       go_roundg k1
       case measure => have := HK1.out; omega
       case rel => exact ⟨(x5_1), (wrap64 (x11_1 + 1)), (by first | rfl | (simp; done) | (simp [*]; done)), H', ⟨by have := HK1.out; omega⟩, ⟨Kd.R_mono (rx HO_5) (fun _ hk => trivial)⟩, ⟨bx BK743⟩, ⟨hb2 HB GE743 GE745⟩⟩
     ·rw [if_neg c7] at H; exact absurd H (by simp)
    ·rw [if_neg c6] at H; exact absurd H (by simp)
   ·rw [if_neg c5] at H; have c5b0 : decide (x11_1 < (l0_1.length : Int)) = false := decide_eq_false c5; clear c5; obtain rfl := Option.some.inj H
    go_wp2
    go_ret
    exact ⟨_, by first | rfl | (simp [errW_none, errW_some] <;> rfl) | (simp [*, errW_none, errW_some] <;> rfl), by (with_reducible repeat (first | apply Kd.R_alloc | apply Kd.R_drewN | apply Kd.R_drew)); exact HO_5.out, hb1 HB GE743⟩

end Go.Proofs.Ytdaeaejmikhmcaa.PEditC
