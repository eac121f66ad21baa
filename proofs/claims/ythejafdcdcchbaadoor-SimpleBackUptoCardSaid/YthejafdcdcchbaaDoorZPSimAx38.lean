-- PRINTED by print.py (a twelfth state) out of the translation. Not trusted: Lean checks it.
import Derived.Test.YthejafdcdcchbaaDoorZPSimAx0
namespace Go.Proofs.YthejafdcdcchbaaDoor.PSimA
open Go.RowKit Go.Proofs.YthejafdcdcchbaaDoorW.PrintWords Go.Proofs.YthejafdcdcchbaaDoorW.PrintLast Go.Proofs.YthejafdcdcchbaaDoorW.PrintMore
open Go.Proofs.YthejafdcdcchbaaDoorX
attribute [local go_sem] max2_int min2_int max_two min_two max_three min_three max_four min_four   -- for this text's walks alone
set_option linter.unusedVariables false
set_option linter.unusedSimpArgs false

/-! ### tangramref03_Pairs: function 34 -/
def tangramref03_Pairs.l0 : Nat → List (S53) → Int → Int → List (S42) → Option ((List (S53)))
 | 0, _, _, _, _ => none
 | k + 1, x3, x4, x420000, x420001 => if x4 < (x420001.length : Int) then (if 0 ≤ x4 then (if x3.length < 8796093022208 then (tangramref03_Pairs.l0 k (x3 ++ [(⟨(rd_T42 x420001 x4).f0, (rd_T42 x420001 x4).f1⟩ : S53)]) (wrap64 (x4 + 1)) x420000 x420001) else (none)) else (none)) else (some x3)
def tangramref03_Pairs.f (k : Nat) (a0_0 : Int) (l0_1 : List (S42)) : Option ((List (S53))) := tangramref03_Pairs.l0 k ([] : List (S53)) 0 a0_0 l0_1
theorem tangramref03_Pairs.mono_l : ∀ k, (∀ y0 y1 y2 y3, LeO (tangramref03_Pairs.l0 k y0 y1 y2 y3) (tangramref03_Pairs.l0 (k + 1) y0 y1 y2 y3))
 | 0 => fun _ _ _ _ r h => by simp [tangramref03_Pairs.l0] at h
 | k + 1 => by
  have ih0 := tangramref03_Pairs.mono_l k
  ·intro y0 y1 y2 y3
   unfold tangramref03_Pairs.l0
   repeat' first
   | (with_reducible exact ih0 _ _ _ _)
   | (with_reducible exact LeO.refl _)
   | (with_reducible exact LeO.none _)
   | (with_reducible refine LeO.ite ?_ ?_)
   | (with_reducible refine LeO.bind ?_ (fun _ => ?_))
   | exact ih0 _ _ _ _
   | exact LeO.none _
   | refine LeO.ite ?_ ?_
   | refine LeO.bind ?_ (fun _ => ?_)
theorem tangramref03_Pairs.mono : ∀ a0 a1 k, LeO (tangramref03_Pairs.f k a0 a1) (tangramref03_Pairs.f (k + 1) a0 a1) := by
 intro a0 a1 k; have ih0 := tangramref03_Pairs.mono_l k
 unfold tangramref03_Pairs.f
 repeat' first
   | (with_reducible exact ih0 _ _ _ _)
   | (with_reducible exact LeO.refl _)
   | (with_reducible exact LeO.none _)
   | (with_reducible refine LeO.ite ?_ ?_)
   | (with_reducible refine LeO.bind ?_ (fun _ => ?_))
   | exact ih0 _ _ _ _
   | exact LeO.none _
   | refine LeO.ite ?_ ?_
   | refine LeO.bind ?_ (fun _ => ?_)
def tangramref03_Pairs.T5 : Bool × List (List Nat × List Nat) := (true, [([], []), ([], []), ([1], [1]), ([], []), ([2, 3], [2, 3]), ([4], [4]), ([5], [5]), ([], []), ([7], [7]), ([], []), ([8, 9], [8, 9]), ([10], [10]), ([11], [11]), ([6, 12], [6, 12]), ([13], [13]), ([0, 14], [0, 14]), ([15, 15, 0, 1, 2, 3, 4, 5, 6, 7, 8, 9, 10, 11, 12, 13, 14, 15], [0, 15])])
def tangramref03_Pairs.B5 : List Nat := [0, 0, 2, 0, 14, 30, 62, 0, 128, 0, 896, 1920, 3968, 8190, 16382, 32767, 65535]
theorem tangramref03_Pairs.tab5 : rtab .any (opsOf Tryd.f34 5) = tangramref03_Pairs.T5 := by kernel_rfl
theorem tangramref03_Pairs.bits5 : waitsOk tangramref03_Pairs.T5.2 tangramref03_Pairs.B5 = true := by kernel_rfl
set_option maxHeartbeats 8000000 in
set_option maxRecDepth 100000 in
theorem tangramref03_Pairs.calls (k : Nat) (a0_0 : Int) (A0_1 : Option Addr) (c0_1 : Nat) (l0_1 : List (S42)) (r : List (S53)) (w : World) (hr0_1 : Kd.C k42 w A0_1 l0_1.length l0_1) (hc0_1 : l0_1.length ≤ c0_1) (h : tangramref03_Pairs.f k a0_0 l0_1 = some r) :
  Calls Tryd.prog 34 #[.agg #[.int .i64 a0_0, .slice A0_1 l0_1.length c0_1]] w fun e w' => ∃ v0_ : Value, e = .returned (v0_) ∧ Kd.R k53 53 w' w.heap.size (fun _ => True) v0_ r ∧ Below w.heap.size w w' := by
 have hu26 := Tryd.underlying26; have hu53 := Tryd.underlying53; have HR0_1 := Aside0.mk hr0_1; have HC0_1 := Aside0.mk hc0_1; clear hr0_1 hc0_1; have HB := Aside0.mk (Below.refl w.heap.size w); have H : (tangramref03_Pairs.l0 k ([] : List (S53)) 0 a0_0 l0_1) = some r := h; clear h; have H' := Aside0.mk H; clear H
 go_enter Tryd.func34, Tryd.ntmps34
 go_wp2_with (first | ((with_reducible refine gate_dst (N := 1) rfl ?_); refine be_ 1 #[.int .i64 a0_0, .slice A0_1 l0_1.length c0_1] 26 ?_; intro gb419 hg w2 hbox hb; have BK419 := Aside0.mk (hbox); have GW419 := wq (hb0 HB) hg; have GE419 := wq (hb0 HB) hg; replace HB := hs (hb0 HB) hb; clear hb hbox hg))
 go_loopg [3, 4] k (fun kq v3 v4 w' => ∃ (x3_1 : List (S53)) (x4_1 : Int), v4 = .int .i64 x4_1 ∧ Aside0 (tangramref03_Pairs.l0 kq x3_1 x4_1 a0_0 l0_1 = some r) ∧ Aside0 (kq ≤ k) ∧ Aside0 (Kd.R k53 53 w' w.heap.size (fun _ => True) v3 x3_1) ∧ Aside0 (w'.heap[gb419]? = some (.cells #[.int .i64 a0_0, (.slice A0_1 l0_1.length c0_1)] 26 (0, 0))) ∧ Aside0 (Below w.heap.size w w'))
 case atStart => exact ⟨(([] : List (S53))), (0), (by first | rfl | (simp; done) | (simp [*]; done)), H', ⟨Nat.le_refl _⟩, ⟨by first | exact Kd.R_nil _ _ _ _ _ | exact Kd.N_nil _ _ _ _ _ | exact Kd.V_nil _ _ _ _ _ | exact Kd.Q_nil _ _ _ _ _ | exact Kd.S_nil _ _ _ _ _⟩, ⟨bx BK419⟩, ⟨hb1 HB GE419⟩⟩
 case round =>
  clear H'
  try clear p2
  obtain ⟨x3_1, x4_1, rfl, HA, HK1, HO_3, BK419, HB⟩ := hrel
  cases gk with
  | zero => exact absurd HA.out (by simp [tangramref03_Pairs.l0])
  | succ k1 =>
   have H := HA.out; clear HA; simp only [tangramref03_Pairs.l0] at H
   by_cases c3 : x4_1 < (l0_1.length : Int)
   ·rw [if_pos c3] at H; have c3b0 : decide (x4_1 < (l0_1.length : Int)) = true := decide_eq_true c3; clear c3
    by_cases c4 : 0 ≤ x4_1
    ·rw [if_pos c4] at H; have c4b0 : decide (0 ≤ x4_1) = true := decide_eq_true c4; clear c4
     by_cases c5 : x3_1.length < 8796093022208
     ·rw [if_pos c5] at H; have LMc5 := Aside0.mk c5; clear c5; obtain ⟨y422, hy422⟩ : ∃ y_ : List (S53), y_ = (x3_1 ++ [(⟨(rd_T42 l0_1 x4_1).f0, (rd_T42 l0_1 x4_1).f1⟩ : S53)]) := ⟨_, rfl⟩; replace H : (tangramref03_Pairs.l0 k1 y422 (wrap64 (x4_1 + 1)) a0_0 l0_1) = some r := by first | (rw [hy422]; with_reducible exact H) | (have H2_ := (Option.bind_some _ _).symm.trans H; rw [hy422]; with_reducible exact H2_) | (have H2_ := (Option.bind_some _ _).symm.trans H; with_reducible exact H2_) | with_reducible exact H | (rw [hy422]; exact H) | exact H
      have Ny422 := Aside0.mk hy422; clear hy422; have H' := Aside0.mk H; clear H; have hcz6_0 : wr.cell? ⟨gb419, 0, none⟩ = some (.int .i64 a0_0) := bc BK419 0; have hcz6_1 : wr.cell? ⟨gb419, 1, none⟩ = some (.slice A0_1 l0_1.length c0_1) := bc BK419 1; have hfz6_0 := blk_frozen BK419.out 0; have hfz6_1 := blk_frozen BK419.out 1
      try go_wp2
      replace HO_3 := rd HO_3; replace BK419 := bd BK419; replace HB := Aside0.mk (below_drew1 HB.out); have p420 : 0 ≤ (x4_1 : Int) := of_decide_eq_true (by first | (with_reducible assumption) | assumption); have q420 : x4_1 < (l0_1.length : Int) := of_decide_eq_true (by first | (with_reducible assumption) | assumption); obtain ⟨ad420, e420, hx420_0, hx420_1⟩ := at_T42 HR0_1.out x4_1 p420 q420; have hw420_1 := hx420_1; have hw420_0 := hx420_0
      cases e420
      replace hx420_0 := (HB.out.cell (World.block_lt_of_cell? w _ hx420_0)).trans hx420_0; replace hx420_1 := (HB.out.cell (World.block_lt_of_cell? w _ hx420_1)).trans hx420_1; replace p420 := eq_true p420; replace q420 := eq_true q420; have p421 : 0 ≤ (x4_1 : Int) := of_decide_eq_true (by first | (with_reducible assumption) | assumption); have q421 : x4_1 < (l0_1.length : Int) := of_decide_eq_true (by first | (with_reducible assumption) | assumption); obtain ⟨ad421, e421, hx421_0, hx421_1⟩ := at_T42 HR0_1.out x4_1 p421 q421; have hw421_1 := hx421_1; have hw421_0 := hx421_0; obtain rfl : ad420 = ad421 := (by injection e421); replace hx421_0 := (HB.out.cell (World.block_lt_of_cell? w _ hx421_0)).trans hx421_0; replace hx421_1 := (HB.out.cell (World.block_lt_of_cell? w _ hx421_1)).trans hx421_1; replace p421 := eq_true p421; replace q421 := eq_true q421; refine start_ (n := 17) (S := fun w' => w'.cell? ⟨gb419, 0, none⟩ = some (.int .i64 a0_0) ∧ w'.cell? ⟨gb419, 1, none⟩ = some (.slice (some ad420) l0_1.length c0_1) ∧ w'.cell? (ad420.add ((x4_1).toNat * 2)) = some (.int .i64 ((rd_T42 l0_1 x4_1).f0)) ∧ w'.cell? ⟨(ad420.add ((x4_1).toNat * 2)).block, (ad420.add ((x4_1).toNat * 2)).off + 1, none⟩ = some (.int .i64 ((rd_T42 l0_1 x4_1).f1)) ∧ w'.cell? (ad420.add ((x4_1).toNat * 2)) = some (.int .i64 ((rd_T42 l0_1 x4_1).f0)) ∧ w'.cell? ⟨(ad420.add ((x4_1).toNat * 2)).block, (ad420.add ((x4_1).toNat * 2)).off + 1, none⟩ = some (.int .i64 ((rd_T42 l0_1 x4_1).f1))) (ds := []) (pf 0 17) (by kernel_rfl) rfl rfl ⟨bc BK419 0, bc BK419 1, ((HB.out.cell (World.block_lt_of_cell? w _ hw420_0)).trans hw420_0), ((HB.out.cell (World.block_lt_of_cell? w _ hw420_1)).trans hw420_1), ((HB.out.cell (World.block_lt_of_cell? w _ hw421_0)).trans hw421_0), ((HB.out.cell (World.block_lt_of_cell? w _ hw421_1)).trans hw421_1)⟩ (fun hHeld => ?_); refine with_tabW tangramref03_Pairs.tab5 tangramref03_Pairs.bits5 (fun HT_ HW_ => ?_)
      generalize wr.drew = w7 at HO_3 BK419 HB hx420_0 hx420_1 hx421_0 hx421_1 hHeld ⊢; refine pu_ 0 (some 12) (pf 1 17) HT_ ?_; refine pu_ 1 (some 13) (pf 2 17) HT_ ?_; refine pu_ 3 (some 15) #[T_,T_,F_,T_,F_,F_,F_,F_,F_,F_,F_,F_,F_,F_,F_,F_,F_] HT_ ?_; refine pu_ 7 (some 19) #[T_,T_,F_,T_,F_,F_,F_,T_,F_,F_,F_,F_,F_,F_,F_,F_,F_] HT_ ?_; refine pu_ 9 (some 21) #[T_,T_,F_,T_,F_,F_,F_,T_,F_,T_,F_,F_,F_,F_,F_,F_,F_] HT_ ?_; refine tk6_ 2 (some 14) #[T_,T_,T_,T_,F_,F_,F_,T_,F_,T_,F_,F_,F_,F_,F_,F_,F_] HT_ HW_ hHeld ?_; refine pu_ 4 (some 16) #[T_,T_,T_,T_,T_,F_,F_,T_,F_,T_,F_,F_,F_,F_,F_,F_,F_] HT_ ?_; refine pu_ 5 (some 17) #[T_,T_,T_,T_,T_,T_,F_,T_,F_,T_,F_,F_,F_,F_,F_,F_,F_] HT_ ?_; refine tk6_ 6 (some 18) #[T_,T_,T_,T_,T_,T_,T_,T_,F_,T_,F_,F_,F_,F_,F_,F_,F_] HT_ HW_ hHeld ?_; refine tk6_ 8 (some 20) (pf 10 17) HT_ HW_ hHeld ?_; refine pu_ 10 (some 22) (pf 11 17) HT_ ?_; refine pu_ 11 (some 23) (pf 12 17) HT_ ?_; refine tk6_ 12 (some 24) (pf 13 17) HT_ HW_ hHeld ?_; refine pu_ 13 (some 25) (pf 14 17) HT_ ?_; refine on_ 14 (some 26) (pf 15 17) HT_ (fun K hK => ?_); refine value_ (w1 := ?_) (v := ?_) (by rfl) rfl ?_ ?_; rotate_left 2
      ·go_simp
       constructor
       ·rfl
       ·rfl
      refine hK.out _ _ ⟨(blk_cell (blk_alloc BK419.out _) 0).trans rfl, (blk_cell (blk_alloc BK419.out _) 1).trans rfl, (World.cell?_alloc_lt _ _ _ (World.block_lt_of_cell? _ _ (((HB.out.cell (World.block_lt_of_cell? w _ hw420_0)).trans hw420_0)))).trans (((HB.out.cell (World.block_lt_of_cell? w _ hw420_0)).trans hw420_0)), (World.cell?_alloc_lt _ _ _ (World.block_lt_of_cell? _ _ (((HB.out.cell (World.block_lt_of_cell? w _ hw420_1)).trans hw420_1)))).trans (((HB.out.cell (World.block_lt_of_cell? w _ hw420_1)).trans hw420_1)), (World.cell?_alloc_lt _ _ _ (World.block_lt_of_cell? _ _ (((HB.out.cell (World.block_lt_of_cell? w _ hw421_0)).trans hw421_0)))).trans (((HB.out.cell (World.block_lt_of_cell? w _ hw421_0)).trans hw421_0)), (World.cell?_alloc_lt _ _ _ (World.block_lt_of_cell? _ _ (((HB.out.cell (World.block_lt_of_cell? w _ hw421_1)).trans hw421_1)))).trans (((HB.out.cell (World.block_lt_of_cell? w _ hw421_1)).trans hw421_1))⟩ (fun hHeld => ?_); clear hK K; refine nm_ (some 26) ?_; refine on_ 15 (some 27) (pf 16 17) HT_ (fun K hK => ?_); refine Kd.R_append_step k53 (w0 := w) w.heap.size (by rfl) (.tmp 12) (.tmp 26) 22 53 (.agg #[(.int .i64 0), (.int .i64 0)]) 16 rfl Tryd.underlying22 info53 rfl (by decide) (by omega) u3 x3_1 (⟨(rd_T42 l0_1 x4_1).f0, (rd_T42 l0_1 x4_1).f1⟩ : S53) [.int .i64 ((rd_T42 l0_1 x4_1).f0), .int .i64 ((rd_T42 l0_1 x4_1).f1)] (fun _ => True) (fun _ => False) rfl rfl ?aP (fun _ hk => hk.elim) ?aF ?aO ?aB ?aS ?aL ?_
      (case aP => exact k53_mkM _ _ _ (⟨(rd_T42 l0_1 x4_1).f0, (rd_T42 l0_1 x4_1).f1⟩ : S53))
      (case aB => exact (hb1 HB GE419))
      (case aF => exact (fun _ _ => trivial))
      (case aO => exact (rx HO_3))
      (case aS => exact (below_size (hb1 HB GE419)))
      (case aL => have := LMc5.out; omega)
      intro v423 w8 ho hb hg hat; rw [← Ny422.out] at ho; have n0_ := Aside0.mk (blk_grown (bx BK419) hg (Kd.R_ne HO_3.out BK419.out (by decide))); have n1_ := Aside0.mk (hb); have n2_ := Aside0.mk (ho); clear BK419 HB HO_3; have BK419 := n0_; have HB := n1_; have HO424 := n2_; clear n0_ n1_ n2_ ho hb hg hat; refine hK.out _ _ ⟨bc BK419 0, bc BK419 1, ((HB.out.cell (World.block_lt_of_cell? w _ hw420_0)).trans hw420_0), ((HB.out.cell (World.block_lt_of_cell? w _ hw420_1)).trans hw420_1), ((HB.out.cell (World.block_lt_of_cell? w _ hw421_0)).trans hw421_0), ((HB.out.cell (World.block_lt_of_cell? w _ hw421_1)).trans hw421_1)⟩ (fun hHeld => ?_); clear hK K; refine nm_ (some 27) ?_; refine pu_ 16 (some 3) (pf 17 17) HT_ ?_; refine done_ (done_of HT_.out (by kernel_rfl)) ?_
      try go_wp2
      go_roundg k1
      case measure => have := HK1.out; omega
      case rel => exact ⟨(y422), (wrap64 (x4_1 + 1)), (by first | rfl | (simp; done) | (simp [*]; done)), H', ⟨by have := HK1.out; omega⟩, ⟨rx HO424⟩, ⟨bx BK419⟩, ⟨hb1 HB GE419⟩⟩
     ·rw [if_neg c5] at H; exact absurd H (by simp)
    ·rw [if_neg c4] at H; exact absurd H (by simp)
   ·rw [if_neg c3] at H; have c3b0 : decide (x4_1 < (l0_1.length : Int)) = false := decide_eq_false c3; clear c3; obtain rfl := Option.some.inj H; have hcz9_0 : wr.cell? ⟨gb419, 0, none⟩ = some (.int .i64 a0_0) := bc BK419 0; have hcz9_1 : wr.cell? ⟨gb419, 1, none⟩ = some (.slice A0_1 l0_1.length c0_1) := bc BK419 1; have hfz9_0 := blk_frozen BK419.out 0; have hfz9_1 := blk_frozen BK419.out 1
    go_wp2
    go_ret
    exact ⟨_, by first | rfl | (simp [errW_none, errW_some] <;> rfl) | (simp [*, errW_none, errW_some] <;> rfl), by (with_reducible repeat (first | apply Kd.R_alloc | apply Kd.R_drewN | apply Kd.R_drew)); exact HO_3.out, hb1 HB GE419⟩

end Go.Proofs.YthejafdcdcchbaaDoor.PSimA
