-- PRINTED by print.py (a twelfth state) out of the translation. Not trusted: Lean checks it.
import Derived.Test.YthejafdcdcchbaaDoorZPSimAx0
namespace Go.Proofs.YthejafdcdcchbaaDoor.PSimA
open Go.RowKit Go.Proofs.YthejafdcdcchbaaDoorW.PrintWords Go.Proofs.YthejafdcdcchbaaDoorW.PrintLast Go.Proofs.YthejafdcdcchbaaDoorW.PrintMore
open Go.Proofs.YthejafdcdcchbaaDoorX
attribute [local go_sem] max2_int min2_int max_two min_two max_three min_three max_four min_four   -- for this text's walks alone
set_option linter.unusedVariables false
set_option linter.unusedSimpArgs false

/-! ### tangramref03_Copy: function 18 -/
def tangramref03_Copy.l0 : Nat → List (S42) → Int → Int → List (S42) → Option (Int × (List (S42)))
 | 0, _, _, _, _ => none
 | k + 1, x3, x4, x179000, x179001 => if x4 < (x179001.length : Int) then (if 0 ≤ x4 then (if x3.length < 8796093022208 then (tangramref03_Copy.l0 k (x3 ++ [(⟨(rd_T42 x179001 x4).f0, (rd_T42 x179001 x4).f1⟩ : S42)]) (wrap64 (x4 + 1)) x179000 x179001) else (none)) else (none)) else (some (x179000, x3))
def tangramref03_Copy.f (k : Nat) (a0_0 : Int) (l0_1 : List (S42)) : Option (Int × (List (S42))) := tangramref03_Copy.l0 k ([] : List (S42)) 0 a0_0 l0_1
theorem tangramref03_Copy.mono_l : ∀ k, (∀ y0 y1 y2 y3, LeO (tangramref03_Copy.l0 k y0 y1 y2 y3) (tangramref03_Copy.l0 (k + 1) y0 y1 y2 y3))
 | 0 => fun _ _ _ _ r h => by simp [tangramref03_Copy.l0] at h
 | k + 1 => by
  have ih0 := tangramref03_Copy.mono_l k
  ·intro y0 y1 y2 y3
   unfold tangramref03_Copy.l0
   repeat' first
   | (with_reducible exact ih0 _ _ _ _)
   | (with_reducible exact LeO.refl _)
   | (with_reducible exact LeO.none _)
   | (with_reducible refine LeO.ite ?_ ?_)
   | (with_reducible refine LeO.bind ?_ (fun _ => ?_))
   | exact ih0 _ _ _ _
   | exact LeO.none _
   | refine LeO.ite ?_ ?_
   | refine LeO.bind ?_ (fun _ => ?_)
theorem tangramref03_Copy.mono : ∀ a0 a1 k, LeO (tangramref03_Copy.f k a0 a1) (tangramref03_Copy.f (k + 1) a0 a1) := by
 intro a0 a1 k; have ih0 := tangramref03_Copy.mono_l k
 unfold tangramref03_Copy.f
 repeat' first
   | (with_reducible exact ih0 _ _ _ _)
   | (with_reducible exact LeO.refl _)
   | (with_reducible exact LeO.none _)
   | (with_reducible refine LeO.ite ?_ ?_)
   | (with_reducible refine LeO.bind ?_ (fun _ => ?_))
   | exact ih0 _ _ _ _
   | exact LeO.none _
   | refine LeO.ite ?_ ?_
   | refine LeO.bind ?_ (fun _ => ?_)
set_option maxHeartbeats 8000000 in
set_option maxRecDepth 100000 in
theorem tangramref03_Copy.calls (k : Nat) (a0_0 : Int) (A0_1 : Option Addr) (c0_1 : Nat) (l0_1 : List (S42)) (r1 : Int) (r2 : List (S42)) (w : World) (hr0_1 : Kd.C k42 w A0_1 l0_1.length l0_1) (hc0_1 : l0_1.length ≤ c0_1) (h : tangramref03_Copy.f k a0_0 l0_1 = some (r1, r2)) :
  Calls Tryd.prog 18 #[.agg #[.int .i64 a0_0, .slice A0_1 l0_1.length c0_1]] w fun e w' => ∃ v1_ : Value, e = .returned (.agg #[.int .i64 r1, v1_]) ∧ Kd.R k42 42 w' w.heap.size (fun _ => True) v1_ r2 ∧ Below w.heap.size w w' := by
 have hu26 := Tryd.underlying26; have hu42 := Tryd.underlying42; have HR0_1 := Aside0.mk hr0_1; have HC0_1 := Aside0.mk hc0_1; clear hr0_1 hc0_1; have HB := Aside0.mk (Below.refl w.heap.size w); have H : (tangramref03_Copy.l0 k ([] : List (S42)) 0 a0_0 l0_1) = some (r1, r2) := h; clear h; have H' := Aside0.mk H; clear H
 go_enter Tryd.func18, Tryd.ntmps18
 go_wp2_with (first | ((with_reducible refine gate_dst (N := 1) rfl ?_); refine be_ 1 #[.int .i64 a0_0, .slice A0_1 l0_1.length c0_1] 26 ?_; intro gb178 hg w2 hbox hb; have BK178 := Aside0.mk (hbox); have GW178 := wq (hb0 HB) hg; have GE178 := wq (hb0 HB) hg; replace HB := hs (hb0 HB) hb; clear hb hbox hg) | ((with_reducible refine gate_dst (N := 2) rfl ?_); refine be_ 2 #[.int .i64 0, .slice none 0 0] 26 ?_; intro gb179 hg w3 hbox hb; have BK179 := Aside0.mk (hbox); have GW179 := wq (hb1 HB GE178) hg; have GE179 := wq (hb1 HB GE178) hg; replace HB := hs (hb1 HB GE178) hb; have NB178_179 := lx BK178 hg; have NB179_178 := gx BK178 hg; replace BK178 := kx BK178 hb; clear hb hbox hg))
 go_loopg [3, 4] k (fun kq v3 v4 w' => ∃ (x3_1 : List (S42)) (x4_1 : Int), v4 = .int .i64 x4_1 ∧ Aside0 (tangramref03_Copy.l0 kq x3_1 x4_1 a0_0 l0_1 = some (r1, r2)) ∧ Aside0 (kq ≤ k) ∧ Aside0 (Kd.R k42 42 w' w.heap.size (fun _ => True) v3 x3_1) ∧ Aside0 (w'.heap[gb178]? = some (.cells #[.int .i64 a0_0, (.slice A0_1 l0_1.length c0_1)] 26 (0, 0))) ∧ Aside0 (w'.heap[gb179]? = some (.cells #[.int .i64 0, (.slice none 0 0)] 26 (0, 0))) ∧ Aside0 (Below w.heap.size w w'))
 case atStart => exact ⟨(([] : List (S42))), (0), (by first | rfl | (simp; done) | (simp [*]; done)), H', ⟨Nat.le_refl _⟩, ⟨by first | exact Kd.R_nil _ _ _ _ _ | exact Kd.N_nil _ _ _ _ _ | exact Kd.V_nil _ _ _ _ _ | exact Kd.Q_nil _ _ _ _ _ | exact Kd.S_nil _ _ _ _ _⟩, ⟨bx BK178⟩, ⟨bx BK179⟩, ⟨hb2 HB GE178 GE179⟩⟩
 case round =>
  clear H'
  try clear c1
  try clear p2
  obtain ⟨x3_1, x4_1, rfl, HA, HK1, HO_3, BK178, BK179, HB⟩ := hrel
  cases gk with
  | zero => exact absurd HA.out (by simp [tangramref03_Copy.l0])
  | succ k1 =>
   have H := HA.out; clear HA; simp only [tangramref03_Copy.l0] at H
   by_cases c4 : x4_1 < (l0_1.length : Int)
   ·rw [if_pos c4] at H; have c4b0 : decide (x4_1 < (l0_1.length : Int)) = true := decide_eq_true c4; clear c4
    by_cases c5 : 0 ≤ x4_1
    ·rw [if_pos c5] at H; have c5b0 : decide (0 ≤ x4_1) = true := decide_eq_true c5; clear c5
     by_cases c6 : x3_1.length < 8796093022208
     ·rw [if_pos c6] at H; have LMc6 := Aside0.mk c6; clear c6; obtain ⟨y181, hy181⟩ : ∃ y_ : List (S42), y_ = (x3_1 ++ [(⟨(rd_T42 l0_1 x4_1).f0, (rd_T42 l0_1 x4_1).f1⟩ : S42)]) := ⟨_, rfl⟩; replace H : (tangramref03_Copy.l0 k1 y181 (wrap64 (x4_1 + 1)) a0_0 l0_1) = some (r1, r2) := by first | (rw [hy181]; with_reducible exact H) | (have H2_ := (Option.bind_some _ _).symm.trans H; rw [hy181]; with_reducible exact H2_) | (have H2_ := (Option.bind_some _ _).symm.trans H; with_reducible exact H2_) | with_reducible exact H | (rw [hy181]; exact H) | exact H
      have Ny181 := Aside0.mk hy181; clear hy181; have H' := Aside0.mk H; clear H; have hnb7 := NB178_179.out; have hnc7 := NB179_178.out; have hcz8_0 : wr.cell? ⟨gb178, 0, none⟩ = some (.int .i64 a0_0) := bc BK178 0; have hcz8_1 : wr.cell? ⟨gb178, 1, none⟩ = some (.slice A0_1 l0_1.length c0_1) := bc BK178 1; have hfz8_0 := blk_frozen BK178.out 0; have hfz8_1 := blk_frozen BK178.out 1; have p180 : 0 ≤ (x4_1 : Int) := of_decide_eq_true (by first | (with_reducible assumption) | assumption); have q180 : x4_1 < (l0_1.length : Int) := of_decide_eq_true (by first | (with_reducible assumption) | assumption); obtain ⟨ad180, e180, hx180_0, hx180_1⟩ := at_T42 HR0_1.out x4_1 p180 q180
      cases e180
      replace hx180_0 := (HB.out.cell (World.block_lt_of_cell? w _ hx180_0)).trans hx180_0; replace hx180_1 := (HB.out.cell (World.block_lt_of_cell? w _ hx180_1)).trans hx180_1; replace p180 := eq_true p180; replace q180 := eq_true q180
      go_wp2_with (first | ((with_reducible refine gate_builtin (b := .append) (xs := #[.tmp 12, .tmp 18]) rfl ?_); at_builtin; refine Kd.R_append k42 (w0 := w) w.heap.size rfl (.tmp 12) (.tmp 18) 24 42 (.agg #[(.int .i64 0), (.int .i64 0)]) 16 rfl Tryd.underlying24 info42 rfl (by decide) (by omega) u3 x3_1 (⟨(rd_T42 l0_1 x4_1).f0, (rd_T42 l0_1 x4_1).f1⟩ : S42) [.int .i64 ((rd_T42 l0_1 x4_1).f0), .int .i64 ((rd_T42 l0_1 x4_1).f1)] (fun _ => True) (fun _ => False) rfl rfl ?aP (fun _ hk => hk.elim) ?aF ?aO ?aB ?aS ?aL ?_; (case aP => exact k42_mkM _ _ _ (⟨(rd_T42 l0_1 x4_1).f0, (rd_T42 l0_1 x4_1).f1⟩ : S42)); (case aB => exact (hb2 HB GE178 GE179)); (case aF => exact (fun _ _ => trivial)); (case aO => exact (rx HO_3)); (case aS => exact (below_size (hb2 HB GE178 GE179))); (case aL => have := LMc6.out; omega); intro v182 w9 ho hb hg hat; rw [← Ny181.out] at ho; have n0_ := Aside0.mk (blk_grown (bx BK178) hg (Kd.R_ne HO_3.out BK178.out (by decide))); have n1_ := Aside0.mk (blk_grown (bx BK179) hg (Kd.R_ne HO_3.out BK179.out (by decide))); have n2_ := Aside0.mk (hb); have n3_ := Aside0.mk (ho); clear BK178; clear BK179; clear HB; clear HO_3; have BK178 := n0_; have BK179 := n1_; have HB := n2_; have HO183 := n3_; clear n0_ n1_ n2_ n3_; clear ho hb hg hat))
      go_roundg k1
      case measure => have := HK1.out; omega
      case rel => exact ⟨(y181), (wrap64 (x4_1 + 1)), (by first | rfl | (simp; done) | (simp [*]; done)), H', ⟨by have := HK1.out; omega⟩, ⟨rx HO183⟩, ⟨bx BK178⟩, ⟨bx BK179⟩, ⟨hb2 HB GE178 GE179⟩⟩
     ·rw [if_neg c6] at H; exact absurd H (by simp)
    ·rw [if_neg c5] at H; exact absurd H (by simp)
   ·rw [if_neg c4] at H; have c4b0 : decide (x4_1 < (l0_1.length : Int)) = false := decide_eq_false c4; clear c4; simp only [Option.some.injEq, Prod.mk.injEq] at H; obtain ⟨rfl, rfl⟩ := H; have hnb10 := NB178_179.out; have hnc10 := NB179_178.out; have hcz11_0 : wr.cell? ⟨gb178, 0, none⟩ = some (.int .i64 a0_0) := bc BK178 0; have hcz11_1 : wr.cell? ⟨gb178, 1, none⟩ = some (.slice A0_1 l0_1.length c0_1) := bc BK178 1; have hfz11_0 := blk_frozen BK178.out 0; have hfz11_1 := blk_frozen BK178.out 1; obtain ⟨Ao12, co12, eo12⟩ := Kd.R_slice HO_3.out; subst eo12; have hcz13_0 : wr.cell? ⟨gb179, 0, none⟩ = some (.int .i64 0) := bc BK179 0; have hcz13_1 : wr.cell? ⟨gb179, 1, none⟩ = some (.slice none 0 0) := bc BK179 1; have hfz13_0 := blk_frozen BK179.out 0; have hfz13_1 := blk_frozen BK179.out 1
    go_wp2
    refine bodyPost_ret (results_cell_row rfl _ _ gb179 26 #[.int .i64 a0_0, .slice Ao12 x3_1.length co12] (0, 0) _ rfl (bp BK179) Tryd.underlying26 rfl (by kernel_rfl)) rfl ?_; exact ⟨_, by first | rfl | (simp [errW_none, errW_some] <;> rfl) | (simp [*, errW_none, errW_some] <;> rfl), Kd.R_mono (rf HO_3 BK179) (fun _ hk => trivial), hb2 HB GE178 GE179⟩

end Go.Proofs.YthejafdcdcchbaaDoor.PSimA
