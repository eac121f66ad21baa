import Derived.Test.YthejafdcdcchbaaDoorZPSimAx0
import Derived.Test.YthejafdcdcchbaaDoorZPSimAx3
-- PRINTED by print.py (a twelfth state) out of the translation. Not trusted: Lean checks it.
namespace Go.Proofs.YthejafdcdcchbaaDoor.PSimA
open Go.RowKit Go.Proofs.YthejafdcdcchbaaDoorW.PrintWords Go.Proofs.YthejafdcdcchbaaDoorW.PrintLast Go.Proofs.YthejafdcdcchbaaDoorW.PrintMore
open Go.Proofs.YthejafdcdcchbaaDoorX
attribute [local go_sem] max2_int min2_int max_two min_two max_three min_three max_four min_four   -- for this text's walks alone
set_option linter.unusedVariables false
set_option linter.unusedSimpArgs false

/-! ### tangramref03_Copy: function 18 -/
def tangramref03_Copy.l0 : Nat → List (S42) → Int → Int → List (S42) → Option (Int × (List (S42)))
 | 0, _, _, _, _ => none
 | k + 1, x3, x4, x179000, x179001 => if x4 < (x179001.length : Int) then (if 0 ≤ x4 then (if x3.length < 8796093022208 then (tangramref03_Copy.l0 k (x3 ++ [(⟨(rd_T42 x179001 x4).f0, (rd_T42 x179001 x4).f1⟩ : S42)]) (wrap64 (x4 + 1)) x179000 x179001) else (none)) else (none)) else (some (x179000, x3))
def tangramref03_Copy.f (k : Nat) (a0_0 : Int) (l0_1 : List (S42)) : Option (Int × (List (S42))) := tangramref03_Copy.l0 k ([] : List (S42)) 0 a0_0 l0_1
theorem tangramref03_Copy.mono_l : ∀ k, (∀ y0 y1 y2 y3, LeO (tangramref03_Copy.l0 k y0 y1 y2 y3) (tangramref03_Copy.l0 (k + 1) y0 y1 y2 y3))
 | 0 => fun _ _ _ _ r h => by simp [tangramref03_Copy.l0] at h
 | k + 1 => by
  have ih0 := tangramref03_Copy.mono_l k
  ·intro y0 y1 y2 y3
   unfold tangramref03_Copy.l0
   repeat' first
   | (with_reducible exact ih0 _ _ _ _)
   | (with_reducible exact LeO.refl _)
   | (with_reducible exact LeO.none _)
   | (with_reducible refine LeO.ite ?_ ?_)
   | (with_reducible refine LeO.bind ?_ (fun _ => ?_))
   | exact ih0 _ _ _ _
   | exact LeO.none _
   | refine LeO.ite ?_ ?_
   | refine LeO.bind ?_ (fun _ => ?_)
theorem tangramref03_Copy.mono : ∀ a0 a1 k, LeO (tangramref03_Copy.f k a0 a1) (tangramref03_Copy.f (k + 1) a0 a1) := by
 intro a0 a1 k; have ih0 := tangramref03_Copy.mono_l k
 unfold tangramref03_Copy.f
 repeat' first
   | (with_reducible exact ih0 _ _ _ _)
   | (with_reducible exact LeO.refl _)
   | (with_reducible exact LeO.none _)
   | (with_reducible refine LeO.ite ?_ ?_)
   | (with_reducible refine LeO.bind ?_ (fun _ => ?_))
   | exact ih0 _ _ _ _
   | exact LeO.none _
   | refine LeO.ite ?_ ?_
   | refine LeO.bind ?_ (fun _ => ?_)
set_option maxHeartbeats 8000000 in
set_option maxRecDepth 100000 in
theorem tangramref03_Copy.calls (k : Nat) (a0_0 : Int) (A0_1 : Option Addr) (c0_1 : Nat) (l0_1 : List (S42)) (r1 : Int) (r2 : List (S42)) (w : World) (hr0_1 : Kd.C k42 w A0_1 l0_1.length l0_1) (hc0_1 : l0_1.length ≤ c0_1) (h : tangramref03_Copy.f k a0_0 l0_1 = some (r1, r2)) :
  Calls Tryd.prog 18 #[.agg #[.int .i64 a0_0, .slice A0_1 l0_1.length c0_1]] w fun e w' => ∃ v1_ : Value, e = .returned (.agg #[.int .i64 r1, v1_]) ∧ Kd.R k42 42 w' w.heap.size (fun _ => True) v1_ r2 ∧ Below w.heap.size w w' := by
 have hu26 := Tryd.underlying26; have hu42 := Tryd.underlying42; have HR0_1 := Aside0.mk hr0_1; have HC0_1 := Aside0.mk hc0_1; clear hr0_1 hc0_1; have HB := Aside0.mk (Below.refl w.heap.size w); have H : (tangramref03_Copy.l0 k ([] : List (S42)) 0 a0_0 l0_1) = some (r1, r2) := h; clear h; have H' := Aside0.mk H; clear H
 go_enter Tryd.func18, Tryd.ntmps18
 go_wp2_with (first | ((with_reducible refine gate_dst (N := 1) rfl ?_); refine be_ 1 #[.int .i64 a0_0, .slice A0_1 l0_1.length c0_1] 26 ?_; intro gb178 hg w2 hbox hb; have BK178 := Aside0.mk (hbox); have GW178 := wq (hb0 HB) hg; have GE178 := wq (hb0 HB) hg; replace HB := hs (hb0 HB) hb; clear hb hbox hg) | ((with_reducible refine gate_dst (N := 2) rfl ?_); refine be_ 2 #[.int .i64 0, .slice none 0 0] 26 ?_; intro gb179 hg w3 hbox hb; have BK179 := Aside0.mk (hbox); have GW179 := wq (hb1 HB GE178) hg; have GE179 := wq (hb1 HB GE178) hg; replace HB := hs (hb1 HB GE178) hb; have NB178_179 := lx BK178 hg; have NB179_178 := gx BK178 hg; replace BK178 := kx BK178 hb; clear hb hbox hg))
 go_loopg [3, 4] k (fun kq v3 v4 w' => ∃ (x3_1 : List (S42)) (x4_1 : Int), v4 = .int .i64 x4_1 ∧ Aside0 (tangramref03_Copy.l0 kq x3_1 x4_1 a0_0 l0_1 = some (r1, r2)) ∧ Aside0 (kq ≤ k) ∧ Aside0 (Kd.R k42 42 w' w.heap.size (fun _ => True) v3 x3_1) ∧ Aside0 (w'.heap[gb178]? = some (.cells #[.int .i64 a0_0, (.slice A0_1 l0_1.length c0_1)] 26 (0, 0))) ∧ Aside0 (w'.heap[gb179]? = some (.cells #[.int .i64 0, (.slice none 0 0)] 26 (0, 0))) ∧ Aside0 (Below w.heap.size w w'))
 case atStart => exact ⟨(([] : List (S42))), (0), (by first | rfl | (simp; done) | (simp [*]; done)), H', ⟨Nat.le_refl _⟩, ⟨by first | exact Kd.R_nil _ _ _ _ _ | exact Kd.N_nil _ _ _ _ _ | exact Kd.V_nil _ _ _ _ _ | exact Kd.Q_nil _ _ _ _ _ | exact Kd.S_nil _ _ _ _ _⟩, ⟨bx BK178⟩, ⟨bx BK179⟩, ⟨hb2 HB GE178 GE179⟩⟩
 case round =>
  clear H'
  try clear c1
  try clear p2
  obtain ⟨x3_1, x4_1, rfl, HA, HK1, HO_3, BK178, BK179, HB⟩ := hrel
  cases gk with
  | zero => exact absurd HA.out (by simp [tangramref03_Copy.l0])
  | succ k1 =>
   have H := HA.out; clear HA; simp only [tangramref03_Copy.l0] at H
   by_cases c4 : x4_1 < (l0_1.length : Int)
   ·rw [if_pos c4] at H; have c4b0 : decide (x4_1 < (l0_1.length : Int)) = true := decide_eq_true c4; clear c4
    by_cases c5 : 0 ≤ x4_1
    ·rw [if_pos c5] at H; have c5b0 : decide (0 ≤ x4_1) = true := decide_eq_true c5; clear c5
     by_cases c6 : x3_1.length < 8796093022208
     ·rw [if_pos c6] at H; have LMc6 := Aside0.mk c6; clear c6; obtain ⟨y181, hy181⟩ : ∃ y_ : List (S42), y_ = (x3_1 ++ [(⟨(rd_T42 l0_1 x4_1).f0, (rd_T42 l0_1 x4_1).f1⟩ : S42)]) := ⟨_, rfl⟩; replace H : (tangramref03_Copy.l0 k1 y181 (wrap64 (x4_1 + 1)) a0_0 l0_1) = some (r1, r2) := by first | (rw [hy181]; with_reducible exact H) | (have H2_ := (Option.bind_some _ _).symm.trans H; rw [hy181]; with_reducible exact H2_) | (have H2_ := (Option.bind_some _ _).symm.trans H; with_reducible exact H2_) | with_reducible exact H | (rw [hy181]; exact H) | exact H
      have Ny181 := Aside0.mk hy181; clear hy181; have H' := Aside0.mk H; clear H; have hnb7 := NB178_179.out; have hnc7 := NB179_178.out; have hcz8_0 : wr.cell? ⟨gb178, 0, none⟩ = some (.int .i64 a0_0) := bc BK178 0; have hcz8_1 : wr.cell? ⟨gb178, 1, none⟩ = some (.slice A0_1 l0_1.length c0_1) := bc BK178 1; have hfz8_0 := blk_frozen BK178.out 0; have hfz8_1 := blk_frozen BK178.out 1; have p180 : 0 ≤ (x4_1 : Int) := of_decide_eq_true (by first | (with_reducible assumption) | assumption); have q180 : x4_1 < (l0_1.length : Int) := of_decide_eq_true (by first | (with_reducible assumption) | assumption); obtain ⟨ad180, e180, hx180_0, hx180_1⟩ := at_T42 HR0_1.out x4_1 p180 q180
      cases e180
      replace hx180_0 := (HB.out.cell (World.block_lt_of_cell? w _ hx180_0)).trans hx180_0; replace hx180_1 := (HB.out.cell (World.block_lt_of_cell? w _ hx180_1)).trans hx180_1; replace p180 := eq_true p180; replace q180 := eq_true q180
      go_wp2_with (first | ((with_reducible refine gate_builtin (b := .append) (xs := #[.tmp 12, .tmp 18]) rfl ?_); at_builtin; refine Kd.R_append k42 (w0 := w) w.heap.size rfl (.tmp 12) (.tmp 18) 24 42 (.agg #[(.int .i64 0), (.int .i64 0)]) 16 rfl Tryd.underlying24 info42 rfl (by decide) (by omega) u3 x3_1 (⟨(rd_T42 l0_1 x4_1).f0, (rd_T42 l0_1 x4_1).f1⟩ : S42) [.int .i64 ((rd_T42 l0_1 x4_1).f0), .int .i64 ((rd_T42 l0_1 x4_1).f1)] (fun _ => True) (fun _ => False) rfl rfl ?aP (fun _ hk => hk.elim) ?aF ?aO ?aB ?aS ?aL ?_; (case aP => exact k42_mkM _ _ _ (⟨(rd_T42 l0_1 x4_1).f0, (rd_T42 l0_1 x4_1).f1⟩ : S42)); (case aB => exact (hb2 HB GE178 GE179)); (case aF => exact (fun _ _ => trivial)); (case aO => exact (rx HO_3)); (case aS => exact (below_size (hb2 HB GE178 GE179))); (case aL => have := LMc6.out; omega); intro v182 w9 ho hb hg hat; rw [← Ny181.out] at ho; have n0_ := Aside0.mk (blk_grown (bx BK178) hg (Kd.R_ne HO_3.out BK178.out (by decide))); have n1_ := Aside0.mk (blk_grown (bx BK179) hg (Kd.R_ne HO_3.out BK179.out (by decide))); have n2_ := Aside0.mk (hb); have n3_ := Aside0.mk (ho); clear BK178; clear BK179; clear HB; clear HO_3; have BK178 := n0_; have BK179 := n1_; have HB := n2_; have HO183 := n3_; clear n0_ n1_ n2_ n3_; clear ho hb hg hat))
      go_roundg k1
      case measure => have := HK1.out; omega
      case rel => exact ⟨(y181), (wrap64 (x4_1 + 1)), (by first | rfl | (simp; done) | (simp [*]; done)), H', ⟨by have := HK1.out; omega⟩, ⟨rx HO183⟩, ⟨bx BK178⟩, ⟨bx BK179⟩, ⟨hb2 HB GE178 GE179⟩⟩
     ·rw [if_neg c6] at H; exact absurd H (by simp)
    ·rw [if_neg c5] at H; exact absurd H (by simp)
   ·rw [if_neg c4] at H; have c4b0 : decide (x4_1 < (l0_1.length : Int)) = false := decide_eq_false c4; clear c4; simp only [Option.some.injEq, Prod.mk.injEq] at H; obtain ⟨rfl, rfl⟩ := H; have hnb10 := NB178_179.out; have hnc10 := NB179_178.out; have hcz11_0 : wr.cell? ⟨gb178, 0, none⟩ = some (.int .i64 a0_0) := bc BK178 0; have hcz11_1 : wr.cell? ⟨gb178, 1, none⟩ = some (.slice A0_1 l0_1.length c0_1) := bc BK178 1; have hfz11_0 := blk_frozen BK178.out 0; have hfz11_1 := blk_frozen BK178.out 1; obtain ⟨Ao12, co12, eo12⟩ := Kd.R_slice HO_3.out; subst eo12; have hcz13_0 : wr.cell? ⟨gb179, 0, none⟩ = some (.int .i64 0) := bc BK179 0; have hcz13_1 : wr.cell? ⟨gb179, 1, none⟩ = some (.slice none 0 0) := bc BK179 1; have hfz13_0 := blk_frozen BK179.out 0; have hfz13_1 := blk_frozen BK179.out 1
    go_wp2
    refine bodyPost_ret (results_cell_row rfl _ _ gb179 26 #[.int .i64 a0_0, .slice Ao12 x3_1.length co12] (0, 0) _ rfl (bp BK179) Tryd.underlying26 rfl (by kernel_rfl)) rfl ?_; exact ⟨_, by first | rfl | (simp [errW_none, errW_some] <;> rfl) | (simp [*, errW_none, errW_some] <;> rfl), Kd.R_mono (rf HO_3 BK179) (fun _ hk => trivial), hb2 HB GE178 GE179⟩

end Go.Proofs.YthejafdcdcchbaaDoor.PSimA

-- PRINTED by print.py (a twelfth state) out of the translation. Not trusted: Lean checks it.
namespace Go.Proofs.YthejafdcdcchbaaDoor.PSimA
open Go.RowKit Go.Proofs.YthejafdcdcchbaaDoorW.PrintWords Go.Proofs.YthejafdcdcchbaaDoorW.PrintLast Go.Proofs.YthejafdcdcchbaaDoorW.PrintMore
open Go.Proofs.YthejafdcdcchbaaDoorX
attribute [local go_sem] max2_int min2_int max_two min_two max_three min_three max_four min_four   -- for this text's walks alone
set_option linter.unusedVariables false
set_option linter.unusedSimpArgs false

/-! ### tangramref03_Valid: function 25 -/
mutual
def tangramref03_Valid.j0 : Nat → Bool → Int → List (S42) → Option (Bool)
 | 0, _, _, _ => none
 | k + 1, x19, x185000, x185001 => if x19 = true then (some false) else (tangramref03_Valid.l0 k 0 x185000 x185001)
def tangramref03_Valid.l0 : Nat → Int → Int → List (S42) → Option (Bool)
 | 0, _, _, _ => none
 | k + 1, x3, x185000, x185001 => if x3 < (x185001.length : Int) then (if 0 ≤ x3 then (if ((rd_T42 x185001 x3).f0) < 0 then (tangramref03_Valid.j2 k x3 true x185000 x185001 ((rd_T42 x185001 x3).f0) ((rd_T42 x185001 x3).f1)) else (if ((rd_T42 x185001 x3).f0) ≥ ((rd_T42 x185001 x3).f1) then (tangramref03_Valid.j2 k x3 true x185000 x185001 ((rd_T42 x185001 x3).f0) ((rd_T42 x185001 x3).f1)) else (tangramref03_Valid.j2 k x3 (decide (((rd_T42 x185001 x3).f1) ≥ x185000)) x185000 x185001 ((rd_T42 x185001 x3).f0) ((rd_T42 x185001 x3).f1)))) else (none)) else (some true)
def tangramref03_Valid.j2 : Nat → Int → Bool → Int → List (S42) → Int → Int → Option (Bool)
 | 0, _, _, _, _, _, _ => none
 | k + 1, x3, x48, x185000, x185001, x187000, x187001 => if x48 = true then (some false) else (if x3 > 0 then (if 0 ≤ (wrap64 (x3 - 1)) then (if (wrap64 (x3 - 1)) < (x185001.length : Int) then ((tangramref03_Less.f ((rd_T42 x185001 (wrap64 (x3 - 1))).f0) ((rd_T42 x185001 (wrap64 (x3 - 1))).f1) x187000 x187001).bind fun t188 => (if t188 = true then (tangramref03_Valid.l0 k (wrap64 (x3 + 1)) x185000 x185001) else (some false))) else (none)) else (none)) else (tangramref03_Valid.l0 k (wrap64 (x3 + 1)) x185000 x185001))
end
def tangramref03_Valid.f (k : Nat) (a0_0 : Int) (l0_1 : List (S42)) : Option (Bool) := if a0_0 < 0 then (tangramref03_Valid.j0 k true a0_0 l0_1) else (if a0_0 > 1048576 then (tangramref03_Valid.j0 k true a0_0 l0_1) else (tangramref03_Valid.j0 k (decide ((l0_1.length : Int) > 4194304)) a0_0 l0_1))
theorem tangramref03_Valid.mono_l : ∀ k, (∀ y0 y1 y2, LeO (tangramref03_Valid.j0 k y0 y1 y2) (tangramref03_Valid.j0 (k + 1) y0 y1 y2)) ∧ (∀ y0 y1 y2, LeO (tangramref03_Valid.l0 k y0 y1 y2) (tangramref03_Valid.l0 (k + 1) y0 y1 y2)) ∧ (∀ y0 y1 y2 y3 y4 y5, LeO (tangramref03_Valid.j2 k y0 y1 y2 y3 y4 y5) (tangramref03_Valid.j2 (k + 1) y0 y1 y2 y3 y4 y5))
 | 0 => ⟨fun _ _ _ r h => by simp [tangramref03_Valid.j0] at h, fun _ _ _ r h => by simp [tangramref03_Valid.l0] at h, fun _ _ _ _ _ _ r h => by simp [tangramref03_Valid.j2] at h⟩
 | k + 1 => by
  obtain ⟨ih0, ih1, ih2⟩ := tangramref03_Valid.mono_l k; refine ⟨?_, ?_, ?_⟩
  ·intro y0 y1 y2
   unfold tangramref03_Valid.j0
   repeat' first
   | (with_reducible exact ih0 _ _ _)
   | (with_reducible exact ih1 _ _ _)
   | (with_reducible exact ih2 _ _ _ _ _ _)
   | (with_reducible exact LeO.refl _)
   | (with_reducible exact LeO.none _)
   | (with_reducible refine LeO.ite ?_ ?_)
   | (with_reducible refine LeO.bind ?_ (fun _ => ?_))
   | exact ih0 _ _ _
   | exact ih1 _ _ _
   | exact ih2 _ _ _ _ _ _
   | exact LeO.none _
   | refine LeO.ite ?_ ?_
   | refine LeO.bind ?_ (fun _ => ?_)
  ·intro y0 y1 y2
   unfold tangramref03_Valid.l0
   repeat' first
   | (with_reducible exact ih0 _ _ _)
   | (with_reducible exact ih1 _ _ _)
   | (with_reducible exact ih2 _ _ _ _ _ _)
   | (with_reducible exact LeO.refl _)
   | (with_reducible exact LeO.none _)
   | (with_reducible refine LeO.ite ?_ ?_)
   | (with_reducible refine LeO.bind ?_ (fun _ => ?_))
   | exact ih0 _ _ _
   | exact ih1 _ _ _
   | exact ih2 _ _ _ _ _ _
   | exact LeO.none _
   | refine LeO.ite ?_ ?_
   | refine LeO.bind ?_ (fun _ => ?_)
  ·intro y0 y1 y2 y3 y4 y5
   unfold tangramref03_Valid.j2
   repeat' first
   | (with_reducible exact ih0 _ _ _)
   | (with_reducible exact ih1 _ _ _)
   | (with_reducible exact ih2 _ _ _ _ _ _)
   | (with_reducible exact LeO.refl _)
   | (with_reducible exact LeO.none _)
   | (with_reducible refine LeO.ite ?_ ?_)
   | (with_reducible refine LeO.bind ?_ (fun _ => ?_))
   | exact ih0 _ _ _
   | exact ih1 _ _ _
   | exact ih2 _ _ _ _ _ _
   | exact LeO.none _
   | refine LeO.ite ?_ ?_
   | refine LeO.bind ?_ (fun _ => ?_)
theorem tangramref03_Valid.mono : ∀ a0 a1 k, LeO (tangramref03_Valid.f k a0 a1) (tangramref03_Valid.f (k + 1) a0 a1) := by
 intro a0 a1 k; obtain ⟨ih0, ih1, ih2⟩ := tangramref03_Valid.mono_l k
 unfold tangramref03_Valid.f
 repeat' first
   | (with_reducible exact ih0 _ _ _)
   | (with_reducible exact ih1 _ _ _)
   | (with_reducible exact ih2 _ _ _ _ _ _)
   | (with_reducible exact LeO.refl _)
   | (with_reducible exact LeO.none _)
   | (with_reducible refine LeO.ite ?_ ?_)
   | (with_reducible refine LeO.bind ?_ (fun _ => ?_))
   | exact ih0 _ _ _
   | exact ih1 _ _ _
   | exact ih2 _ _ _ _ _ _
   | exact LeO.none _
   | refine LeO.ite ?_ ?_
   | refine LeO.bind ?_ (fun _ => ?_)
def tangramref03_Valid.T10 : Bool × List (List Nat × List Nat) := (true, [([], []), ([0], [0]), ([], []), ([2], [2]), ([1, 3], [1, 3]), ([4], [4]), ([], []), ([5, 6], [5, 6]), ([7, 7, 0, 1, 2, 3, 4, 5, 6, 7], [7])])
def tangramref03_Valid.B10 : List Nat := [0, 1, 0, 4, 15, 31, 0, 127, 255]
theorem tangramref03_Valid.tab10 : rtab .any (opsOf Tryd.f25 10) = tangramref03_Valid.T10 := by kernel_rfl
theorem tangramref03_Valid.bits10 : waitsOk tangramref03_Valid.T10.2 tangramref03_Valid.B10 = true := by kernel_rfl
set_option maxHeartbeats 8000000 in
set_option maxRecDepth 100000 in
theorem tangramref03_Valid.calls (k : Nat) (a0_0 : Int) (A0_1 : Option Addr) (c0_1 : Nat) (l0_1 : List (S42)) (r : Bool) (w : World) (hr0_1 : Kd.C k42 w A0_1 l0_1.length l0_1) (hc0_1 : l0_1.length ≤ c0_1) (h : tangramref03_Valid.f k a0_0 l0_1 = some r) :
  Calls Tryd.prog 25 #[.agg #[.int .i64 a0_0, .slice A0_1 l0_1.length c0_1]] w fun e w' => e = .returned (.bool r) ∧ Below w.heap.size w w' := by
 have hu26 := Tryd.underlying26; have hu42 := Tryd.underlying42; have HR0_1 := Aside0.mk hr0_1; have HC0_1 := Aside0.mk hc0_1; clear hr0_1 hc0_1; have HB := Aside0.mk (Below.refl w.heap.size w); have H : (if a0_0 < 0 then (tangramref03_Valid.j0 k true a0_0 l0_1) else (if a0_0 > 1048576 then (tangramref03_Valid.j0 k true a0_0 l0_1) else (tangramref03_Valid.j0 k (decide ((l0_1.length : Int) > 4194304)) a0_0 l0_1))) = some r := h; clear h; have HC2 := Aside0.mk H; clear H
 go_enter Tryd.func25, Tryd.ntmps25
 go_upto_region 1 with (first | ((with_reducible refine gate_dst (N := 1) rfl ?_); (try (refine gate_guard (by rfl) ?_; dsimp only)); refine be_ 1 #[.int .i64 a0_0, .slice A0_1 l0_1.length c0_1] 26 ?_; intro gb184 hg w3 hbox hb; have BK184 := Aside0.mk (hbox); have GW184 := wq (hb0 HB) hg; have GE184 := wq (hb0 HB) hg; replace HB := hs (hb0 HB) hb; clear hb hbox hg))
 (try simp only [Act.put, List.setIfInBounds_toArray, List.set_cons_zero, List.set_cons_succ])
 go_cut [19] (fun v19 wc => ∃ (kq : Nat) (x19_1 : Bool), v19 = .bool x19_1 ∧ Aside0 (tangramref03_Valid.j0 kq x19_1 a0_0 l0_1 = some r) ∧ Aside0 (kq ≤ k) ∧ Aside0 (wc.heap[gb184]? = some (.cells #[.int .i64 a0_0, (.slice A0_1 l0_1.length c0_1)] 26 (0, 0))) ∧ Aside0 (Below w.heap.size w wc))
 case first => as_aux_lemma =>
  have H := HC2.out; clear HC2
  by_cases c4 : a0_0 < 0
  ·rw [if_pos c4] at H; have c4b0 : decide (a0_0 < 0) = true := decide_eq_true c4; clear c4
   (first | rw [c4b0] | (simp only [i64_w, i32_w]; rw [c4b0]) | skip)
   have H' := Aside0.mk H; clear H; have hcz5_0 : w3.cell? ⟨gb184, 0, none⟩ = some (.int .i64 a0_0) := bc BK184 0; have hcz5_1 : w3.cell? ⟨gb184, 1, none⟩ = some (.slice A0_1 l0_1.length c0_1) := bc BK184 1; have hfz5_0 := blk_frozen BK184.out 0; have hfz5_1 := blk_frozen BK184.out 1
   go_wp2
   go_meet
   case rel => exact ⟨_, (true), (by first | rfl | (simp; done) | (simp [*]; done)), H', ⟨by first | omega | exact Nat.le_refl _⟩, ⟨bx BK184⟩, ⟨hb1 HB GE184⟩⟩
  ·rw [if_neg c4] at H; have c4b0 : decide (a0_0 < 0) = false := decide_eq_false c4; clear c4
   (first | rw [c4b0] | (simp only [i64_w, i32_w]; rw [c4b0]) | skip)
   by_cases c6 : a0_0 > 1048576
   ·rw [if_pos c6] at H; have c6b0 : decide (1048576 < a0_0) = true := decide_eq_true c6; clear c6; have H' := Aside0.mk H; clear H; have hcz7_0 : w3.cell? ⟨gb184, 0, none⟩ = some (.int .i64 a0_0) := bc BK184 0; have hcz7_1 : w3.cell? ⟨gb184, 1, none⟩ = some (.slice A0_1 l0_1.length c0_1) := bc BK184 1; have hfz7_0 := blk_frozen BK184.out 0; have hfz7_1 := blk_frozen BK184.out 1
    go_wp2
    go_meet
    case rel => exact ⟨_, (true), (by first | rfl | (simp; done) | (simp [*]; done)), H', ⟨by first | omega | exact Nat.le_refl _⟩, ⟨bx BK184⟩, ⟨hb1 HB GE184⟩⟩
   ·rw [if_neg c6] at H; have c6b0 : decide (1048576 < a0_0) = false := decide_eq_false c6; clear c6; have H' := Aside0.mk H; clear H; have hcz8_0 : w3.cell? ⟨gb184, 0, none⟩ = some (.int .i64 a0_0) := bc BK184 0; have hcz8_1 : w3.cell? ⟨gb184, 1, none⟩ = some (.slice A0_1 l0_1.length c0_1) := bc BK184 1; have hfz8_0 := blk_frozen BK184.out 0; have hfz8_1 := blk_frozen BK184.out 1
    go_wp2
    go_meet
    case rel => exact ⟨_, (decide ((l0_1.length : Int) > 4194304)), (by first | rfl | (simp; done) | (simp [*]; done)), H', ⟨by first | omega | exact Nat.le_refl _⟩, ⟨bx BK184⟩, ⟨hb1 HB GE184⟩⟩
 case rest => as_aux_lemma =>
  clear HC2
  try clear c2
  try clear p2
  try clear c4
  try clear c4b0
  try clear c6
  try clear c6b0
  try clear hcz5_0
  try clear hcz5_1
  try clear hcz7_0
  try clear hcz7_1
  try clear hcz8_0
  try clear hcz8_1
  try clear hfz5_0
  try clear hfz5_1
  try clear hfz7_0
  try clear hfz7_1
  try clear hfz8_0
  try clear hfz8_1
  obtain ⟨kq, x19_1, rfl, HA, HJ1, BK184, HB⟩ := hcut
  cases kq with
  | zero => exact absurd HA.out (by simp [tangramref03_Valid.j0])
  | succ kj1 =>
   have H := HA.out; clear HA; simp only [tangramref03_Valid.j0] at H
   by_cases c9 : x19_1 = true
   ·subst c9; rw [if_pos rfl] at H; obtain rfl := Option.some.inj H
    go_wp2
    go_ret
    exact ⟨by first | rfl | (simp [errW_none, errW_some] <;> rfl) | (simp [*, errW_none, errW_some] <;> rfl), hb1 HB GE184⟩
   ·replace c9 := Bool.eq_false_iff.mpr c9; subst c9; rw [if_neg (show ¬ (false = true) by decide)] at H; have H' := Aside0.mk H; clear H
    go_wp2
    go_loopg [3] kj1 (fun kq v3 w' => ∃ (x3_2 : Int), v3 = .int .i64 x3_2 ∧ Aside0 (tangramref03_Valid.l0 kq x3_2 a0_0 l0_1 = some r) ∧ Aside0 (kq ≤ kj1) ∧ Aside0 (w'.heap[gb184]? = some (.cells #[.int .i64 a0_0, (.slice A0_1 l0_1.length c0_1)] 26 (0, 0))) ∧ Aside0 (Below w.heap.size w w'))
    case atStart => exact ⟨(0), (by first | rfl | (simp; done) | (simp [*]; done)), H', ⟨Nat.le_refl _⟩, ⟨bx BK184⟩, ⟨hb1 HB GE184⟩⟩
    case round =>
     clear H'
     try clear c2
     try clear p2
     try clear c4
     try clear c4b0
     try clear c6
     try clear c6b0
     try clear c9
     try clear hcz5_0
     try clear hcz5_1
     try clear hcz7_0
     try clear hcz7_1
     try clear hcz8_0
     try clear hcz8_1
     try clear hfz5_0
     try clear hfz5_1
     try clear hfz7_0
     try clear hfz7_1
     try clear hfz8_0
     try clear hfz8_1
     try clear p2
     obtain ⟨x3_2, rfl, HA, HK2, BK184, HB⟩ := hrel
     cases gk with
     | zero => exact absurd HA.out (by simp [tangramref03_Valid.l0])
     | succ k2 =>
      have H := HA.out; clear HA; simp only [tangramref03_Valid.l0] at H
      by_cases c10 : x3_2 < (l0_1.length : Int)
      ·rw [if_pos c10] at H; have c10b0 : decide (x3_2 < (l0_1.length : Int)) = true := decide_eq_true c10; clear c10
       by_cases c11 : 0 ≤ x3_2
       ·rw [if_pos c11] at H; have c11b0 : decide (0 ≤ x3_2) = true := decide_eq_true c11; clear c11; have HC12 := Aside0.mk H; clear H; have hcz13_0 : wr.cell? ⟨gb184, 0, none⟩ = some (.int .i64 a0_0) := bc BK184 0; have hcz13_1 : wr.cell? ⟨gb184, 1, none⟩ = some (.slice A0_1 l0_1.length c0_1) := bc BK184 1; have hfz13_0 := blk_frozen BK184.out 0; have hfz13_1 := blk_frozen BK184.out 1; have p185 : 0 ≤ (x3_2 : Int) := of_decide_eq_true (by first | (with_reducible assumption) | assumption); have q185 : x3_2 < (l0_1.length : Int) := of_decide_eq_true (by first | (with_reducible assumption) | assumption); obtain ⟨ad185, e185, hx185_0, hx185_1⟩ := at_T42 HR0_1.out x3_2 p185 q185
        cases e185
        replace hx185_0 := (HB.out.cell (World.block_lt_of_cell? w _ hx185_0)).trans hx185_0; replace hx185_1 := (HB.out.cell (World.block_lt_of_cell? w _ hx185_1)).trans hx185_1; replace p185 := eq_true p185; replace q185 := eq_true q185
        go_upto_region 7 with (first | ((with_reducible refine gate_dst (N := 4) rfl ?_); (try (refine gate_guard (by rfl) ?_; dsimp only)); refine be_ 4 #[.int .i64 0, .int .i64 0] 42 ?_; intro gb186 hg w14 hbox hb; have BK186 := Aside0.mk (hbox); have GW186 := wq (hb1 HB GE184) hg; have GE186 := wq (hb1 HB GE184) hg; replace HB := hs (hb1 HB GE184) hb; have NB184_186 := lx BK184 hg; have NB186_184 := gx BK184 hg; replace BK184 := kx BK184 hb; clear hb hbox hg; have hnb15 := NB186_184.out; have hnc15 := NB184_186.out; have hcz16_0 : w14.cell? ⟨gb186, 0, none⟩ = some (.int .i64 0) := bc BK186 0; have hcz16_1 : w14.cell? ⟨gb186, 1, none⟩ = some (.int .i64 0) := bc BK186 1; have hfz16_0 := blk_frozen BK186.out 0; have hfz16_1 := blk_frozen BK186.out 1))
        (try simp only [Act.put, List.setIfInBounds_toArray, List.set_cons_zero, List.set_cons_succ])
        go_cut [48] (fun v48 wc => ∃ (kq : Nat) (x48_11 : Bool), v48 = .bool x48_11 ∧ Aside0 (tangramref03_Valid.j2 kq x3_2 x48_11 a0_0 l0_1 ((rd_T42 l0_1 x3_2).f0) ((rd_T42 l0_1 x3_2).f1) = some r) ∧ Aside0 (kq ≤ k2) ∧ Aside0 (wc.heap[gb184]? = some (.cells #[.int .i64 a0_0, (.slice (some ad185) l0_1.length c0_1)] 26 (0, 0))) ∧ Aside0 (wc.heap[gb186]? = some (.cells #[.int .i64 ((rd_T42 l0_1 x3_2).f0), .int .i64 ((rd_T42 l0_1 x3_2).f1)] 42 (0, 0))) ∧ Aside0 (Below w.heap.size w wc))
        case first => as_aux_lemma =>
         have H := HC12.out; clear HC12
         by_cases c17 : ((rd_T42 l0_1 x3_2).f0) < 0
         ·rw [if_pos c17] at H; have c17b0 : decide (((rd_T42 l0_1 x3_2).f0) < 0) = true := decide_eq_true c17; clear c17
          (first | rw [c17b0] | (simp only [i64_w, i32_w]; rw [c17b0]) | skip)
          have H' := Aside0.mk H; clear H; have hnb18 := NB186_184.out; have hnc18 := NB184_186.out; have hcz19_0 : w14.cell? ⟨gb186, 0, none⟩ = some (.int .i64 0) := bc BK186 0; have hcz19_1 : w14.cell? ⟨gb186, 1, none⟩ = some (.int .i64 0) := bc BK186 1; have hfz19_0 := blk_frozen BK186.out 0; have hfz19_1 := blk_frozen BK186.out 1
          go_wp2
          go_meet
          case rel => exact ⟨_, (true), (by first | rfl | (simp; done) | (simp [*]; done)), H', ⟨by have := HJ1.out; have := HK2.out; first | omega | exact Nat.le_refl _⟩, ⟨bx1 BK184 NB184_186⟩, ⟨bp BK186⟩, ⟨hb2 HB GE184 GE186⟩⟩
         ·rw [if_neg c17] at H; have c17b0 : decide (((rd_T42 l0_1 x3_2).f0) < 0) = false := decide_eq_false c17; clear c17
          (first | rw [c17b0] | (simp only [i64_w, i32_w]; rw [c17b0]) | skip)
          by_cases c20 : ((rd_T42 l0_1 x3_2).f0) ≥ ((rd_T42 l0_1 x3_2).f1)
          ·rw [if_pos c20] at H; have c20b0 : decide (((rd_T42 l0_1 x3_2).f1) ≤ ((rd_T42 l0_1 x3_2).f0)) = true := decide_eq_true c20; clear c20; have H' := Aside0.mk H; clear H; have hnb21 := NB186_184.out; have hnc21 := NB184_186.out; have hcz22_0 : w14.cell? ⟨gb186, 0, none⟩ = some (.int .i64 0) := bc BK186 0; have hcz22_1 : w14.cell? ⟨gb186, 1, none⟩ = some (.int .i64 0) := bc BK186 1; have hfz22_0 := blk_frozen BK186.out 0; have hfz22_1 := blk_frozen BK186.out 1
           go_wp2
           go_meet
           case rel => exact ⟨_, (true), (by first | rfl | (simp; done) | (simp [*]; done)), H', ⟨by have := HJ1.out; have := HK2.out; first | omega | exact Nat.le_refl _⟩, ⟨bx1 BK184 NB184_186⟩, ⟨bp BK186⟩, ⟨hb2 HB GE184 GE186⟩⟩
          ·rw [if_neg c20] at H; have c20b0 : decide (((rd_T42 l0_1 x3_2).f1) ≤ ((rd_T42 l0_1 x3_2).f0)) = false := decide_eq_false c20; clear c20; have H' := Aside0.mk H; clear H; have hnb23 := NB186_184.out; have hnc23 := NB184_186.out; have hcz24_0 : w14.cell? ⟨gb186, 0, none⟩ = some (.int .i64 0) := bc BK186 0; have hcz24_1 : w14.cell? ⟨gb186, 1, none⟩ = some (.int .i64 0) := bc BK186 1; have hfz24_0 := blk_frozen BK186.out 0; have hfz24_1 := blk_frozen BK186.out 1; have hcz25_0 : w14.cell? ⟨gb184, 0, none⟩ = some (.int .i64 a0_0) := bc BK184 0; have hcz25_1 : w14.cell? ⟨gb184, 1, none⟩ = some (.slice (some ad185) l0_1.length c0_1) := bc BK184 1; have hfz25_0 := blk_frozen BK184.out 0; have hfz25_1 := blk_frozen BK184.out 1
           go_wp2
           go_meet
           case rel => exact ⟨_, (decide (((rd_T42 l0_1 x3_2).f1) ≥ a0_0)), (by first | rfl | (simp; done) | (simp [*]; done)), H', ⟨by have := HJ1.out; have := HK2.out; first | omega | exact Nat.le_refl _⟩, ⟨bx1 BK184 NB184_186⟩, ⟨bp BK186⟩, ⟨hb2 HB GE184 GE186⟩⟩
        case rest => as_aux_lemma =>
         clear HC12
         try clear c1
         try clear p1
         try clear q1
         try clear hx1
         try clear c2
         try clear p2
         try clear c4
         try clear c4b0
         try clear c6
         try clear c6b0
         try clear c9
         try clear c10
         try clear c10b0
         try clear c11
         try clear c11b0
         try clear c15
         try clear c17
         try clear c17b0
         try clear c18
         try clear p18
         try clear q18
         try clear hx18
         try clear c20
         try clear c20b0
         try clear c21
         try clear c23
         try clear c25
         try clear hcz13_0
         try clear hcz13_1
         try clear hcz16_0
         try clear hcz16_1
         try clear hcz19_0
         try clear hcz19_1
         try clear hcz22_0
         try clear hcz22_1
         try clear hcz24_0
         try clear hcz24_1
         try clear hcz25_0
         try clear hcz25_1
         try clear hcz5_0
         try clear hcz5_1
         try clear hcz7_0
         try clear hcz7_1
         try clear hcz8_0
         try clear hcz8_1
         try clear hfz13_0
         try clear hfz13_1
         try clear hfz16_0
         try clear hfz16_1
         try clear hfz19_0
         try clear hfz19_1
         try clear hfz22_0
         try clear hfz22_1
         try clear hfz24_0
         try clear hfz24_1
         try clear hfz25_0
         try clear hfz25_1
         try clear hfz5_0
         try clear hfz5_1
         try clear hfz7_0
         try clear hfz7_1
         try clear hfz8_0
         try clear hfz8_1
         try clear hx185_0
         try clear hx185_1
         try clear p185
         try clear p2
         try clear q185
         obtain ⟨kq, x48_11, rfl, HA, HJ11, BK184, BK186, HB⟩ := hcut
         cases kq with
         | zero => exact absurd HA.out (by simp [tangramref03_Valid.j2])
         | succ kj11 =>
          have H := HA.out; clear HA; simp only [tangramref03_Valid.j2] at H
          by_cases c26 : x48_11 = true
          ·subst c26; rw [if_pos rfl] at H; obtain rfl := Option.some.inj H
           go_wp2
           go_ret
           exact ⟨by first | rfl | (simp [errW_none, errW_some] <;> rfl) | (simp [*, errW_none, errW_some] <;> rfl), hb2 HB GE184 GE186⟩
          ·replace c26 := Bool.eq_false_iff.mpr c26; subst c26; rw [if_neg (show ¬ (false = true) by decide)] at H
           by_cases c27 : x3_2 > 0
           ·rw [if_pos c27] at H; have c27b0 : decide (0 < x3_2) = true := decide_eq_true c27; clear c27; obtain ⟨ji28, hji28⟩ : ∃ j_ : Int, (wrap64 (x3_2 - 1)) = j_ := ⟨_, rfl⟩; replace H : (if 0 ≤ (ji28) then (if (ji28) < (l0_1.length : Int) then ((tangramref03_Less.f ((rd_T42 l0_1 (ji28)).f0) ((rd_T42 l0_1 (ji28)).f1) ((rd_T42 l0_1 x3_2).f0) ((rd_T42 l0_1 x3_2).f1)).bind fun t188 => (if t188 = true then (tangramref03_Valid.l0 kj11 (wrap64 (x3_2 + 1)) a0_0 l0_1) else (some false))) else (none)) else (none)) = some r := by first | (rw [hji28] at H; exact H) | (simp only [hji28] at H ⊢; exact H)
            have hji28w : (IntKind.i64.wrap (x3_2 - 1)) = ji28 := (i64_w _).trans hji28
            by_cases c29 : 0 ≤ (ji28)
            ·rw [if_pos c29] at H; have c29b0 : decide (0 ≤ (ji28)) = true := decide_eq_true c29; clear c29
             by_cases c30 : (ji28) < (l0_1.length : Int)
             ·rw [if_pos c30] at H; have c30b0 : decide ((ji28) < (l0_1.length : Int)) = true := decide_eq_true c30; clear c30; replace H := Option.bind_eq_some_iff.mp H; obtain ⟨t188, A310, H⟩ := H; (try dsimp only at H); have A31 := Aside0.mk A310; clear A310
              by_cases c32 : t188 = true
              ·subst c32; rw [if_pos rfl] at H; have H' := Aside0.mk H; clear H
               try go_wp2
               replace BK184 := bd BK184; replace BK186 := bd BK186; replace HB := Aside0.mk (below_drew1 HB.out); have p187 : 0 ≤ ((ji28) : Int) := of_decide_eq_true (by first | (with_reducible assumption) | assumption); have q187 : (ji28) < (l0_1.length : Int) := of_decide_eq_true (by first | (with_reducible assumption) | assumption); obtain ⟨ad187, e187, hx187_0, hx187_1⟩ := at_T42 HR0_1.out (ji28) p187 q187; have hw187_1 := hx187_1; have hw187_0 := hx187_0; obtain rfl : ad185 = ad187 := (by injection e187); replace hx187_0 := (HB.out.cell (World.block_lt_of_cell? w _ hx187_0)).trans hx187_0; replace hx187_1 := (HB.out.cell (World.block_lt_of_cell? w _ hx187_1)).trans hx187_1; replace p187 := eq_true p187; replace q187 := eq_true q187; refine start_ (n := 9) (S := fun w' => w'.cell? ⟨gb184, 0, none⟩ = some (.int .i64 a0_0) ∧ w'.cell? ⟨gb184, 1, none⟩ = some (.slice (some ad185) l0_1.length c0_1) ∧ w'.cell? ⟨gb186, 0, none⟩ = some (.int .i64 ((rd_T42 l0_1 x3_2).f0)) ∧ w'.cell? ⟨gb186, 1, none⟩ = some (.int .i64 ((rd_T42 l0_1 x3_2).f1)) ∧ w'.cell? (ad185.add (((ji28)).toNat * 2)) = some (.int .i64 ((rd_T42 l0_1 (ji28)).f0)) ∧ w'.cell? ⟨(ad185.add (((ji28)).toNat * 2)).block, (ad185.add (((ji28)).toNat * 2)).off + 1, none⟩ = some (.int .i64 ((rd_T42 l0_1 (ji28)).f1))) (ds := []) (pf 0 9) (by kernel_rfl) rfl rfl ⟨bc BK184 0, bc BK184 1, bc BK186 0, bc BK186 1, ((HB.out.cell (World.block_lt_of_cell? w _ hw187_0)).trans hw187_0), ((HB.out.cell (World.block_lt_of_cell? w _ hw187_1)).trans hw187_1)⟩ (fun hHeld => ?_); refine with_tabW tangramref03_Valid.tab10 tangramref03_Valid.bits10 (fun HT_ HW_ => ?_)
               generalize wc.drew = w33 at BK184 BK186 HB hx187_0 hx187_1 hHeld ⊢; refine pu_ 0 (some 51) (pf 1 9) HT_ ?_; refine pu_ 2 (some 53) #[T_,F_,T_,F_,F_,F_,F_,F_,F_] HT_ ?_; refine pu_ 3 (some 54) #[T_,F_,T_,T_,F_,F_,F_,F_,F_] HT_ ?_; refine tk6_ 1 (some 52) (pf 4 9) HT_ HW_ hHeld ?_; refine pu_ 4 (some 55) (pf 5 9) HT_ ?_; refine tk6_ 5 (some 56) (pf 6 9) HT_ HW_ hHeld ?_; refine tk6_ 6 (some 57) (pf 7 9) HT_ HW_ hHeld ?_; refine on_ 7 (some 58) (pf 8 9) HT_ (fun K hK => ?_); refine goes_ Tryd.func45 (by kernel_rfl) rfl #[.agg #[.int .i64 ((rd_T42 l0_1 (ji28)).f0), .int .i64 ((rd_T42 l0_1 (ji28)).f1)], .agg #[.int .i64 ((rd_T42 l0_1 x3_2).f0), .int .i64 ((rd_T42 l0_1 x3_2).f1)]] (by rfl) rfl rfl (by (try simp only [List.map_toArray, List.map_cons, List.map_nil]); first | done | (simp only [hji28]; rfl) | rfl | (simp only [List.length_drop, List.length_take]; rfl)) ?_
               with_reducible refine (tangramref03_Less.calls ((rd_T42 l0_1 (ji28)).f0) ((rd_T42 l0_1 (ji28)).f1) ((rd_T42 l0_1 x3_2).f0) ((rd_T42 l0_1 x3_2).f1) true _ A31.out).mono ?_
               rintro e w34 ⟨rfl, hb⟩; refine ⟨_, rfl, ?_⟩; replace BK184 := kx BK184 hb; replace BK186 := kx BK186 hb; replace HB := hs (hb2 HB GE184 GE186) hb
               (try clear hb)
               (try clear hb2)
               (try clear hk)
               (try clear hi)
               refine hK.out _ _ ⟨bc BK184 0, bc BK184 1, bc BK186 0, bc BK186 1, ((HB.out.cell (World.block_lt_of_cell? w _ hw187_0)).trans hw187_0), ((HB.out.cell (World.block_lt_of_cell? w _ hw187_1)).trans hw187_1)⟩ (fun hHeld => ?_); clear hK K; refine nm_ (some 58) ?_; refine pu_ 8 (some 5) (pf 9 9) HT_ ?_; refine done_ (done_of HT_.out (by kernel_rfl)) ?_
               try go_wp2
               go_roundg kj11
               case measure => have := HJ1.out; have := HK2.out; have := HJ11.out; omega
               case rel => exact ⟨(wrap64 (x3_2 + 1)), (by first | rfl | (simp; done) | (simp [*]; done)), H', ⟨by have := HJ1.out; have := HK2.out; have := HJ11.out; omega⟩, ⟨bx BK184⟩, ⟨hb2 HB GE184 GE186⟩⟩
              ·replace c32 := Bool.eq_false_iff.mpr c32; subst c32; rw [if_neg (show ¬ (false = true) by decide)] at H; obtain rfl := Option.some.inj H
               try go_wp2
               replace BK184 := bd BK184; replace BK186 := bd BK186; replace HB := Aside0.mk (below_drew1 HB.out); have p187 : 0 ≤ ((ji28) : Int) := of_decide_eq_true (by first | (with_reducible assumption) | assumption); have q187 : (ji28) < (l0_1.length : Int) := of_decide_eq_true (by first | (with_reducible assumption) | assumption); obtain ⟨ad187, e187, hx187_0, hx187_1⟩ := at_T42 HR0_1.out (ji28) p187 q187; have hw187_1 := hx187_1; have hw187_0 := hx187_0; obtain rfl : ad185 = ad187 := (by injection e187); replace hx187_0 := (HB.out.cell (World.block_lt_of_cell? w _ hx187_0)).trans hx187_0; replace hx187_1 := (HB.out.cell (World.block_lt_of_cell? w _ hx187_1)).trans hx187_1; replace p187 := eq_true p187; replace q187 := eq_true q187; refine start_ (n := 9) (S := fun w' => w'.cell? ⟨gb184, 0, none⟩ = some (.int .i64 a0_0) ∧ w'.cell? ⟨gb184, 1, none⟩ = some (.slice (some ad185) l0_1.length c0_1) ∧ w'.cell? ⟨gb186, 0, none⟩ = some (.int .i64 ((rd_T42 l0_1 x3_2).f0)) ∧ w'.cell? ⟨gb186, 1, none⟩ = some (.int .i64 ((rd_T42 l0_1 x3_2).f1)) ∧ w'.cell? (ad185.add (((ji28)).toNat * 2)) = some (.int .i64 ((rd_T42 l0_1 (ji28)).f0)) ∧ w'.cell? ⟨(ad185.add (((ji28)).toNat * 2)).block, (ad185.add (((ji28)).toNat * 2)).off + 1, none⟩ = some (.int .i64 ((rd_T42 l0_1 (ji28)).f1))) (ds := []) (pf 0 9) (by kernel_rfl) rfl rfl ⟨bc BK184 0, bc BK184 1, bc BK186 0, bc BK186 1, ((HB.out.cell (World.block_lt_of_cell? w _ hw187_0)).trans hw187_0), ((HB.out.cell (World.block_lt_of_cell? w _ hw187_1)).trans hw187_1)⟩ (fun hHeld => ?_); refine with_tabW tangramref03_Valid.tab10 tangramref03_Valid.bits10 (fun HT_ HW_ => ?_)
               generalize wc.drew = w35 at BK184 BK186 HB hx187_0 hx187_1 hHeld ⊢; refine pu_ 0 (some 51) (pf 1 9) HT_ ?_; refine pu_ 2 (some 53) #[T_,F_,T_,F_,F_,F_,F_,F_,F_] HT_ ?_; refine pu_ 3 (some 54) #[T_,F_,T_,T_,F_,F_,F_,F_,F_] HT_ ?_; refine tk6_ 1 (some 52) (pf 4 9) HT_ HW_ hHeld ?_; refine pu_ 4 (some 55) (pf 5 9) HT_ ?_; refine tk6_ 5 (some 56) (pf 6 9) HT_ HW_ hHeld ?_; refine tk6_ 6 (some 57) (pf 7 9) HT_ HW_ hHeld ?_; refine on_ 7 (some 58) (pf 8 9) HT_ (fun K hK => ?_); refine goes_ Tryd.func45 (by kernel_rfl) rfl #[.agg #[.int .i64 ((rd_T42 l0_1 (ji28)).f0), .int .i64 ((rd_T42 l0_1 (ji28)).f1)], .agg #[.int .i64 ((rd_T42 l0_1 x3_2).f0), .int .i64 ((rd_T42 l0_1 x3_2).f1)]] (by rfl) rfl rfl (by (try simp only [List.map_toArray, List.map_cons, List.map_nil]); first | done | (simp only [hji28]; rfl) | rfl | (simp only [List.length_drop, List.length_take]; rfl)) ?_
               with_reducible refine (tangramref03_Less.calls ((rd_T42 l0_1 (ji28)).f0) ((rd_T42 l0_1 (ji28)).f1) ((rd_T42 l0_1 x3_2).f0) ((rd_T42 l0_1 x3_2).f1) false _ A31.out).mono ?_
               rintro e w36 ⟨rfl, hb⟩; refine ⟨_, rfl, ?_⟩; replace BK184 := kx BK184 hb; replace BK186 := kx BK186 hb; replace HB := hs (hb2 HB GE184 GE186) hb
               (try clear hb)
               (try clear hb2)
               (try clear hk)
               (try clear hi)
               refine hK.out _ _ ⟨bc BK184 0, bc BK184 1, bc BK186 0, bc BK186 1, ((HB.out.cell (World.block_lt_of_cell? w _ hw187_0)).trans hw187_0), ((HB.out.cell (World.block_lt_of_cell? w _ hw187_1)).trans hw187_1)⟩ (fun hHeld => ?_); clear hK K; refine nm_ (some 58) ?_; refine pu_ 8 (some 5) (pf 9 9) HT_ ?_; refine done_ (done_of HT_.out (by kernel_rfl)) ?_
               try go_wp2
               go_ret
               exact ⟨by first | rfl | (simp [errW_none, errW_some] <;> rfl) | (simp only [← hji28]; first | rfl | (simp [errW_none, errW_some] <;> rfl)) | (simp [*, errW_none, errW_some] <;> rfl), hb2 HB GE184 GE186⟩
             ·rw [if_neg c30] at H; exact absurd H (by simp)
            ·rw [if_neg c29] at H; exact absurd H (by simp)
           ·rw [if_neg c27] at H; have c27b0 : decide (0 < x3_2) = false := decide_eq_false c27; clear c27; have H' := Aside0.mk H; clear H
            go_wp2
            go_roundg kj11
            case measure => have := HJ1.out; have := HK2.out; have := HJ11.out; omega
            case rel => exact ⟨(wrap64 (x3_2 + 1)), (by first | rfl | (simp; done) | (simp [*]; done)), H', ⟨by have := HJ1.out; have := HK2.out; have := HJ11.out; omega⟩, ⟨bx BK184⟩, ⟨hb2 HB GE184 GE186⟩⟩
       ·rw [if_neg c11] at H; exact absurd H (by simp)
      ·rw [if_neg c10] at H; have c10b0 : decide (x3_2 < (l0_1.length : Int)) = false := decide_eq_false c10; clear c10; obtain rfl := Option.some.inj H; have hcz37_0 : wr.cell? ⟨gb184, 0, none⟩ = some (.int .i64 a0_0) := bc BK184 0; have hcz37_1 : wr.cell? ⟨gb184, 1, none⟩ = some (.slice A0_1 l0_1.length c0_1) := bc BK184 1; have hfz37_0 := blk_frozen BK184.out 0; have hfz37_1 := blk_frozen BK184.out 1
       go_wp2
       go_ret
       exact ⟨by first | rfl | (simp [errW_none, errW_some] <;> rfl) | (simp [*, errW_none, errW_some] <;> rfl), hb1 HB GE184⟩

end Go.Proofs.YthejafdcdcchbaaDoor.PSimA

-- PRINTED by print.py (a twelfth state) out of the translation. Not trusted: Lean checks it.
namespace Go.Proofs.YthejafdcdcchbaaDoor.PSimA
open Go.RowKit Go.Proofs.YthejafdcdcchbaaDoorW.PrintWords Go.Proofs.YthejafdcdcchbaaDoorW.PrintLast Go.Proofs.YthejafdcdcchbaaDoorW.PrintMore
open Go.Proofs.YthejafdcdcchbaaDoorX
attribute [local go_sem] max2_int min2_int max_two min_two max_three min_three max_four min_four   -- for this text's walks alone
set_option linter.unusedVariables false
set_option linter.unusedSimpArgs false

/-! ### tangramref03_From: function 43 -/
def tangramref03_From.f (a0_0 : Int) (l0_1 : List (S42)) (a1 : Int) : Option (Int) := if (Int.tmod a1 2) = 0 then (if 0 ≤ (wrap64 (Int.tdiv a1 2)) then (if (wrap64 (Int.tdiv a1 2)) < (l0_1.length : Int) then (some ((rd_T42 l0_1 (wrap64 (Int.tdiv a1 2))).f0)) else (none)) else (none)) else (if 0 ≤ (wrap64 (Int.tdiv a1 2)) then (if (wrap64 (Int.tdiv a1 2)) < (l0_1.length : Int) then (some ((rd_T42 l0_1 (wrap64 (Int.tdiv a1 2))).f1)) else (none)) else (none))
set_option maxHeartbeats 8000000 in
set_option maxRecDepth 100000 in
theorem tangramref03_From.calls (a0_0 : Int) (A0_1 : Option Addr) (c0_1 : Nat) (l0_1 : List (S42)) (a1 : Int) (r : Int) (w : World) (hr0_1 : Kd.C k42 w A0_1 l0_1.length l0_1) (hc0_1 : l0_1.length ≤ c0_1) (h : tangramref03_From.f a0_0 l0_1 a1 = some r) :
  Calls Tryd.prog 43 #[.agg #[.int .i64 a0_0, .slice A0_1 l0_1.length c0_1], .int .i64 a1] w fun e w' => e = .returned (.int .i64 r) ∧ Below w.heap.size w w' := by
 have hu26 := Tryd.underlying26; have HR0_1 := Aside0.mk hr0_1; have HC0_1 := Aside0.mk hc0_1; clear hr0_1 hc0_1; have HB := Aside0.mk (Below.refl w.heap.size w); have H : (if (Int.tmod a1 2) = 0 then (if 0 ≤ (wrap64 (Int.tdiv a1 2)) then (if (wrap64 (Int.tdiv a1 2)) < (l0_1.length : Int) then (some ((rd_T42 l0_1 (wrap64 (Int.tdiv a1 2))).f0)) else (none)) else (none)) else (if 0 ≤ (wrap64 (Int.tdiv a1 2)) then (if (wrap64 (Int.tdiv a1 2)) < (l0_1.length : Int) then (some ((rd_T42 l0_1 (wrap64 (Int.tdiv a1 2))).f1)) else (none)) else (none))) = some r := h; clear h
 by_cases c3 : (Int.tmod a1 2) = 0
 ·rw [if_pos c3] at H; have c3b0 : ((Int.tmod a1 2) == 0) = true := beq_iff_eq.mpr c3; have c3b1 : ((Int.tmod a1 2) != 0) = false := bne_eq_false_iff_eq.mpr c3; clear c3; obtain ⟨ji4, hji4⟩ : ∃ j_ : Int, (wrap64 (Int.tdiv a1 2)) = j_ := ⟨_, rfl⟩; replace H : (if 0 ≤ (ji4) then (if (ji4) < (l0_1.length : Int) then (some ((rd_T42 l0_1 (ji4)).f0)) else (none)) else (none)) = some r := by first | (rw [hji4] at H; exact H) | (simp only [hji4] at H ⊢; exact H)
  have hji4w : (IntKind.i64.wrap (Int.tdiv a1 2)) = ji4 := (i64_w _).trans hji4
  by_cases c5 : 0 ≤ (ji4)
  ·rw [if_pos c5] at H; have c5b0 : decide (0 ≤ (ji4)) = true := decide_eq_true c5; clear c5
   by_cases c6 : (ji4) < (l0_1.length : Int)
   ·rw [if_pos c6] at H; have c6b0 : decide ((ji4) < (l0_1.length : Int)) = true := decide_eq_true c6; clear c6; obtain rfl := Option.some.inj H
    go_enter Tryd.func43, Tryd.ntmps43
    go_wp2_with (first | ((with_reducible refine gate_dst (N := 2) rfl ?_); refine be_ 2 #[.int .i64 a0_0, .slice A0_1 l0_1.length c0_1] 26 ?_; intro gb189 hg w7 hbox hb; have BK189 := Aside0.mk (hbox); have GW189 := wq (hb0 HB) hg; have GE189 := wq (hb0 HB) hg; replace HB := hs (hb0 HB) hb; clear hb hbox hg; have hcz8_0 : w7.cell? ⟨gb189, 0, none⟩ = some (.int .i64 a0_0) := bc BK189 0; have hcz8_1 : w7.cell? ⟨gb189, 1, none⟩ = some (.slice A0_1 l0_1.length c0_1) := bc BK189 1; have hfz8_0 := blk_frozen BK189.out 0; have hfz8_1 := blk_frozen BK189.out 1; have p190 : 0 ≤ ((ji4) : Int) := of_decide_eq_true (by first | (with_reducible assumption) | assumption); have q190 : (ji4) < (l0_1.length : Int) := of_decide_eq_true (by first | (with_reducible assumption) | assumption); obtain ⟨ad190, e190, hx190_0, hx190_1⟩ := at_T42 HR0_1.out (ji4) p190 q190; cases e190; replace hx190_0 := (HB.out.cell (World.block_lt_of_cell? w _ hx190_0)).trans hx190_0; replace hx190_1 := (HB.out.cell (World.block_lt_of_cell? w _ hx190_1)).trans hx190_1; replace p190 := eq_true p190; replace q190 := eq_true q190))
    go_ret
    exact ⟨by first | rfl | (simp [errW_none, errW_some] <;> rfl) | (simp only [← hji4]; first | rfl | (simp [errW_none, errW_some] <;> rfl)) | (simp [*, errW_none, errW_some] <;> rfl), hb1 HB GE189⟩
   ·rw [if_neg c6] at H; exact absurd H (by simp)
  ·rw [if_neg c5] at H; exact absurd H (by simp)
 ·rw [if_neg c3] at H; have c3b0 : ((Int.tmod a1 2) == 0) = false := beq_eq_false_iff_ne.mpr c3; have c3b1 : ((Int.tmod a1 2) != 0) = true := bne_iff_ne.mpr c3; obtain ⟨ji9, hji9⟩ : ∃ j_ : Int, (wrap64 (Int.tdiv a1 2)) = j_ := ⟨_, rfl⟩; replace H : (if 0 ≤ (ji9) then (if (ji9) < (l0_1.length : Int) then (some ((rd_T42 l0_1 (ji9)).f1)) else (none)) else (none)) = some r := by first | (rw [hji9] at H; exact H) | (simp only [hji9] at H ⊢; exact H)
  have hji9w : (IntKind.i64.wrap (Int.tdiv a1 2)) = ji9 := (i64_w _).trans hji9
  by_cases c10 : 0 ≤ (ji9)
  ·rw [if_pos c10] at H; have c10b0 : decide (0 ≤ (ji9)) = true := decide_eq_true c10; clear c10
   by_cases c11 : (ji9) < (l0_1.length : Int)
   ·rw [if_pos c11] at H; have c11b0 : decide ((ji9) < (l0_1.length : Int)) = true := decide_eq_true c11; clear c11; obtain rfl := Option.some.inj H
    go_enter Tryd.func43, Tryd.ntmps43
    go_wp2_with (first | ((with_reducible refine gate_dst (N := 2) rfl ?_); refine be_ 2 #[.int .i64 a0_0, .slice A0_1 l0_1.length c0_1] 26 ?_; intro gb189 hg w12 hbox hb; have BK189 := Aside0.mk (hbox); have GW189 := wq (hb0 HB) hg; have GE189 := wq (hb0 HB) hg; replace HB := hs (hb0 HB) hb; clear hb hbox hg; have hcz13_0 : w12.cell? ⟨gb189, 0, none⟩ = some (.int .i64 a0_0) := bc BK189 0; have hcz13_1 : w12.cell? ⟨gb189, 1, none⟩ = some (.slice A0_1 l0_1.length c0_1) := bc BK189 1; have hfz13_0 := blk_frozen BK189.out 0; have hfz13_1 := blk_frozen BK189.out 1; have p191 : 0 ≤ ((ji9) : Int) := of_decide_eq_true (by first | (with_reducible assumption) | assumption); have q191 : (ji9) < (l0_1.length : Int) := of_decide_eq_true (by first | (with_reducible assumption) | assumption); obtain ⟨ad191, e191, hx191_0, hx191_1⟩ := at_T42 HR0_1.out (ji9) p191 q191; cases e191; replace hx191_0 := (HB.out.cell (World.block_lt_of_cell? w _ hx191_0)).trans hx191_0; replace hx191_1 := (HB.out.cell (World.block_lt_of_cell? w _ hx191_1)).trans hx191_1; replace p191 := eq_true p191; replace q191 := eq_true q191))
    go_ret
    exact ⟨by first | rfl | (simp [errW_none, errW_some] <;> rfl) | (simp only [← hji9]; first | rfl | (simp [errW_none, errW_some] <;> rfl)) | (simp [*, errW_none, errW_some] <;> rfl), hb1 HB GE189⟩
   ·rw [if_neg c11] at H; exact absurd H (by simp)
  ·rw [if_neg c10] at H; exact absurd H (by simp)

end Go.Proofs.YthejafdcdcchbaaDoor.PSimA

-- PRINTED by print.py (a twelfth state) out of the translation. Not trusted: Lean checks it.
namespace Go.Proofs.YthejafdcdcchbaaDoor.PSimA
open Go.RowKit Go.Proofs.YthejafdcdcchbaaDoorW.PrintWords Go.Proofs.YthejafdcdcchbaaDoorW.PrintLast Go.Proofs.YthejafdcdcchbaaDoorW.PrintMore
open Go.Proofs.YthejafdcdcchbaaDoorX
attribute [local go_sem] max2_int min2_int max_two min_two max_three min_three max_four min_four   -- for this text's walks alone
set_option linter.unusedVariables false
set_option linter.unusedSimpArgs false

/-! ### tangramref03_To: function 44 -/
def tangramref03_To.f (a0_0 : Int) (l0_1 : List (S42)) (a1 : Int) : Option (Int) := if (Int.tmod a1 2) = 0 then (if 0 ≤ (wrap64 (Int.tdiv a1 2)) then (if (wrap64 (Int.tdiv a1 2)) < (l0_1.length : Int) then (some ((rd_T42 l0_1 (wrap64 (Int.tdiv a1 2))).f1)) else (none)) else (none)) else (if 0 ≤ (wrap64 (Int.tdiv a1 2)) then (if (wrap64 (Int.tdiv a1 2)) < (l0_1.length : Int) then (some ((rd_T42 l0_1 (wrap64 (Int.tdiv a1 2))).f0)) else (none)) else (none))
set_option maxHeartbeats 8000000 in
set_option maxRecDepth 100000 in
theorem tangramref03_To.calls (a0_0 : Int) (A0_1 : Option Addr) (c0_1 : Nat) (l0_1 : List (S42)) (a1 : Int) (r : Int) (w : World) (hr0_1 : Kd.C k42 w A0_1 l0_1.length l0_1) (hc0_1 : l0_1.length ≤ c0_1) (h : tangramref03_To.f a0_0 l0_1 a1 = some r) :
  Calls Tryd.prog 44 #[.agg #[.int .i64 a0_0, .slice A0_1 l0_1.length c0_1], .int .i64 a1] w fun e w' => e = .returned (.int .i64 r) ∧ Below w.heap.size w w' := by
 have hu26 := Tryd.underlying26; have HR0_1 := Aside0.mk hr0_1; have HC0_1 := Aside0.mk hc0_1; clear hr0_1 hc0_1; have HB := Aside0.mk (Below.refl w.heap.size w); have H : (if (Int.tmod a1 2) = 0 then (if 0 ≤ (wrap64 (Int.tdiv a1 2)) then (if (wrap64 (Int.tdiv a1 2)) < (l0_1.length : Int) then (some ((rd_T42 l0_1 (wrap64 (Int.tdiv a1 2))).f1)) else (none)) else (none)) else (if 0 ≤ (wrap64 (Int.tdiv a1 2)) then (if (wrap64 (Int.tdiv a1 2)) < (l0_1.length : Int) then (some ((rd_T42 l0_1 (wrap64 (Int.tdiv a1 2))).f0)) else (none)) else (none))) = some r := h; clear h
 by_cases c3 : (Int.tmod a1 2) = 0
 ·rw [if_pos c3] at H; have c3b0 : ((Int.tmod a1 2) == 0) = true := beq_iff_eq.mpr c3; have c3b1 : ((Int.tmod a1 2) != 0) = false := bne_eq_false_iff_eq.mpr c3; clear c3; obtain ⟨ji4, hji4⟩ : ∃ j_ : Int, (wrap64 (Int.tdiv a1 2)) = j_ := ⟨_, rfl⟩; replace H : (if 0 ≤ (ji4) then (if (ji4) < (l0_1.length : Int) then (some ((rd_T42 l0_1 (ji4)).f1)) else (none)) else (none)) = some r := by first | (rw [hji4] at H; exact H) | (simp only [hji4] at H ⊢; exact H)
  have hji4w : (IntKind.i64.wrap (Int.tdiv a1 2)) = ji4 := (i64_w _).trans hji4
  by_cases c5 : 0 ≤ (ji4)
  ·rw [if_pos c5] at H; have c5b0 : decide (0 ≤ (ji4)) = true := decide_eq_true c5; clear c5
   by_cases c6 : (ji4) < (l0_1.length : Int)
   ·rw [if_pos c6] at H; have c6b0 : decide ((ji4) < (l0_1.length : Int)) = true := decide_eq_true c6; clear c6; obtain rfl := Option.some.inj H
    go_enter Tryd.func44, Tryd.ntmps44
    go_wp2_with (first | ((with_reducible refine gate_dst (N := 2) rfl ?_); refine be_ 2 #[.int .i64 a0_0, .slice A0_1 l0_1.length c0_1] 26 ?_; intro gb192 hg w7 hbox hb; have BK192 := Aside0.mk (hbox); have GW192 := wq (hb0 HB) hg; have GE192 := wq (hb0 HB) hg; replace HB := hs (hb0 HB) hb; clear hb hbox hg; have hcz8_0 : w7.cell? ⟨gb192, 0, none⟩ = some (.int .i64 a0_0) := bc BK192 0; have hcz8_1 : w7.cell? ⟨gb192, 1, none⟩ = some (.slice A0_1 l0_1.length c0_1) := bc BK192 1; have hfz8_0 := blk_frozen BK192.out 0; have hfz8_1 := blk_frozen BK192.out 1; have p193 : 0 ≤ ((ji4) : Int) := of_decide_eq_true (by first | (with_reducible assumption) | assumption); have q193 : (ji4) < (l0_1.length : Int) := of_decide_eq_true (by first | (with_reducible assumption) | assumption); obtain ⟨ad193, e193, hx193_0, hx193_1⟩ := at_T42 HR0_1.out (ji4) p193 q193; cases e193; replace hx193_0 := (HB.out.cell (World.block_lt_of_cell? w _ hx193_0)).trans hx193_0; replace hx193_1 := (HB.out.cell (World.block_lt_of_cell? w _ hx193_1)).trans hx193_1; replace p193 := eq_true p193; replace q193 := eq_true q193))
    go_ret
    exact ⟨by first | rfl | (simp [errW_none, errW_some] <;> rfl) | (simp only [← hji4]; first | rfl | (simp [errW_none, errW_some] <;> rfl)) | (simp [*, errW_none, errW_some] <;> rfl), hb1 HB GE192⟩
   ·rw [if_neg c6] at H; exact absurd H (by simp)
  ·rw [if_neg c5] at H; exact absurd H (by simp)
 ·rw [if_neg c3] at H; have c3b0 : ((Int.tmod a1 2) == 0) = false := beq_eq_false_iff_ne.mpr c3; have c3b1 : ((Int.tmod a1 2) != 0) = true := bne_iff_ne.mpr c3; obtain ⟨ji9, hji9⟩ : ∃ j_ : Int, (wrap64 (Int.tdiv a1 2)) = j_ := ⟨_, rfl⟩; replace H : (if 0 ≤ (ji9) then (if (ji9) < (l0_1.length : Int) then (some ((rd_T42 l0_1 (ji9)).f0)) else (none)) else (none)) = some r := by first | (rw [hji9] at H; exact H) | (simp only [hji9] at H ⊢; exact H)
  have hji9w : (IntKind.i64.wrap (Int.tdiv a1 2)) = ji9 := (i64_w _).trans hji9
  by_cases c10 : 0 ≤ (ji9)
  ·rw [if_pos c10] at H; have c10b0 : decide (0 ≤ (ji9)) = true := decide_eq_true c10; clear c10
   by_cases c11 : (ji9) < (l0_1.length : Int)
   ·rw [if_pos c11] at H; have c11b0 : decide ((ji9) < (l0_1.length : Int)) = true := decide_eq_true c11; clear c11; obtain rfl := Option.some.inj H
    go_enter Tryd.func44, Tryd.ntmps44
    go_wp2_with (first | ((with_reducible refine gate_dst (N := 2) rfl ?_); refine be_ 2 #[.int .i64 a0_0, .slice A0_1 l0_1.length c0_1] 26 ?_; intro gb192 hg w12 hbox hb; have BK192 := Aside0.mk (hbox); have GW192 := wq (hb0 HB) hg; have GE192 := wq (hb0 HB) hg; replace HB := hs (hb0 HB) hb; clear hb hbox hg; have hcz13_0 : w12.cell? ⟨gb192, 0, none⟩ = some (.int .i64 a0_0) := bc BK192 0; have hcz13_1 : w12.cell? ⟨gb192, 1, none⟩ = some (.slice A0_1 l0_1.length c0_1) := bc BK192 1; have hfz13_0 := blk_frozen BK192.out 0; have hfz13_1 := blk_frozen BK192.out 1; have p194 : 0 ≤ ((ji9) : Int) := of_decide_eq_true (by first | (with_reducible assumption) | assumption); have q194 : (ji9) < (l0_1.length : Int) := of_decide_eq_true (by first | (with_reducible assumption) | assumption); obtain ⟨ad194, e194, hx194_0, hx194_1⟩ := at_T42 HR0_1.out (ji9) p194 q194; cases e194; replace hx194_0 := (HB.out.cell (World.block_lt_of_cell? w _ hx194_0)).trans hx194_0; replace hx194_1 := (HB.out.cell (World.block_lt_of_cell? w _ hx194_1)).trans hx194_1; replace p194 := eq_true p194; replace q194 := eq_true q194))
    go_ret
    exact ⟨by first | rfl | (simp [errW_none, errW_some] <;> rfl) | (simp only [← hji9]; first | rfl | (simp [errW_none, errW_some] <;> rfl)) | (simp [*, errW_none, errW_some] <;> rfl), hb1 HB GE192⟩
   ·rw [if_neg c11] at H; exact absurd H (by simp)
  ·rw [if_neg c10] at H; exact absurd H (by simp)

end Go.Proofs.YthejafdcdcchbaaDoor.PSimA

-- PRINTED by print.py (a twelfth state) out of the translation. Not trusted: Lean checks it.
namespace Go.Proofs.YthejafdcdcchbaaDoor.PSimA
open Go.RowKit Go.Proofs.YthejafdcdcchbaaDoorW.PrintWords Go.Proofs.YthejafdcdcchbaaDoorW.PrintLast Go.Proofs.YthejafdcdcchbaaDoorW.PrintMore
open Go.Proofs.YthejafdcdcchbaaDoorX
attribute [local go_sem] max2_int min2_int max_two min_two max_three min_three max_four min_four   -- for this text's walks alone
set_option linter.unusedVariables false
set_option linter.unusedSimpArgs false

/-! ### tangramref03_Ends: function 20 -/
def tangramref03_Ends.j0 : Nat → Int → Bool → Int → List (S42) → Option (Int × Int × Bool)
 | 0, _, _, _, _ => none
 | k + 1, x1, x23, x196000, x196001 => if x23 = true then (some (0, 0, false)) else ((tangramref03_From.f x196000 x196001 x1).bind fun t197 => ((tangramref03_To.f x196000 x196001 x1).bind fun t198 => (some (t197, t198, true))))
def tangramref03_Ends.f (k : Nat) (a0_0 : Int) (l0_1 : List (S42)) (a1 : Int) : Option (Int × Int × Bool) := (tangramref03_Valid.f k a0_0 l0_1).bind fun t196 => (if t196 = true then (if a1 < 0 then (tangramref03_Ends.j0 k a1 true a0_0 l0_1) else (tangramref03_Ends.j0 k a1 (decide ((wrap64 (Int.tdiv a1 2)) ≥ (l0_1.length : Int))) a0_0 l0_1)) else (tangramref03_Ends.j0 k a1 true a0_0 l0_1))
theorem tangramref03_Ends.mono_l : ∀ k, (∀ y0 y1 y2 y3, LeO (tangramref03_Ends.j0 k y0 y1 y2 y3) (tangramref03_Ends.j0 (k + 1) y0 y1 y2 y3))
 | 0 => fun _ _ _ _ r h => by simp [tangramref03_Ends.j0] at h
 | k + 1 => by
  have ih0 := tangramref03_Ends.mono_l k
  ·intro y0 y1 y2 y3
   unfold tangramref03_Ends.j0
   repeat' first
   | (with_reducible exact ih0 _ _ _ _)
   | (with_reducible exact tangramref03_Valid.mono _ _ _)
   | (with_reducible exact LeO.refl _)
   | (with_reducible exact LeO.none _)
   | (with_reducible refine LeO.ite ?_ ?_)
   | (with_reducible refine LeO.bind ?_ (fun _ => ?_))
   | exact ih0 _ _ _ _
   | exact tangramref03_Valid.mono _ _ _
   | exact LeO.none _
   | refine LeO.ite ?_ ?_
   | refine LeO.bind ?_ (fun _ => ?_)
theorem tangramref03_Ends.mono : ∀ a0 a1 a2 k, LeO (tangramref03_Ends.f k a0 a1 a2) (tangramref03_Ends.f (k + 1) a0 a1 a2) := by
 intro a0 a1 a2 k; have ih0 := tangramref03_Ends.mono_l k
 unfold tangramref03_Ends.f
 repeat' first
   | (with_reducible exact ih0 _ _ _ _)
   | (with_reducible exact tangramref03_Valid.mono _ _ _)
   | (with_reducible exact LeO.refl _)
   | (with_reducible exact LeO.none _)
   | (with_reducible refine LeO.ite ?_ ?_)
   | (with_reducible refine LeO.bind ?_ (fun _ => ?_))
   | exact ih0 _ _ _ _
   | exact tangramref03_Valid.mono _ _ _
   | exact LeO.none _
   | refine LeO.ite ?_ ?_
   | refine LeO.bind ?_ (fun _ => ?_)
def tangramref03_Ends.T4 : Bool × List (List Nat × List Nat) := (true, [([], []), ([], []), ([0, 1], [0, 1]), ([], []), ([], []), ([3, 4, 2], [3, 4]), ([2, 5, 0, 1, 2], [2]), ([5, 6, 0, 1, 2, 3, 4, 5, 6], [5]), ([7, 0, 1, 2, 3, 4, 5, 6, 7], [])])
def tangramref03_Ends.B4 : List Nat := [0, 0, 3, 0, 0, 31, 63, 127, 255]
theorem tangramref03_Ends.tab4 : rtab .any (opsOf Tryd.f20 4) = tangramref03_Ends.T4 := by kernel_rfl
theorem tangramref03_Ends.bits4 : waitsOk tangramref03_Ends.T4.2 tangramref03_Ends.B4 = true := by kernel_rfl
set_option maxHeartbeats 8000000 in
set_option maxRecDepth 100000 in
theorem tangramref03_Ends.calls (k : Nat) (a0_0 : Int) (A0_1 : Option Addr) (c0_1 : Nat) (l0_1 : List (S42)) (a1 : Int) (r1 : Int) (r2 : Int) (r3 : Bool) (w : World) (hr0_1 : Kd.C k42 w A0_1 l0_1.length l0_1) (hc0_1 : l0_1.length ≤ c0_1) (h : tangramref03_Ends.f k a0_0 l0_1 a1 = some (r1, r2, r3)) :
  Calls Tryd.prog 20 #[.agg #[.int .i64 a0_0, .slice A0_1 l0_1.length c0_1], .int .i64 a1] w fun e w' => e = .returned (.tuple #[.int .i64 r1, .int .i64 r2, .bool r3]) ∧ Below w.heap.size w w' := by
 have hu26 := Tryd.underlying26; have HR0_1 := Aside0.mk hr0_1; have HC0_1 := Aside0.mk hc0_1; clear hr0_1 hc0_1; have HB := Aside0.mk (Below.refl w.heap.size w); have H : ((tangramref03_Valid.f k a0_0 l0_1).bind fun t196 => (if t196 = true then (if a1 < 0 then (tangramref03_Ends.j0 k a1 true a0_0 l0_1) else (tangramref03_Ends.j0 k a1 (decide ((wrap64 (Int.tdiv a1 2)) ≥ (l0_1.length : Int))) a0_0 l0_1)) else (tangramref03_Ends.j0 k a1 true a0_0 l0_1))) = some (r1, r2, r3) := h; clear h; replace H := Option.bind_eq_some_iff.mp H; obtain ⟨t196, A30, H⟩ := H; replace H : (if t196 = true then (if a1 < 0 then (tangramref03_Ends.j0 k a1 true a0_0 l0_1) else (tangramref03_Ends.j0 k a1 (decide ((wrap64 (Int.tdiv a1 2)) ≥ (l0_1.length : Int))) a0_0 l0_1)) else (tangramref03_Ends.j0 k a1 true a0_0 l0_1)) = some (r1, r2, r3) := H; have A3 := Aside0.mk A30; clear A30; have HC4 := Aside0.mk H; clear H
 go_enter Tryd.func20, Tryd.ntmps20
 go_upto_region 2 with (first | ((with_reducible refine gate_dst (N := 2) rfl ?_); (try (refine gate_guard (by rfl) ?_; dsimp only)); refine be_ 2 #[.int .i64 a0_0, .slice A0_1 l0_1.length c0_1] 26 ?_; intro gb195 hg w5 hbox hb; have BK195 := Aside0.mk (hbox); have GW195 := wq (hb0 HB) hg; have GE195 := wq (hb0 HB) hg; replace HB := hs (hb0 HB) hb; clear hb hbox hg; have hcz6_0 : w5.cell? ⟨gb195, 0, none⟩ = some (.int .i64 a0_0) := bc BK195 0; have hcz6_1 : w5.cell? ⟨gb195, 1, none⟩ = some (.slice A0_1 l0_1.length c0_1) := bc BK195 1; have hfz6_0 := blk_frozen BK195.out 0; have hfz6_1 := blk_frozen BK195.out 1) | ((with_reducible refine gate_callee (f := 25) rfl ?_); refine gl_ (some 9) Tryd.func25 #[.agg #[.int .i64 a0_0, .slice A0_1 l0_1.length c0_1]] ?_; (with_reducible refine (tangramref03_Valid.calls k a0_0 _ _ l0_1 t196 _ ?side1 ?side2 A3.out).mono ?_); (case side1 => repeat (first | exact (Kd.C_below HR0_1.out HB.out) | (with_reducible refine Kd.C_alloc ?_ _) | (with_reducible refine Kd.C_drewN ?_ _) | (with_reducible refine Kd.C_drew ?_))); (case side2 => exact HC0_1.out); rintro e w7 ⟨rfl, hb⟩; refine ⟨_, rfl, ?_⟩; replace BK195 := kx BK195 hb; replace HB := hs (hb1 HB GE195) hb; (try clear hb); (try clear hb2); (try clear hk); (try clear hi)))
 (try simp only [Act.put, List.setIfInBounds_toArray, List.set_cons_zero, List.set_cons_succ])
 go_cut [23] (fun v23 wc => ∃ (kq : Nat) (x23_3 : Bool), v23 = .bool x23_3 ∧ Aside0 (tangramref03_Ends.j0 kq a1 x23_3 a0_0 l0_1 = some (r1, r2, r3)) ∧ Aside0 (kq ≤ k) ∧ Aside0 (wc.heap[gb195]? = some (.cells #[.int .i64 a0_0, (.slice A0_1 l0_1.length c0_1)] 26 (0, 0))) ∧ Aside0 (Below w.heap.size w wc))
 case first => as_aux_lemma =>
  have H := HC4.out; clear HC4
  by_cases c8 : t196 = true
  ·subst c8; have H1 : (if a1 < 0 then (tangramref03_Ends.j0 k a1 true a0_0 l0_1) else (tangramref03_Ends.j0 k a1 (decide ((wrap64 (Int.tdiv a1 2)) ≥ (l0_1.length : Int))) a0_0 l0_1)) = some (r1, r2, r3) := by rw [if_pos rfl] at H; exact H
   clear H; have H := H1; clear H1
   by_cases c9 : a1 < 0
   ·rw [if_pos c9] at H; have c9b0 : decide (a1 < 0) = true := decide_eq_true c9; clear c9
    (first | rw [c9b0] | (simp only [i64_w, i32_w]; rw [c9b0]) | skip)
    have H' := Aside0.mk H; clear H
    go_wp2
    go_meet
    case rel => exact ⟨_, (true), (by first | rfl | (simp; done) | (simp [*]; done)), H', ⟨by first | omega | exact Nat.le_refl _⟩, ⟨bx BK195⟩, ⟨hb1 HB GE195⟩⟩
   ·rw [if_neg c9] at H; have c9b0 : decide (a1 < 0) = false := decide_eq_false c9; clear c9
    (first | rw [c9b0] | (simp only [i64_w, i32_w]; rw [c9b0]) | skip)
    have H' := Aside0.mk H; clear H; have hcz10_0 : w7.cell? ⟨gb195, 0, none⟩ = some (.int .i64 a0_0) := bc BK195 0; have hcz10_1 : w7.cell? ⟨gb195, 1, none⟩ = some (.slice A0_1 l0_1.length c0_1) := bc BK195 1; have hfz10_0 := blk_frozen BK195.out 0; have hfz10_1 := blk_frozen BK195.out 1
    go_wp2
    go_meet
    case rel => exact ⟨_, (decide ((wrap64 (Int.tdiv a1 2)) ≥ (l0_1.length : Int))), (by first | rfl | (simp; done) | (simp [*]; done)), H', ⟨by first | omega | exact Nat.le_refl _⟩, ⟨bx BK195⟩, ⟨hb1 HB GE195⟩⟩
  ·replace c8 := Bool.eq_false_iff.mpr c8; subst c8; have H1 : (tangramref03_Ends.j0 k a1 true a0_0 l0_1) = some (r1, r2, r3) := by rw [if_neg (show ¬ (false = true) by decide)] at H; exact H
   clear H; have H := H1; clear H1; have H' := Aside0.mk H; clear H
   go_wp2
   go_meet
   case rel => exact ⟨_, (true), (by first | rfl | (simp; done) | (simp [*]; done)), H', ⟨by first | omega | exact Nat.le_refl _⟩, ⟨bx BK195⟩, ⟨hb1 HB GE195⟩⟩
 case rest => as_aux_lemma =>
  clear HC4
  try clear c2
  try clear p2
  try clear p6
  try clear c8
  try clear c9
  try clear c9b0
  try clear hcz10_0
  try clear hcz10_1
  try clear hcz6_0
  try clear hcz6_1
  try clear hfz10_0
  try clear hfz10_1
  try clear hfz6_0
  try clear hfz6_1
  obtain ⟨kq, x23_3, rfl, HA, HJ3, BK195, HB⟩ := hcut
  cases kq with
  | zero => exact absurd HA.out (by simp [tangramref03_Ends.j0])
  | succ kj3 =>
   have H := HA.out; clear HA; simp only [tangramref03_Ends.j0] at H
   by_cases c11 : x23_3 = true
   ·subst c11; have H1 : (some (0, 0, false)) = some (r1, r2, r3) := by rw [if_pos rfl] at H; exact H
    clear H; have H := H1; clear H1; simp only [Option.some.injEq, Prod.mk.injEq] at H; obtain ⟨rfl, rfl, rfl⟩ := H
    go_wp2
    go_ret3
    exact ⟨by first | rfl | (simp [errW_none, errW_some] <;> rfl) | (simp [*, errW_none, errW_some] <;> rfl), hb1 HB GE195⟩
   ·replace c11 := Bool.eq_false_iff.mpr c11; subst c11; have H1 : ((tangramref03_From.f a0_0 l0_1 a1).bind fun t197 => ((tangramref03_To.f a0_0 l0_1 a1).bind fun t198 => (some (t197, t198, true)))) = some (r1, r2, r3) := by rw [if_neg (show ¬ (false = true) by decide)] at H; exact H
    clear H; have H := H1; clear H1; replace H := Option.bind_eq_some_iff.mp H; obtain ⟨t197, A120, H⟩ := H; replace H : ((tangramref03_To.f a0_0 l0_1 a1).bind fun t198 => (some (t197, t198, true))) = some (r1, r2, r3) := H; have A12 := Aside0.mk A120; clear A120; replace H := Option.bind_eq_some_iff.mp H; obtain ⟨t198, A130, H⟩ := H; replace H : (some (t197, t198, true)) = some (r1, r2, r3) := H; have A13 := Aside0.mk A130; clear A130; simp only [Option.some.injEq, Prod.mk.injEq] at H; obtain ⟨rfl, rfl, rfl⟩ := H
    try go_wp2
    replace BK195 := bd BK195; replace HB := Aside0.mk (below_drew1 HB.out); refine start_ (n := 9) (S := fun w' => w'.cell? ⟨gb195, 0, none⟩ = some (.int .i64 a0_0) ∧ w'.cell? ⟨gb195, 1, none⟩ = some (.slice A0_1 l0_1.length c0_1)) (ds := []) (pf 0 9) (by kernel_rfl) rfl rfl ⟨bc BK195 0, bc BK195 1⟩ (fun hHeld => ?_); refine with_tabW tangramref03_Ends.tab4 tangramref03_Ends.bits4 (fun HT_ HW_ => ?_); generalize wc.drew = w14 at BK195 HB hHeld ⊢; refine pu_ 1 (some 25) #[F_,T_,F_,F_,F_,F_,F_,F_,F_] HT_ ?_; refine pu_ 4 (some 28) #[F_,T_,F_,F_,T_,F_,F_,F_,F_] HT_ ?_; refine tk2_ 0 (some 24) #[T_,T_,F_,F_,T_,F_,F_,F_,F_] HT_ HW_ hHeld ?_; refine tk2_ 3 (some 27) #[T_,T_,F_,T_,T_,F_,F_,F_,F_] HT_ HW_ hHeld ?_; refine on_ 2 (some 26) (pf 5 9) HT_ (fun K hK => ?_); refine gs_ Tryd.func43 #[.agg #[.int .i64 a0_0, .slice A0_1 l0_1.length c0_1], .int .i64 a1] ?_
    with_reducible refine (tangramref03_From.calls a0_0 _ _ l0_1 a1 t197 _ ?side1 ?side2 A12.out).mono ?_
    (case side1 => repeat (first | exact (Kd.C_below HR0_1.out HB.out) | (with_reducible refine Kd.C_alloc ?_ _) | (with_reducible refine Kd.C_drewN ?_ _) | (with_reducible refine Kd.C_drew ?_)))
    (case side2 => exact HC0_1.out)
    rintro e w15 ⟨rfl, hb⟩; refine ⟨_, rfl, ?_⟩; replace BK195 := kx BK195 hb; replace HB := hs (hb1 HB GE195) hb
    (try clear hb)
    (try clear hb2)
    (try clear hk)
    (try clear hi)
    refine hK.out _ _ ⟨bc BK195 0, bc BK195 1⟩ (fun hHeld => ?_); clear hK K; refine nm_ (some 26) ?_; refine on_ 5 (some 29) (pf 6 9) HT_ (fun K hK => ?_); refine gs_ Tryd.func44 #[.agg #[.int .i64 a0_0, .slice A0_1 l0_1.length c0_1], .int .i64 a1] ?_
    with_reducible refine (tangramref03_To.calls a0_0 _ _ l0_1 a1 t198 _ ?side1 ?side2 A13.out).mono ?_
    (case side1 => repeat (first | exact (Kd.C_below HR0_1.out HB.out) | (with_reducible refine Kd.C_alloc ?_ _) | (with_reducible refine Kd.C_drewN ?_ _) | (with_reducible refine Kd.C_drew ?_)))
    (case side2 => exact HC0_1.out)
    rintro e w16 ⟨rfl, hb⟩; refine ⟨_, rfl, ?_⟩; replace BK195 := kx BK195 hb; replace HB := hs (hb1 HB GE195) hb
    (try clear hb)
    (try clear hb2)
    (try clear hk)
    (try clear hi)
    refine hK.out _ _ ⟨bc BK195 0, bc BK195 1⟩ (fun hHeld => ?_); clear hK K; refine nm_ (some 29) ?_; refine pu_ 6 (some 4) (pf 7 9) HT_ ?_; refine pu_ 7 (some 5) (pf 8 9) HT_ ?_; refine pu_ 8 (some 6) (pf 9 9) HT_ ?_; refine done_ (done_of HT_.out (by kernel_rfl)) ?_
    try go_wp2
    go_ret3
    exact ⟨by first | rfl | (simp [errW_none, errW_some] <;> rfl) | (simp [*, errW_none, errW_some] <;> rfl), hb1 HB GE195⟩

end Go.Proofs.YthejafdcdcchbaaDoor.PSimA
