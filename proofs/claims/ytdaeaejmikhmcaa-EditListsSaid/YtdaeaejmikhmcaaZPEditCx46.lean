-- PRINTED by print.py (a twelfth state) out of the translation. Not trusted: Lean checks it.
import Derived.Test.YtdaeaejmikhmcaaZPEditCx0
import Derived.Test.YtdaeaejmikhmcaaZPEditCx3
import Derived.Test.YtdaeaejmikhmcaaZPEditCx5
import Derived.Test.YtdaeaejmikhmcaaZPEditCx45
namespace Go.Proofs.Ytdaeaejmikhmcaa.PEditC
open Go.RowKit Go.Proofs.YtdaeaejmikhmcaaW.PrintWords Go.Proofs.YtdaeaejmikhmcaaW.PrintLast Go.Proofs.YtdaeaejmikhmcaaW.PrintMore
open Go.Proofs.YtdaeaejmikhmcaaX
attribute [local go_sem] max2_int min2_int max_two min_two max_three min_three max_four min_four   -- for this text's walks alone
set_option linter.unusedVariables false
set_option linter.unusedSimpArgs false

/-! ### edit_Sub: function 22 -/
def edit_Sub.l0 : Nat → List Int → Int → Int → Int → List (S46) → List Bool → Option (Int × (List (S46)) × Int)
 | 0, _, _, _, _, _, _ => none
 | k + 1, x17, x18, x19, x751000, x751001, x757000 => if x19 < x18 then (if 0 ≤ x19 then (if x19 < (x17.length : Int) then (if (rd x17 x19) < 0 then (some (0, ([] : List (S46)), 2)) else (if (rd x17 x19) ≥ (x757000.length : Int) then (some (0, ([] : List (S46)), 2)) else (if 0 ≤ (rd x17 x19) then (if (rd x17 x19) < (x757000.length : Int) then (edit_Sub.l0 k x17 x18 (wrap64 (x19 + 1)) x751000 x751001 (x757000.set ((rd x17 x19) : Int).toNat true)) else (none)) else (none)))) else (none)) else (none)) else ((edit_keptSub.f k x751000 x751001 x757000).bind fun t759 => ((edit_made.f k x751000 t759).bind fun bt762 => (some (bt762.1, bt762.2, 0))))
def edit_Sub.f (k : Nat) (a0_0 : Int) (l0_1 : List (S46)) (l1 : List Int) : Option (Int × (List (S46)) × Int) := (simple_Valid.f k a0_0 l0_1).bind fun t752 => (if t752 = true then (if 0 ≤ (l0_1.length : Int) then (if ((l0_1.length : Int) : Int).toNat ≤ 281474976710656 then (edit_Sub.l0 k l1 (l1.length : Int) 0 a0_0 l0_1 (List.replicate ((l0_1.length : Int) : Int).toNat false)) else (none)) else (none)) else (some (0, ([] : List (S46)), 1)))
theorem edit_Sub.mono_l : ∀ k, (∀ y0 y1 y2 y3 y4 y5, LeO (edit_Sub.l0 k y0 y1 y2 y3 y4 y5) (edit_Sub.l0 (k + 1) y0 y1 y2 y3 y4 y5))
 | 0 => fun _ _ _ _ _ _ r h => by simp [edit_Sub.l0] at h
 | k + 1 => by
  have ih0 := edit_Sub.mono_l k
  ·intro y0 y1 y2 y3 y4 y5
   unfold edit_Sub.l0
   repeat' first
   | (with_reducible exact ih0 _ _ _ _ _ _)
   | (with_reducible exact edit_keptSub.mono _ _ _ _)
   | (with_reducible exact edit_made.mono _ _ _)
   | (with_reducible exact simple_Valid.mono _ _ _)
   | (with_reducible exact LeO.refl _)
   | (with_reducible exact LeO.none _)
   | (with_reducible refine LeO.ite ?_ ?_)
   | (with_reducible refine LeO.bind ?_ (fun _ => ?_))
   | exact ih0 _ _ _ _ _ _
   | exact edit_keptSub.mono _ _ _ _
   | exact edit_made.mono _ _ _
   | exact simple_Valid.mono _ _ _
   | exact LeO.none _
   | refine LeO.ite ?_ ?_
   | refine LeO.bind ?_ (fun _ => ?_)
theorem edit_Sub.mono : ∀ a0 a1 a2 k, LeO (edit_Sub.f k a0 a1 a2) (edit_Sub.f (k + 1) a0 a1 a2) := by
 intro a0 a1 a2 k; have ih0 := edit_Sub.mono_l k
 unfold edit_Sub.f
 repeat' first
   | (with_reducible exact ih0 _ _ _ _ _ _)
   | (with_reducible exact edit_keptSub.mono _ _ _ _)
   | (with_reducible exact edit_made.mono _ _ _)
   | (with_reducible exact simple_Valid.mono _ _ _)
   | (with_reducible exact LeO.refl _)
   | (with_reducible exact LeO.none _)
   | (with_reducible refine LeO.ite ?_ ?_)
   | (with_reducible refine LeO.bind ?_ (fun _ => ?_))
   | exact ih0 _ _ _ _ _ _
   | exact edit_keptSub.mono _ _ _ _
   | exact edit_made.mono _ _ _
   | exact simple_Valid.mono _ _ _
   | exact LeO.none _
   | refine LeO.ite ?_ ?_
   | refine LeO.bind ?_ (fun _ => ?_)
def edit_Sub.T11 : Bool × List (List Nat × List Nat) := (true, [([], []), ([0], [0]), ([], []), ([], []), ([2, 3], [2, 3]), ([1, 4, 4], [1, 4]), ([5, 5, 0, 1, 2, 3, 4, 5], [5]), ([6, 0, 1, 2, 3, 4, 5, 6], [])])
def edit_Sub.B11 : List Nat := [0, 1, 0, 0, 12, 31, 63, 127]
theorem edit_Sub.tab11 : rtab .any (opsOf Try.f22 11) = edit_Sub.T11 := by kernel_rfl
theorem edit_Sub.bits11 : waitsOk edit_Sub.T11.2 edit_Sub.B11 = true := by kernel_rfl
set_option maxHeartbeats 8000000 in
set_option maxRecDepth 100000 in
theorem edit_Sub.calls (k : Nat) (a0_0 : Int) (A0_1 : Option Addr) (c0_1 : Nat) (l0_1 : List (S46)) (A1 : Option Addr) (c1 : Nat) (l1 : List Int) (r1 : Int) (r2 : List (S46)) (r3 : Int) (w : World) (hr0_1 : Kd.C k46 w A0_1 l0_1.length l0_1) (hc0_1 : l0_1.length ≤ c0_1) (hr1 : Kd.C (Kd.int .i64) w A1 l1.length l1) (hc1 : l1.length ≤ c1) (h : edit_Sub.f k a0_0 l0_1 l1 = some (r1, r2, r3)) :
  Calls Try.prog 22 #[.agg #[.int .i64 a0_0, .slice A0_1 l0_1.length c0_1], .slice A1 l1.length c1] w fun e w' => ∃ v1_ : Value, e = .returned (.tuple #[.agg #[.int .i64 r1, v1_], .int .i64 r3]) ∧ Kd.R k46 46 w' w.heap.size (fun _ => True) v1_ r2 ∧ Below w.heap.size w w' := by
 have hu25 := Try.underlying25
 skip
 have HR0_1 := Aside0.mk hr0_1; have HC0_1 := Aside0.mk hc0_1; clear hr0_1 hc0_1; have HR1 := Aside0.mk hr1; have HC1 := Aside0.mk hc1; clear hr1 hc1; have HB := Aside0.mk (Below.refl w.heap.size w); have H : ((simple_Valid.f k a0_0 l0_1).bind fun t752 => (if t752 = true then (if 0 ≤ (l0_1.length : Int) then (if ((l0_1.length : Int) : Int).toNat ≤ 281474976710656 then (edit_Sub.l0 k l1 (l1.length : Int) 0 a0_0 l0_1 (List.replicate ((l0_1.length : Int) : Int).toNat false)) else (none)) else (none)) else (some (0, ([] : List (S46)), 1)))) = some (r1, r2, r3) := h; clear h; replace H := Option.bind_eq_some_iff.mp H; obtain ⟨t752, A30, H⟩ := H; replace H : (if t752 = true then (if 0 ≤ (l0_1.length : Int) then (if ((l0_1.length : Int) : Int).toNat ≤ 281474976710656 then (edit_Sub.l0 k l1 (l1.length : Int) 0 a0_0 l0_1 (List.replicate ((l0_1.length : Int) : Int).toNat false)) else (none)) else (none)) else (some (0, ([] : List (S46)), 1))) = some (r1, r2, r3) := H; have A3 := Aside0.mk A30; clear A30
 by_cases c4 : t752 = true
 ·subst c4; have H1 : (if 0 ≤ (l0_1.length : Int) then (if ((l0_1.length : Int) : Int).toNat ≤ 281474976710656 then (edit_Sub.l0 k l1 (l1.length : Int) 0 a0_0 l0_1 (List.replicate ((l0_1.length : Int) : Int).toNat false)) else (none)) else (none)) = some (r1, r2, r3) := by rw [if_pos rfl] at H; exact H
  clear H; have H := H1; clear H1
  by_cases c5 : 0 ≤ (l0_1.length : Int)
  ·rw [if_pos c5] at H; have c5b0 := eq_true c5; have c5b1 : decide (0 ≤ (l0_1.length : Int)) = true := decide_eq_true c5; clear c5
   by_cases c6 : ((l0_1.length : Int) : Int).toNat ≤ 281474976710656
   ·rw [if_pos c6] at H; have c6b0 := eq_true c6; have c6b1 : decide (((l0_1.length : Int) : Int).toNat ≤ 281474976710656) = true := decide_eq_true c6; clear c6; obtain ⟨y753, hy753⟩ : ∃ y_ : List Bool, y_ = (List.replicate ((l0_1.length : Int) : Int).toNat false) := ⟨_, rfl⟩; replace H : (edit_Sub.l0 k l1 (l1.length : Int) 0 a0_0 l0_1 y753) = some (r1, r2, r3) := by first | (rw [hy753]; with_reducible exact H) | (have H2_ := (Option.bind_some _ _).symm.trans H; rw [hy753]; with_reducible exact H2_) | (have H2_ := (Option.bind_some _ _).symm.trans H; with_reducible exact H2_) | with_reducible exact H | (rw [hy753]; exact H) | exact H
    have Ny753 := Aside0.mk hy753; clear hy753; have H' := Aside0.mk H; clear H; have hmf_ : ∀ (fn : Fn) (first cap : Array Value) (w : World), (Instr.makeFunc fn first cap).run Try.prog w = .ok (.func fn first cap) w := fun _ _ _ _ => rfl
    go_enter Try.func22, Try.ntmps22
    go_wp2_with (first | ((with_reducible refine gate_dst (N := 2) rfl ?_); (try (refine gate_guard (by rfl) ?_; dsimp only)); refine be_ 2 #[.int .i64 a0_0, .slice A0_1 l0_1.length c0_1] 25 ?_; intro gb750 hg w7 hbox hb; have BK750 := Aside0.mk (hbox); have GW750 := wq (hb0 HB) hg; have GE750 := wq (hb0 HB) hg; replace HB := hs (hb0 HB) hb; clear hb hbox hg) | ((with_reducible refine gate_dst (N := 4) rfl ?_); (try (refine gate_guard (by rfl) ?_; dsimp only)); refine be_ 4 #[.int .i64 0, .slice none 0 0] 25 ?_; intro gb751 hg w8 hbox hb; have BK751 := Aside0.mk (hbox); have GW751 := wq (hb1 HB GE750) hg; have GE751 := wq (hb1 HB GE750) hg; replace HB := hs (hb1 HB GE750) hb; have NB750_751 := lx BK750 hg; have NB751_750 := gx BK750 hg; replace BK750 := kx BK750 hb; clear hb hbox hg; have hnb9 := NB750_751.out; have hnc9 := NB751_750.out; have hcz10_0 : w8.cell? ⟨gb750, 0, none⟩ = some (.int .i64 a0_0) := bc BK750 0; have hcz10_1 : w8.cell? ⟨gb750, 1, none⟩ = some (.slice A0_1 l0_1.length c0_1) := bc BK750 1; have hfz10_0 := blk_frozen BK750.out 0; have hfz10_1 := blk_frozen BK750.out 1) | ((with_reducible refine gate_callee (f := 37) rfl ?_); refine gl_ (some 10) Try.func37 #[.agg #[.int .i64 a0_0, .slice A0_1 l0_1.length c0_1]] ?_; (with_reducible refine (simple_Valid.calls k a0_0 _ _ l0_1 true _ ?side1 ?side2 A3.out).mono ?_); (case side1 => repeat (first | exact (Kd.C_below HR0_1.out HB.out) | (with_reducible refine Kd.C_alloc ?_ _) | (with_reducible refine Kd.C_drewN ?_ _) | (with_reducible refine Kd.C_drew ?_))); (case side2 => exact HC0_1.out); rintro e w11 ⟨rfl, hb⟩; refine ⟨_, rfl, ?_⟩; replace BK750 := kx BK750 hb; replace BK751 := kx BK751 hb; replace HB := hs (hb2 HB GE750 GE751) hb; (try clear hb); (try clear hb2); (try clear hk); (try clear hi); have hcz12_0 : w11.cell? ⟨gb750, 0, none⟩ = some (.int .i64 a0_0) := bc BK750 0; have hcz12_1 : w11.cell? ⟨gb750, 1, none⟩ = some (.slice A0_1 l0_1.length c0_1) := bc BK750 1; have hfz12_0 := blk_frozen BK750.out 0; have hfz12_1 := blk_frozen BK750.out 1) | ((with_reducible refine gate_dst (N := 16) rfl ?_); (try (refine gate_guard (by rfl) ?_; dsimp only)); refine Kd.R_make Kd.bool _ 4 rfl (N := 16) rfl 62 _ _ rfl (l0_1.length : Int) rfl rfl Try.underlying62 (.bool false) 1 info4 rfl (by decide) (by omega) false (ok := fun _ => True) (okp := fun _ => True) rfl (fun _ hk => hk) trivial (of_decide_eq_true (by first | (with_reducible assumption) | assumption)) (Nat.le_trans (Nat.mul_le_mul_right _ (of_decide_eq_true (by first | (with_reducible assumption) | assumption) : (l0_1.length : Int).toNat ≤ 281474976710656)) (by omega)) (Below.refl _ _) (Nat.le_refl _) ?_; intro v754 w13 ho14 hb hg_ hnew_; clear hg_ hnew_; (first | rw [← Ny753.out] at ho14 | (simp only [Int.reduceToNat] at ho14; rw [← Ny753.out] at ho14)); have HO755 := Aside0.mk (Kd.R_lower ho14 (below_size (hb2 HB GE750 GE751))); replace BK750 := kx BK750 hb; replace BK751 := kx BK751 hb; replace HB := hs (hb2 HB GE750 GE751) hb; clear hb ho14) | ((with_reducible refine gate_dst (N := 6) rfl ?_); (try (refine gate_guard (by rfl) ?_; dsimp only)); refine be_ 6 #[.slice none 0 0] 62 ?_; intro gb756 hg w15 hbox hb; replace HO755 := ry HO755 hb; have BK756 := Aside0.mk (hbox); have GW756 := wq (hb2 HB GE750 GE751) hg; have GE756 := wq (hb2 HB GE750 GE751) hg; replace HB := hs (hb2 HB GE750 GE751) hb; have NB750_756 := lx BK750 hg; have NB756_750 := gx BK750 hg; replace BK750 := kx BK750 hb; have NB751_756 := lx BK751 hg; have NB756_751 := gx BK751 hg; replace BK751 := kx BK751 hb; clear hb hbox hg; obtain ⟨Ao16, co16, eo16⟩ := Kd.R_slice HO755.out; subst eo16; have hnb17 := NB756_750.out; have hnc17 := NB750_756.out; have hnb18 := NB756_751.out; have hnc18 := NB751_756.out; have hcz19_0 : w15.cell? ⟨gb756, 0, none⟩ = some (.slice none 0 0) := bc BK756 0; have hfz19_0 := blk_frozen BK756.out 0))
    go_loopg [19] k (fun kq v19 w' => ∃ (x19_1 : Int) (x752000_1 : Int) (x757000_1 : List Bool) (u757000 : Value), v19 = .int .i64 x19_1 ∧ Aside0 (edit_Sub.l0 kq l1 (l1.length : Int) x19_1 a0_0 l0_1 x757000_1 = some (r1, r2, r3)) ∧ Aside0 (kq ≤ k) ∧ Aside0 (Kd.R Kd.bool 4 w' w.heap.size (fun _ => True) u757000 x757000_1) ∧ Aside0 (w'.heap[gb750]? = some (.cells #[.int .i64 a0_0, (.slice A0_1 l0_1.length c0_1)] 25 (0, 0))) ∧ Aside0 (w'.heap[gb751]? = some (.cells #[.int .i64 x752000_1, (.slice none 0 0)] 25 (0, 0))) ∧ Aside0 (w'.heap[gb756]? = some (.cells #[u757000] 62 (0, 0))) ∧ Aside0 (Below w.heap.size w w'))
    case atStart => exact ⟨(0), (0), (y753), (.slice Ao16 y753.length co16), (by first | rfl | (simp; done) | (simp [*]; done)), H', ⟨Nat.le_refl _⟩, ⟨Kd.R_mono (rf HO755 BK756) (fun _ hk => trivial)⟩, ⟨bx1 BK750 NB750_756⟩, ⟨bx1 BK751 NB751_756⟩, ⟨bp BK756⟩, ⟨hb3 HB GE750 GE751 GE756⟩⟩
    case round =>
     clear H'
     try clear c1
     try clear c2
     try clear p2
     try clear c3
     try clear c4
     try clear c5
     try clear c5b0
     try clear c5b1
     try clear c6
     try clear c6b0
     try clear c6b1
     try clear c9
     try clear c17
     try clear c18
     try clear hcz10_0
     try clear hcz10_1
     try clear hcz12_0
     try clear hcz12_1
     try clear hcz19_0
     try clear hfz10_0
     try clear hfz10_1
     try clear hfz12_0
     try clear hfz12_1
     try clear hfz19_0
     obtain ⟨x19_1, x752000_1, x757000_1, u757000, rfl, HA, HK1, HO_757000, BK750, BK751, BK756, HB⟩ := hrel
     cases gk with
     | zero => exact absurd HA.out (by simp [edit_Sub.l0])
     | succ k1 =>
      have H := HA.out; clear HA; simp only [edit_Sub.l0] at H
      by_cases c20 : x19_1 < (l1.length : Int)
      ·rw [if_pos c20] at H; have c20b0 : decide (x19_1 < (l1.length : Int)) = true := decide_eq_true c20; clear c20
       by_cases c21 : 0 ≤ x19_1
       ·rw [if_pos c21] at H; have c21b0 : decide (0 ≤ x19_1) = true := decide_eq_true c21; clear c21
        by_cases c22 : x19_1 < (l1.length : Int)
        ·rw [if_pos c22] at H; have c22b0 : decide (x19_1 < (l1.length : Int)) = true := decide_eq_true c22; clear c22
         by_cases c23 : (rd l1 x19_1) < 0
         ·rw [if_pos c23] at H; have c23b0 : decide ((rd l1 x19_1) < 0) = true := decide_eq_true c23; clear c23; simp only [Option.some.injEq, Prod.mk.injEq] at H; obtain ⟨rfl, rfl, rfl⟩ := H; have p757 : 0 ≤ (x19_1 : Int) := of_decide_eq_true (by first | (with_reducible assumption) | assumption); have q757 : x19_1 < (l1.length : Int) := of_decide_eq_true (by first | (with_reducible assumption) | assumption); obtain ⟨ad757, e757, hx757_0⟩ := Kd.at_int HR1.out x19_1 p757 q757
          cases e757
          replace hx757_0 := (HB.out.cell (World.block_lt_of_cell? w _ hx757_0)).trans hx757_0; replace p757 := eq_true p757; replace q757 := eq_true q757; have hnb24 := NB751_750.out; have hnc24 := NB750_751.out; have hnb25 := NB751_756.out; have hnc25 := NB756_751.out; have hcz26_0 : wr.cell? ⟨gb751, 0, none⟩ = some (.int .i64 x752000_1) := bc BK751 0; have hcz26_1 : wr.cell? ⟨gb751, 1, none⟩ = some (.slice none 0 0) := bc BK751 1; have hfz26_0 := blk_frozen BK751.out 0; have hfz26_1 := blk_frozen BK751.out 1
          go_wp2
          refine bodyPost_ret (results_ct rfl _ _ gb751 25 #[.int .i64 0, .slice none 0 0] (0, 0) _ rfl (bp BK751) Try.underlying25 rfl (by kernel_rfl)) rfl ?_; exact ⟨_, by first | rfl | (simp [errW_none, errW_some] <;> rfl) | (simp [*, errW_none, errW_some] <;> rfl), by first | exact Kd.R_nil _ _ _ _ _ | exact Kd.N_nil _ _ _ _ _ | exact Kd.V_nil _ _ _ _ _ | exact Kd.Q_nil _ _ _ _ _ | exact Kd.S_nil _ _ _ _ _, hb3 HB GE750 GE751 GE756⟩
         ·rw [if_neg c23] at H; have c23b0 : decide ((rd l1 x19_1) < 0) = false := decide_eq_false c23; clear c23
          by_cases c27 : (rd l1 x19_1) ≥ (x757000_1.length : Int)
          ·rw [if_pos c27] at H; have c27b0 : decide ((x757000_1.length : Int) ≤ (rd l1 x19_1)) = true := decide_eq_true c27; clear c27; simp only [Option.some.injEq, Prod.mk.injEq] at H; obtain ⟨rfl, rfl, rfl⟩ := H; have p757 : 0 ≤ (x19_1 : Int) := of_decide_eq_true (by first | (with_reducible assumption) | assumption); have q757 : x19_1 < (l1.length : Int) := of_decide_eq_true (by first | (with_reducible assumption) | assumption); obtain ⟨ad757, e757, hx757_0⟩ := Kd.at_int HR1.out x19_1 p757 q757
           cases e757
           replace hx757_0 := (HB.out.cell (World.block_lt_of_cell? w _ hx757_0)).trans hx757_0; replace p757 := eq_true p757; replace q757 := eq_true q757; have hnb28 := NB756_750.out; have hnc28 := NB750_756.out; have hnb29 := NB756_751.out; have hnc29 := NB751_756.out; have hcz30_0 : wr.cell? ⟨gb756, 0, none⟩ = some (u757000) := bc BK756 0; have hfz30_0 := blk_frozen BK756.out 0; obtain ⟨Ao31, co31, eo31⟩ := Kd.R_slice HO_757000.out; subst eo31; have hnb32 := NB751_750.out; have hnc32 := NB750_751.out; have hcz33_0 : wr.cell? ⟨gb751, 0, none⟩ = some (.int .i64 x752000_1) := bc BK751 0; have hcz33_1 : wr.cell? ⟨gb751, 1, none⟩ = some (.slice none 0 0) := bc BK751 1; have hfz33_0 := blk_frozen BK751.out 0; have hfz33_1 := blk_frozen BK751.out 1
           go_wp2
           refine bodyPost_ret (results_ct rfl _ _ gb751 25 #[.int .i64 0, .slice none 0 0] (0, 0) _ rfl (bp BK751) Try.underlying25 rfl (by kernel_rfl)) rfl ?_; exact ⟨_, by first | rfl | (simp [errW_none, errW_some] <;> rfl) | (simp [*, errW_none, errW_some] <;> rfl), by first | exact Kd.R_nil _ _ _ _ _ | exact Kd.N_nil _ _ _ _ _ | exact Kd.V_nil _ _ _ _ _ | exact Kd.Q_nil _ _ _ _ _ | exact Kd.S_nil _ _ _ _ _, hb3 HB GE750 GE751 GE756⟩
          ·rw [if_neg c27] at H; have c27b0 : decide ((x757000_1.length : Int) ≤ (rd l1 x19_1)) = false := decide_eq_false c27; clear c27
           by_cases c34 : 0 ≤ (rd l1 x19_1)
           ·rw [if_pos c34] at H; have c34b0 : decide (0 ≤ (rd l1 x19_1)) = true := decide_eq_true c34; clear c34
            by_cases c35 : (rd l1 x19_1) < (x757000_1.length : Int)
            ·rw [if_pos c35] at H; have c35b0 : decide ((rd l1 x19_1) < (x757000_1.length : Int)) = true := decide_eq_true c35; clear c35; obtain ⟨y758, hy758⟩ : ∃ y_ : List Bool, y_ = (x757000_1.set ((rd l1 x19_1) : Int).toNat true) := ⟨_, rfl⟩; replace H : (edit_Sub.l0 k1 l1 (l1.length : Int) (wrap64 (x19_1 + 1)) a0_0 l0_1 y758) = some (r1, r2, r3) := by first | (rw [hy758]; with_reducible exact H) | (have H2_ := (Option.bind_some _ _).symm.trans H; rw [hy758]; with_reducible exact H2_) | (have H2_ := (Option.bind_some _ _).symm.trans H; with_reducible exact H2_) | with_reducible exact H | (rw [hy758]; exact H) | exact H
             have Ny758 := Aside0.mk hy758; clear hy758; have H' := Aside0.mk H; clear H; have p757 : 0 ≤ (x19_1 : Int) := of_decide_eq_true (by first | (with_reducible assumption) | assumption); have q757 : x19_1 < (l1.length : Int) := of_decide_eq_true (by first | (with_reducible assumption) | assumption); obtain ⟨ad757, e757, hx757_0⟩ := Kd.at_int HR1.out x19_1 p757 q757
             cases e757
             replace hx757_0 := (HB.out.cell (World.block_lt_of_cell? w _ hx757_0)).trans hx757_0; replace p757 := eq_true p757; replace q757 := eq_true q757; have hnb37 := NB756_750.out; have hnc37 := NB750_756.out; have hnb38 := NB756_751.out; have hnc38 := NB751_756.out; have hcz39_0 : wr.cell? ⟨gb756, 0, none⟩ = some (u757000) := bc BK756 0; have hfz39_0 := blk_frozen BK756.out 0; obtain ⟨Ao40, co40, eo40⟩ := Kd.R_slice HO_757000.out; subst eo40; have p36 : 0 ≤ ((rd l1 x19_1) : Int) := of_decide_eq_true (by first | (with_reducible assumption) | assumption); have q36 : ((rd l1 x19_1) : Int) < ((x757000_1.length : Int) : Int) := of_decide_eq_true (by first | (with_reducible assumption) | assumption); obtain ⟨go36, co36, eo36, gb36, gl36, cl36, HG36⟩ := Kd.R_form HO_757000.out (by omega)
             (first | cases eo36 | (injection eo36 with ea_ en_ ec_; (first | subst ea_ | (injection ea_ with ea_; subst ea_)); subst ec_; clear en_))
             have GB36 := Aside0.mk gb36; have GG36 := Aside0.mk HG36; clear gb36 gl36 HG36; obtain ⟨hx36_0, hf36_0⟩ := Kd.R_celln false HO_757000.out ((rd l1 x19_1) : Int) p36 q36; replace p36 := eq_true p36; replace q36 := eq_true q36; have HP41 := Kd.R_putg HO_757000.out ((rd l1 x19_1) : Int) true
             go_wp2_with (first | ((with_reducible refine gate_store (t := 4) (p := 34) rfl ?_); refine store_event (t := 4) (p := 34) (v := ?vo_w42) (w1 := (wr.setCell ⟨go36, ((rd l1 x19_1) : Int).toNat, none⟩ (.bool true))) ?hg ?ho ?hn ?hr ?_; (case ho => rfl); (case hg => rfl); (case hn => rfl); (case hr => first | (go_simp; done) | (go_simp; rfl)); intro w42 hw; have hg : wr.grownBy w42 (some go36) := (by rw [hw]; exact HP41.2); have hp_ : Kd.R Kd.bool 4 w42 w.heap.size (fun _ => True) (.slice (some ⟨go36, 0, none⟩) x757000_1.length co40) y758 := (by rw [hw, Ny758.out]; exact HP41.1); clear HP41; replace BK750 := Aside0.mk (blk_grown (bx BK750) hg (Kd.R_ne HO_757000.out BK750.out (by decide))); replace BK751 := Aside0.mk (blk_grown (bx BK751) hg (Kd.R_ne HO_757000.out BK751.out (by decide))); replace BK756 := Aside0.mk (blk_grown (bx BK756) hg (Kd.R_ne HO_757000.out BK756.out (by decide))); replace HO_757000 := Aside0.mk (hp_); replace HB := Aside0.mk ((by rw [hw]; exact below_set (HB.out) GB36.out : Below w.heap.size w w42)); clear hg hw hp_))
             go_roundg k1
             case measure => have := HK1.out; omega
             case rel => exact ⟨(wrap64 (x19_1 + 1)), (x752000_1), (y758), (.slice (some ⟨go36, 0, none⟩) x757000_1.length co40), (by first | rfl | (simp; done) | (simp [*]; done)), H', ⟨by have := HK1.out; omega⟩, ⟨rx HO_757000⟩, ⟨bx BK750⟩, ⟨bx BK751⟩, ⟨bx BK756⟩, ⟨hb3 HB GE750 GE751 GE756⟩⟩
            ·rw [if_neg c35] at H; exact absurd H (by simp)
           ·rw [if_neg c34] at H; exact absurd H (by simp)
        ·rw [if_neg c22] at H; exact absurd H (by simp)
       ·rw [if_neg c21] at H; exact absurd H (by simp)
      ·rw [if_neg c20] at H; have c20b0 : decide (x19_1 < (l1.length : Int)) = false := decide_eq_false c20; clear c20; replace H := Option.bind_eq_some_iff.mp H; obtain ⟨t759, A430, H⟩ := H; replace H : ((edit_made.f k1 a0_0 t759).bind fun bt762 => (some (bt762.1, bt762.2, 0))) = some (r1, r2, r3) := H; have A43 := Aside0.mk A430; clear A430; replace H := Option.bind_eq_some_iff.mp H; obtain ⟨⟨t762, t763⟩, A440, H⟩ := H; replace H : (some (t762, t763, 0)) = some (r1, r2, r3) := H; have A44 := Aside0.mk A440; clear A440; simp only [Option.some.injEq, Prod.mk.injEq] at H; obtain ⟨rfl, rfl, rfl⟩ := H; have hnb45 := NB756_750.out; have hnc45 := NB750_756.out; have hnb46 := NB756_751.out; have hnc46 := NB751_756.out; have hcz47_0 : wr.cell? ⟨gb756, 0, none⟩ = some (u757000) := bc BK756 0; have hfz47_0 := blk_frozen BK756.out 0
       try go_wp2
       replace HO_757000 := rd HO_757000; replace BK750 := bd BK750; replace BK751 := bd BK751; replace BK756 := bd BK756; replace HB := Aside0.mk (below_drew1 HB.out); obtain ⟨Ao49, co49, eo49⟩ := Kd.R_slice HO_757000.out
       (first | subst eo49 | obtain ⟨rfl, rfl⟩ := sx eo49)
       refine start_ (n := 8) (S := fun w' => w'.cell? ⟨gb750, 0, none⟩ = some (.int .i64 a0_0) ∧ w'.cell? ⟨gb750, 1, none⟩ = some (.slice A0_1 l0_1.length c0_1)) (ds := []) (pf 0 8) (by kernel_rfl) rfl rfl ⟨bc BK750 0, bc BK750 1⟩ (fun hHeld => ?_); refine with_tabW edit_Sub.tab11 edit_Sub.bits11 (fun HT_ HW_ => ?_); generalize wr.drew = w48 at HO_757000 BK750 BK751 BK756 HB hHeld ⊢; refine pu_ 0 (some 36) (pf 1 8) HT_ ?_; refine pu_ 3 (some 39) #[T_,F_,F_,T_,F_,F_,F_,F_] HT_ ?_; refine tk2_ 1 (some 37) #[T_,T_,F_,T_,F_,F_,F_,F_] HT_ HW_ hHeld ?_; refine tk2_ 2 (some 38) (pf 4 8) HT_ HW_ hHeld ?_; refine on_ 4 (some 40) (pf 5 8) HT_ (fun K hK => ?_); refine gs_ Try.func42 #[.agg #[.int .i64 a0_0, .slice A0_1 l0_1.length c0_1], .func (Fn.func 43) #[] #[.pointer (some ⟨gb756, 0, none⟩)]] ?_
       with_reducible refine (edit_keptSub.calls k1 a0_0 _ _ l0_1 Ao49 co49 x757000_1 t759 _ ?side1 ?side2 ?side3 ?side4 A43.out).mono ?_
       (case side1 => repeat (first | exact (Kd.C_below HR0_1.out HB.out) | (with_reducible refine Kd.C_alloc ?_ _) | (with_reducible refine Kd.C_drewN ?_ _) | (with_reducible refine Kd.C_drew ?_)))
       (case side2 => exact HC0_1.out)
       (case side3 => exact ⟨bx BK756, cr HO_757000⟩)
       (case side4 => exact (Kd.R_reads' HO_757000.out).2.1)
       rintro e w50 ⟨v760, rfl, ho0, hb⟩; refine ⟨_, rfl, ?_⟩; replace HO_757000 := ry HO_757000 hb; have HO761 := Aside0.mk (Kd.R_lower ho0 (below_size (hb3 HB GE750 GE751 GE756))); replace BK750 := kx BK750 hb; replace BK751 := kx BK751 hb; replace BK756 := kx BK756 hb; replace HB := hs (hb3 HB GE750 GE751 GE756) hb
       (try clear hb)
       (try clear hb2)
       (try clear hk)
       (try clear hi)
       (try clear ho0)
       obtain ⟨Ao51, co51, eo51⟩ := Kd.R_slice HO761.out
       (first | subst eo51 | obtain ⟨rfl, rfl⟩ := sx eo51)
       refine hK.out _ _ ⟨bc BK750 0, bc BK750 1⟩ (fun hHeld => ?_); clear hK K; refine nm_ (some 40) ?_; refine on_ 5 (some 41) (pf 6 8) HT_ (fun K hK => ?_); refine gs_ Try.func38 #[.int .i64 a0_0, .slice Ao51 t759.length co51] ?_
       with_reducible refine (edit_made.calls k1 a0_0 _ _ t759 t762 t763 _ ?side1 ?side2 A44.out).mono ?_
       (case side1 => exact cr HO761)
       (case side2 => exact (Kd.R_reads' HO761.out).2.1)
       rintro e w52 ⟨v764, rfl, ho0, hb⟩; refine ⟨_, rfl, ?_⟩; replace HO_757000 := ry HO_757000 hb; have HO765 := Aside0.mk (Kd.R_lower (Kd.R_new' ho0 (Kd.R_lt (rx HO761))) (below_size (hb3 HB GE750 GE751 GE756))); replace HO761 := el (rx HO761) ho0 hb; replace BK750 := kx BK750 hb; replace BK751 := kx BK751 hb; replace BK756 := kx BK756 hb; replace HB := hs (hb3 HB GE750 GE751 GE756) hb
       (try clear hb)
       (try clear hb2)
       (try clear hk)
       (try clear hi)
       (try clear ho0)
       obtain ⟨Ao54, co54, eo54⟩ := Kd.R_slice HO765.out
       (first | subst eo54 | obtain ⟨rfl, rfl⟩ := sx eo54)
       refine hK.out _ _ ⟨bc BK750 0, bc BK750 1⟩ (fun hHeld => ?_); clear hK K; refine nm_ (some 41) ?_; refine on_ 6 none (pf 7 8) HT_ (fun K hK => ?_); have hs53 : w52.cell? ⟨gb751, 0, none⟩ = some (.int .i64 x752000_1) := bc BK751 0; have hfs53 := blk_frozen BK751.out 0; have hns53_0 := NB750_751.out; have hns53_2 := NB756_751.out; have hms53_0 := NB751_750.out; have hms53_2 := NB751_756.out; have hs55 : w52.cell? ⟨gb751, 1, none⟩ = some (.slice none 0 0) := bc BK751 1; have hfs55 := blk_frozen BK751.out 1; have hns55_0 := NB750_751.out; have hns55_2 := NB756_751.out; have hms55_0 := NB751_750.out; have hms55_2 := NB751_756.out; refine skip_ (w1 := ?_) (by rfl) rfl ?_ ?_; rotate_left
       ·go_simp; rfl
       refine hK.out _ _ ⟨((cell_far (p := ⟨gb751, _, none⟩) NB750_751.out _).trans (((cell_far (p := ⟨gb751, _, none⟩) NB750_751.out _).trans (hHeld.1)))), ((cell_far (p := ⟨gb751, _, none⟩) NB750_751.out _).trans (((cell_far (p := ⟨gb751, _, none⟩) NB750_751.out _).trans (hHeld.2))))⟩ (fun hHeld => ?_); clear hK K; refine pu_ 7 (some 5) (pf 8 8) HT_ ?_; refine done_ (done_of HT_.out (by kernel_rfl)) ?_
       try go_wp2
       refine bodyPost_ret (results_ct rfl _ _ gb751 25 #[.int .i64 t762, .slice Ao54 t763.length co54] (0, 0) _ rfl (bp BK751) Try.underlying25 rfl (by kernel_rfl)) rfl ?_; exact ⟨_, by first | rfl | (simp [errW_none, errW_some] <;> rfl) | (simp [*, errW_none, errW_some] <;> rfl), Kd.R_mono (rf HO765 BK751) (fun _ hk => trivial), hb3 HB GE750 GE751 GE756⟩
   ·rw [if_neg c6] at H; exact absurd H (by simp)
  ·rw [if_neg c5] at H; exact absurd H (by simp)
 ·replace c4 := Bool.eq_false_iff.mpr c4; subst c4; have H1 : (some (0, ([] : List (S46)), 1)) = some (r1, r2, r3) := by rw [if_neg (show ¬ (false = true) by decide)] at H; exact H
  clear H; have H := H1; clear H1; simp only [Option.some.injEq, Prod.mk.injEq] at H; obtain ⟨rfl, rfl, rfl⟩ := H; have hmf_ : ∀ (fn : Fn) (first cap : Array Value) (w : World), (Instr.makeFunc fn first cap).run Try.prog w = .ok (.func fn first cap) w := fun _ _ _ _ => rfl
  go_enter Try.func22, Try.ntmps22
  go_wp2_with (first | ((with_reducible refine gate_dst (N := 2) rfl ?_); (try (refine gate_guard (by rfl) ?_; dsimp only)); refine be_ 2 #[.int .i64 a0_0, .slice A0_1 l0_1.length c0_1] 25 ?_; intro gb750 hg w56 hbox hb; have BK750 := Aside0.mk (hbox); have GW750 := wq (hb0 HB) hg; have GE750 := wq (hb0 HB) hg; replace HB := hs (hb0 HB) hb; clear hb hbox hg) | ((with_reducible refine gate_dst (N := 4) rfl ?_); (try (refine gate_guard (by rfl) ?_; dsimp only)); refine be_ 4 #[.int .i64 0, .slice none 0 0] 25 ?_; intro gb751 hg w57 hbox hb; have BK751 := Aside0.mk (hbox); have GW751 := wq (hb1 HB GE750) hg; have GE751 := wq (hb1 HB GE750) hg; replace HB := hs (hb1 HB GE750) hb; have NB750_751 := lx BK750 hg; have NB751_750 := gx BK750 hg; replace BK750 := kx BK750 hb; clear hb hbox hg; have hnb58 := NB750_751.out; have hnc58 := NB751_750.out; have hcz59_0 : w57.cell? ⟨gb750, 0, none⟩ = some (.int .i64 a0_0) := bc BK750 0; have hcz59_1 : w57.cell? ⟨gb750, 1, none⟩ = some (.slice A0_1 l0_1.length c0_1) := bc BK750 1; have hfz59_0 := blk_frozen BK750.out 0; have hfz59_1 := blk_frozen BK750.out 1) | ((with_reducible refine gate_callee (f := 37) rfl ?_); refine gl_ (some 10) Try.func37 #[.agg #[.int .i64 a0_0, .slice A0_1 l0_1.length c0_1]] ?_; (with_reducible refine (simple_Valid.calls k a0_0 _ _ l0_1 false _ ?side1 ?side2 A3.out).mono ?_); (case side1 => repeat (first | exact (Kd.C_below HR0_1.out HB.out) | (with_reducible refine Kd.C_alloc ?_ _) | (with_reducible refine Kd.C_drewN ?_ _) | (with_reducible refine Kd.C_drew ?_))); (case side2 => exact HC0_1.out); rintro e w60 ⟨rfl, hb⟩; refine ⟨_, rfl, ?_⟩; replace BK750 := kx BK750 hb; replace BK751 := kx BK751 hb; replace HB := hs (hb2 HB GE750 GE751) hb; (try clear hb); (try clear hb2); (try clear hk); (try clear hi); have hcz61_0 : w60.cell? ⟨gb751, 0, none⟩ = some (.int .i64 0) := bc BK751 0; have hcz61_1 : w60.cell? ⟨gb751, 1, none⟩ = some (.slice none 0 0) := bc BK751 1; have hfz61_0 := blk_frozen BK751.out 0; have hfz61_1 := blk_frozen BK751.out 1))
  refine bodyPost_ret (results_ct rfl _ _ gb751 25 #[.int .i64 0, .slice none 0 0] (0, 0) _ rfl (bp BK751) Try.underlying25 rfl (by kernel_rfl)) rfl ?_; exact ⟨_, by first | rfl | (simp [errW_none, errW_some] <;> rfl) | (simp [*, errW_none, errW_some] <;> rfl), by first | exact Kd.R_nil _ _ _ _ _ | exact Kd.N_nil _ _ _ _ _ | exact Kd.V_nil _ _ _ _ _ | exact Kd.Q_nil _ _ _ _ _ | exact Kd.S_nil _ _ _ _ _, hb2 HB GE750 GE751⟩

end Go.Proofs.Ytdaeaejmikhmcaa.PEditC
