import Derived.Test.YthfoliejhdpbaaaZPCroAx0
namespace Go.Proofs.Ythfoliejhdpbaaa.PCroA
open Go.RowKit Go.Proofs.YthfoliejhdpbaaaW.PrintWords Go.Proofs.YthfoliejhdpbaaaW.PrintLast Go.Proofs.YthfoliejhdpbaaaW.PrintMore
open Go.Proofs.YthfoliejhdpbaaaX
attribute [local go_sem] max2_int min2_int max_two min_two max_three min_three max_four min_four
set_option linter.unusedVariables false
set_option linter.unusedSimpArgs false

/-! ### tangramref03_Less: function 61 -/
def tangramref03_Less.f (a0_0 : Int) (a0_1 : Int) (a1_0 : Int) (a1_1 : Int) : Option (Bool) := if a0_0 < a1_0 then (some true) else (if a0_0 = a1_0 then (some (decide (a0_1 < a1_1))) else (some false))
set_option maxHeartbeats 8000000 in
set_option maxRecDepth 100000 in
theorem tangramref03_Less.calls (a0_0 : Int) (a0_1 : Int) (a1_0 : Int) (a1_1 : Int) (r : Bool) (w : World) (h : tangramref03_Less.f a0_0 a0_1 a1_0 a1_1 = some r) :
  Calls Try.prog 61 #[.agg #[.int .i64 a0_0, .int .i64 a0_1], .agg #[.int .i64 a1_0, .int .i64 a1_1]] w fun e w' => e = .returned (.bool r) ∧ Below w.heap.size w w' := by
 have hu62 := Try.underlying62; have HB := Aside0.mk (Below.refl w.heap.size w); have H : (if a0_0 < a1_0 then (some true) else (if a0_0 = a1_0 then (some (decide (a0_1 < a1_1))) else (some false))) = some r := h; clear h
 by_cases c3 : a0_0 < a1_0
 ·rw [if_pos c3] at H; have c3b0 : decide (a0_0 < a1_0) = true := decide_eq_true c3; clear c3; obtain rfl := Option.some.inj H
  go_enter Try.func61, Try.ntmps61
  go_wp2_with (first | ((with_reducible refine gate_dst (N := 2) rfl ?_); refine be_ 2 #[.int .i64 a0_0, .int .i64 a0_1] 62 ?_; intro gb474 hg w4 hbox hb; have BK474 := Aside0.mk (hbox); have GW474 := wq (hb0 HB) hg; have GE474 := wq (hb0 HB) hg; replace HB := hs (hb0 HB) hb; clear hb hbox hg) | ((with_reducible refine gate_dst (N := 3) rfl ?_); refine be_ 3 #[.int .i64 a1_0, .int .i64 a1_1] 62 ?_; intro gb475 hg w5 hbox hb; have BK475 := Aside0.mk (hbox); have GW475 := wq (hb1 HB GE474) hg; have GE475 := wq (hb1 HB GE474) hg; replace HB := hs (hb1 HB GE474) hb; have NB474_475 := lx BK474 hg; have NB475_474 := gx BK474 hg; replace BK474 := kx BK474 hb; clear hb hbox hg; have hnb6 := NB474_475.out; have hnc6 := NB475_474.out; have hcz7_0 : w5.cell? ⟨gb474, 0, none⟩ = some (.int .i64 a0_0) := bc BK474 0; have hcz7_1 : w5.cell? ⟨gb474, 1, none⟩ = some (.int .i64 a0_1) := bc BK474 1; have hfz7_0 := blk_frozen BK474.out 0; have hfz7_1 := blk_frozen BK474.out 1; have hcz8_0 : w5.cell? ⟨gb475, 0, none⟩ = some (.int .i64 a1_0) := bc BK475 0; have hcz8_1 : w5.cell? ⟨gb475, 1, none⟩ = some (.int .i64 a1_1) := bc BK475 1; have hfz8_0 := blk_frozen BK475.out 0; have hfz8_1 := blk_frozen BK475.out 1))
  go_ret
  exact ⟨by rfl, hb2 HB GE474 GE475⟩
 ·rw [if_neg c3] at H; have c3b0 : decide (a0_0 < a1_0) = false := decide_eq_false c3; clear c3
  by_cases c9 : a0_0 = a1_0
  ·rw [if_pos c9] at H; have c9b0 : (a0_0 == a1_0) = true := beq_iff_eq.mpr c9; have c9b1 : (a0_0 != a1_0) = false := bne_eq_false_iff_eq.mpr c9; clear c9; obtain rfl := Option.some.inj H
   go_enter Try.func61, Try.ntmps61
   go_wp2_with (first | ((with_reducible refine gate_dst (N := 2) rfl ?_); refine be_ 2 #[.int .i64 a0_0, .int .i64 a0_1] 62 ?_; intro gb474 hg w10 hbox hb; have BK474 := Aside0.mk (hbox); have GW474 := wq (hb0 HB) hg; have GE474 := wq (hb0 HB) hg; replace HB := hs (hb0 HB) hb; clear hb hbox hg) | ((with_reducible refine gate_dst (N := 3) rfl ?_); refine be_ 3 #[.int .i64 a1_0, .int .i64 a1_1] 62 ?_; intro gb475 hg w11 hbox hb; have BK475 := Aside0.mk (hbox); have GW475 := wq (hb1 HB GE474) hg; have GE475 := wq (hb1 HB GE474) hg; replace HB := hs (hb1 HB GE474) hb; have NB474_475 := lx BK474 hg; have NB475_474 := gx BK474 hg; replace BK474 := kx BK474 hb; clear hb hbox hg; have hnb12 := NB474_475.out; have hnc12 := NB475_474.out; have hcz13_0 : w11.cell? ⟨gb474, 0, none⟩ = some (.int .i64 a0_0) := bc BK474 0; have hcz13_1 : w11.cell? ⟨gb474, 1, none⟩ = some (.int .i64 a0_1) := bc BK474 1; have hfz13_0 := blk_frozen BK474.out 0; have hfz13_1 := blk_frozen BK474.out 1; have hcz14_0 : w11.cell? ⟨gb475, 0, none⟩ = some (.int .i64 a1_0) := bc BK475 0; have hcz14_1 : w11.cell? ⟨gb475, 1, none⟩ = some (.int .i64 a1_1) := bc BK475 1; have hfz14_0 := blk_frozen BK475.out 0; have hfz14_1 := blk_frozen BK475.out 1))
   go_ret
   exact ⟨by rfl, hb2 HB GE474 GE475⟩
  ·rw [if_neg c9] at H; have c9b0 : (a0_0 == a1_0) = false := beq_eq_false_iff_ne.mpr c9; have c9b1 : (a0_0 != a1_0) = true := bne_iff_ne.mpr c9; obtain rfl := Option.some.inj H
   go_enter Try.func61, Try.ntmps61
   go_wp2_with (first | ((with_reducible refine gate_dst (N := 2) rfl ?_); refine be_ 2 #[.int .i64 a0_0, .int .i64 a0_1] 62 ?_; intro gb474 hg w15 hbox hb; have BK474 := Aside0.mk (hbox); have GW474 := wq (hb0 HB) hg; have GE474 := wq (hb0 HB) hg; replace HB := hs (hb0 HB) hb; clear hb hbox hg) | ((with_reducible refine gate_dst (N := 3) rfl ?_); refine be_ 3 #[.int .i64 a1_0, .int .i64 a1_1] 62 ?_; intro gb475 hg w16 hbox hb; have BK475 := Aside0.mk (hbox); have GW475 := wq (hb1 HB GE474) hg; have GE475 := wq (hb1 HB GE474) hg; replace HB := hs (hb1 HB GE474) hb; have NB474_475 := lx BK474 hg; have NB475_474 := gx BK474 hg; replace BK474 := kx BK474 hb; clear hb hbox hg; have hnb17 := NB474_475.out; have hnc17 := NB475_474.out; have hcz18_0 : w16.cell? ⟨gb474, 0, none⟩ = some (.int .i64 a0_0) := bc BK474 0; have hcz18_1 : w16.cell? ⟨gb474, 1, none⟩ = some (.int .i64 a0_1) := bc BK474 1; have hfz18_0 := blk_frozen BK474.out 0; have hfz18_1 := blk_frozen BK474.out 1; have hcz19_0 : w16.cell? ⟨gb475, 0, none⟩ = some (.int .i64 a1_0) := bc BK475 0; have hcz19_1 : w16.cell? ⟨gb475, 1, none⟩ = some (.int .i64 a1_1) := bc BK475 1; have hfz19_0 := blk_frozen BK475.out 0; have hfz19_1 := blk_frozen BK475.out 1))
   go_ret
   exact ⟨by rfl, hb2 HB GE474 GE475⟩


/-! ### tangramref03_Valid: function 46 -/
mutual
def tangramref03_Valid.j0 : Nat → Bool → Int → List (S62) → Option (Bool)
 | 0, _, _, _ => none
 | k + 1, x19, x477000, x477001 => if x19 = true then (some false) else (tangramref03_Valid.l0 k 0 x477000 x477001)
def tangramref03_Valid.l0 : Nat → Int → Int → List (S62) → Option (Bool)
 | 0, _, _, _ => none
 | k + 1, x3, x477000, x477001 => if x3 < (x477001.length : Int) then (if 0 ≤ x3 then (if ((rd_T62 x477001 x3).f0) < 0 then (tangramref03_Valid.j2 k x3 true x477000 x477001 ((rd_T62 x477001 x3).f0) ((rd_T62 x477001 x3).f1)) else (if ((rd_T62 x477001 x3).f0) ≥ ((rd_T62 x477001 x3).f1) then (tangramref03_Valid.j2 k x3 true x477000 x477001 ((rd_T62 x477001 x3).f0) ((rd_T62 x477001 x3).f1)) else (tangramref03_Valid.j2 k x3 (decide (((rd_T62 x477001 x3).f1) ≥ x477000)) x477000 x477001 ((rd_T62 x477001 x3).f0) ((rd_T62 x477001 x3).f1)))) else (none)) else (some true)
def tangramref03_Valid.j2 : Nat → Int → Bool → Int → List (S62) → Int → Int → Option (Bool)
 | 0, _, _, _, _, _, _ => none
 | k + 1, x3, x48, x477000, x477001, x479000, x479001 => if x48 = true then (some false) else (if x3 > 0 then (if 0 ≤ (wrap64 (x3 - 1)) then (if (wrap64 (x3 - 1)) < (x477001.length : Int) then ((tangramref03_Less.f ((rd_T62 x477001 (wrap64 (x3 - 1))).f0) ((rd_T62 x477001 (wrap64 (x3 - 1))).f1) x479000 x479001).bind fun t480 => (if t480 = true then (tangramref03_Valid.l0 k (wrap64 (x3 + 1)) x477000 x477001) else (some false))) else (none)) else (none)) else (tangramref03_Valid.l0 k (wrap64 (x3 + 1)) x477000 x477001))
end
def tangramref03_Valid.f (k : Nat) (a0_0 : Int) (l0_1 : List (S62)) : Option (Bool) := if a0_0 < 0 then (tangramref03_Valid.j0 k true a0_0 l0_1) else (if a0_0 > 1048576 then (tangramref03_Valid.j0 k true a0_0 l0_1) else (tangramref03_Valid.j0 k (decide ((l0_1.length : Int) > 4194304)) a0_0 l0_1))
theorem tangramref03_Valid.mono_l : ∀ k, (∀ y0 y1 y2, LeO (tangramref03_Valid.j0 k y0 y1 y2) (tangramref03_Valid.j0 (k + 1) y0 y1 y2)) ∧ (∀ y0 y1 y2, LeO (tangramref03_Valid.l0 k y0 y1 y2) (tangramref03_Valid.l0 (k + 1) y0 y1 y2)) ∧ (∀ y0 y1 y2 y3 y4 y5, LeO (tangramref03_Valid.j2 k y0 y1 y2 y3 y4 y5) (tangramref03_Valid.j2 (k + 1) y0 y1 y2 y3 y4 y5))
 | 0 => ⟨fun _ _ _ r h => by simp [tangramref03_Valid.j0] at h, fun _ _ _ r h => by simp [tangramref03_Valid.l0] at h, fun _ _ _ _ _ _ r h => by simp [tangramref03_Valid.j2] at h⟩
 | k + 1 => by
  obtain ⟨ih0, ih1, ih2⟩ := tangramref03_Valid.mono_l k; refine ⟨?_, ?_, ?_⟩
  ·intro y0 y1 y2
   unfold tangramref03_Valid.j0
   repeat' first
   | (with_reducible exact ih0 _ _ _)
   | (with_reducible exact ih1 _ _ _)
   | (with_reducible exact ih2 _ _ _ _ _ _)
   | (with_reducible exact LeO.refl _)
   | (with_reducible exact LeO.none _)
   | (with_reducible refine LeO.ite ?_ ?_)
   | (with_reducible refine LeO.bind ?_ (fun _ => ?_))
   | exact LeO.none _
   | refine LeO.ite ?_ ?_
   | refine LeO.bind ?_ (fun _ => ?_)
  ·intro y0 y1 y2
   unfold tangramref03_Valid.l0
   repeat' first
   | (with_reducible exact ih0 _ _ _)
   | (with_reducible exact ih1 _ _ _)
   | (with_reducible exact ih2 _ _ _ _ _ _)
   | (with_reducible exact LeO.refl _)
   | (with_reducible exact LeO.none _)
   | (with_reducible refine LeO.ite ?_ ?_)
   | (with_reducible refine LeO.bind ?_ (fun _ => ?_))
   | exact LeO.none _
   | refine LeO.ite ?_ ?_
   | refine LeO.bind ?_ (fun _ => ?_)
  ·intro y0 y1 y2 y3 y4 y5
   unfold tangramref03_Valid.j2
   repeat' first
   | (with_reducible exact ih0 _ _ _)
   | (with_reducible exact ih1 _ _ _)
   | (with_reducible exact ih2 _ _ _ _ _ _)
   | (with_reducible exact LeO.refl _)
   | (with_reducible exact LeO.none _)
   | (with_reducible refine LeO.ite ?_ ?_)
   | (with_reducible refine LeO.bind ?_ (fun _ => ?_))
   | exact LeO.none _
   | refine LeO.ite ?_ ?_
   | refine LeO.bind ?_ (fun _ => ?_)
theorem tangramref03_Valid.mono : ∀ a0 a1 k, LeO (tangramref03_Valid.f k a0 a1) (tangramref03_Valid.f (k + 1) a0 a1) := by
 intro a0 a1 k; obtain ⟨ih0, ih1, ih2⟩ := tangramref03_Valid.mono_l k
 unfold tangramref03_Valid.f
 repeat' first
   | (with_reducible exact ih0 _ _ _)
   | (with_reducible exact ih1 _ _ _)
   | (with_reducible exact ih2 _ _ _ _ _ _)
   | (with_reducible exact LeO.refl _)
   | (with_reducible exact LeO.none _)
   | (with_reducible refine LeO.ite ?_ ?_)
   | (with_reducible refine LeO.bind ?_ (fun _ => ?_))
   | exact LeO.none _
   | refine LeO.ite ?_ ?_
   | refine LeO.bind ?_ (fun _ => ?_)
def tangramref03_Valid.T10 : Bool × List (List Nat × List Nat) := (true, [([], []), ([0], [0]), ([], []), ([2], [2]), ([1, 3], [1, 3]), ([4], [4]), ([], []), ([5, 6], [5, 6]), ([7, 7, 0, 1, 2, 3, 4, 5, 6, 7], [7])])
def tangramref03_Valid.B10 : List Nat := [0, 1, 0, 4, 15, 31, 0, 127, 255]
theorem tangramref03_Valid.tab10 : rtab .any (opsOf Try.f46 10) = tangramref03_Valid.T10 := by kernel_rfl
theorem tangramref03_Valid.bits10 : waitsOk tangramref03_Valid.T10.2 tangramref03_Valid.B10 = true := by kernel_rfl
set_option maxHeartbeats 8000000 in
set_option maxRecDepth 100000 in
theorem tangramref03_Valid.calls (k : Nat) (a0_0 : Int) (A0_1 : Option Addr) (c0_1 : Nat) (l0_1 : List (S62)) (r : Bool) (w : World) (hr0_1 : Kd.C k62 w A0_1 l0_1.length l0_1) (hc0_1 : l0_1.length ≤ c0_1) (h : tangramref03_Valid.f k a0_0 l0_1 = some r) :
  Calls Try.prog 46 #[.agg #[.int .i64 a0_0, .slice A0_1 l0_1.length c0_1]] w fun e w' => e = .returned (.bool r) ∧ Below w.heap.size w w' := by
 have hu31 := Try.underlying31; have hu62 := Try.underlying62; have HR0_1 := Aside0.mk hr0_1; have HC0_1 := Aside0.mk hc0_1; clear hr0_1 hc0_1; have HB := Aside0.mk (Below.refl w.heap.size w); have H : (if a0_0 < 0 then (tangramref03_Valid.j0 k true a0_0 l0_1) else (if a0_0 > 1048576 then (tangramref03_Valid.j0 k true a0_0 l0_1) else (tangramref03_Valid.j0 k (decide ((l0_1.length : Int) > 4194304)) a0_0 l0_1))) = some r := h; clear h; have HC2 := Aside0.mk H; clear H
 go_enter Try.func46, Try.ntmps46
 go_upto_region 1 with (first | ((with_reducible refine gate_dst (N := 1) rfl ?_); (try (refine gate_guard (by rfl) ?_; dsimp only)); refine be_ 1 #[.int .i64 a0_0, .slice A0_1 l0_1.length c0_1] 31 ?_; intro gb476 hg w3 hbox hb; have BK476 := Aside0.mk (hbox); have GW476 := wq (hb0 HB) hg; have GE476 := wq (hb0 HB) hg; replace HB := hs (hb0 HB) hb; clear hb hbox hg))
 (try simp only [Act.put, List.setIfInBounds_toArray, List.set_cons_zero, List.set_cons_succ])
 go_cut [19] (fun v19 wc => ∃ (kq : Nat) (x19_1 : Bool), v19 = .bool x19_1 ∧ Aside0 (tangramref03_Valid.j0 kq x19_1 a0_0 l0_1 = some r) ∧ Aside0 (kq ≤ k) ∧ Aside0 (wc.heap[gb476]? = some (.cells #[.int .i64 a0_0, (.slice A0_1 l0_1.length c0_1)] 31 (0, 0))) ∧ Aside0 (Below w.heap.size w wc))
 case first => as_aux_lemma =>
  have H := HC2.out; clear HC2
  by_cases c4 : a0_0 < 0
  ·rw [if_pos c4] at H; have c4b0 : decide (a0_0 < 0) = true := decide_eq_true c4; clear c4
   (first | rw [c4b0] | (simp only [i64_w, i32_w]; rw [c4b0]) | skip)
   have H' := Aside0.mk H; clear H; have hcz5_0 : w3.cell? ⟨gb476, 0, none⟩ = some (.int .i64 a0_0) := bc BK476 0; have hcz5_1 : w3.cell? ⟨gb476, 1, none⟩ = some (.slice A0_1 l0_1.length c0_1) := bc BK476 1; have hfz5_0 := blk_frozen BK476.out 0; have hfz5_1 := blk_frozen BK476.out 1
   go_wp2
   go_meet
   case rel => exact ⟨_, (true), (by first | rfl | (simp; done) | (simp [*]; done)), H', ⟨by first | omega | exact Nat.le_refl _⟩, ⟨bx BK476⟩, ⟨hb1 HB GE476⟩⟩
  ·rw [if_neg c4] at H; have c4b0 : decide (a0_0 < 0) = false := decide_eq_false c4; clear c4
   (first | rw [c4b0] | (simp only [i64_w, i32_w]; rw [c4b0]) | skip)
   by_cases c6 : a0_0 > 1048576
   ·rw [if_pos c6] at H; have c6b0 : decide (1048576 < a0_0) = true := decide_eq_true c6; clear c6; have H' := Aside0.mk H; clear H; have hcz7_0 : w3.cell? ⟨gb476, 0, none⟩ = some (.int .i64 a0_0) := bc BK476 0; have hcz7_1 : w3.cell? ⟨gb476, 1, none⟩ = some (.slice A0_1 l0_1.length c0_1) := bc BK476 1; have hfz7_0 := blk_frozen BK476.out 0; have hfz7_1 := blk_frozen BK476.out 1
    go_wp2
    go_meet
    case rel => exact ⟨_, (true), (by first | rfl | (simp; done) | (simp [*]; done)), H', ⟨by first | omega | exact Nat.le_refl _⟩, ⟨bx BK476⟩, ⟨hb1 HB GE476⟩⟩
   ·rw [if_neg c6] at H; have c6b0 : decide (1048576 < a0_0) = false := decide_eq_false c6; clear c6; have H' := Aside0.mk H; clear H; have hcz8_0 : w3.cell? ⟨gb476, 0, none⟩ = some (.int .i64 a0_0) := bc BK476 0; have hcz8_1 : w3.cell? ⟨gb476, 1, none⟩ = some (.slice A0_1 l0_1.length c0_1) := bc BK476 1; have hfz8_0 := blk_frozen BK476.out 0; have hfz8_1 := blk_frozen BK476.out 1
    go_wp2
    go_meet
    case rel => exact ⟨_, (decide ((l0_1.length : Int) > 4194304)), (by first | rfl | (simp; done) | (simp [*]; done)), H', ⟨by first | omega | exact Nat.le_refl _⟩, ⟨bx BK476⟩, ⟨hb1 HB GE476⟩⟩
 case rest => as_aux_lemma =>
  clear HC2
  try clear p2
  try clear c4
  try clear c4b0
  try clear c6
  try clear c6b0
  try clear hcz5_0
  try clear hcz5_1
  try clear hcz7_0
  try clear hcz7_1
  try clear hcz8_0
  try clear hcz8_1
  try clear hfz5_0
  try clear hfz5_1
  try clear hfz7_0
  try clear hfz7_1
  try clear hfz8_0
  try clear hfz8_1
  obtain ⟨kq, x19_1, rfl, HA, HJ1, BK476, HB⟩ := hcut
  cases kq with
  | zero => exact absurd HA.out (by simp [tangramref03_Valid.j0])
  | succ kj1 =>
   have H := HA.out; clear HA; simp only [tangramref03_Valid.j0] at H
   by_cases c9 : x19_1 = true
   ·subst c9; rw [if_pos rfl] at H; obtain rfl := Option.some.inj H
    go_wp2
    go_ret
    exact ⟨by rfl, hb1 HB GE476⟩
   ·replace c9 := Bool.eq_false_iff.mpr c9; subst c9; rw [if_neg (show ¬ (false = true) by decide)] at H; have H' := Aside0.mk H; clear H
    go_wp2
    go_loopg [3] kj1 (fun kq v3 w' => ∃ (x3_2 : Int), v3 = .int .i64 x3_2 ∧ Aside0 (tangramref03_Valid.l0 kq x3_2 a0_0 l0_1 = some r) ∧ Aside0 (kq ≤ kj1) ∧ Aside0 (w'.heap[gb476]? = some (.cells #[.int .i64 a0_0, (.slice A0_1 l0_1.length c0_1)] 31 (0, 0))) ∧ Aside0 (Below w.heap.size w w'))
    case atStart => exact ⟨(0), (by first | rfl | (simp; done) | (simp [*]; done)), H', ⟨Nat.le_refl _⟩, ⟨bx BK476⟩, ⟨hb1 HB GE476⟩⟩
    case round =>
     clear H'
     try clear p2
     try clear c4
     try clear c4b0
     try clear c6
     try clear c6b0
     try clear c9
     try clear hcz5_0
     try clear hcz5_1
     try clear hcz7_0
     try clear hcz7_1
     try clear hcz8_0
     try clear hcz8_1
     try clear hfz5_0
     try clear hfz5_1
     try clear hfz7_0
     try clear hfz7_1
     try clear hfz8_0
     try clear hfz8_1
     try clear p2
     obtain ⟨x3_2, rfl, HA, HK2, BK476, HB⟩ := hrel
     cases gk with
     | zero => exact absurd HA.out (by simp [tangramref03_Valid.l0])
     | succ k2 =>
      have H := HA.out; clear HA; simp only [tangramref03_Valid.l0] at H
      by_cases c10 : x3_2 < (l0_1.length : Int)
      ·rw [if_pos c10] at H; have c10b0 : decide (x3_2 < (l0_1.length : Int)) = true := decide_eq_true c10; clear c10
       by_cases c11 : 0 ≤ x3_2
       ·rw [if_pos c11] at H; have c11b0 : decide (0 ≤ x3_2) = true := decide_eq_true c11; clear c11; have HC12 := Aside0.mk H; clear H; have hcz13_0 : wr.cell? ⟨gb476, 0, none⟩ = some (.int .i64 a0_0) := bc BK476 0; have hcz13_1 : wr.cell? ⟨gb476, 1, none⟩ = some (.slice A0_1 l0_1.length c0_1) := bc BK476 1; have hfz13_0 := blk_frozen BK476.out 0; have hfz13_1 := blk_frozen BK476.out 1; have p477 : 0 ≤ (x3_2 : Int) := of_decide_eq_true (by first | (with_reducible assumption) | assumption); have q477 : x3_2 < (l0_1.length : Int) := of_decide_eq_true (by first | (with_reducible assumption) | assumption); obtain ⟨ad477, e477, hx477_0, hx477_1⟩ := at_T62 HR0_1.out x3_2 p477 q477
        cases e477
        replace hx477_0 := (HB.out.cell (World.block_lt_of_cell? w _ hx477_0)).trans hx477_0; replace hx477_1 := (HB.out.cell (World.block_lt_of_cell? w _ hx477_1)).trans hx477_1; replace p477 := eq_true p477; replace q477 := eq_true q477
        go_upto_region 7 with (first | ((with_reducible refine gate_dst (N := 4) rfl ?_); (try (refine gate_guard (by rfl) ?_; dsimp only)); refine be_ 4 #[.int .i64 0, .int .i64 0] 62 ?_; intro gb478 hg w14 hbox hb; have BK478 := Aside0.mk (hbox); have GW478 := wq (hb1 HB GE476) hg; have GE478 := wq (hb1 HB GE476) hg; replace HB := hs (hb1 HB GE476) hb; have NB476_478 := lx BK476 hg; have NB478_476 := gx BK476 hg; replace BK476 := kx BK476 hb; clear hb hbox hg; have hnb15 := NB478_476.out; have hnc15 := NB476_478.out; have hcz16_0 : w14.cell? ⟨gb478, 0, none⟩ = some (.int .i64 0) := bc BK478 0; have hcz16_1 : w14.cell? ⟨gb478, 1, none⟩ = some (.int .i64 0) := bc BK478 1; have hfz16_0 := blk_frozen BK478.out 0; have hfz16_1 := blk_frozen BK478.out 1))
        (try simp only [Act.put, List.setIfInBounds_toArray, List.set_cons_zero, List.set_cons_succ])
        go_cut [48] (fun v48 wc => ∃ (kq : Nat) (x48_11 : Bool), v48 = .bool x48_11 ∧ Aside0 (tangramref03_Valid.j2 kq x3_2 x48_11 a0_0 l0_1 ((rd_T62 l0_1 x3_2).f0) ((rd_T62 l0_1 x3_2).f1) = some r) ∧ Aside0 (kq ≤ k2) ∧ Aside0 (wc.heap[gb476]? = some (.cells #[.int .i64 a0_0, (.slice (some ad477) l0_1.length c0_1)] 31 (0, 0))) ∧ Aside0 (wc.heap[gb478]? = some (.cells #[.int .i64 ((rd_T62 l0_1 x3_2).f0), .int .i64 ((rd_T62 l0_1 x3_2).f1)] 62 (0, 0))) ∧ Aside0 (Below w.heap.size w wc))
        case first => as_aux_lemma =>
         have H := HC12.out; clear HC12
         by_cases c17 : ((rd_T62 l0_1 x3_2).f0) < 0
         ·rw [if_pos c17] at H; have c17b0 : decide (((rd_T62 l0_1 x3_2).f0) < 0) = true := decide_eq_true c17; clear c17
          (first | rw [c17b0] | (simp only [i64_w, i32_w]; rw [c17b0]) | skip)
          have H' := Aside0.mk H; clear H; have hnb18 := NB478_476.out; have hnc18 := NB476_478.out; have hcz19_0 : w14.cell? ⟨gb478, 0, none⟩ = some (.int .i64 0) := bc BK478 0; have hcz19_1 : w14.cell? ⟨gb478, 1, none⟩ = some (.int .i64 0) := bc BK478 1; have hfz19_0 := blk_frozen BK478.out 0; have hfz19_1 := blk_frozen BK478.out 1
          go_wp2
          go_meet
          case rel => exact ⟨_, (true), (by first | rfl | (simp; done) | (simp [*]; done)), H', ⟨by have := HJ1.out; have := HK2.out; first | omega | exact Nat.le_refl _⟩, ⟨bx1 BK476 NB476_478⟩, ⟨bp BK478⟩, ⟨hb2 HB GE476 GE478⟩⟩
         ·rw [if_neg c17] at H; have c17b0 : decide (((rd_T62 l0_1 x3_2).f0) < 0) = false := decide_eq_false c17; clear c17
          (first | rw [c17b0] | (simp only [i64_w, i32_w]; rw [c17b0]) | skip)
          by_cases c20 : ((rd_T62 l0_1 x3_2).f0) ≥ ((rd_T62 l0_1 x3_2).f1)
          ·rw [if_pos c20] at H; have c20b0 : decide (((rd_T62 l0_1 x3_2).f1) ≤ ((rd_T62 l0_1 x3_2).f0)) = true := decide_eq_true c20; clear c20; have H' := Aside0.mk H; clear H; have hnb21 := NB478_476.out; have hnc21 := NB476_478.out; have hcz22_0 : w14.cell? ⟨gb478, 0, none⟩ = some (.int .i64 0) := bc BK478 0; have hcz22_1 : w14.cell? ⟨gb478, 1, none⟩ = some (.int .i64 0) := bc BK478 1; have hfz22_0 := blk_frozen BK478.out 0; have hfz22_1 := blk_frozen BK478.out 1
           go_wp2
           go_meet
           case rel => exact ⟨_, (true), (by first | rfl | (simp; done) | (simp [*]; done)), H', ⟨by have := HJ1.out; have := HK2.out; first | omega | exact Nat.le_refl _⟩, ⟨bx1 BK476 NB476_478⟩, ⟨bp BK478⟩, ⟨hb2 HB GE476 GE478⟩⟩
          ·rw [if_neg c20] at H; have c20b0 : decide (((rd_T62 l0_1 x3_2).f1) ≤ ((rd_T62 l0_1 x3_2).f0)) = false := decide_eq_false c20; clear c20; have H' := Aside0.mk H; clear H; have hnb23 := NB478_476.out; have hnc23 := NB476_478.out; have hcz24_0 : w14.cell? ⟨gb478, 0, none⟩ = some (.int .i64 0) := bc BK478 0; have hcz24_1 : w14.cell? ⟨gb478, 1, none⟩ = some (.int .i64 0) := bc BK478 1; have hfz24_0 := blk_frozen BK478.out 0; have hfz24_1 := blk_frozen BK478.out 1; have hcz25_0 : w14.cell? ⟨gb476, 0, none⟩ = some (.int .i64 a0_0) := bc BK476 0; have hcz25_1 : w14.cell? ⟨gb476, 1, none⟩ = some (.slice (some ad477) l0_1.length c0_1) := bc BK476 1; have hfz25_0 := blk_frozen BK476.out 0; have hfz25_1 := blk_frozen BK476.out 1
           go_wp2
           go_meet
           case rel => exact ⟨_, (decide (((rd_T62 l0_1 x3_2).f1) ≥ a0_0)), (by first | rfl | (simp; done) | (simp [*]; done)), H', ⟨by have := HJ1.out; have := HK2.out; first | omega | exact Nat.le_refl _⟩, ⟨bx1 BK476 NB476_478⟩, ⟨bp BK478⟩, ⟨hb2 HB GE476 GE478⟩⟩
        case rest => as_aux_lemma =>
         clear HC12
         try clear c1
         try clear c2
         try clear p2
         try clear c4
         try clear c4b0
         try clear p4
         try clear q4
         try clear hx4
         try clear c6
         try clear c6b0
         try clear c9
         try clear c10
         try clear c10b0
         try clear c11
         try clear c11b0
         try clear c15
         try clear c17
         try clear c17b0
         try clear c18
         try clear c20
         try clear c20b0
         try clear c21
         try clear c23
         try clear hcz13_0
         try clear hcz13_1
         try clear hcz16_0
         try clear hcz16_1
         try clear hcz19_0
         try clear hcz19_1
         try clear hcz22_0
         try clear hcz22_1
         try clear hcz24_0
         try clear hcz24_1
         try clear hcz25_0
         try clear hcz25_1
         try clear hcz5_0
         try clear hcz5_1
         try clear hcz7_0
         try clear hcz7_1
         try clear hcz8_0
         try clear hcz8_1
         try clear hfz13_0
         try clear hfz13_1
         try clear hfz16_0
         try clear hfz16_1
         try clear hfz19_0
         try clear hfz19_1
         try clear hfz22_0
         try clear hfz22_1
         try clear hfz24_0
         try clear hfz24_1
         try clear hfz25_0
         try clear hfz25_1
         try clear hfz5_0
         try clear hfz5_1
         try clear hfz7_0
         try clear hfz7_1
         try clear hfz8_0
         try clear hfz8_1
         try clear hx477_0
         try clear hx477_1
         try clear p2
         try clear p477
         try clear q477
         obtain ⟨kq, x48_11, rfl, HA, HJ11, BK476, BK478, HB⟩ := hcut
         cases kq with
         | zero => exact absurd HA.out (by simp [tangramref03_Valid.j2])
         | succ kj11 =>
          have H := HA.out; clear HA; simp only [tangramref03_Valid.j2] at H
          by_cases c26 : x48_11 = true
          ·subst c26; rw [if_pos rfl] at H; obtain rfl := Option.some.inj H
           go_wp2
           go_ret
           exact ⟨by rfl, hb2 HB GE476 GE478⟩
          ·replace c26 := Bool.eq_false_iff.mpr c26; subst c26; rw [if_neg (show ¬ (false = true) by decide)] at H
           by_cases c27 : x3_2 > 0
           ·rw [if_pos c27] at H; have c27b0 : decide (0 < x3_2) = true := decide_eq_true c27; clear c27; obtain ⟨ji28, hji28⟩ : ∃ j_ : Int, (wrap64 (x3_2 - 1)) = j_ := ⟨_, rfl⟩; replace H : (if 0 ≤ (ji28) then (if (ji28) < (l0_1.length : Int) then ((tangramref03_Less.f ((rd_T62 l0_1 (ji28)).f0) ((rd_T62 l0_1 (ji28)).f1) ((rd_T62 l0_1 x3_2).f0) ((rd_T62 l0_1 x3_2).f1)).bind fun t480 => (if t480 = true then (tangramref03_Valid.l0 kj11 (wrap64 (x3_2 + 1)) a0_0 l0_1) else (some false))) else (none)) else (none)) = some r := by first | (rw [hji28] at H; exact H) | (simp only [hji28] at H ⊢; exact H)
            have hji28w : (IntKind.i64.wrap (x3_2 - 1)) = ji28 := (i64_w _).trans hji28
            by_cases c29 : 0 ≤ (ji28)
            ·rw [if_pos c29] at H; have c29b0 : decide (0 ≤ (ji28)) = true := decide_eq_true c29; clear c29
             by_cases c30 : (ji28) < (l0_1.length : Int)
             ·rw [if_pos c30] at H; have c30b0 : decide ((ji28) < (l0_1.length : Int)) = true := decide_eq_true c30; clear c30; replace H := Option.bind_eq_some_iff.mp H; obtain ⟨t480, A310, H⟩ := H; (try dsimp only at H); have A31 := Aside0.mk A310; clear A310
              by_cases c32 : t480 = true
              ·subst c32; rw [if_pos rfl] at H; have H' := Aside0.mk H; clear H
               try go_wp2
               replace BK476 := bd BK476; replace BK478 := bd BK478; replace HB := Aside0.mk (below_drew1 HB.out); have p479 : 0 ≤ ((ji28) : Int) := of_decide_eq_true (by first | (with_reducible assumption) | assumption); have q479 : (ji28) < (l0_1.length : Int) := of_decide_eq_true (by first | (with_reducible assumption) | assumption); obtain ⟨ad479, e479, hx479_0, hx479_1⟩ := at_T62 HR0_1.out (ji28) p479 q479; have hw479_1 := hx479_1; have hw479_0 := hx479_0; obtain rfl : ad477 = ad479 := (by injection e479); replace hx479_0 := (HB.out.cell (World.block_lt_of_cell? w _ hx479_0)).trans hx479_0; replace hx479_1 := (HB.out.cell (World.block_lt_of_cell? w _ hx479_1)).trans hx479_1; replace p479 := eq_true p479; replace q479 := eq_true q479; refine start_ (n := 9) (S := fun w' => w'.cell? ⟨gb476, 0, none⟩ = some (.int .i64 a0_0) ∧ w'.cell? ⟨gb476, 1, none⟩ = some (.slice (some ad477) l0_1.length c0_1) ∧ w'.cell? ⟨gb478, 0, none⟩ = some (.int .i64 ((rd_T62 l0_1 x3_2).f0)) ∧ w'.cell? ⟨gb478, 1, none⟩ = some (.int .i64 ((rd_T62 l0_1 x3_2).f1)) ∧ w'.cell? (ad477.add (((ji28)).toNat * 2)) = some (.int .i64 ((rd_T62 l0_1 (ji28)).f0)) ∧ w'.cell? ⟨(ad477.add (((ji28)).toNat * 2)).block, (ad477.add (((ji28)).toNat * 2)).off + 1, none⟩ = some (.int .i64 ((rd_T62 l0_1 (ji28)).f1))) (ds := []) (pf 0 9) (by kernel_rfl) rfl rfl ⟨bc BK476 0, bc BK476 1, bc BK478 0, bc BK478 1, ((HB.out.cell (World.block_lt_of_cell? w _ hw479_0)).trans hw479_0), ((HB.out.cell (World.block_lt_of_cell? w _ hw479_1)).trans hw479_1)⟩ (fun hHeld => ?_); refine with_tabW tangramref03_Valid.tab10 tangramref03_Valid.bits10 (fun HT_ HW_ => ?_)
               generalize wc.drew = w33 at BK476 BK478 HB hx479_0 hx479_1 hHeld ⊢; refine pu_ 0 (some 51) (pf 1 9) HT_ ?_; refine pu_ 2 (some 53) #[T_,F_,T_,F_,F_,F_,F_,F_,F_] HT_ ?_; refine pu_ 3 (some 54) #[T_,F_,T_,T_,F_,F_,F_,F_,F_] HT_ ?_; refine tk6_ 1 (some 52) (pf 4 9) HT_ HW_ hHeld ?_; refine pu_ 4 (some 55) (pf 5 9) HT_ ?_; refine tk6_ 5 (some 56) (pf 6 9) HT_ HW_ hHeld ?_; refine tk6_ 6 (some 57) (pf 7 9) HT_ HW_ hHeld ?_; refine on_ 7 (some 58) (pf 8 9) HT_ (fun K hK => ?_); refine goes_ Try.func61 (by kernel_rfl) rfl #[.agg #[.int .i64 ((rd_T62 l0_1 (ji28)).f0), .int .i64 ((rd_T62 l0_1 (ji28)).f1)], .agg #[.int .i64 ((rd_T62 l0_1 x3_2).f0), .int .i64 ((rd_T62 l0_1 x3_2).f1)]] (by rfl) rfl rfl (by (try simp only [List.map_toArray, List.map_cons, List.map_nil]); first | done | (simp only [hji28]; rfl) | rfl | (simp only [List.length_drop, List.length_take]; rfl)) ?_
               with_reducible refine (tangramref03_Less.calls ((rd_T62 l0_1 (ji28)).f0) ((rd_T62 l0_1 (ji28)).f1) ((rd_T62 l0_1 x3_2).f0) ((rd_T62 l0_1 x3_2).f1) true _ A31.out).mono ?_
               rintro e w34 ⟨rfl, hb⟩; refine ⟨_, rfl, ?_⟩; replace BK476 := kx BK476 hb; replace BK478 := kx BK478 hb; replace HB := hs (hb2 HB GE476 GE478) hb
               (try clear hb)
               (try clear hk)
               (try clear hi)
               refine hK.out _ _ ⟨bc BK476 0, bc BK476 1, bc BK478 0, bc BK478 1, ((HB.out.cell (World.block_lt_of_cell? w _ hw479_0)).trans hw479_0), ((HB.out.cell (World.block_lt_of_cell? w _ hw479_1)).trans hw479_1)⟩ (fun hHeld => ?_); clear hK K; refine nm_ (some 58) ?_; refine pu_ 8 (some 5) (pf 9 9) HT_ ?_; refine done_ (done_of HT_.out (by kernel_rfl)) ?_
               try go_wp2
               go_roundg kj11
               case measure => have := HJ1.out; have := HK2.out; have := HJ11.out; omega
               case rel => exact ⟨(wrap64 (x3_2 + 1)), (by first | rfl | (simp; done) | (simp [*]; done)), H', ⟨by have := HJ1.out; have := HK2.out; have := HJ11.out; omega⟩, ⟨bx BK476⟩, ⟨hb2 HB GE476 GE478⟩⟩
              ·replace c32 := Bool.eq_false_iff.mpr c32; subst c32; rw [if_neg (show ¬ (false = true) by decide)] at H; obtain rfl := Option.some.inj H
               try go_wp2
               replace BK476 := bd BK476; replace BK478 := bd BK478; replace HB := Aside0.mk (below_drew1 HB.out); have p479 : 0 ≤ ((ji28) : Int) := of_decide_eq_true (by first | (with_reducible assumption) | assumption); have q479 : (ji28) < (l0_1.length : Int) := of_decide_eq_true (by first | (with_reducible assumption) | assumption); obtain ⟨ad479, e479, hx479_0, hx479_1⟩ := at_T62 HR0_1.out (ji28) p479 q479; have hw479_1 := hx479_1; have hw479_0 := hx479_0; obtain rfl : ad477 = ad479 := (by injection e479); replace hx479_0 := (HB.out.cell (World.block_lt_of_cell? w _ hx479_0)).trans hx479_0; replace hx479_1 := (HB.out.cell (World.block_lt_of_cell? w _ hx479_1)).trans hx479_1; replace p479 := eq_true p479; replace q479 := eq_true q479; refine start_ (n := 9) (S := fun w' => w'.cell? ⟨gb476, 0, none⟩ = some (.int .i64 a0_0) ∧ w'.cell? ⟨gb476, 1, none⟩ = some (.slice (some ad477) l0_1.length c0_1) ∧ w'.cell? ⟨gb478, 0, none⟩ = some (.int .i64 ((rd_T62 l0_1 x3_2).f0)) ∧ w'.cell? ⟨gb478, 1, none⟩ = some (.int .i64 ((rd_T62 l0_1 x3_2).f1)) ∧ w'.cell? (ad477.add (((ji28)).toNat * 2)) = some (.int .i64 ((rd_T62 l0_1 (ji28)).f0)) ∧ w'.cell? ⟨(ad477.add (((ji28)).toNat * 2)).block, (ad477.add (((ji28)).toNat * 2)).off + 1, none⟩ = some (.int .i64 ((rd_T62 l0_1 (ji28)).f1))) (ds := []) (pf 0 9) (by kernel_rfl) rfl rfl ⟨bc BK476 0, bc BK476 1, bc BK478 0, bc BK478 1, ((HB.out.cell (World.block_lt_of_cell? w _ hw479_0)).trans hw479_0), ((HB.out.cell (World.block_lt_of_cell? w _ hw479_1)).trans hw479_1)⟩ (fun hHeld => ?_); refine with_tabW tangramref03_Valid.tab10 tangramref03_Valid.bits10 (fun HT_ HW_ => ?_)
               generalize wc.drew = w35 at BK476 BK478 HB hx479_0 hx479_1 hHeld ⊢; refine pu_ 0 (some 51) (pf 1 9) HT_ ?_; refine pu_ 2 (some 53) #[T_,F_,T_,F_,F_,F_,F_,F_,F_] HT_ ?_; refine pu_ 3 (some 54) #[T_,F_,T_,T_,F_,F_,F_,F_,F_] HT_ ?_; refine tk6_ 1 (some 52) (pf 4 9) HT_ HW_ hHeld ?_; refine pu_ 4 (some 55) (pf 5 9) HT_ ?_; refine tk6_ 5 (some 56) (pf 6 9) HT_ HW_ hHeld ?_; refine tk6_ 6 (some 57) (pf 7 9) HT_ HW_ hHeld ?_; refine on_ 7 (some 58) (pf 8 9) HT_ (fun K hK => ?_); refine goes_ Try.func61 (by kernel_rfl) rfl #[.agg #[.int .i64 ((rd_T62 l0_1 (ji28)).f0), .int .i64 ((rd_T62 l0_1 (ji28)).f1)], .agg #[.int .i64 ((rd_T62 l0_1 x3_2).f0), .int .i64 ((rd_T62 l0_1 x3_2).f1)]] (by rfl) rfl rfl (by (try simp only [List.map_toArray, List.map_cons, List.map_nil]); first | done | (simp only [hji28]; rfl) | rfl | (simp only [List.length_drop, List.length_take]; rfl)) ?_
               with_reducible refine (tangramref03_Less.calls ((rd_T62 l0_1 (ji28)).f0) ((rd_T62 l0_1 (ji28)).f1) ((rd_T62 l0_1 x3_2).f0) ((rd_T62 l0_1 x3_2).f1) false _ A31.out).mono ?_
               rintro e w36 ⟨rfl, hb⟩; refine ⟨_, rfl, ?_⟩; replace BK476 := kx BK476 hb; replace BK478 := kx BK478 hb; replace HB := hs (hb2 HB GE476 GE478) hb
               (try clear hb)
               (try clear hk)
               (try clear hi)
               refine hK.out _ _ ⟨bc BK476 0, bc BK476 1, bc BK478 0, bc BK478 1, ((HB.out.cell (World.block_lt_of_cell? w _ hw479_0)).trans hw479_0), ((HB.out.cell (World.block_lt_of_cell? w _ hw479_1)).trans hw479_1)⟩ (fun hHeld => ?_); clear hK K; refine nm_ (some 58) ?_; refine pu_ 8 (some 5) (pf 9 9) HT_ ?_; refine done_ (done_of HT_.out (by kernel_rfl)) ?_
               try go_wp2
               go_ret
               exact ⟨by first | rfl | (simp [errW_none, errW_some] <;> rfl) | (simp only [← hji28]; first | rfl | (simp [errW_none, errW_some] <;> rfl)) | (simp [*, errW_none, errW_some] <;> rfl), hb2 HB GE476 GE478⟩
             ·rw [if_neg c30] at H; exact absurd H (by simp)
            ·rw [if_neg c29] at H; exact absurd H (by simp)
           ·rw [if_neg c27] at H; have c27b0 : decide (0 < x3_2) = false := decide_eq_false c27; clear c27; have H' := Aside0.mk H; clear H
            go_wp2
            go_roundg kj11
            case measure => have := HJ1.out; have := HK2.out; have := HJ11.out; omega
            case rel => exact ⟨(wrap64 (x3_2 + 1)), (by first | rfl | (simp; done) | (simp [*]; done)), H', ⟨by have := HJ1.out; have := HK2.out; have := HJ11.out; omega⟩, ⟨bx BK476⟩, ⟨hb2 HB GE476 GE478⟩⟩
       ·rw [if_neg c11] at H; exact absurd H (by simp)
      ·rw [if_neg c10] at H; have c10b0 : decide (x3_2 < (l0_1.length : Int)) = false := decide_eq_false c10; clear c10; obtain rfl := Option.some.inj H; have hcz37_0 : wr.cell? ⟨gb476, 0, none⟩ = some (.int .i64 a0_0) := bc BK476 0; have hcz37_1 : wr.cell? ⟨gb476, 1, none⟩ = some (.slice A0_1 l0_1.length c0_1) := bc BK476 1; have hfz37_0 := blk_frozen BK476.out 0; have hfz37_1 := blk_frozen BK476.out 1
       go_wp2
       go_ret
       exact ⟨by rfl, hb1 HB GE476⟩

end Go.Proofs.Ythfoliejhdpbaaa.PCroA
