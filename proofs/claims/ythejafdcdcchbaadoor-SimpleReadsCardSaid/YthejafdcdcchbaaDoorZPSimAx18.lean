-- PRINTED by print.py (a twelfth state) out of the translation. Not trusted: Lean checks it.
import Derived.Test.YthejafdcdcchbaaDoorZPSimAx0
import Derived.Test.YthejafdcdcchbaaDoorZPSimAx3
namespace Go.Proofs.YthejafdcdcchbaaDoor.PSimA
open Go.RowKit Go.Proofs.YthejafdcdcchbaaDoorW.PrintWords Go.Proofs.YthejafdcdcchbaaDoorW.PrintLast Go.Proofs.YthejafdcdcchbaaDoorW.PrintMore
open Go.Proofs.YthejafdcdcchbaaDoorX
attribute [local go_sem] max2_int min2_int max_two min_two max_three min_three max_four min_four   -- for this text's walks alone
set_option linter.unusedVariables false
set_option linter.unusedSimpArgs false

/-! ### tangramref03_Valid: function 25 -/
mutual
def tangramref03_Valid.j0 : Nat → Bool → Int → List (S42) → Option (Bool)
 | 0, _, _, _ => none
 | k + 1, x19, x185000, x185001 => if x19 = true then (some false) else (tangramref03_Valid.l0 k 0 x185000 x185001)
def tangramref03_Valid.l0 : Nat → Int → Int → List (S42) → Option (Bool)
 | 0, _, _, _ => none
 | k + 1, x3, x185000, x185001 => if x3 < (x185001.length : Int) then (if 0 ≤ x3 then (if ((rd_T42 x185001 x3).f0) < 0 then (tangramref03_Valid.j2 k x3 true x185000 x185001 ((rd_T42 x185001 x3).f0) ((rd_T42 x185001 x3).f1)) else (if ((rd_T42 x185001 x3).f0) ≥ ((rd_T42 x185001 x3).f1) then (tangramref03_Valid.j2 k x3 true x185000 x185001 ((rd_T42 x185001 x3).f0) ((rd_T42 x185001 x3).f1)) else (tangramref03_Valid.j2 k x3 (decide (((rd_T42 x185001 x3).f1) ≥ x185000)) x185000 x185001 ((rd_T42 x185001 x3).f0) ((rd_T42 x185001 x3).f1)))) else (none)) else (some true)
def tangramref03_Valid.j2 : Nat → Int → Bool → Int → List (S42) → Int → Int → Option (Bool)
 | 0, _, _, _, _, _, _ => none
 | k + 1, x3, x48, x185000, x185001, x187000, x187001 => if x48 = true then (some false) else (if x3 > 0 then (if 0 ≤ (wrap64 (x3 - 1)) then (if (wrap64 (x3 - 1)) < (x185001.length : Int) then ((tangramref03_Less.f ((rd_T42 x185001 (wrap64 (x3 - 1))).f0) ((rd_T42 x185001 (wrap64 (x3 - 1))).f1) x187000 x187001).bind fun t188 => (if t188 = true then (tangramref03_Valid.l0 k (wrap64 (x3 + 1)) x185000 x185001) else (some false))) else (none)) else (none)) else (tangramref03_Valid.l0 k (wrap64 (x3 + 1)) x185000 x185001))
end
def tangramref03_Valid.f (k : Nat) (a0_0 : Int) (l0_1 : List (S42)) : Option (Bool) := if a0_0 < 0 then (tangramref03_Valid.j0 k true a0_0 l0_1) else (if a0_0 > 1048576 then (tangramref03_Valid.j0 k true a0_0 l0_1) else (tangramref03_Valid.j0 k (decide ((l0_1.length : Int) > 4194304)) a0_0 l0_1))
theorem tangramref03_Valid.mono_l : ∀ k, (∀ y0 y1 y2, LeO (tangramref03_Valid.j0 k y0 y1 y2) (tangramref03_Valid.j0 (k + 1) y0 y1 y2)) ∧ (∀ y0 y1 y2, LeO (tangramref03_Valid.l0 k y0 y1 y2) (tangramref03_Valid.l0 (k + 1) y0 y1 y2)) ∧ (∀ y0 y1 y2 y3 y4 y5, LeO (tangramref03_Valid.j2 k y0 y1 y2 y3 y4 y5) (tangramref03_Valid.j2 (k + 1) y0 y1 y2 y3 y4 y5))
 | 0 => ⟨fun _ _ _ r h => by simp [tangramref03_Valid.j0] at h, fun _ _ _ r h => by simp [tangramref03_Valid.l0] at h, fun _ _ _ _ _ _ r h => by simp [tangramref03_Valid.j2] at h⟩
 | k + 1 => by
  obtain ⟨ih0, ih1, ih2⟩ := tangramref03_Valid.mono_l k; refine ⟨?_, ?_, ?_⟩
  ·intro y0 y1 y2
   unfold tangramref03_Valid.j0
   repeat' first
   | (with_reducible exact ih0 _ _ _)
   | (with_reducible exact ih1 _ _ _)
   | (with_reducible exact ih2 _ _ _ _ _ _)
   | (with_reducible exact LeO.refl _)
   | (with_reducible exact LeO.none _)
   | (with_reducible refine LeO.ite ?_ ?_)
   | (with_reducible refine LeO.bind ?_ (fun _ => ?_))
   | exact ih0 _ _ _
   | exact ih1 _ _ _
   | exact ih2 _ _ _ _ _ _
   | exact LeO.none _
   | refine LeO.ite ?_ ?_
   | refine LeO.bind ?_ (fun _ => ?_)
  ·intro y0 y1 y2
   unfold tangramref03_Valid.l0
   repeat' first
   | (with_reducible exact ih0 _ _ _)
   | (with_reducible exact ih1 _ _ _)
   | (with_reducible exact ih2 _ _ _ _ _ _)
   | (with_reducible exact LeO.refl _)
   | (with_reducible exact LeO.none _)
   | (with_reducible refine LeO.ite ?_ ?_)
   | (with_reducible refine LeO.bind ?_ (fun _ => ?_))
   | exact ih0 _ _ _
   | exact ih1 _ _ _
   | exact ih2 _ _ _ _ _ _
   | exact LeO.none _
   | refine LeO.ite ?_ ?_
   | refine LeO.bind ?_ (fun _ => ?_)
  ·intro y0 y1 y2 y3 y4 y5
   unfold tangramref03_Valid.j2
   repeat' first
   | (with_reducible exact ih0 _ _ _)
   | (with_reducible exact ih1 _ _ _)
   | (with_reducible exact ih2 _ _ _ _ _ _)
   | (with_reducible exact LeO.refl _)
   | (with_reducible exact LeO.none _)
   | (with_reducible refine LeO.ite ?_ ?_)
   | (with_reducible refine LeO.bind ?_ (fun _ => ?_))
   | exact ih0 _ _ _
   | exact ih1 _ _ _
   | exact ih2 _ _ _ _ _ _
   | exact LeO.none _
   | refine LeO.ite ?_ ?_
   | refine LeO.bind ?_ (fun _ => ?_)
theorem tangramref03_Valid.mono : ∀ a0 a1 k, LeO (tangramref03_Valid.f k a0 a1) (tangramref03_Valid.f (k + 1) a0 a1) := by
 intro a0 a1 k; obtain ⟨ih0, ih1, ih2⟩ := tangramref03_Valid.mono_l k
 unfold tangramref03_Valid.f
 repeat' first
   | (with_reducible exact ih0 _ _ _)
   | (with_reducible exact ih1 _ _ _)
   | (with_reducible exact ih2 _ _ _ _ _ _)
   | (with_reducible exact LeO.refl _)
   | (with_reducible exact LeO.none _)
   | (with_reducible refine LeO.ite ?_ ?_)
   | (with_reducible refine LeO.bind ?_ (fun _ => ?_))
   | exact ih0 _ _ _
   | exact ih1 _ _ _
   | exact ih2 _ _ _ _ _ _
   | exact LeO.none _
   | refine LeO.ite ?_ ?_
   | refine LeO.bind ?_ (fun _ => ?_)
def tangramref03_Valid.T10 : Bool × List (List Nat × List Nat) := (true, [([], []), ([0], [0]), ([], []), ([2], [2]), ([1, 3], [1, 3]), ([4], [4]), ([], []), ([5, 6], [5, 6]), ([7, 7, 0, 1, 2, 3, 4, 5, 6, 7], [7])])
def tangramref03_Valid.B10 : List Nat := [0, 1, 0, 4, 15, 31, 0, 127, 255]
theorem tangramref03_Valid.tab10 : rtab .any (opsOf Tryd.f25 10) = tangramref03_Valid.T10 := by kernel_rfl
theorem tangramref03_Valid.bits10 : waitsOk tangramref03_Valid.T10.2 tangramref03_Valid.B10 = true := by kernel_rfl
set_option maxHeartbeats 8000000 in
set_option maxRecDepth 100000 in
theorem tangramref03_Valid.calls (k : Nat) (a0_0 : Int) (A0_1 : Option Addr) (c0_1 : Nat) (l0_1 : List (S42)) (r : Bool) (w : World) (hr0_1 : Kd.C k42 w A0_1 l0_1.length l0_1) (hc0_1 : l0_1.length ≤ c0_1) (h : tangramref03_Valid.f k a0_0 l0_1 = some r) :
  Calls Tryd.prog 25 #[.agg #[.int .i64 a0_0, .slice A0_1 l0_1.length c0_1]] w fun e w' => e = .returned (.bool r) ∧ Below w.heap.size w w' := by
 have hu26 := Tryd.underlying26; have hu42 := Tryd.underlying42; have HR0_1 := Aside0.mk hr0_1; have HC0_1 := Aside0.mk hc0_1; clear hr0_1 hc0_1; have HB := Aside0.mk (Below.refl w.heap.size w); have H : (if a0_0 < 0 then (tangramref03_Valid.j0 k true a0_0 l0_1) else (if a0_0 > 1048576 then (tangramref03_Valid.j0 k true a0_0 l0_1) else (tangramref03_Valid.j0 k (decide ((l0_1.length : Int) > 4194304)) a0_0 l0_1))) = some r := h; clear h; have HC2 := Aside0.mk H; clear H
 go_enter Tryd.func25, Tryd.ntmps25
 go_upto_region 1 with (first | ((with_reducible refine gate_dst (N := 1) rfl ?_); (try (refine gate_guard (by rfl) ?_; dsimp only)); refine be_ 1 #[.int .i64 a0_0, .slice A0_1 l0_1.length c0_1] 26 ?_; intro gb184 hg w3 hbox hb; have BK184 := Aside0.mk (hbox); have GW184 := wq (hb0 HB) hg; have GE184 := wq (hb0 HB) hg; replace HB := hs (hb0 HB) hb; clear hb hbox hg))
 (try simp only [Act.put, List.setIfInBounds_toArray, List.set_cons_zero, List.set_cons_succ])
 go_cut [19] (fun v19 wc => ∃ (kq : Nat) (x19_1 : Bool), v19 = .bool x19_1 ∧ Aside0 (tangramref03_Valid.j0 kq x19_1 a0_0 l0_1 = some r) ∧ Aside0 (kq ≤ k) ∧ Aside0 (wc.heap[gb184]? = some (.cells #[.int .i64 a0_0, (.slice A0_1 l0_1.length c0_1)] 26 (0, 0))) ∧ Aside0 (Below w.heap.size w wc))
 case first => as_aux_lemma =>
  have H := HC2.out; clear HC2
  by_cases c4 : a0_0 < 0
  ·rw [if_pos c4] at H; have c4b0 : decide (a0_0 < 0) = true := decide_eq_true c4; clear c4
   (first | rw [c4b0] | (simp only [i64_w, i32_w]; rw [c4b0]) | skip)
   have H' := Aside0.mk H; clear H; have hcz5_0 : w3.cell? ⟨gb184, 0, none⟩ = some (.int .i64 a0_0) := bc BK184 0; have hcz5_1 : w3.cell? ⟨gb184, 1, none⟩ = some (.slice A0_1 l0_1.length c0_1) := bc BK184 1; have hfz5_0 := blk_frozen BK184.out 0; have hfz5_1 := blk_frozen BK184.out 1
   go_wp2
   go_meet
   case rel => exact ⟨_, (true), (by first | rfl | (simp; done) | (simp [*]; done)), H', ⟨by first | omega | exact Nat.le_refl _⟩, ⟨bx BK184⟩, ⟨hb1 HB GE184⟩⟩
  ·rw [if_neg c4] at H; have c4b0 : decide (a0_0 < 0) = false := decide_eq_false c4; clear c4
   (first | rw [c4b0] | (simp only [i64_w, i32_w]; rw [c4b0]) | skip)
   by_cases c6 : a0_0 > 1048576
   ·rw [if_pos c6] at H; have c6b0 : decide (1048576 < a0_0) = true := decide_eq_true c6; clear c6; have H' := Aside0.mk H; clear H; have hcz7_0 : w3.cell? ⟨gb184, 0, none⟩ = some (.int .i64 a0_0) := bc BK184 0; have hcz7_1 : w3.cell? ⟨gb184, 1, none⟩ = some (.slice A0_1 l0_1.length c0_1) := bc BK184 1; have hfz7_0 := blk_frozen BK184.out 0; have hfz7_1 := blk_frozen BK184.out 1
    go_wp2
    go_meet
    case rel => exact ⟨_, (true), (by first | rfl | (simp; done) | (simp [*]; done)), H', ⟨by first | omega | exact Nat.le_refl _⟩, ⟨bx BK184⟩, ⟨hb1 HB GE184⟩⟩
   ·rw [if_neg c6] at H; have c6b0 : decide (1048576 < a0_0) = false := decide_eq_false c6; clear c6; have H' := Aside0.mk H; clear H; have hcz8_0 : w3.cell? ⟨gb184, 0, none⟩ = some (.int .i64 a0_0) := bc BK184 0; have hcz8_1 : w3.cell? ⟨gb184, 1, none⟩ = some (.slice A0_1 l0_1.length c0_1) := bc BK184 1; have hfz8_0 := blk_frozen BK184.out 0; have hfz8_1 := blk_frozen BK184.out 1
    go_wp2
    go_meet
    case rel => exact ⟨_, (decide ((l0_1.length : Int) > 4194304)), (by first | rfl | (simp; done) | (simp [*]; done)), H', ⟨by first | omega | exact Nat.le_refl _⟩, ⟨bx BK184⟩, ⟨hb1 HB GE184⟩⟩
 case rest => as_aux_lemma =>
  clear HC2
  try clear c2
  try clear p2
  try clear c4
  try clear c4b0
  try clear c6
  try clear c6b0
  try clear hcz5_0
  try clear hcz5_1
  try clear hcz7_0
  try clear hcz7_1
  try clear hcz8_0
  try clear hcz8_1
  try clear hfz5_0
  try clear hfz5_1
  try clear hfz7_0
  try clear hfz7_1
  try clear hfz8_0
  try clear hfz8_1
  obtain ⟨kq, x19_1, rfl, HA, HJ1, BK184, HB⟩ := hcut
  cases kq with
  | zero => exact absurd HA.out (by simp [tangramref03_Valid.j0])
  | succ kj1 =>
   have H := HA.out; clear HA; simp only [tangramref03_Valid.j0] at H
   by_cases c9 : x19_1 = true
   ·subst c9; rw [if_pos rfl] at H; obtain rfl := Option.some.inj H
    go_wp2
    go_ret
    exact ⟨by first | rfl | (simp [errW_none, errW_some] <;> rfl) | (simp [*, errW_none, errW_some] <;> rfl), hb1 HB GE184⟩
   ·replace c9 := Bool.eq_false_iff.mpr c9; subst c9; rw [if_neg (show ¬ (false = true) by decide)] at H; have H' := Aside0.mk H; clear H
    go_wp2
    go_loopg [3] kj1 (fun kq v3 w' => ∃ (x3_2 : Int), v3 = .int .i64 x3_2 ∧ Aside0 (tangramref03_Valid.l0 kq x3_2 a0_0 l0_1 = some r) ∧ Aside0 (kq ≤ kj1) ∧ Aside0 (w'.heap[gb184]? = some (.cells #[.int .i64 a0_0, (.slice A0_1 l0_1.length c0_1)] 26 (0, 0))) ∧ Aside0 (Below w.heap.size w w'))
    case atStart => exact ⟨(0), (by first | rfl | (simp; done) | (simp [*]; done)), H', ⟨Nat.le_refl _⟩, ⟨bx BK184⟩, ⟨hb1 HB GE184⟩⟩
    case round =>
     clear H'
     try clear c2
     try clear p2
     try clear c4
     try clear c4b0
     try clear c6
     try clear c6b0
     try clear c9
     try clear hcz5_0
     try clear hcz5_1
     try clear hcz7_0
     try clear hcz7_1
     try clear hcz8_0
     try clear hcz8_1
     try clear hfz5_0
     try clear hfz5_1
     try clear hfz7_0
     try clear hfz7_1
     try clear hfz8_0
     try clear hfz8_1
     try clear p2
     obtain ⟨x3_2, rfl, HA, HK2, BK184, HB⟩ := hrel
     cases gk with
     | zero => exact absurd HA.out (by simp [tangramref03_Valid.l0])
     | succ k2 =>
      have H := HA.out; clear HA; simp only [tangramref03_Valid.l0] at H
      by_cases c10 : x3_2 < (l0_1.length : Int)
      ·rw [if_pos c10] at H; have c10b0 : decide (x3_2 < (l0_1.length : Int)) = true := decide_eq_true c10; clear c10
       by_cases c11 : 0 ≤ x3_2
       ·rw [if_pos c11] at H; have c11b0 : decide (0 ≤ x3_2) = true := decide_eq_true c11; clear c11; have HC12 := Aside0.mk H; clear H; have hcz13_0 : wr.cell? ⟨gb184, 0, none⟩ = some (.int .i64 a0_0) := bc BK184 0; have hcz13_1 : wr.cell? ⟨gb184, 1, none⟩ = some (.slice A0_1 l0_1.length c0_1) := bc BK184 1; have hfz13_0 := blk_frozen BK184.out 0; have hfz13_1 := blk_frozen BK184.out 1; have p185 : 0 ≤ (x3_2 : Int) := of_decide_eq_true (by first | (with_reducible assumption) | assumption); have q185 : x3_2 < (l0_1.length : Int) := of_decide_eq_true (by first | (with_reducible assumption) | assumption); obtain ⟨ad185, e185, hx185_0, hx185_1⟩ := at_T42 HR0_1.out x3_2 p185 q185
        cases e185
        replace hx185_0 := (HB.out.cell (World.block_lt_of_cell? w _ hx185_0)).trans hx185_0; replace hx185_1 := (HB.out.cell (World.block_lt_of_cell? w _ hx185_1)).trans hx185_1; replace p185 := eq_true p185; replace q185 := eq_true q185
        go_upto_region 7 with (first | ((with_reducible refine gate_dst (N := 4) rfl ?_); (try (refine gate_guard (by rfl) ?_; dsimp only)); refine be_ 4 #[.int .i64 0, .int .i64 0] 42 ?_; intro gb186 hg w14 hbox hb; have BK186 := Aside0.mk (hbox); have GW186 := wq (hb1 HB GE184) hg; have GE186 := wq (hb1 HB GE184) hg; replace HB := hs (hb1 HB GE184) hb; have NB184_186 := lx BK184 hg; have NB186_184 := gx BK184 hg; replace BK184 := kx BK184 hb; clear hb hbox hg; have hnb15 := NB186_184.out; have hnc15 := NB184_186.out; have hcz16_0 : w14.cell? ⟨gb186, 0, none⟩ = some (.int .i64 0) := bc BK186 0; have hcz16_1 : w14.cell? ⟨gb186, 1, none⟩ = some (.int .i64 0) := bc BK186 1; have hfz16_0 := blk_frozen BK186.out 0; have hfz16_1 := blk_frozen BK186.out 1))
        (try simp only [Act.put, List.setIfInBounds_toArray, List.set_cons_zero, List.set_cons_succ])
        go_cut [48] (fun v48 wc => ∃ (kq : Nat) (x48_11 : Bool), v48 = .bool x48_11 ∧ Aside0 (tangramref03_Valid.j2 kq x3_2 x48_11 a0_0 l0_1 ((rd_T42 l0_1 x3_2).f0) ((rd_T42 l0_1 x3_2).f1) = some r) ∧ Aside0 (kq ≤ k2) ∧ Aside0 (wc.heap[gb184]? = some (.cells #[.int .i64 a0_0, (.slice (some ad185) l0_1.length c0_1)] 26 (0, 0))) ∧ Aside0 (wc.heap[gb186]? = some (.cells #[.int .i64 ((rd_T42 l0_1 x3_2).f0), .int .i64 ((rd_T42 l0_1 x3_2).f1)] 42 (0, 0))) ∧ Aside0 (Below w.heap.size w wc))
        case first => as_aux_lemma =>
         have H := HC12.out; clear HC12
         by_cases c17 : ((rd_T42 l0_1 x3_2).f0) < 0
         ·rw [if_pos c17] at H; have c17b0 : decide (((rd_T42 l0_1 x3_2).f0) < 0) = true := decide_eq_true c17; clear c17
          (first | rw [c17b0] | (simp only [i64_w, i32_w]; rw [c17b0]) | skip)
          have H' := Aside0.mk H; clear H; have hnb18 := NB186_184.out; have hnc18 := NB184_186.out; have hcz19_0 : w14.cell? ⟨gb186, 0, none⟩ = some (.int .i64 0) := bc BK186 0; have hcz19_1 : w14.cell? ⟨gb186, 1, none⟩ = some (.int .i64 0) := bc BK186 1; have hfz19_0 := blk_frozen BK186.out 0; have hfz19_1 := blk_frozen BK186.out 1
          go_wp2
          go_meet
          case rel => exact ⟨_, (true), (by first | rfl | (simp; done) | (simp [*]; done)), H', ⟨by have := HJ1.out; have := HK2.out; first | omega | exact Nat.le_refl _⟩, ⟨bx1 BK184 NB184_186⟩, ⟨bp BK186⟩, ⟨hb2 HB GE184 GE186⟩⟩
         ·rw [if_neg c17] at H; have c17b0 : decide (((rd_T42 l0_1 x3_2).f0) < 0) = false := decide_eq_false c17; clear c17
          (first | rw [c17b0] | (simp only [i64_w, i32_w]; rw [c17b0]) | skip)
          by_cases c20 : ((rd_T42 l0_1 x3_2).f0) ≥ ((rd_T42 l0_1 x3_2).f1)
          ·rw [if_pos c20] at H; have c20b0 : decide (((rd_T42 l0_1 x3_2).f1) ≤ ((rd_T42 l0_1 x3_2).f0)) = true := decide_eq_true c20; clear c20; have H' := Aside0.mk H; clear H; have hnb21 := NB186_184.out; have hnc21 := NB184_186.out; have hcz22_0 : w14.cell? ⟨gb186, 0, none⟩ = some (.int .i64 0) := bc BK186 0; have hcz22_1 : w14.cell? ⟨gb186, 1, none⟩ = some (.int .i64 0) := bc BK186 1; have hfz22_0 := blk_frozen BK186.out 0; have hfz22_1 := blk_frozen BK186.out 1
           go_wp2
           go_meet
           case rel => exact ⟨_, (true), (by first | rfl | (simp; done) | (simp [*]; done)), H', ⟨by have := HJ1.out; have := HK2.out; first | omega | exact Nat.le_refl _⟩, ⟨bx1 BK184 NB184_186⟩, ⟨bp BK186⟩, ⟨hb2 HB GE184 GE186⟩⟩
          ·rw [if_neg c20] at H; have c20b0 : decide (((rd_T42 l0_1 x3_2).f1) ≤ ((rd_T42 l0_1 x3_2).f0)) = false := decide_eq_false c20; clear c20; have H' := Aside0.mk H; clear H; have hnb23 := NB186_184.out; have hnc23 := NB184_186.out; have hcz24_0 : w14.cell? ⟨gb186, 0, none⟩ = some (.int .i64 0) := bc BK186 0; have hcz24_1 : w14.cell? ⟨gb186, 1, none⟩ = some (.int .i64 0) := bc BK186 1; have hfz24_0 := blk_frozen BK186.out 0; have hfz24_1 := blk_frozen BK186.out 1; have hcz25_0 : w14.cell? ⟨gb184, 0, none⟩ = some (.int .i64 a0_0) := bc BK184 0; have hcz25_1 : w14.cell? ⟨gb184, 1, none⟩ = some (.slice (some ad185) l0_1.length c0_1) := bc BK184 1; have hfz25_0 := blk_frozen BK184.out 0; have hfz25_1 := blk_frozen BK184.out 1
           go_wp2
           go_meet
           case rel => exact ⟨_, (decide (((rd_T42 l0_1 x3_2).f1) ≥ a0_0)), (by first | rfl | (simp; done) | (simp [*]; done)), H', ⟨by have := HJ1.out; have := HK2.out; first | omega | exact Nat.le_refl _⟩, ⟨bx1 BK184 NB184_186⟩, ⟨bp BK186⟩, ⟨hb2 HB GE184 GE186⟩⟩
        case rest => as_aux_lemma =>
         clear HC12
         try clear c1
         try clear p1
         try clear q1
         try clear hx1
         try clear c2
         try clear p2
         try clear c4
         try clear c4b0
         try clear c6
         try clear c6b0
         try clear c9
         try clear c10
         try clear c10b0
         try clear c11
         try clear c11b0
         try clear c15
         try clear c17
         try clear c17b0
         try clear c18
         try clear p18
         try clear q18
         try clear hx18
         try clear c20
         try clear c20b0
         try clear c21
         try clear c23
         try clear c25
         try clear hcz13_0
         try clear hcz13_1
         try clear hcz16_0
         try clear hcz16_1
         try clear hcz19_0
         try clear hcz19_1
         try clear hcz22_0
         try clear hcz22_1
         try clear hcz24_0
         try clear hcz24_1
         try clear hcz25_0
         try clear hcz25_1
         try clear hcz5_0
         try clear hcz5_1
         try clear hcz7_0
         try clear hcz7_1
         try clear hcz8_0
         try clear hcz8_1
         try clear hfz13_0
         try clear hfz13_1
         try clear hfz16_0
         try clear hfz16_1
         try clear hfz19_0
         try clear hfz19_1
         try clear hfz22_0
         try clear hfz22_1
         try clear hfz24_0
         try clear hfz24_1
         try clear hfz25_0
         try clear hfz25_1
         try clear hfz5_0
         try clear hfz5_1
         try clear hfz7_0
         try clear hfz7_1
         try clear hfz8_0
         try clear hfz8_1
         try clear hx185_0
         try clear hx185_1
         try clear p185
         try clear p2
         try clear q185
         obtain ⟨kq, x48_11, rfl, HA, HJ11, BK184, BK186, HB⟩ := hcut
         cases kq with
         | zero => exact absurd HA.out (by simp [tangramref03_Valid.j2])
         | succ kj11 =>
          have H := HA.out; clear HA; simp only [tangramref03_Valid.j2] at H
          by_cases c26 : x48_11 = true
          ·subst c26; rw [if_pos rfl] at H; obtain rfl := Option.some.inj H
           go_wp2
           go_ret
           exact ⟨by first | rfl | (simp [errW_none, errW_some] <;> rfl) | (simp [*, errW_none, errW_some] <;> rfl), hb2 HB GE184 GE186⟩
          ·replace c26 := Bool.eq_false_iff.mpr c26; subst c26; rw [if_neg (show ¬ (false = true) by decide)] at H
           by_cases c27 : x3_2 > 0
           ·rw [if_pos c27] at H; have c27b0 : decide (0 < x3_2) = true := decide_eq_true c27; clear c27; obtain ⟨ji28, hji28⟩ : ∃ j_ : Int, (wrap64 (x3_2 - 1)) = j_ := ⟨_, rfl⟩; replace H : (if 0 ≤ (ji28) then (if (ji28) < (l0_1.length : Int) then ((tangramref03_Less.f ((rd_T42 l0_1 (ji28)).f0) ((rd_T42 l0_1 (ji28)).f1) ((rd_T42 l0_1 x3_2).f0) ((rd_T42 l0_1 x3_2).f1)).bind fun t188 => (if t188 = true then (tangramref03_Valid.l0 kj11 (wrap64 (x3_2 + 1)) a0_0 l0_1) else (some false))) else (none)) else (none)) = some r := by first | (rw [hji28] at H; exact H) | (simp only [hji28] at H ⊢; exact H)
            have hji28w : (IntKind.i64.wrap (x3_2 - 1)) = ji28 := (i64_w _).trans hji28
            by_cases c29 : 0 ≤ (ji28)
            ·rw [if_pos c29] at H; have c29b0 : decide (0 ≤ (ji28)) = true := decide_eq_true c29; clear c29
             by_cases c30 : (ji28) < (l0_1.length : Int)
             ·rw [if_pos c30] at H; have c30b0 : decide ((ji28) < (l0_1.length : Int)) = true := decide_eq_true c30; clear c30; replace H := Option.bind_eq_some_iff.mp H; obtain ⟨t188, A310, H⟩ := H; (try dsimp only at H); have A31 := Aside0.mk A310; clear A310
              by_cases c32 : t188 = true
              ·subst c32; rw [if_pos rfl] at H; have H' := Aside0.mk H; clear H
               try go_wp2
               replace BK184 := bd BK184; replace BK186 := bd BK186; replace HB := Aside0.mk (below_drew1 HB.out); have p187 : 0 ≤ ((ji28) : Int) := of_decide_eq_true (by first | (with_reducible assumption) | assumption); have q187 : (ji28) < (l0_1.length : Int) := of_decide_eq_true (by first | (with_reducible assumption) | assumption); obtain ⟨ad187, e187, hx187_0, hx187_1⟩ := at_T42 HR0_1.out (ji28) p187 q187; have hw187_1 := hx187_1; have hw187_0 := hx187_0; obtain rfl : ad185 = ad187 := (by injection e187); replace hx187_0 := (HB.out.cell (World.block_lt_of_cell? w _ hx187_0)).trans hx187_0; replace hx187_1 := (HB.out.cell (World.block_lt_of_cell? w _ hx187_1)).trans hx187_1; replace p187 := eq_true p187; replace q187 := eq_true q187; refine start_ (n := 9) (S := fun w' => w'.cell? ⟨gb184, 0, none⟩ = some (.int .i64 a0_0) ∧ w'.cell? ⟨gb184, 1, none⟩ = some (.slice (some ad185) l0_1.length c0_1) ∧ w'.cell? ⟨gb186, 0, none⟩ = some (.int .i64 ((rd_T42 l0_1 x3_2).f0)) ∧ w'.cell? ⟨gb186, 1, none⟩ = some (.int .i64 ((rd_T42 l0_1 x3_2).f1)) ∧ w'.cell? (ad185.add (((ji28)).toNat * 2)) = some (.int .i64 ((rd_T42 l0_1 (ji28)).f0)) ∧ w'.cell? ⟨(ad185.add (((ji28)).toNat * 2)).block, (ad185.add (((ji28)).toNat * 2)).off + 1, none⟩ = some (.int .i64 ((rd_T42 l0_1 (ji28)).f1))) (ds := []) (pf 0 9) (by kernel_rfl) rfl rfl ⟨bc BK184 0, bc BK184 1, bc BK186 0, bc BK186 1, ((HB.out.cell (World.block_lt_of_cell? w _ hw187_0)).trans hw187_0), ((HB.out.cell (World.block_lt_of_cell? w _ hw187_1)).trans hw187_1)⟩ (fun hHeld => ?_); refine with_tabW tangramref03_Valid.tab10 tangramref03_Valid.bits10 (fun HT_ HW_ => ?_)
               generalize wc.drew = w33 at BK184 BK186 HB hx187_0 hx187_1 hHeld ⊢; refine pu_ 0 (some 51) (pf 1 9) HT_ ?_; refine pu_ 2 (some 53) #[T_,F_,T_,F_,F_,F_,F_,F_,F_] HT_ ?_; refine pu_ 3 (some 54) #[T_,F_,T_,T_,F_,F_,F_,F_,F_] HT_ ?_; refine tk6_ 1 (some 52) (pf 4 9) HT_ HW_ hHeld ?_; refine pu_ 4 (some 55) (pf 5 9) HT_ ?_; refine tk6_ 5 (some 56) (pf 6 9) HT_ HW_ hHeld ?_; refine tk6_ 6 (some 57) (pf 7 9) HT_ HW_ hHeld ?_; refine on_ 7 (some 58) (pf 8 9) HT_ (fun K hK => ?_); refine goes_ Tryd.func45 (by kernel_rfl) rfl #[.agg #[.int .i64 ((rd_T42 l0_1 (ji28)).f0), .int .i64 ((rd_T42 l0_1 (ji28)).f1)], .agg #[.int .i64 ((rd_T42 l0_1 x3_2).f0), .int .i64 ((rd_T42 l0_1 x3_2).f1)]] (by rfl) rfl rfl (by (try simp only [List.map_toArray, List.map_cons, List.map_nil]); first | done | (simp only [hji28]; rfl) | rfl | (simp only [List.length_drop, List.length_take]; rfl)) ?_
               with_reducible refine (tangramref03_Less.calls ((rd_T42 l0_1 (ji28)).f0) ((rd_T42 l0_1 (ji28)).f1) ((rd_T42 l0_1 x3_2).f0) ((rd_T42 l0_1 x3_2).f1) true _ A31.out).mono ?_
               rintro e w34 ⟨rfl, hb⟩; refine ⟨_, rfl, ?_⟩; replace BK184 := kx BK184 hb; replace BK186 := kx BK186 hb; replace HB := hs (hb2 HB GE184 GE186) hb
               (try clear hb)
               (try clear hb2)
               (try clear hk)
               (try clear hi)
               refine hK.out _ _ ⟨bc BK184 0, bc BK184 1, bc BK186 0, bc BK186 1, ((HB.out.cell (World.block_lt_of_cell? w _ hw187_0)).trans hw187_0), ((HB.out.cell (World.block_lt_of_cell? w _ hw187_1)).trans hw187_1)⟩ (fun hHeld => ?_); clear hK K; refine nm_ (some 58) ?_; refine pu_ 8 (some 5) (pf 9 9) HT_ ?_; refine done_ (done_of HT_.out (by kernel_rfl)) ?_
               try go_wp2
               go_roundg kj11
               case measure => have := HJ1.out; have := HK2.out; have := HJ11.out; omega
               case rel => exact ⟨(wrap64 (x3_2 + 1)), (by first | rfl | (simp; done) | (simp [*]; done)), H', ⟨by have := HJ1.out; have := HK2.out; have := HJ11.out; omega⟩, ⟨bx BK184⟩, ⟨hb2 HB GE184 GE186⟩⟩
              ·replace c32 := Bool.eq_false_iff.mpr c32; subst c32; rw [if_neg (show ¬ (false = true) by decide)] at H; obtain rfl := Option.some.inj H
               try go_wp2
               replace BK184 := bd BK184; replace BK186 := bd BK186; replace HB := Aside0.mk (below_drew1 HB.out); have p187 : 0 ≤ ((ji28) : Int) := of_decide_eq_true (by first | (with_reducible assumption) | assumption); have q187 : (ji28) < (l0_1.length : Int) := of_decide_eq_true (by first | (with_reducible assumption) | assumption); obtain ⟨ad187, e187, hx187_0, hx187_1⟩ := at_T42 HR0_1.out (ji28) p187 q187; have hw187_1 := hx187_1; have hw187_0 := hx187_0; obtain rfl : ad185 = ad187 := (by injection e187); replace hx187_0 := (HB.out.cell (World.block_lt_of_cell? w _ hx187_0)).trans hx187_0; replace hx187_1 := (HB.out.cell (World.block_lt_of_cell? w _ hx187_1)).trans hx187_1; replace p187 := eq_true p187; replace q187 := eq_true q187; refine start_ (n := 9) (S := fun w' => w'.cell? ⟨gb184, 0, none⟩ = some (.int .i64 a0_0) ∧ w'.cell? ⟨gb184, 1, none⟩ = some (.slice (some ad185) l0_1.length c0_1) ∧ w'.cell? ⟨gb186, 0, none⟩ = some (.int .i64 ((rd_T42 l0_1 x3_2).f0)) ∧ w'.cell? ⟨gb186, 1, none⟩ = some (.int .i64 ((rd_T42 l0_1 x3_2).f1)) ∧ w'.cell? (ad185.add (((ji28)).toNat * 2)) = some (.int .i64 ((rd_T42 l0_1 (ji28)).f0)) ∧ w'.cell? ⟨(ad185.add (((ji28)).toNat * 2)).block, (ad185.add (((ji28)).toNat * 2)).off + 1, none⟩ = some (.int .i64 ((rd_T42 l0_1 (ji28)).f1))) (ds := []) (pf 0 9) (by kernel_rfl) rfl rfl ⟨bc BK184 0, bc BK184 1, bc BK186 0, bc BK186 1, ((HB.out.cell (World.block_lt_of_cell? w _ hw187_0)).trans hw187_0), ((HB.out.cell (World.block_lt_of_cell? w _ hw187_1)).trans hw187_1)⟩ (fun hHeld => ?_); refine with_tabW tangramref03_Valid.tab10 tangramref03_Valid.bits10 (fun HT_ HW_ => ?_)
               generalize wc.drew = w35 at BK184 BK186 HB hx187_0 hx187_1 hHeld ⊢; refine pu_ 0 (some 51) (pf 1 9) HT_ ?_; refine pu_ 2 (some 53) #[T_,F_,T_,F_,F_,F_,F_,F_,F_] HT_ ?_; refine pu_ 3 (some 54) #[T_,F_,T_,T_,F_,F_,F_,F_,F_] HT_ ?_; refine tk6_ 1 (some 52) (pf 4 9) HT_ HW_ hHeld ?_; refine pu_ 4 (some 55) (pf 5 9) HT_ ?_; refine tk6_ 5 (some 56) (pf 6 9) HT_ HW_ hHeld ?_; refine tk6_ 6 (some 57) (pf 7 9) HT_ HW_ hHeld ?_; refine on_ 7 (some 58) (pf 8 9) HT_ (fun K hK => ?_); refine goes_ Tryd.func45 (by kernel_rfl) rfl #[.agg #[.int .i64 ((rd_T42 l0_1 (ji28)).f0), .int .i64 ((rd_T42 l0_1 (ji28)).f1)], .agg #[.int .i64 ((rd_T42 l0_1 x3_2).f0), .int .i64 ((rd_T42 l0_1 x3_2).f1)]] (by rfl) rfl rfl (by (try simp only [List.map_toArray, List.map_cons, List.map_nil]); first | done | (simp only [hji28]; rfl) | rfl | (simp only [List.length_drop, List.length_take]; rfl)) ?_
               with_reducible refine (tangramref03_Less.calls ((rd_T42 l0_1 (ji28)).f0) ((rd_T42 l0_1 (ji28)).f1) ((rd_T42 l0_1 x3_2).f0) ((rd_T42 l0_1 x3_2).f1) false _ A31.out).mono ?_
               rintro e w36 ⟨rfl, hb⟩; refine ⟨_, rfl, ?_⟩; replace BK184 := kx BK184 hb; replace BK186 := kx BK186 hb; replace HB := hs (hb2 HB GE184 GE186) hb
               (try clear hb)
               (try clear hb2)
               (try clear hk)
               (try clear hi)
               refine hK.out _ _ ⟨bc BK184 0, bc BK184 1, bc BK186 0, bc BK186 1, ((HB.out.cell (World.block_lt_of_cell? w _ hw187_0)).trans hw187_0), ((HB.out.cell (World.block_lt_of_cell? w _ hw187_1)).trans hw187_1)⟩ (fun hHeld => ?_); clear hK K; refine nm_ (some 58) ?_; refine pu_ 8 (some 5) (pf 9 9) HT_ ?_; refine done_ (done_of HT_.out (by kernel_rfl)) ?_
               try go_wp2
               go_ret
               exact ⟨by first | rfl | (simp [errW_none, errW_some] <;> rfl) | (simp only [← hji28]; first | rfl | (simp [errW_none, errW_some] <;> rfl)) | (simp [*, errW_none, errW_some] <;> rfl), hb2 HB GE184 GE186⟩
             ·rw [if_neg c30] at H; exact absurd H (by simp)
            ·rw [if_neg c29] at H; exact absurd H (by simp)
           ·rw [if_neg c27] at H; have c27b0 : decide (0 < x3_2) = false := decide_eq_false c27; clear c27; have H' := Aside0.mk H; clear H
            go_wp2
            go_roundg kj11
            case measure => have := HJ1.out; have := HK2.out; have := HJ11.out; omega
            case rel => exact ⟨(wrap64 (x3_2 + 1)), (by first | rfl | (simp; done) | (simp [*]; done)), H', ⟨by have := HJ1.out; have := HK2.out; have := HJ11.out; omega⟩, ⟨bx BK184⟩, ⟨hb2 HB GE184 GE186⟩⟩
       ·rw [if_neg c11] at H; exact absurd H (by simp)
      ·rw [if_neg c10] at H; have c10b0 : decide (x3_2 < (l0_1.length : Int)) = false := decide_eq_false c10; clear c10; obtain rfl := Option.some.inj H; have hcz37_0 : wr.cell? ⟨gb184, 0, none⟩ = some (.int .i64 a0_0) := bc BK184 0; have hcz37_1 : wr.cell? ⟨gb184, 1, none⟩ = some (.slice A0_1 l0_1.length c0_1) := bc BK184 1; have hfz37_0 := blk_frozen BK184.out 0; have hfz37_1 := blk_frozen BK184.out 1
       go_wp2
       go_ret
       exact ⟨by first | rfl | (simp [errW_none, errW_some] <;> rfl) | (simp [*, errW_none, errW_some] <;> rfl), hb1 HB GE184⟩

end Go.Proofs.YthejafdcdcchbaaDoor.PSimA
