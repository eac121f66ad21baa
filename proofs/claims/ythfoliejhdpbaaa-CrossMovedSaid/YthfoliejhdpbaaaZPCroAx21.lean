import Derived.Test.YthfoliejhdpbaaaZPCroAx0
import Derived.Test.YthfoliejhdpbaaaZXGrow
namespace Go.Proofs.Ythfoliejhdpbaaa.PCroA
open Go.RowKit Go.Proofs.YthfoliejhdpbaaaW.PrintWords Go.Proofs.YthfoliejhdpbaaaW.PrintLast Go.Proofs.YthfoliejhdpbaaaW.PrintMore
open Go.Proofs.YthfoliejhdpbaaaX
attribute [local go_sem] max2_int min2_int max_two min_two max_three min_three max_four min_four
set_option linter.unusedVariables false
set_option linter.unusedSimpArgs false

/-! ### slices_Grow_int_int: function 91 -/
def slices_Grow_int_int.f (a0 : Int) (a1 : Int) : Option (List Int) := if 0 ≤ a1 ∧ a1.toNat ≤ 17592186044416 then some [] else none
theorem slices_Grow_int_int.calls (a0 : Int) (a1 : Int) (r : List Int) (w : World) (h : slices_Grow_int_int.f a0 a1 = some r) :
  Calls Try.prog 91 #[.slice none 0 0, .int .i64 a1] w fun e w' => ∃ v0_ : Value, e = .returned (v0_) ∧ Kd.R (Kd.int .i64) 3 w' w.heap.size (fun _ => True) v0_ r ∧ Below w.heap.size w w' := by
 unfold slices_Grow_int_int.f at h
 by_cases hl : 0 ≤ a1 ∧ a1.toNat ≤ 17592186044416
 · rw [if_pos hl] at h; obtain rfl := Option.some.inj h; exact grow_c a1 hl.1 hl.2 w
 · rw [if_neg hl] at h; cases h


/-! ### slices_Concat_int_int: function 75 -/
mutual
def slices_Concat_int_int.l0 : Nat → List (List Int) → Int → List (List Int) → Int → Int → Option (List Int)
 | 0, _, _, _, _, _ => none
 | k + 1, x0, x3, x9, x10, x11 => if x11 < x10 then (if 0 ≤ x11 then (if x11 < (x9.length : Int) then (if (wrap64 (x3 + ((rd_L3 x9 x11).length : Int))) < 0 then (if 0 = 0 then (none) else (slices_Concat_int_int.l0 k x0 (wrap64 (x3 + ((rd_L3 x9 x11).length : Int))) x9 x10 (wrap64 (x11 + 1)))) else (slices_Concat_int_int.l0 k x0 (wrap64 (x3 + ((rd_L3 x9 x11).length : Int))) x9 x10 (wrap64 (x11 + 1)))) else (none)) else (none)) else ((slices_Grow_int_int.f 0 x3).bind fun t218 => (slices_Concat_int_int.l1 k t218 x0 (x0.length : Int) 0))
def slices_Concat_int_int.l1 : Nat → List Int → List (List Int) → Int → Int → Option (List Int)
 | 0, _, _, _, _ => none
 | k + 1, x6, x25, x26, x27 => if x27 < x26 then (if 0 ≤ x27 then (if x27 < (x25.length : Int) then (if x6.length + (rd_L3 x25 x27).length < 17592186044416 then (slices_Concat_int_int.l1 k (x6 ++ (rd_L3 x25 x27)) x25 x26 (wrap64 (x27 + 1))) else (none)) else (none)) else (none)) else (some x6)
end
def slices_Concat_int_int.f (k : Nat) (l0 : List (List Int)) : Option (List Int) := slices_Concat_int_int.l0 k l0 0 l0 (l0.length : Int) 0
theorem slices_Concat_int_int.mono_l : ∀ k, (∀ y0 y1 y2 y3 y4, LeO (slices_Concat_int_int.l0 k y0 y1 y2 y3 y4) (slices_Concat_int_int.l0 (k + 1) y0 y1 y2 y3 y4)) ∧ (∀ y0 y1 y2 y3, LeO (slices_Concat_int_int.l1 k y0 y1 y2 y3) (slices_Concat_int_int.l1 (k + 1) y0 y1 y2 y3))
 | 0 => ⟨fun _ _ _ _ _ r h => by simp [slices_Concat_int_int.l0] at h, fun _ _ _ _ r h => by simp [slices_Concat_int_int.l1] at h⟩
 | k + 1 => by
  obtain ⟨ih0, ih1⟩ := slices_Concat_int_int.mono_l k; refine ⟨?_, ?_⟩
  ·intro y0 y1 y2 y3 y4
   unfold slices_Concat_int_int.l0
   repeat' first
   | (with_reducible exact ih0 _ _ _ _ _)
   | (with_reducible exact ih1 _ _ _ _)
   | (with_reducible exact LeO.refl _)
   | (with_reducible exact LeO.none _)
   | (with_reducible refine LeO.ite ?_ ?_)
   | (with_reducible refine LeO.bind ?_ (fun _ => ?_))
   | exact LeO.none _
   | refine LeO.ite ?_ ?_
   | refine LeO.bind ?_ (fun _ => ?_)
  ·intro y0 y1 y2 y3
   unfold slices_Concat_int_int.l1
   repeat' first
   | (with_reducible exact ih0 _ _ _ _ _)
   | (with_reducible exact ih1 _ _ _ _)
   | (with_reducible exact LeO.refl _)
   | (with_reducible exact LeO.none _)
   | (with_reducible refine LeO.ite ?_ ?_)
   | (with_reducible refine LeO.bind ?_ (fun _ => ?_))
   | exact LeO.none _
   | refine LeO.ite ?_ ?_
   | refine LeO.bind ?_ (fun _ => ?_)
theorem slices_Concat_int_int.mono : ∀ a0 k, LeO (slices_Concat_int_int.f k a0) (slices_Concat_int_int.f (k + 1) a0) := by
 intro a0 k; obtain ⟨ih0, ih1⟩ := slices_Concat_int_int.mono_l k
 unfold slices_Concat_int_int.f
 repeat' first
   | (with_reducible exact ih0 _ _ _ _ _)
   | (with_reducible exact ih1 _ _ _ _)
   | (with_reducible exact LeO.refl _)
   | (with_reducible exact LeO.none _)
   | (with_reducible refine LeO.ite ?_ ?_)
   | (with_reducible refine LeO.bind ?_ (fun _ => ?_))
   | exact LeO.none _
   | refine LeO.ite ?_ ?_
   | refine LeO.bind ?_ (fun _ => ?_)
set_option maxHeartbeats 8000000 in
set_option maxRecDepth 100000 in
theorem slices_Concat_int_int.calls (k : Nat) (A0 : Option Addr) (c0 : Nat) (l0 : List (List Int)) (r : List Int) (w : World) (hr0 : Kd.C (Kd.slice 3 (Kd.int .i64)) w A0 l0.length l0) (hc0 : l0.length ≤ c0) (h : slices_Concat_int_int.f k l0 = some r) :
  Calls Try.prog 75 #[.slice A0 l0.length c0] w fun e w' => ∃ v0_ : Value, e = .returned (v0_) ∧ Kd.R (Kd.int .i64) 3 w' w.heap.size (fun _ => True) v0_ r ∧ Below w.heap.size w w' := by
 have HR0 := Aside0.mk hr0; have HC0 := Aside0.mk hc0; clear hr0 hc0; have HB := Aside0.mk (Below.refl w.heap.size w); have H : (slices_Concat_int_int.l0 k l0 0 l0 (l0.length : Int) 0) = some r := h; clear h; have H' := Aside0.mk H; clear H
 go_enter Try.func75, Try.ntmps75
 go_wp2
 go_loopg [3, 11] k (fun kq v3 v11 w' => ∃ (x3_1 : Int) (x11_1 : Int), v3 = .int .i64 x3_1 ∧ v11 = .int .i64 x11_1 ∧ Aside0 (slices_Concat_int_int.l0 kq l0 x3_1 l0 (l0.length : Int) x11_1 = some r) ∧ Aside0 (kq ≤ k) ∧ Aside0 (Below w.heap.size w w'))
 case atStart => exact ⟨(0), (0), (by first | rfl | (simp; done) | (simp [*]; done)), (by first | rfl | (simp; done) | (simp [*]; done)), H', ⟨Nat.le_refl _⟩, ⟨hb0 HB⟩⟩
 case round =>
  clear H'; obtain ⟨x3_1, x11_1, rfl, rfl, HA, HK1, HB⟩ := hrel
  cases gk with
  | zero => exact absurd HA.out (by simp [slices_Concat_int_int.l0])
  | succ k1 =>
   have H := HA.out; clear HA; simp only [slices_Concat_int_int.l0] at H
   by_cases c2 : x11_1 < (l0.length : Int)
   ·rw [if_pos c2] at H; have c2b0 : decide (x11_1 < (l0.length : Int)) = true := decide_eq_true c2; clear c2
    by_cases c3 : 0 ≤ x11_1
    ·rw [if_pos c3] at H; have c3b0 : decide (0 ≤ x11_1) = true := decide_eq_true c3; clear c3
     by_cases c4 : x11_1 < (l0.length : Int)
     ·rw [if_pos c4] at H; have c4b0 : decide (x11_1 < (l0.length : Int)) = true := decide_eq_true c4; clear c4
      by_cases c5 : (wrap64 (x3_1 + ((rd_L3 l0 x11_1).length : Int))) < 0
      ·rw [if_pos c5] at H; have c5b0 : decide ((wrap64 (x3_1 + ((rd_L3 l0 x11_1).length : Int))) < 0) = true := decide_eq_true c5; clear c5
       exact absurd H (by simp)
      ·rw [if_neg c5] at H; have c5b0 : decide ((wrap64 (x3_1 + ((rd_L3 l0 x11_1).length : Int))) < 0) = false := decide_eq_false c5; clear c5; have H' := Aside0.mk H; clear H; have p217 : 0 ≤ (x11_1 : Int) := of_decide_eq_true (by first | (with_reducible assumption) | assumption); have q217 : x11_1 < (l0.length : Int) := of_decide_eq_true (by first | (with_reducible assumption) | assumption); obtain ⟨ad217, A217_0, c217_0, e217, hx217_0, hl217_0, hi217_0⟩ := at_L3 HR0.out x11_1 p217 q217
       cases e217
       replace hx217_0 := (HB.out.cell (World.block_lt_of_cell? w _ hx217_0)).trans hx217_0; have HR217_0 := Aside0.mk hi217_0; have HC217_0 := Aside0.mk hl217_0; clear hi217_0 hl217_0; replace p217 := eq_true p217; replace q217 := eq_true q217
       go_wp2
       go_roundg k1
       case measure => have := HK1.out; omega
       case rel => exact ⟨(wrap64 (x3_1 + ((rd_L3 l0 x11_1).length : Int))), (wrap64 (x11_1 + 1)), (by first | rfl | (simp; done) | (simp [*]; done)), (by first | rfl | (simp; done) | (simp [*]; done)), H', ⟨by have := HK1.out; omega⟩, ⟨hb0 HB⟩⟩
     ·rw [if_neg c4] at H; exact absurd H (by simp)
    ·rw [if_neg c3] at H; exact absurd H (by simp)
   ·rw [if_neg c2] at H; have c2b0 : decide (x11_1 < (l0.length : Int)) = false := decide_eq_false c2; clear c2; replace H := Option.bind_eq_some_iff.mp H; obtain ⟨t218, A70, H⟩ := H; (try dsimp only at H); have A7 := Aside0.mk A70; clear A70; have H' := Aside0.mk H; clear H
    go_wp2_with (first | ((with_reducible refine gate_callee (f := 91) rfl ?_); refine gl_ (some 24) Try.func91 #[.slice none 0 0, .int .i64 x3_1] ?_; (with_reducible refine (slices_Grow_int_int.calls 0 x3_1 t218 _ A7.out).mono ?_); rintro e w8 ⟨v219, rfl, ho0, hb⟩; refine ⟨_, rfl, ?_⟩; have HO220 := Aside0.mk (Kd.R_lower ho0 (below_size (hb0 HB))); replace HB := hs (hb0 HB) hb; (try clear hb); (try clear hb2); (try clear hk); (try clear hi); (try clear ho0)))
    go_loopg [6, 27] k1 (fun kq v6 v27 w' => ∃ (x6_2 : List Int) (x27_2 : Int), v27 = .int .i64 x27_2 ∧ Aside0 (slices_Concat_int_int.l1 kq x6_2 l0 (l0.length : Int) x27_2 = some r) ∧ Aside0 (kq ≤ k1) ∧ Aside0 (Kd.R (Kd.int .i64) 3 w' w.heap.size (fun _ => True) v6 x6_2) ∧ Aside0 (Below w.heap.size w w'))
    case atStart => exact ⟨(t218), (0), (by first | rfl | (simp; done) | (simp [*]; done)), H', ⟨Nat.le_refl _⟩, ⟨rx HO220⟩, ⟨hb0 HB⟩⟩
    case round =>
     clear H'
     try clear c2
     try clear c2b0
     try clear p2
     try clear q2
     try clear hx2
     try clear c3
     try clear c3b0
     try clear c4
     try clear c4b0
     try clear c5
     try clear c5b0
     try clear c6
     try clear c6b0
     try clear c6b1
     try clear p6
     try clear c7
     try clear hx217_0
     try clear p217
     try clear q217
     obtain ⟨x6_2, x27_2, rfl, HA, HK2, HO_6, HB⟩ := hrel
     cases gk with
     | zero => exact absurd HA.out (by simp [slices_Concat_int_int.l1])
     | succ k2 =>
      have H := HA.out; clear HA; simp only [slices_Concat_int_int.l1] at H
      by_cases c9 : x27_2 < (l0.length : Int)
      ·rw [if_pos c9] at H; have c9b0 : decide (x27_2 < (l0.length : Int)) = true := decide_eq_true c9; clear c9
       by_cases c10 : 0 ≤ x27_2
       ·rw [if_pos c10] at H; have c10b0 : decide (0 ≤ x27_2) = true := decide_eq_true c10; clear c10
        by_cases c11 : x27_2 < (l0.length : Int)
        ·rw [if_pos c11] at H; have c11b0 : decide (x27_2 < (l0.length : Int)) = true := decide_eq_true c11; clear c11
         by_cases c12 : x6_2.length + (rd_L3 l0 x27_2).length < 17592186044416
         ·rw [if_pos c12] at H; have LMc12 := Aside0.mk c12; clear c12; obtain ⟨y222, hy222⟩ : ∃ y_ : List Int, y_ = (x6_2 ++ (rd_L3 l0 x27_2)) := ⟨_, rfl⟩; replace H : (slices_Concat_int_int.l1 k2 y222 l0 (l0.length : Int) (wrap64 (x27_2 + 1))) = some r := by first | (rw [hy222]; with_reducible exact H) | (have H2_ := (Option.bind_some _ _).symm.trans H; rw [hy222]; with_reducible exact H2_) | (have H2_ := (Option.bind_some _ _).symm.trans H; with_reducible exact H2_) | with_reducible exact H | (rw [hy222]; exact H) | exact H
          have Ny222 := Aside0.mk hy222; clear hy222; have H' := Aside0.mk H; clear H; have p221 : 0 ≤ (x27_2 : Int) := of_decide_eq_true (by first | (with_reducible assumption) | assumption); have q221 : x27_2 < (l0.length : Int) := of_decide_eq_true (by first | (with_reducible assumption) | assumption); obtain ⟨ad221, A221_0, c221_0, e221, hx221_0, hl221_0, hi221_0⟩ := at_L3 HR0.out x27_2 p221 q221
          cases e221
          replace hx221_0 := (HB.out.cell (World.block_lt_of_cell? w _ hx221_0)).trans hx221_0; have HR221_0 := Aside0.mk hi221_0; have HC221_0 := Aside0.mk hl221_0; clear hi221_0 hl221_0; replace p221 := eq_true p221; replace q221 := eq_true q221
          go_wp2_with (first | ((with_reducible refine gate_builtin (b := .append) (xs := #[.tmp 31, .tmp 32]) rfl ?_); at_builtin; refine Kd.R_append_rows (Kd.int .i64) (w0 := w) w.heap.size rfl (.tmp 31) (.tmp 32) 49 3 (.int .i64 0) 8 rfl Try.underlying49 info3 rfl (by decide) (by omega) u6 x6_2 (rd_L3 l0 x27_2) _ _ _ (fun _ => True) (fun _ => False) rfl rfl ?aO ?aR (fun _ _ h => h) (fun _ h => h.elim) ?aF ?aB ?aS ?aL ?_; (case aR => repeat (first | exact (Kd.C_below HR221_0.out HB.out) | (with_reducible refine Kd.C_alloc ?_ _) | (with_reducible refine Kd.C_drewN ?_ _) | (with_reducible refine Kd.C_drew ?_))); (case aB => exact (hb0 HB)); (case aF => exact (fun _ _ => trivial)); (case aO => exact (rx HO_6)); (case aS => exact (below_size (hb0 HB))); (case aL => have := LMc12.out; omega); intro v223 w13 ho hb hg hat; rw [← Ny222.out] at ho; have n0_ := Aside0.mk (hb); have n1_ := Aside0.mk (ho); clear HB; clear HO_6; have HB := n0_; have HO224 := n1_; clear n0_ n1_; clear ho hb hg hat))
          go_roundg k2
          case measure => have := HK1.out; have := HK2.out; omega
          case rel => exact ⟨(y222), (wrap64 (x27_2 + 1)), (by first | rfl | (simp; done) | (simp [*]; done)), H', ⟨by have := HK1.out; have := HK2.out; omega⟩, ⟨rx HO224⟩, ⟨hb0 HB⟩⟩
         ·rw [if_neg c12] at H; exact absurd H (by simp)
        ·rw [if_neg c11] at H; exact absurd H (by simp)
       ·rw [if_neg c10] at H; exact absurd H (by simp)
      ·rw [if_neg c9] at H; have c9b0 : decide (x27_2 < (l0.length : Int)) = false := decide_eq_false c9; clear c9; obtain rfl := Option.some.inj H
       go_wp2
       go_ret
       exact ⟨_, by rfl, by (with_reducible repeat (first | apply Kd.R_alloc | apply Kd.R_drewN | apply Kd.R_drew)); exact HO_6.out, hb0 HB⟩

end Go.Proofs.Ythfoliejhdpbaaa.PCroA
