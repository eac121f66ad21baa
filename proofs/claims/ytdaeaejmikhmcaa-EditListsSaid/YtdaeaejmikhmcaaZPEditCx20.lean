-- PRINTED by print.py (a twelfth state) out of the translation. Not trusted: Lean checks it.
import Derived.Test.YtdaeaejmikhmcaaZPEditCx0
namespace Go.Proofs.Ytdaeaejmikhmcaa.PEditC
open Go.RowKit Go.Proofs.YtdaeaejmikhmcaaW.PrintWords Go.Proofs.YtdaeaejmikhmcaaW.PrintLast Go.Proofs.YtdaeaejmikhmcaaW.PrintMore
open Go.Proofs.YtdaeaejmikhmcaaX
attribute [local go_sem] max2_int min2_int max_two min_two max_three min_three max_four min_four   -- for this text's walks alone
set_option linter.unusedVariables false
set_option linter.unusedSimpArgs false

/-! ### tangramlaw14_from: function 17 -/
def tangramlaw14_from.l0 : Nat → Int → Int → List Int → Int → Option (List Int)
 | 0, _, _, _, _ => none
 | k + 1, x0, x1, x5, x6 => if x6 < x1 then (if x5.length < 17592186044416 then (tangramlaw14_from.l0 k x0 x1 (x5 ++ [wrap64 (x0 + x6)]) (wrap64 (x6 + 1))) else (none)) else (some x5)
def tangramlaw14_from.f (k : Nat) (a0 : Int) (a1 : Int) : Option (List Int) := tangramlaw14_from.l0 k a0 a1 ([] : List Int) 0
theorem tangramlaw14_from.mono_l : ∀ k, (∀ y0 y1 y2 y3, LeO (tangramlaw14_from.l0 k y0 y1 y2 y3) (tangramlaw14_from.l0 (k + 1) y0 y1 y2 y3))
 | 0 => fun _ _ _ _ r h => by simp [tangramlaw14_from.l0] at h
 | k + 1 => by
  have ih0 := tangramlaw14_from.mono_l k
  ·intro y0 y1 y2 y3
   unfold tangramlaw14_from.l0
   repeat' first
   | (with_reducible exact ih0 _ _ _ _)
   | (with_reducible exact LeO.refl _)
   | (with_reducible exact LeO.none _)
   | (with_reducible refine LeO.ite ?_ ?_)
   | (with_reducible refine LeO.bind ?_ (fun _ => ?_))
   | exact ih0 _ _ _ _
   | exact LeO.none _
   | refine LeO.ite ?_ ?_
   | refine LeO.bind ?_ (fun _ => ?_)
theorem tangramlaw14_from.mono : ∀ a0 a1 k, LeO (tangramlaw14_from.f k a0 a1) (tangramlaw14_from.f (k + 1) a0 a1) := by
 intro a0 a1 k; have ih0 := tangramlaw14_from.mono_l k
 unfold tangramlaw14_from.f
 repeat' first
   | (with_reducible exact ih0 _ _ _ _)
   | (with_reducible exact LeO.refl _)
   | (with_reducible exact LeO.none _)
   | (with_reducible refine LeO.ite ?_ ?_)
   | (with_reducible refine LeO.bind ?_ (fun _ => ?_))
   | exact ih0 _ _ _ _
   | exact LeO.none _
   | refine LeO.ite ?_ ?_
   | refine LeO.bind ?_ (fun _ => ?_)
set_option maxHeartbeats 8000000 in
set_option maxRecDepth 100000 in
theorem tangramlaw14_from.calls (k : Nat) (a0 : Int) (a1 : Int) (r : List Int) (w : World) (h : tangramlaw14_from.f k a0 a1 = some r) :
  Calls Try.prog 17 #[.int .i64 a0, .int .i64 a1] w fun e w' => ∃ v0_ : Value, e = .returned (v0_) ∧ Kd.R (Kd.int .i64) 3 w' w.heap.size (fun _ => True) v0_ r ∧ Below w.heap.size w w' := by
 have HB := Aside0.mk (Below.refl w.heap.size w); have H : (tangramlaw14_from.l0 k a0 a1 ([] : List Int) 0) = some r := h; clear h; have H' := Aside0.mk H; clear H
 go_enter Try.func17, Try.ntmps17
 go_wp2
 go_loopg [5, 6] k (fun kq v5 v6 w' => ∃ (x5_1 : List Int) (x6_1 : Int), v6 = .int .i64 x6_1 ∧ Aside0 (tangramlaw14_from.l0 kq a0 a1 x5_1 x6_1 = some r) ∧ Aside0 (kq ≤ k) ∧ Aside0 (Kd.R (Kd.int .i64) 3 w' w.heap.size (fun _ => True) v5 x5_1) ∧ Aside0 (Below w.heap.size w w'))
 case atStart => exact ⟨(([] : List Int)), (0), (by first | rfl | (simp; done) | (simp [*]; done)), H', ⟨Nat.le_refl _⟩, ⟨by first | exact Kd.R_nil _ _ _ _ _ | exact Kd.N_nil _ _ _ _ _ | exact Kd.V_nil _ _ _ _ _ | exact Kd.Q_nil _ _ _ _ _ | exact Kd.S_nil _ _ _ _ _⟩, ⟨hb0 HB⟩⟩
 case round =>
  clear H'
  try clear c1
  try clear p2
  obtain ⟨x5_1, x6_1, rfl, HA, HK1, HO_5, HB⟩ := hrel
  cases gk with
  | zero => exact absurd HA.out (by simp [tangramlaw14_from.l0])
  | succ k1 =>
   have H := HA.out; clear HA; simp only [tangramlaw14_from.l0] at H
   by_cases c3 : x6_1 < a1
   ·rw [if_pos c3] at H; have c3b0 : decide (x6_1 < a1) = true := decide_eq_true c3; clear c3
    by_cases c4 : x5_1.length < 17592186044416
    ·rw [if_pos c4] at H; have LMc4 := Aside0.mk c4; clear c4; obtain ⟨y260, hy260⟩ : ∃ y_ : List Int, y_ = (x5_1 ++ [wrap64 (a0 + x6_1)]) := ⟨_, rfl⟩; replace H : (tangramlaw14_from.l0 k1 a0 a1 y260 (wrap64 (x6_1 + 1))) = some r := by first | (rw [hy260]; with_reducible exact H) | (have H2_ := (Option.bind_some _ _).symm.trans H; rw [hy260]; with_reducible exact H2_) | (have H2_ := (Option.bind_some _ _).symm.trans H; with_reducible exact H2_) | with_reducible exact H | (rw [hy260]; exact H) | exact H
     have Ny260 := Aside0.mk hy260; clear hy260; have H' := Aside0.mk H; clear H
     go_wp2_with (first | ((with_reducible refine gate_builtin (b := .append) (xs := #[.tmp 12, .tmp 16]) rfl ?_); at_builtin; refine Kd.R_append (Kd.int .i64) (w0 := w) w.heap.size rfl (.tmp 12) (.tmp 16) 26 3 (.int .i64 0) 8 rfl Try.underlying26 info3 rfl (by decide) (by omega) u5 x5_1 (wrap64 (a0 + x6_1)) [.int .i64 (wrap64 (a0 + x6_1))] (fun _ => True) (fun _ => False) rfl rfl ?aP (fun _ hk => hk.elim) ?aF ?aO ?aB ?aS ?aL ?_; (case aP => exact rfl); (case aB => exact (hb0 HB)); (case aF => exact (fun _ _ => trivial)); (case aO => exact (rx HO_5)); (case aS => exact (below_size (hb0 HB))); (case aL => have := LMc4.out; omega); intro v261 w5 ho hb hg hat; rw [← Ny260.out] at ho; have n0_ := Aside0.mk (hb); have n1_ := Aside0.mk (ho); clear HB; clear HO_5; have HB := n0_; have HO262 := n1_; clear n0_ n1_; clear ho hb hg hat))
     go_roundg k1
     case measure => have := HK1.out; omega
     case rel => exact ⟨(y260), (wrap64 (x6_1 + 1)), (by first | rfl | (simp; done) | (simp [*]; done)), H', ⟨by have := HK1.out; omega⟩, ⟨rx HO262⟩, ⟨hb0 HB⟩⟩
    ·rw [if_neg c4] at H; exact absurd H (by simp)
   ·rw [if_neg c3] at H; have c3b0 : decide (x6_1 < a1) = false := decide_eq_false c3; clear c3; obtain rfl := Option.some.inj H
    go_wp2
    go_ret
    exact ⟨_, by first | rfl | (simp [errW_none, errW_some] <;> rfl) | (simp [*, errW_none, errW_some] <;> rfl), by (with_reducible repeat (first | apply Kd.R_alloc | apply Kd.R_drewN | apply Kd.R_drew)); exact HO_5.out, hb0 HB⟩

end Go.Proofs.Ytdaeaejmikhmcaa.PEditC
