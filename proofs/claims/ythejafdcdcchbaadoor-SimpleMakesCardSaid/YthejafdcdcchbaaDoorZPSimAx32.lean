-- PRINTED by print.py (a twelfth state) out of the translation. Not trusted: Lean checks it.
import Derived.Test.YthejafdcdcchbaaDoorZPSimAx0
namespace Go.Proofs.YthejafdcdcchbaaDoor.PSimA
open Go.RowKit Go.Proofs.YthejafdcdcchbaaDoorW.PrintWords Go.Proofs.YthejafdcdcchbaaDoorW.PrintLast Go.Proofs.YthejafdcdcchbaaDoorW.PrintMore
open Go.Proofs.YthejafdcdcchbaaDoorX
attribute [local go_sem] max2_int min2_int max_two min_two max_three min_three max_four min_four   -- for this text's walks alone
set_option linter.unusedVariables false
set_option linter.unusedSimpArgs false

/-! ### tangramlaw03_copied: function 14 -/
def tangramlaw03_copied.f (l0 : List (S53)) : Option ((List (S53))) := (some (([] : List (S53)) : List (S53))).bind fun y375 => (if y375.length + l0.length < 8796093022208 then (some (y375 ++ l0)) else (none))
set_option maxHeartbeats 8000000 in
set_option maxRecDepth 100000 in
theorem tangramlaw03_copied.calls (A0 : Option Addr) (c0 : Nat) (l0 : List (S53)) (r : List (S53)) (w : World) (hr0 : Kd.C k53 w A0 l0.length l0) (hc0 : l0.length ≤ c0) (h : tangramlaw03_copied.f l0 = some r) :
  Calls Tryd.prog 14 #[.slice A0 l0.length c0] w fun e w' => ∃ v0_ : Value, e = .returned (v0_) ∧ Kd.R k53 53 w' w.heap.size (fun _ => True) v0_ r ∧ Below w.heap.size w w' := by
 have HR0 := Aside0.mk hr0; have HC0 := Aside0.mk hc0; clear hr0 hc0; have HB := Aside0.mk (Below.refl w.heap.size w); have H : ((some (([] : List (S53)) : List (S53))).bind fun y375 => (if y375.length + l0.length < 8796093022208 then (some (y375 ++ l0)) else (none))) = some r := h; clear h; obtain ⟨y375, hy375⟩ : ∃ y_ : List (S53), y_ = (([] : List (S53))) := ⟨_, rfl⟩; replace H : (if y375.length + l0.length < 8796093022208 then (some (y375 ++ l0)) else (none)) = some r := by first | (rw [hy375]; with_reducible exact H) | (have H2_ := (Option.bind_some _ _).symm.trans H; rw [hy375]; with_reducible exact H2_) | (have H2_ := (Option.bind_some _ _).symm.trans H; with_reducible exact H2_) | with_reducible exact H | (rw [hy375]; exact H) | exact H
 have Ny375 := Aside0.mk hy375; clear hy375
 by_cases c2 : y375.length + l0.length < 8796093022208
 ·rw [if_pos c2] at H; have LMc2 := Aside0.mk c2; clear c2; obtain ⟨y378, hy378⟩ : ∃ y_ : List (S53), y_ = (y375 ++ l0) := ⟨_, rfl⟩; replace H : (some y378) = some r := by first | (rw [hy378]; with_reducible exact H) | (have H2_ := (Option.bind_some _ _).symm.trans H; rw [hy378]; with_reducible exact H2_) | (have H2_ := (Option.bind_some _ _).symm.trans H; with_reducible exact H2_) | with_reducible exact H | (rw [hy378]; exact H) | exact H
  have Ny378 := Aside0.mk hy378; clear hy378; obtain rfl := Option.some.inj H
  go_enter Tryd.func14, Tryd.ntmps14
  go_wp2_with (first | ((with_reducible refine gate_dst (N := 3) rfl ?_); refine Kd.R_lit k53 _ 53 ?hg (N := 3) ?hd (xs := ([] : List (S53))) (inner := []) (ok := fun _ => True) (okp := fun _ => True) ?hr ?hp (fun _ hk => hk) trivial (Below.refl _ _) (Nat.le_refl _) (by simp) ?_; (case hd => rfl); (case hg => rfl); (case hr => first | (go_simp; done) | (go_simp; rfl)); (case hp => exact (Reps.none _ _)); intro v376 w3 ho4 hb hg_ hnew_; clear hg_ hnew_; (first | rw [← Ny375.out] at ho4 | (simp only [Int.reduceToNat] at ho4; rw [← Ny375.out] at ho4)); have HO377 := Aside0.mk (Kd.R_lower ho4 (below_size (hb0 HB))); replace HB := hs (hb0 HB) hb; clear hb ho4) | ((with_reducible refine gate_builtin (b := .append) (xs := #[.tmp 3, .tmp 4]) rfl ?_); at_builtin; refine Kd.R_append_rows k53 (w0 := w) w.heap.size rfl (.tmp 3) (.tmp 4) 22 53 (.agg #[(.int .i64 0), (.int .i64 0)]) 16 rfl Tryd.underlying22 info53 rfl (by decide) (by omega) v376 y375 l0 _ _ _ (fun _ => True) (fun _ => False) rfl rfl ?aO ?aR (fun _ _ h => h) (fun _ h => h.elim) ?aF ?aB ?aS ?aL ?_; (case aR => repeat (first | exact (Kd.C_below HR0.out HB.out) | (with_reducible refine Kd.C_alloc ?_ _) | (with_reducible refine Kd.C_drewN ?_ _) | (with_reducible refine Kd.C_drew ?_))); (case aB => exact (hb0 HB)); (case aF => exact (fun _ _ => trivial)); (case aO => exact (rx HO377)); (case aS => exact (below_size (hb0 HB))); (case aL => have := LMc2.out; omega); intro v379 w5 ho hb hg hat; rw [← Ny378.out] at ho; have n0_ := Aside0.mk (hb); have n1_ := Aside0.mk (ho); clear HB; clear HO377; have HB := n0_; have HO380 := n1_; clear n0_ n1_; clear ho hb hg hat))
  go_ret
  exact ⟨_, by first | rfl | (simp [errW_none, errW_some] <;> rfl) | (simp [*, errW_none, errW_some] <;> rfl), by (with_reducible repeat (first | apply Kd.R_alloc | apply Kd.R_drewN | apply Kd.R_drew)); exact HO380.out, hb0 HB⟩
 ·rw [if_neg c2] at H; exact absurd H (by simp)

end Go.Proofs.YthejafdcdcchbaaDoor.PSimA
