-- PRINTED by print.py (a twelfth state) out of the translation. Not trusted: Lean checks it.
import Derived.Test.YtjgaicdieddekaaDoorZPNumAx0
import Derived.Test.YtjgaicdieddekaaDoorZPNumAx6
import Derived.Test.YtjgaicdieddekaaDoorZPNumAx7
import Derived.Test.YtjgaicdieddekaaDoorZPNumAx8
import Derived.Test.YtjgaicdieddekaaDoorZPNumAx14
import Derived.Test.YtjgaicdieddekaaDoorZPNumAx17
namespace Go.Proofs.YtjgaicdieddekaaDoor.PNumA
open Go.RowKit Go.Proofs.YtjgaicdieddekaaDoorW.PrintWords Go.Proofs.YtjgaicdieddekaaDoorW.PrintLast Go.Proofs.YtjgaicdieddekaaDoorW.PrintMore
open Go.Proofs.YtjgaicdieddekaaDoorX
attribute [local go_sem] max2_int min2_int max_two min_two max_three min_three max_four min_four   -- for this text's walks alone
set_option linter.unusedVariables false
set_option linter.unusedSimpArgs false

/-! ### tangramlaw01_NumsTexts: function 6 -/
def tangramlaw01_NumsTexts.j0 : Nat → Int → Int → Bool → Option (Bool)
 | 0, _, _, _ => none
 | k + 1, x1, x2, x22 => if x22 = true then (some false) else ((nums_Text.f k x1).bind fun t333 => ((nums_Text.f k x2).bind fun t334 => (some ((t333.toList == t334.toList) == (x1 == x2)))))
def tangramlaw01_NumsTexts.f (k : Nat) (l0 : List Int) (a1 : Int) (a2 : Int) : Option (Bool) := (tangramlaw01_awake.f k).bind fun t322 => (if t322 = true then ((some (([] : List Int) : List Int)).bind fun y323 => (if y323.length + l0.length < 17592186044416 then ((nums_Line.f k (y323 ++ l0)).bind fun t329 => ((tangramref01_Row.f k l0).bind fun t330 => (if t329.toList = t330.toList then ((nums_Text.f k a1).bind fun t331 => ((tangramref01_Text.f k a1).bind fun t332 => (tangramlaw01_NumsTexts.j0 k a1 a2 (t331.toList != t332.toList)))) else (tangramlaw01_NumsTexts.j0 k a1 a2 true)))) else (none))) else (some false))
theorem tangramlaw01_NumsTexts.mono_l : ∀ k, (∀ y0 y1 y2, LeO (tangramlaw01_NumsTexts.j0 k y0 y1 y2) (tangramlaw01_NumsTexts.j0 (k + 1) y0 y1 y2))
 | 0 => fun _ _ _ r h => by simp [tangramlaw01_NumsTexts.j0] at h
 | k + 1 => by
  have ih0 := tangramlaw01_NumsTexts.mono_l k
  ·intro y0 y1 y2
   unfold tangramlaw01_NumsTexts.j0
   repeat' first
   | (with_reducible exact ih0 _ _ _)
   | (with_reducible exact nums_Line.mono _ _)
   | (with_reducible exact nums_Text.mono _ _)
   | (with_reducible exact tangramlaw01_awake.mono _)
   | (with_reducible exact tangramref01_Row.mono _ _)
   | (with_reducible exact tangramref01_Text.mono _ _)
   | (with_reducible exact LeO.refl _)
   | (with_reducible exact LeO.none _)
   | (with_reducible refine LeO.ite ?_ ?_)
   | (with_reducible refine LeO.bind ?_ (fun _ => ?_))
   | exact ih0 _ _ _
   | exact nums_Line.mono _ _
   | exact nums_Text.mono _ _
   | exact tangramlaw01_awake.mono _
   | exact tangramref01_Row.mono _ _
   | exact tangramref01_Text.mono _ _
   | exact LeO.none _
   | refine LeO.ite ?_ ?_
   | refine LeO.bind ?_ (fun _ => ?_)
theorem tangramlaw01_NumsTexts.mono : ∀ a0 a1 a2 k, LeO (tangramlaw01_NumsTexts.f k a0 a1 a2) (tangramlaw01_NumsTexts.f (k + 1) a0 a1 a2) := by
 intro a0 a1 a2 k; have ih0 := tangramlaw01_NumsTexts.mono_l k
 unfold tangramlaw01_NumsTexts.f
 repeat' first
   | (with_reducible exact ih0 _ _ _)
   | (with_reducible exact nums_Line.mono _ _)
   | (with_reducible exact nums_Text.mono _ _)
   | (with_reducible exact tangramlaw01_awake.mono _)
   | (with_reducible exact tangramref01_Row.mono _ _)
   | (with_reducible exact tangramref01_Text.mono _ _)
   | (with_reducible exact LeO.refl _)
   | (with_reducible exact LeO.none _)
   | (with_reducible refine LeO.ite ?_ ?_)
   | (with_reducible refine LeO.bind ?_ (fun _ => ?_))
   | exact ih0 _ _ _
   | exact nums_Line.mono _ _
   | exact nums_Text.mono _ _
   | exact tangramlaw01_awake.mono _
   | exact tangramref01_Row.mono _ _
   | exact tangramref01_Text.mono _ _
   | exact LeO.none _
   | refine LeO.ite ?_ ?_
   | refine LeO.bind ?_ (fun _ => ?_)
set_option maxHeartbeats 8000000 in
set_option maxRecDepth 100000 in
theorem tangramlaw01_NumsTexts.calls (k : Nat) (A0 : Option Addr) (c0 : Nat) (l0 : List Int) (a1 : Int) (a2 : Int) (r : Bool) (w : World) (hT : TabW w) (hr0 : Kd.C (Kd.int .i64) w A0 l0.length l0) (hc0 : l0.length ≤ c0) (h : tangramlaw01_NumsTexts.f k l0 a1 a2 = some r) :
  Calls Tryd.prog 6 #[.slice A0 l0.length c0, .int .i64 a1, .int .i64 a2] w fun e w' => e = .returned (.bool r) ∧ Below w.heap.size w w' := by
 have HT := Aside0.mk hT; clear hT; have HR0 := Aside0.mk hr0; have HC0 := Aside0.mk hc0; clear hr0 hc0; have HB := Aside0.mk (Below.refl w.heap.size w); have H : ((tangramlaw01_awake.f k).bind fun t322 => (if t322 = true then ((some (([] : List Int) : List Int)).bind fun y323 => (if y323.length + l0.length < 17592186044416 then ((nums_Line.f k (y323 ++ l0)).bind fun t329 => ((tangramref01_Row.f k l0).bind fun t330 => (if t329.toList = t330.toList then ((nums_Text.f k a1).bind fun t331 => ((tangramref01_Text.f k a1).bind fun t332 => (tangramlaw01_NumsTexts.j0 k a1 a2 (t331.toList != t332.toList)))) else (tangramlaw01_NumsTexts.j0 k a1 a2 true)))) else (none))) else (some false))) = some r := h; clear h; replace H := Option.bind_eq_some_iff.mp H; obtain ⟨t322, A40, H⟩ := H; (try dsimp only at H); have A4 := Aside0.mk A40; clear A40
 by_cases c5 : t322 = true
 ·subst c5; rw [if_pos rfl] at H; have HC6 := Aside0.mk H; clear H
  go_enter Tryd.func6, Tryd.ntmps6
  go_upto_region 3 with (first | ((with_reducible refine gate_callee (f := 10) rfl ?_); refine gl_ (some 7) Tryd.func10 #[] ?_; (with_reducible refine (tangramlaw01_awake.calls k  true _ ?sideT A4.out).mono ?_); (case sideT => exact tb HT (hb0 HB)); rintro e w7 ⟨rfl, hb⟩; refine ⟨_, rfl, ?_⟩; replace HB := hs (hb0 HB) hb; (try clear hb); (try clear hb2); (try clear hk); (try clear hi)))
  (try simp only [Act.put, List.setIfInBounds_toArray, List.set_cons_zero, List.set_cons_succ])
  go_cut [22] (fun v22 wc => ∃ (kq : Nat) (x22_5 : Bool), v22 = .bool x22_5 ∧ Aside0 (tangramlaw01_NumsTexts.j0 kq a1 a2 x22_5 = some r) ∧ Aside0 (kq ≤ k) ∧ Aside0 (Below w.heap.size w wc))
  case first => as_aux_lemma =>
   have H := HC6.out; clear HC6; obtain ⟨y323, hy323⟩ : ∃ y_ : List Int, y_ = (([] : List Int)) := ⟨_, rfl⟩; replace H : (if y323.length + l0.length < 17592186044416 then ((nums_Line.f k (y323 ++ l0)).bind fun t329 => ((tangramref01_Row.f k l0).bind fun t330 => (if t329.toList = t330.toList then ((nums_Text.f k a1).bind fun t331 => ((tangramref01_Text.f k a1).bind fun t332 => (tangramlaw01_NumsTexts.j0 k a1 a2 (t331.toList != t332.toList)))) else (tangramlaw01_NumsTexts.j0 k a1 a2 true)))) else (none)) = some r := by first | (rw [hy323]; with_reducible exact H) | (have H2_ := (Option.bind_some _ _).symm.trans H; rw [hy323]; with_reducible exact H2_) | (have H2_ := (Option.bind_some _ _).symm.trans H; with_reducible exact H2_) | with_reducible exact H | (rw [hy323]; exact H) | exact H
   have Ny323 := Aside0.mk hy323; clear hy323
   by_cases c8 : y323.length + l0.length < 17592186044416
   ·rw [if_pos c8] at H; have LMc8 := Aside0.mk c8; clear c8; obtain ⟨y326, hy326⟩ : ∃ y_ : List Int, y_ = (y323 ++ l0) := ⟨_, rfl⟩; replace H : ((nums_Line.f k y326).bind fun t329 => ((tangramref01_Row.f k l0).bind fun t330 => (if t329.toList = t330.toList then ((nums_Text.f k a1).bind fun t331 => ((tangramref01_Text.f k a1).bind fun t332 => (tangramlaw01_NumsTexts.j0 k a1 a2 (t331.toList != t332.toList)))) else (tangramlaw01_NumsTexts.j0 k a1 a2 true)))) = some r := by first | (rw [hy326]; with_reducible exact H) | (have H2_ := (Option.bind_some _ _).symm.trans H; rw [hy326]; with_reducible exact H2_) | (have H2_ := (Option.bind_some _ _).symm.trans H; with_reducible exact H2_) | with_reducible exact H | (rw [hy326]; exact H) | exact H
    have Ny326 := Aside0.mk hy326; clear hy326; replace H := Option.bind_eq_some_iff.mp H; obtain ⟨t329, A90, H⟩ := H; (try dsimp only at H); have A9 := Aside0.mk A90; clear A90; replace H := Option.bind_eq_some_iff.mp H; obtain ⟨t330, A100, H⟩ := H; (try dsimp only at H); have A10 := Aside0.mk A100; clear A100
    by_cases c11 : t329.toList = t330.toList
    ·rw [if_pos c11] at H; have c11b0 : (t329.toList == t330.toList) = true := beq_iff_eq.mpr c11; have c11b1 : (t329.toList != t330.toList) = false := bne_eq_false_iff_eq.mpr c11; clear c11
     (first | rw [c11b0] | (simp only [i64_w, i32_w]; rw [c11b0]) | skip)
     replace H := Option.bind_eq_some_iff.mp H; obtain ⟨t331, A120, H⟩ := H; (try dsimp only at H); have A12 := Aside0.mk A120; clear A120; replace H := Option.bind_eq_some_iff.mp H; obtain ⟨t332, A130, H⟩ := H; (try dsimp only at H); have A13 := Aside0.mk A130; clear A130; have H' := Aside0.mk H; clear H
     go_wp2_with (first | ((with_reducible refine gate_dst (N := 9) rfl ?_); refine Kd.R_lit (Kd.int .i64) _ 3 ?hg (N := 9) ?hd (xs := ([] : List Int)) (inner := []) (ok := fun _ => True) (okp := fun _ => True) ?hr ?hp (fun _ hk => hk) trivial (Below.refl _ _) (Nat.le_refl _) (by simp) ?_; (case hd => rfl); (case hg => rfl); (case hr => first | (go_simp; done) | (go_simp; rfl)); (case hp => exact (Reps.none _ _)); intro v324 w14 ho15 hb hg_ hnew_; clear hg_ hnew_; (first | rw [← Ny323.out] at ho15 | (simp only [Int.reduceToNat] at ho15; rw [← Ny323.out] at ho15)); have HO325 := Aside0.mk (Kd.R_lower ho15 (below_size (hb0 HB))); replace HB := hs (hb0 HB) hb; clear hb ho15) | ((with_reducible refine gate_builtin (b := .append) (xs := #[.tmp 9, .tmp 10]) rfl ?_); at_builtin; refine Kd.R_append_rows (Kd.int .i64) (w0 := w) w.heap.size rfl (.tmp 9) (.tmp 10) 37 3 (.int .i64 0) 8 rfl Tryd.underlying37 info3 rfl (by decide) (by omega) v324 y323 l0 _ _ _ (fun _ => True) (fun _ => False) rfl rfl ?aO ?aR (fun _ _ h => h) (fun _ h => h.elim) ?aF ?aB ?aS ?aL ?_; (case aR => repeat (first | exact (Kd.C_below HR0.out HB.out) | (with_reducible refine Kd.C_alloc ?_ _) | (with_reducible refine Kd.C_drewN ?_ _) | (with_reducible refine Kd.C_drew ?_))); (case aB => exact (hb0 HB)); (case aF => exact (fun _ _ => trivial)); (case aO => exact (rx HO325)); (case aS => exact (below_size (hb0 HB))); (case aL => have := LMc8.out; omega); intro v327 w16 ho hb hg hat; rw [← Ny326.out] at ho; have n0_ := Aside0.mk (hb); have n1_ := Aside0.mk (ho); clear HB; clear HO325; have HB := n0_; have HO328 := n1_; clear n0_ n1_; clear ho hb hg hat; obtain ⟨Ao17, co17, eo17⟩ := Kd.R_slice HO328.out; subst eo17) | ((with_reducible refine gate_callee (f := 15) rfl ?_); refine gl_ (some 12) Tryd.func15 #[.slice Ao17 y326.length co17] ?_; (with_reducible refine (nums_Line.calls k _ _ y326 t329 _ ?sideT ?side1 ?side2 A9.out).mono ?_); (case sideT => exact tb HT (hb0 HB)); (case side1 => exact cr HO328); (case side2 => exact (Kd.R_reads' HO328.out).2.1); rintro e w18 ⟨rfl, hb⟩; refine ⟨_, rfl, ?_⟩; replace HO328 := ry HO328 hb; replace HB := hs (hb0 HB) hb; (try clear hb); (try clear hb2); (try clear hk); (try clear hi)) | ((with_reducible refine gate_callee (f := 16) rfl ?_); refine gl_ (some 14) Tryd.func16 #[.slice A0 l0.length c0] ?_; (with_reducible refine (tangramref01_Row.calls k _ _ l0 t330 _ ?side1 ?side2 A10.out).mono ?_); (case side1 => repeat (first | exact (Kd.C_below HR0.out HB.out) | (with_reducible refine Kd.C_alloc ?_ _) | (with_reducible refine Kd.C_drewN ?_ _) | (with_reducible refine Kd.C_drew ?_))); (case side2 => exact HC0.out); rintro e w19 ⟨rfl, hb⟩; refine ⟨_, rfl, ?_⟩; replace HO328 := ry HO328 hb; replace HB := hs (hb0 HB) hb; (try clear hb); (try clear hb2); (try clear hk); (try clear hi)) | (go_at_call 14; (with_reducible refine (nums_Text.calls k a1 t331 _ ?sideT A12.out).mono ?_); (case sideT => exact tb HT (hb0 HB)); rintro e w20 ⟨rfl, hb⟩; replace HO328 := ry HO328 hb; replace HB := hs (hb0 HB) hb; (try clear hb); (try clear hb2); (try clear hk); (try clear hi)) | (go_at_call 17; (with_reducible refine (tangramref01_Text.calls k a1 t332 _ A13.out).mono ?_); rintro e w21 ⟨rfl, hb⟩; replace HO328 := ry HO328 hb; replace HB := hs (hb0 HB) hb; (try clear hb); (try clear hb2); (try clear hk); (try clear hi)))
     go_meet
     case rel => exact ⟨_, ((t331.toList != t332.toList)), (by first | rfl | (simp; done) | (simp [*]; done)), H', ⟨by first | omega | exact Nat.le_refl _⟩, ⟨hb0 HB⟩⟩
    ·rw [if_neg c11] at H; have c11b0 : (t329.toList == t330.toList) = false := beq_eq_false_iff_ne.mpr c11; have c11b1 : (t329.toList != t330.toList) = true := bne_iff_ne.mpr c11
     (first | rw [c11b0] | (simp only [i64_w, i32_w]; rw [c11b0]) | skip)
     have H' := Aside0.mk H; clear H
     go_wp2_with (first | ((with_reducible refine gate_dst (N := 9) rfl ?_); refine Kd.R_lit (Kd.int .i64) _ 3 ?hg (N := 9) ?hd (xs := ([] : List Int)) (inner := []) (ok := fun _ => True) (okp := fun _ => True) ?hr ?hp (fun _ hk => hk) trivial (Below.refl _ _) (Nat.le_refl _) (by simp) ?_; (case hd => rfl); (case hg => rfl); (case hr => first | (go_simp; done) | (go_simp; rfl)); (case hp => exact (Reps.none _ _)); intro v324 w22 ho23 hb hg_ hnew_; clear hg_ hnew_; (first | rw [← Ny323.out] at ho23 | (simp only [Int.reduceToNat] at ho23; rw [← Ny323.out] at ho23)); have HO325 := Aside0.mk (Kd.R_lower ho23 (below_size (hb0 HB))); replace HB := hs (hb0 HB) hb; clear hb ho23) | ((with_reducible refine gate_builtin (b := .append) (xs := #[.tmp 9, .tmp 10]) rfl ?_); at_builtin; refine Kd.R_append_rows (Kd.int .i64) (w0 := w) w.heap.size rfl (.tmp 9) (.tmp 10) 37 3 (.int .i64 0) 8 rfl Tryd.underlying37 info3 rfl (by decide) (by omega) v324 y323 l0 _ _ _ (fun _ => True) (fun _ => False) rfl rfl ?aO ?aR (fun _ _ h => h) (fun _ h => h.elim) ?aF ?aB ?aS ?aL ?_; (case aR => repeat (first | exact (Kd.C_below HR0.out HB.out) | (with_reducible refine Kd.C_alloc ?_ _) | (with_reducible refine Kd.C_drewN ?_ _) | (with_reducible refine Kd.C_drew ?_))); (case aB => exact (hb0 HB)); (case aF => exact (fun _ _ => trivial)); (case aO => exact (rx HO325)); (case aS => exact (below_size (hb0 HB))); (case aL => have := LMc8.out; omega); intro v327 w24 ho hb hg hat; rw [← Ny326.out] at ho; have n0_ := Aside0.mk (hb); have n1_ := Aside0.mk (ho); clear HB; clear HO325; have HB := n0_; have HO328 := n1_; clear n0_ n1_; clear ho hb hg hat; obtain ⟨Ao25, co25, eo25⟩ := Kd.R_slice HO328.out; subst eo25) | ((with_reducible refine gate_callee (f := 15) rfl ?_); refine gl_ (some 12) Tryd.func15 #[.slice Ao25 y326.length co25] ?_; (with_reducible refine (nums_Line.calls k _ _ y326 t329 _ ?sideT ?side1 ?side2 A9.out).mono ?_); (case sideT => exact tb HT (hb0 HB)); (case side1 => exact cr HO328); (case side2 => exact (Kd.R_reads' HO328.out).2.1); rintro e w26 ⟨rfl, hb⟩; refine ⟨_, rfl, ?_⟩; replace HO328 := ry HO328 hb; replace HB := hs (hb0 HB) hb; (try clear hb); (try clear hb2); (try clear hk); (try clear hi)) | ((with_reducible refine gate_callee (f := 16) rfl ?_); refine gl_ (some 14) Tryd.func16 #[.slice A0 l0.length c0] ?_; (with_reducible refine (tangramref01_Row.calls k _ _ l0 t330 _ ?side1 ?side2 A10.out).mono ?_); (case side1 => repeat (first | exact (Kd.C_below HR0.out HB.out) | (with_reducible refine Kd.C_alloc ?_ _) | (with_reducible refine Kd.C_drewN ?_ _) | (with_reducible refine Kd.C_drew ?_))); (case side2 => exact HC0.out); rintro e w27 ⟨rfl, hb⟩; refine ⟨_, rfl, ?_⟩; replace HO328 := ry HO328 hb; replace HB := hs (hb0 HB) hb; (try clear hb); (try clear hb2); (try clear hk); (try clear hi)))
     go_meet
     case rel => exact ⟨_, (true), (by first | rfl | (simp; done) | (simp [*]; done)), H', ⟨by first | omega | exact Nat.le_refl _⟩, ⟨hb0 HB⟩⟩
   ·rw [if_neg c8] at H; exact absurd H (by simp)
  case rest => as_aux_lemma =>
   clear HC6
   try clear c1
   try clear p2
   try clear c5
   try clear c6
   try clear c8
   try clear c10
   try clear c11
   try clear c11b0
   try clear c11b1
   try clear c15
   try clear c16
   obtain ⟨kq, x22_5, rfl, HA, HJ5, HB⟩ := hcut
   cases kq with
   | zero => exact absurd HA.out (by simp [tangramlaw01_NumsTexts.j0])
   | succ kj5 =>
    have H := HA.out; clear HA; simp only [tangramlaw01_NumsTexts.j0] at H
    by_cases c28 : x22_5 = true
    ·subst c28; rw [if_pos rfl] at H; obtain rfl := Option.some.inj H
     go_wp2
     go_ret
     exact ⟨by first | rfl | (simp [errW_none, errW_some] <;> rfl) | (simp [*, errW_none, errW_some] <;> rfl), hb0 HB⟩
    ·replace c28 := Bool.eq_false_iff.mpr c28; subst c28; rw [if_neg (show ¬ (false = true) by decide)] at H; replace H := Option.bind_eq_some_iff.mp H; obtain ⟨t333, A290, H⟩ := H; (try dsimp only at H); have A29 := Aside0.mk A290; clear A290; replace H := Option.bind_eq_some_iff.mp H; obtain ⟨t334, A300, H⟩ := H; (try dsimp only at H); have A30 := Aside0.mk A300; clear A300; obtain rfl := Option.some.inj H
     go_wp2_with (first | ((with_reducible refine gate_callee (f := 14) rfl ?_); refine gl_ (some 24) Tryd.func14 #[.int .i64 a1] ?_; (with_reducible refine (nums_Text.calls kj5 a1 t333 _ ?sideT A29.out).mono ?_); (case sideT => exact tb HT (hb0 HB)); rintro e w31 ⟨rfl, hb⟩; refine ⟨_, rfl, ?_⟩; replace HB := hs (hb0 HB) hb; (try clear hb); (try clear hb2); (try clear hk); (try clear hi)) | ((with_reducible refine gate_callee (f := 14) rfl ?_); refine gl_ (some 26) Tryd.func14 #[.int .i64 a2] ?_; (with_reducible refine (nums_Text.calls kj5 a2 t334 _ ?sideT A30.out).mono ?_); (case sideT => exact tb HT (hb0 HB)); rintro e w32 ⟨rfl, hb⟩; refine ⟨_, rfl, ?_⟩; replace HB := hs (hb0 HB) hb; (try clear hb); (try clear hb2); (try clear hk); (try clear hi)))
     go_ret
     exact ⟨by first | rfl | (simp [errW_none, errW_some] <;> rfl) | (simp [*, errW_none, errW_some] <;> rfl), hb0 HB⟩
 ·replace c5 := Bool.eq_false_iff.mpr c5; subst c5; rw [if_neg (show ¬ (false = true) by decide)] at H; obtain rfl := Option.some.inj H
  go_enter Tryd.func6, Tryd.ntmps6
  go_wp2_with (first | ((with_reducible refine gate_callee (f := 10) rfl ?_); refine gl_ (some 7) Tryd.func10 #[] ?_; (with_reducible refine (tangramlaw01_awake.calls k  false _ ?sideT A4.out).mono ?_); (case sideT => exact tb HT (hb0 HB)); rintro e w33 ⟨rfl, hb⟩; refine ⟨_, rfl, ?_⟩; replace HB := hs (hb0 HB) hb; (try clear hb); (try clear hb2); (try clear hk); (try clear hi)))
  go_ret
  exact ⟨by first | rfl | (simp [errW_none, errW_some] <;> rfl) | (simp [*, errW_none, errW_some] <;> rfl), hb0 HB⟩

/-- THE ONE PURE STATEMENT of tangramlaw01_NumsTexts: yours. -/
def tangramlaw01_NumsTexts.Pure : Prop := ∀ (l0 : List Int) (a1 : Int) (a2 : Int), l0.length ≤ maxLen → l0.length ≤ 1048576 → (∀ x ∈ l0, (Lit.int .i64 x).wf = true) → (Lit.int .i64 a1).wf = true → (Lit.int .i64 a2).wf = true → ∃ k, tangramlaw01_NumsTexts.f k l0 a1 a2 = some true
theorem tangramlaw01_NumsTexts.walk (P : tangramlaw01_NumsTexts.Pure) (a0 : Option Addr) (len0 cap0 : Nat) (z0 : List Int) (a1 : Int) (a2 : Int) (w : World) (hT : TabW w) (w0 : (a0 = none ∧ len0 = 0 ∧ cap0 = 0 ∧ z0 = []) ∨ ∃ x, a0 = some x ∧ len0 ≤ cap0 ∧ cap0 ≤ maxLen ∧ z0.length = cap0 ∧ (∀ i, i < z0.length → w.cell? (x.add i) = some (.int .i64 (z0.getD i 0))) ∧ ∀ n ∈ z0, (Lit.int .i64 n).wf = true) (y0 : len0 ≤ 1048576) (w1 : (Lit.int .i64 a1).wf = true) (w2 : (Lit.int .i64 a2).wf = true) :
  Calls Tryd.prog 6 #[.slice a0 len0 cap0, .int .i64 a1, .int .i64 a2] w fun e w' => e = .returned (.bool true) ∧ Below w.heap.size w w' := by
 obtain ⟨l0, rfl, hr0, hm0, hw0, hc0⟩ := ReadsInt.ofRowC w0; obtain ⟨k, h⟩ := P l0 a1 a2 hm0 y0 hw0 w1 w2; refine (tangramlaw01_NumsTexts.calls k _ _ l0 a1 a2 true w hT (Kd.C_of_reads (d := (0 : Int)) (h1 := fun _ => rfl) hr0) hc0 h).mono ?_; rintro e w' ⟨rfl, hd⟩; exact ⟨rfl, hd⟩

end Go.Proofs.YtjgaicdieddekaaDoor.PNumA
