-- PRINTED by print.py (a twelfth state) out of the translation. Not trusted: Lean checks it.
import Derived.Test.YtndmdapgeegodaaPBucketSx0
import Derived.Test.YtndmdapgeegodaaPBucketSx2
import Derived.Test.YtndmdapgeegodaaPBucketSx4
namespace Go.Proofs.Ytndmdapgeegodaa.PBucketS
open Go.RowKit Go.Proofs.YtndmdapgeegodaaW.PrintWords Go.Proofs.YtndmdapgeegodaaW.PrintLast Go.Proofs.YtndmdapgeegodaaW.PrintMore
attribute [local go_sem] max2_int min2_int max_two min_two max_three min_three max_four min_four   -- for this text's walks alone
set_option linter.unusedVariables false
set_option linter.unusedSimpArgs false

/-! ### bucket_Sort_int_two: function 71 -/
mutual
def bucket_Sort_int_two.j0 : Nat → List Int → Int → Bool → List Int → Option (List Int × Int)
  | 0, _, _, _, _ => none
  | k + 1, x0, x2, x24, x2000 => if x24 = true then (some (([] : List Int), 2)) else (if 0 ≤ (x0.length : Int) then (if ((x0.length : Int) : Int).toNat ≤ 35184372088832 then (bucket_Sort_int_two.l0 k x0 x2 (([] : List Int)) x0 (x0.length : Int) 0 x2000) else (none)) else (none))
def bucket_Sort_int_two.l0 : Nat → List Int → Int → List Int → List Int → Int → Int → List Int → Option (List Int × Int)
  | 0, _, _, _, _, _, _, _ => none
  | k + 1, x0, x2, x8, x28, x29, x30, x2000 => if x30 < x29 then (if 0 ≤ x30 then (if x30 < (x28.length : Int) then ((tangramlaw06_BucketStable_c2.f (rd x28 x30) x2000).bind fun t207 => (if t207 < 0 then (some (([] : List Int), 60)) else (if t207 > x2 then (some (([] : List Int), 60)) else (if x8.length < 17592186044416 then (bucket_Sort_int_two.l0 k x0 x2 (x8 ++ [t207]) x28 x29 (wrap64 (x30 + 1)) x2000) else (none))))) else (none)) else (none)) else (if 0 ≤ (x0.length : Int) then (if ((x0.length : Int) : Int).toNat ≤ 35184372088832 then ((bucket_ranks.f k x8).bind fun t214 => (bucket_Sort_int_two.l1 k x0 (List.replicate ((x0.length : Int) : Int).toNat 0) t214 (t214.length : Int) 0)) else (none)) else (none))
def bucket_Sort_int_two.l1 : Nat → List Int → List Int → List Int → Int → Int → Option (List Int × Int)
  | 0, _, _, _, _, _ => none
  | k + 1, x0, x12, x53, x54, x55 => if x55 < x54 then (if 0 ≤ x55 then (if x55 < (x53.length : Int) then (if x55 < (x0.length : Int) then (if 0 ≤ (rd x53 x55) then (if (rd x53 x55) < (x12.length : Int) then (bucket_Sort_int_two.l1 k x0 (x12.set ((rd x53 x55) : Int).toNat (rd x0 x55)) x53 x54 (wrap64 (x55 + 1))) else (none)) else (none)) else (none)) else (none)) else (none)) else (some (x12, 0))
end
def bucket_Sort_int_two.f (k : Nat) (l0 : List Int) (s1_0 : List Int) (a2 : Int) : Option (List Int × Int) := if a2 < 0 then (bucket_Sort_int_two.j0 k l0 a2 true s1_0) else (if a2 > 4194304 then (bucket_Sort_int_two.j0 k l0 a2 true s1_0) else (bucket_Sort_int_two.j0 k l0 a2 false s1_0))
theorem bucket_Sort_int_two.mono_l : ∀ k, (∀ y0 y1 y2 y3, LeO (bucket_Sort_int_two.j0 k y0 y1 y2 y3) (bucket_Sort_int_two.j0 (k + 1) y0 y1 y2 y3)) ∧ (∀ y0 y1 y2 y3 y4 y5 y6, LeO (bucket_Sort_int_two.l0 k y0 y1 y2 y3 y4 y5 y6) (bucket_Sort_int_two.l0 (k + 1) y0 y1 y2 y3 y4 y5 y6)) ∧ (∀ y0 y1 y2 y3 y4, LeO (bucket_Sort_int_two.l1 k y0 y1 y2 y3 y4) (bucket_Sort_int_two.l1 (k + 1) y0 y1 y2 y3 y4))
  | 0 => ⟨fun _ _ _ _ r h => by simp [bucket_Sort_int_two.j0] at h, fun _ _ _ _ _ _ _ r h => by simp [bucket_Sort_int_two.l0] at h, fun _ _ _ _ _ r h => by simp [bucket_Sort_int_two.l1] at h⟩
  | k + 1 => by
    obtain ⟨ih0, ih1, ih2⟩ := bucket_Sort_int_two.mono_l k
    refine ⟨?_, ?_, ?_⟩
    · intro y0 y1 y2 y3
      unfold bucket_Sort_int_two.j0
      repeat' first
      | (with_reducible exact ih0 _ _ _ _)
      | (with_reducible exact ih1 _ _ _ _ _ _ _)
      | (with_reducible exact ih2 _ _ _ _ _)
      | (with_reducible exact bucket_ranks.mono _ _)
      | (with_reducible exact LeO.refl _)
      | (with_reducible exact LeO.none _)
      | (with_reducible refine LeO.ite ?_ ?_)
      | (with_reducible refine LeO.bind ?_ (fun _ => ?_))
      | exact ih0 _ _ _ _
      | exact ih1 _ _ _ _ _ _ _
      | exact ih2 _ _ _ _ _
      | exact bucket_ranks.mono _ _
      | exact LeO.none _
      | refine LeO.ite ?_ ?_
      | refine LeO.bind ?_ (fun _ => ?_)
    · intro y0 y1 y2 y3 y4 y5 y6
      unfold bucket_Sort_int_two.l0
      repeat' first
      | (with_reducible exact ih0 _ _ _ _)
      | (with_reducible exact ih1 _ _ _ _ _ _ _)
      | (with_reducible exact ih2 _ _ _ _ _)
      | (with_reducible exact bucket_ranks.mono _ _)
      | (with_reducible exact LeO.refl _)
      | (with_reducible exact LeO.none _)
      | (with_reducible refine LeO.ite ?_ ?_)
      | (with_reducible refine LeO.bind ?_ (fun _ => ?_))
      | exact ih0 _ _ _ _
      | exact ih1 _ _ _ _ _ _ _
      | exact ih2 _ _ _ _ _
      | exact bucket_ranks.mono _ _
      | exact LeO.none _
      | refine LeO.ite ?_ ?_
      | refine LeO.bind ?_ (fun _ => ?_)
    · intro y0 y1 y2 y3 y4
      unfold bucket_Sort_int_two.l1
      repeat' first
      | (with_reducible exact ih0 _ _ _ _)
      | (with_reducible exact ih1 _ _ _ _ _ _ _)
      | (with_reducible exact ih2 _ _ _ _ _)
      | (with_reducible exact bucket_ranks.mono _ _)
      | (with_reducible exact LeO.refl _)
      | (with_reducible exact LeO.none _)
      | (with_reducible refine LeO.ite ?_ ?_)
      | (with_reducible refine LeO.bind ?_ (fun _ => ?_))
      | exact ih0 _ _ _ _
      | exact ih1 _ _ _ _ _ _ _
      | exact ih2 _ _ _ _ _
      | exact bucket_ranks.mono _ _
      | exact LeO.none _
      | refine LeO.ite ?_ ?_
      | refine LeO.bind ?_ (fun _ => ?_)
theorem bucket_Sort_int_two.mono : ∀ a0 a1 a2 k, LeO (bucket_Sort_int_two.f k a0 a1 a2) (bucket_Sort_int_two.f (k + 1) a0 a1 a2) := by
  intro a0 a1 a2 k
  obtain ⟨ih0, ih1, ih2⟩ := bucket_Sort_int_two.mono_l k
  unfold bucket_Sort_int_two.f
  repeat' first
      | (with_reducible exact ih0 _ _ _ _)
      | (with_reducible exact ih1 _ _ _ _ _ _ _)
      | (with_reducible exact ih2 _ _ _ _ _)
      | (with_reducible exact bucket_ranks.mono _ _)
      | (with_reducible exact LeO.refl _)
      | (with_reducible exact LeO.none _)
      | (with_reducible refine LeO.ite ?_ ?_)
      | (with_reducible refine LeO.bind ?_ (fun _ => ?_))
      | exact ih0 _ _ _ _
      | exact ih1 _ _ _ _ _ _ _
      | exact ih2 _ _ _ _ _
      | exact bucket_ranks.mono _ _
      | exact LeO.none _
      | refine LeO.ite ?_ ?_
      | refine LeO.bind ?_ (fun _ => ?_)
set_option maxHeartbeats 8000000 in
set_option maxRecDepth 100000 in
theorem bucket_Sort_int_two.calls (k : Nat) (A0 : Option Addr) (c0 : Nat) (l0 : List Int) (g : Nat) (s1_0 : List Int) (a2 : Int) (r1 : List Int) (r2 : Int) (w0 w : World) (hI : IsS23 w0 w g s1_0) (hB : Below w0.heap.size w0 w) (hr0 : Kd.C (Kd.int .i64) w A0 l0.length l0) (hc0 : l0.length ≤ c0) (hf0 : ∀ ad, A0 = some ad → 0 < l0.length → ad.block ≠ g) (h : bucket_Sort_int_two.f k l0 s1_0 a2 = some (r1, r2)) :
    Calls Try.prog 19 #[.slice A0 l0.length c0, .func (Fn.func 24) #[] #[.pointer (some ⟨g, 0, none⟩)], .int .i64 a2] w fun e w' => ∃ v0_ : Value, e = .returned (.tuple #[v0_, .int .i64 r2]) ∧ Kd.R (Kd.int .i64) 3 w' w.heap.size (fun _ => True) v0_ r1 ∧ IsS23 w0 w' g s1_0 ∧ Below w0.heap.size w0 w' ∧ KeepBut w w' g none := by
  have HR0 := Aside0.mk hr0
  have HC0 := Aside0.mk hc0
  clear hr0 hc0
  have HI1 := Aside0.mk hI
  have HK := Aside0.mk (KeepBut.refl w g none)
  have HL := Aside0.mk hB.size
  clear hI
  have HW0 := Aside0.mk hB.size
  have HB := Aside0.mk hB
  clear hB
  have H : (if a2 < 0 then (bucket_Sort_int_two.j0 k l0 a2 true s1_0) else (if a2 > 4194304 then (bucket_Sort_int_two.j0 k l0 a2 true s1_0) else (bucket_Sort_int_two.j0 k l0 a2 false s1_0))) = some (r1, r2) := h
  clear h
  have HC4 := Aside0.mk H
  clear H
  have hnf_ := fun w => Go.Proofs.YtndmdapgeegodaaX.run_eql_func_nil (P := Try.prog) w 38 _ _ _ Try.underlying38 (Fn.func 24) #[] #[.pointer (some ⟨g, 0, none⟩)]
  go_enter Try.func19, Try.ntmps19
  go_upto_region 1 with (fail)
  go_cut [24] (fun v24 wc => ∃ (kq : Nat) (x24_3 : Bool), v24 = .bool x24_3 ∧ Aside0 (bucket_Sort_int_two.j0 kq l0 a2 x24_3 s1_0 = some (r1, r2)) ∧ Aside0 (kq ≤ k) ∧ Aside0 (IsS23 w0 wc g s1_0) ∧ Aside0 (KeepBut w wc g none) ∧ Aside0 (Below w0.heap.size w0 wc))
  case first =>
    have H := HC4.out
    clear HC4
    by_cases c5 : a2 < 0
    · rw [if_pos c5] at H
      have c5b0 : decide (a2 < 0) = true := decide_eq_true c5
      clear c5
      (first | rw [c5b0] | (simp only [i64_w, i32_w]; rw [c5b0]) | skip)
      have H' := Aside0.mk H
      clear H
      go_wp2
      go_meet
      case rel => exact ⟨_, (true), (by first | rfl | (simp; done) | (simp [*]; done)), H', ⟨by first | omega | exact Nat.le_refl _⟩, ⟨by repeat (first | (with_reducible first | exact HI1.out | apply IsS23.alloc | apply IsS23.drewN | apply IsS23.drew) | exact HI1.out)⟩, ⟨by repeat (first | (with_reducible first | exact HK.out | apply KeepBut.set_ | apply keep_drewN | apply keep_drew | apply keep_alloc) | exact HK.out)⟩, ⟨by repeat (first | (with_reducible first | exact HB.out | apply below_alloc | apply pw_below_drewN | apply below_drew1 | refine below_set ?_ (IsS23.ge HI1.out)) | exact HB.out)⟩⟩
    · rw [if_neg c5] at H
      have c5b0 : decide (a2 < 0) = false := decide_eq_false c5
      clear c5
      (first | rw [c5b0] | (simp only [i64_w, i32_w]; rw [c5b0]) | skip)
      by_cases c6 : a2 > 4194304
      · rw [if_pos c6] at H
        have c6b0 : decide (4194304 < a2) = true := decide_eq_true c6
        clear c6
        have H' := Aside0.mk H
        clear H
        go_wp2
        go_meet
        case rel => exact ⟨_, (true), (by first | rfl | (simp; done) | (simp [*]; done)), H', ⟨by first | omega | exact Nat.le_refl _⟩, ⟨by repeat (first | (with_reducible first | exact HI1.out | apply IsS23.alloc | apply IsS23.drewN | apply IsS23.drew) | exact HI1.out)⟩, ⟨by repeat (first | (with_reducible first | exact HK.out | apply KeepBut.set_ | apply keep_drewN | apply keep_drew | apply keep_alloc) | exact HK.out)⟩, ⟨by repeat (first | (with_reducible first | exact HB.out | apply below_alloc | apply pw_below_drewN | apply below_drew1 | refine below_set ?_ (IsS23.ge HI1.out)) | exact HB.out)⟩⟩
      · rw [if_neg c6] at H
        have c6b0 : decide (4194304 < a2) = false := decide_eq_false c6
        clear c6
        have H' := Aside0.mk H
        clear H
        go_wp2
        go_meet
        case rel => exact ⟨_, (false), (by first | rfl | (simp; done) | (simp [*]; done)), H', ⟨by first | omega | exact Nat.le_refl _⟩, ⟨by repeat (first | (with_reducible first | exact HI1.out | apply IsS23.alloc | apply IsS23.drewN | apply IsS23.drew) | exact HI1.out)⟩, ⟨by repeat (first | (with_reducible first | exact HK.out | apply KeepBut.set_ | apply keep_drewN | apply keep_drew | apply keep_alloc) | exact HK.out)⟩, ⟨by repeat (first | (with_reducible first | exact HB.out | apply below_alloc | apply pw_below_drewN | apply below_drew1 | refine below_set ?_ (IsS23.ge HI1.out)) | exact HB.out)⟩⟩
  case rest =>
    clear HC4
    try clear p2
    try clear c5
    try clear c5b0
    try clear c6
    try clear c6b0
    obtain ⟨kq, x24_3, rfl, HA, HJ3, HI1, HK, HB⟩ := hcut
    cases kq with
    | zero => exact absurd HA.out (by simp [bucket_Sort_int_two.j0])
    | succ kj3 =>
      have H := HA.out
      clear HA
      simp only [bucket_Sort_int_two.j0] at H
      by_cases c7 : x24_3 = true
      · subst c7
        have H1 : (some (([] : List Int), 2)) = some (r1, r2) := by rw [if_pos rfl] at H; exact H
        clear H
        have H := H1
        clear H1
        simp only [Option.some.injEq, Prod.mk.injEq] at H
        obtain ⟨rfl, rfl⟩ := H
        go_wp2
        go_ret2
        exact ⟨_, by first | rfl | (simp [errW_none, errW_some] <;> rfl) | (simp [*, errW_none, errW_some] <;> rfl), by first | exact Kd.R_nil _ _ _ _ _ | exact Kd.N_nil _ _ _ _ _ | exact Kd.V_nil _ _ _ _ _ | exact Kd.Q_nil _ _ _ _ _ | exact Kd.S_nil _ _ _ _ _, by repeat (first | (with_reducible first | exact HI1.out | apply IsS23.alloc | apply IsS23.drewN | apply IsS23.drew) | exact HI1.out), by repeat (first | (with_reducible first | exact HB.out | apply below_alloc | apply pw_below_drewN | apply below_drew1 | refine below_set ?_ (IsS23.ge HI1.out)) | exact HB.out), by repeat (first | (with_reducible first | exact HK.out | apply KeepBut.set_ | apply keep_drewN | apply keep_drew | apply keep_alloc) | exact HK.out)⟩
      · replace c7 := Bool.eq_false_iff.mpr c7
        subst c7
        have H1 : (if 0 ≤ (l0.length : Int) then (if ((l0.length : Int) : Int).toNat ≤ 35184372088832 then (bucket_Sort_int_two.l0 kj3 l0 a2 (([] : List Int)) l0 (l0.length : Int) 0 s1_0) else (none)) else (none)) = some (r1, r2) := by rw [if_neg (show ¬ (false = true) by decide)] at H; exact H
        clear H
        have H := H1
        clear H1
        by_cases c8 : 0 ≤ (l0.length : Int)
        · rw [if_pos c8] at H
          have c8b0 := eq_true c8
          have c8b1 : decide (0 ≤ (l0.length : Int)) = true := decide_eq_true c8
          clear c8
          by_cases c9 : ((l0.length : Int) : Int).toNat ≤ 35184372088832
          · rw [if_pos c9] at H
            have c9b0 := eq_true c9
            have c9b1 : decide (((l0.length : Int) : Int).toNat ≤ 35184372088832) = true := decide_eq_true c9
            clear c9
            obtain ⟨y203, hy203⟩ : ∃ y_ : List Int, y_ = (([] : List Int)) := ⟨_, rfl⟩
            replace H : (bucket_Sort_int_two.l0 kj3 l0 a2 y203 l0 (l0.length : Int) 0 s1_0) = some (r1, r2) := by first | (rw [hy203]; with_reducible exact H) | (have H2_ := (Option.bind_some _ _).symm.trans H; rw [hy203]; with_reducible exact H2_) | (have H2_ := (Option.bind_some _ _).symm.trans H; with_reducible exact H2_) | with_reducible exact H | (rw [hy203]; exact H) | exact H
            have Ny203 := Aside0.mk hy203
            clear hy203
            have H' := Aside0.mk H
            clear H
            go_wp2_with (first | ((with_reducible refine gate_dst (N := 27) rfl ?_); refine Go.Proofs.YtndmdapgeegodaaX.R_make0 (Kd.int .i64) _ 3 rfl (N := 27) rfl 23 _ _ rfl (l0.length : Int) rfl rfl Try.underlying23 (.int .i64 0) 8 info3 (by omega) (ok := fun _ => True) trivial (of_decide_eq_true (by first | (with_reducible assumption) | assumption)) (Nat.le_trans (Nat.mul_le_mul_right _ (of_decide_eq_true (by first | (with_reducible assumption) | assumption) : (l0.length : Int).toNat ≤ 35184372088832)) (by omega)) (Below.refl _ _) (Nat.le_refl _) ?_; intro v204 w10 ho11 hb hg_ hnew_; clear hg_ hnew_; (first | rw [← Ny203.out] at ho11 | (simp only [Int.reduceToNat] at ho11; rw [← Ny203.out] at ho11)); have n0_ := Aside0.mk (Kd.R_lower ho11 (keep_size (w := w) (g := g) (row := none) (by repeat (first | (with_reducible first | exact HK.out | apply KeepBut.set_ | apply keep_drewN | apply keep_drew | apply keep_alloc) | exact HK.out)))); have n1_ := Aside0.mk (IsS23.below (by repeat (first | (with_reducible first | exact HI1.out | apply IsS23.alloc | apply IsS23.drewN | apply IsS23.drew) | exact HI1.out)) hb); have n2_ := Aside0.mk (KeepBut.trans (by repeat (first | (with_reducible first | exact HK.out | apply KeepBut.set_ | apply keep_drewN | apply keep_drew | apply keep_alloc) | exact HK.out)) (KeepBut.of_below hb g none) (.inl rfl)); have n3_ := Aside0.mk (below_step (by repeat (first | (with_reducible first | exact HB.out | apply below_alloc | apply pw_below_drewN | apply below_drew1 | refine below_set ?_ (IsS23.ge HI1.out)) | exact HB.out)) hb); clear HI1; clear HK; clear HB; have HO205 := n0_; have HI1 := n1_; have HK := n2_; have HB := n3_; clear n0_ n1_ n2_ n3_; clear hb ho11))
            go_loopg [8, 30] kj3 (fun kq v8 v30 w' => ∃ (x8_2 : List Int) (x30_2 : Int), v30 = .int .i64 x30_2 ∧ Aside0 (bucket_Sort_int_two.l0 kq l0 a2 x8_2 l0 (l0.length : Int) x30_2 s1_0 = some (r1, r2)) ∧ Aside0 (kq ≤ kj3) ∧ Aside0 (Kd.R (Kd.int .i64) 3 w' w.heap.size (fun _ => True) v8 x8_2) ∧ Aside0 (IsS23 w0 w' g s1_0) ∧ Aside0 (KeepBut w w' g none) ∧ Aside0 (Below w0.heap.size w0 w'))
            case atStart => exact ⟨(y203), (0), (by first | rfl | (simp; done) | (simp [*]; done)), H', ⟨Nat.le_refl _⟩, ⟨by (with_reducible repeat (first | apply Kd.R_alloc | apply Kd.R_drewN | apply Kd.R_drew)); exact HO205.out⟩, ⟨by repeat (first | (with_reducible first | exact HI1.out | apply IsS23.alloc | apply IsS23.drewN | apply IsS23.drew) | exact HI1.out)⟩, ⟨by repeat (first | (with_reducible first | exact HK.out | apply KeepBut.set_ | apply keep_drewN | apply keep_drew | apply keep_alloc) | exact HK.out)⟩, ⟨by repeat (first | (with_reducible first | exact HB.out | apply below_alloc | apply pw_below_drewN | apply below_drew1 | refine below_set ?_ (IsS23.ge HI1.out)) | exact HB.out)⟩⟩
            case round =>
              clear H'
              try clear p2
              try clear c5
              try clear c5b0
              try clear c6
              try clear c6b0
              try clear c7
              try clear c8
              try clear c8b0
              try clear c8b1
              try clear c9
              try clear c9b0
              try clear c9b1
              try clear p2
              obtain ⟨x8_2, x30_2, rfl, HA, HK2, HO_8, HI1, HK, HB⟩ := hrel
              cases gk with
              | zero => exact absurd HA.out (by simp [bucket_Sort_int_two.l0])
              | succ k2 =>
                have H := HA.out
                clear HA
                simp only [bucket_Sort_int_two.l0] at H
                by_cases c12 : x30_2 < (l0.length : Int)
                · rw [if_pos c12] at H
                  have c12b0 : decide (x30_2 < (l0.length : Int)) = true := decide_eq_true c12
                  clear c12
                  by_cases c13 : 0 ≤ x30_2
                  · rw [if_pos c13] at H
                    have c13b0 : decide (0 ≤ x30_2) = true := decide_eq_true c13
                    clear c13
                    by_cases c14 : x30_2 < (l0.length : Int)
                    · rw [if_pos c14] at H
                      have c14b0 : decide (x30_2 < (l0.length : Int)) = true := decide_eq_true c14
                      clear c14
                      replace H := Option.bind_eq_some_iff.mp H
                      obtain ⟨t207, A150, H⟩ := H
                      replace H : (if t207 < 0 then (some (([] : List Int), 60)) else (if t207 > a2 then (some (([] : List Int), 60)) else (if x8_2.length < 17592186044416 then (bucket_Sort_int_two.l0 k2 l0 a2 (x8_2 ++ [t207]) l0 (l0.length : Int) (wrap64 (x30_2 + 1)) s1_0) else (none)))) = some (r1, r2) := H
                      have A15 := Aside0.mk A150
                      clear A150
                      by_cases c16 : t207 < 0
                      · rw [if_pos c16] at H
                        have c16b0 : decide (t207 < 0) = true := decide_eq_true c16
                        clear c16
                        simp only [Option.some.injEq, Prod.mk.injEq] at H
                        obtain ⟨rfl, rfl⟩ := H
                        have p206 : 0 ≤ (x30_2 : Int) := of_decide_eq_true (by first | (with_reducible assumption) | assumption)
                        have q206 : x30_2 < (l0.length : Int) := of_decide_eq_true (by first | (with_reducible assumption) | assumption)
                        obtain ⟨ad206, e206, hx206_0⟩ := Kd.at_int HR0.out x30_2 p206 q206
                        cases e206
                        replace hx206_0 := keep_cell HK.out hx206_0 (by first | (rw [add_block]; exact hf0 _ rfl (by omega)) | exact hf0 _ rfl (by omega) | exact hf0 ad206 rfl (by omega))
                        replace p206 := eq_true p206
                        replace q206 := eq_true q206
                        go_wp2_with (first | (go_at_call 24; (with_reducible refine (tangramlaw06_BucketStable_c2.calls (rd l0 x30_2) g s1_0 t207 w0 _ ?side1 ?side2 A15.out).mono ?_); (case side1 => repeat (first | (with_reducible first | exact HI1.out | apply IsS23.alloc | apply IsS23.drewN | apply IsS23.drew) | exact HI1.out)); (case side2 => repeat (first | (with_reducible first | exact HB.out | apply below_alloc | apply pw_below_drewN | apply below_drew1 | refine below_set ?_ (IsS23.ge HI1.out)) | exact HB.out)); rintro e w17 ⟨rfl, hi, hb, hk⟩; have n0_ := Aside0.mk (Kd.R_mono (Kd.R_keep (IsS23.apart (show IsS23 w0 _ g s1_0 from by repeat (first | (with_reducible first | exact HI1.out | apply IsS23.alloc | apply IsS23.drewN | apply IsS23.drew) | exact HI1.out)) (by (with_reducible repeat (first | apply Kd.R_alloc | apply Kd.R_drewN | apply Kd.R_drew)); exact HO_8.out) (by decide)) hk (fun _ h => h.2)) (fun _ h => h.1)); have n1_ := Aside0.mk (KeepBut.trans (by repeat (first | (with_reducible first | exact HK.out | apply KeepBut.set_ | apply keep_drewN | apply keep_drew | apply keep_alloc) | exact HK.out)) hk (.inl rfl)); have n2_ := Aside0.mk (hb); have n3_ := Aside0.mk (hi); clear HO_8; clear HK; clear HB; clear HI1; have HO_8 := n0_; have HK := n1_; have HB := n2_; have HI1 := n3_; clear n0_ n1_ n2_ n3_; (try clear hb); (try clear hb2); (try clear hk); (try clear hi)))
                        go_ret2
                        exact ⟨_, by first | rfl | (simp [errW_none, errW_some] <;> rfl) | (simp [*, errW_none, errW_some] <;> rfl), by first | exact Kd.R_nil _ _ _ _ _ | exact Kd.N_nil _ _ _ _ _ | exact Kd.V_nil _ _ _ _ _ | exact Kd.Q_nil _ _ _ _ _ | exact Kd.S_nil _ _ _ _ _, by repeat (first | (with_reducible first | exact HI1.out | apply IsS23.alloc | apply IsS23.drewN | apply IsS23.drew) | exact HI1.out), by repeat (first | (with_reducible first | exact HB.out | apply below_alloc | apply pw_below_drewN | apply below_drew1 | refine below_set ?_ (IsS23.ge HI1.out)) | exact HB.out), by repeat (first | (with_reducible first | exact HK.out | apply KeepBut.set_ | apply keep_drewN | apply keep_drew | apply keep_alloc) | exact HK.out)⟩
                      · rw [if_neg c16] at H
                        have c16b0 : decide (t207 < 0) = false := decide_eq_false c16
                        clear c16
                        by_cases c18 : t207 > a2
                        · rw [if_pos c18] at H
                          have c18b0 : decide (a2 < t207) = true := decide_eq_true c18
                          clear c18
                          simp only [Option.some.injEq, Prod.mk.injEq] at H
                          obtain ⟨rfl, rfl⟩ := H
                          have p206 : 0 ≤ (x30_2 : Int) := of_decide_eq_true (by first | (with_reducible assumption) | assumption)
                          have q206 : x30_2 < (l0.length : Int) := of_decide_eq_true (by first | (with_reducible assumption) | assumption)
                          obtain ⟨ad206, e206, hx206_0⟩ := Kd.at_int HR0.out x30_2 p206 q206
                          cases e206
                          replace hx206_0 := keep_cell HK.out hx206_0 (by first | (rw [add_block]; exact hf0 _ rfl (by omega)) | exact hf0 _ rfl (by omega) | exact hf0 ad206 rfl (by omega))
                          replace p206 := eq_true p206
                          replace q206 := eq_true q206
                          go_wp2_with (first | (go_at_call 24; (with_reducible refine (tangramlaw06_BucketStable_c2.calls (rd l0 x30_2) g s1_0 t207 w0 _ ?side1 ?side2 A15.out).mono ?_); (case side1 => repeat (first | (with_reducible first | exact HI1.out | apply IsS23.alloc | apply IsS23.drewN | apply IsS23.drew) | exact HI1.out)); (case side2 => repeat (first | (with_reducible first | exact HB.out | apply below_alloc | apply pw_below_drewN | apply below_drew1 | refine below_set ?_ (IsS23.ge HI1.out)) | exact HB.out)); rintro e w19 ⟨rfl, hi, hb, hk⟩; have n0_ := Aside0.mk (Kd.R_mono (Kd.R_keep (IsS23.apart (show IsS23 w0 _ g s1_0 from by repeat (first | (with_reducible first | exact HI1.out | apply IsS23.alloc | apply IsS23.drewN | apply IsS23.drew) | exact HI1.out)) (by (with_reducible repeat (first | apply Kd.R_alloc | apply Kd.R_drewN | apply Kd.R_drew)); exact HO_8.out) (by decide)) hk (fun _ h => h.2)) (fun _ h => h.1)); have n1_ := Aside0.mk (KeepBut.trans (by repeat (first | (with_reducible first | exact HK.out | apply KeepBut.set_ | apply keep_drewN | apply keep_drew | apply keep_alloc) | exact HK.out)) hk (.inl rfl)); have n2_ := Aside0.mk (hb); have n3_ := Aside0.mk (hi); clear HO_8; clear HK; clear HB; clear HI1; have HO_8 := n0_; have HK := n1_; have HB := n2_; have HI1 := n3_; clear n0_ n1_ n2_ n3_; (try clear hb); (try clear hb2); (try clear hk); (try clear hi)))
                          go_ret2
                          exact ⟨_, by first | rfl | (simp [errW_none, errW_some] <;> rfl) | (simp [*, errW_none, errW_some] <;> rfl), by first | exact Kd.R_nil _ _ _ _ _ | exact Kd.N_nil _ _ _ _ _ | exact Kd.V_nil _ _ _ _ _ | exact Kd.Q_nil _ _ _ _ _ | exact Kd.S_nil _ _ _ _ _, by repeat (first | (with_reducible first | exact HI1.out | apply IsS23.alloc | apply IsS23.drewN | apply IsS23.drew) | exact HI1.out), by repeat (first | (with_reducible first | exact HB.out | apply below_alloc | apply pw_below_drewN | apply below_drew1 | refine below_set ?_ (IsS23.ge HI1.out)) | exact HB.out), by repeat (first | (with_reducible first | exact HK.out | apply KeepBut.set_ | apply keep_drewN | apply keep_drew | apply keep_alloc) | exact HK.out)⟩
                        · rw [if_neg c18] at H
                          have c18b0 : decide (a2 < t207) = false := decide_eq_false c18
                          clear c18
                          by_cases c20 : x8_2.length < 17592186044416
                          · rw [if_pos c20] at H
                            have LMc20 := Aside0.mk c20
                            clear c20
                            obtain ⟨y208, hy208⟩ : ∃ y_ : List Int, y_ = (x8_2 ++ [t207]) := ⟨_, rfl⟩
                            replace H : (bucket_Sort_int_two.l0 k2 l0 a2 y208 l0 (l0.length : Int) (wrap64 (x30_2 + 1)) s1_0) = some (r1, r2) := by first | (rw [hy208]; with_reducible exact H) | (have H2_ := (Option.bind_some _ _).symm.trans H; rw [hy208]; with_reducible exact H2_) | (have H2_ := (Option.bind_some _ _).symm.trans H; with_reducible exact H2_) | with_reducible exact H | (rw [hy208]; exact H) | exact H
                            have Ny208 := Aside0.mk hy208
                            clear hy208
                            have H' := Aside0.mk H
                            clear H
                            have p206 : 0 ≤ (x30_2 : Int) := of_decide_eq_true (by first | (with_reducible assumption) | assumption)
                            have q206 : x30_2 < (l0.length : Int) := of_decide_eq_true (by first | (with_reducible assumption) | assumption)
                            obtain ⟨ad206, e206, hx206_0⟩ := Kd.at_int HR0.out x30_2 p206 q206
                            cases e206
                            replace hx206_0 := keep_cell HK.out hx206_0 (by first | (rw [add_block]; exact hf0 _ rfl (by omega)) | exact hf0 _ rfl (by omega) | exact hf0 ad206 rfl (by omega))
                            replace p206 := eq_true p206
                            replace q206 := eq_true q206
                            go_wp2_with (first | (go_at_call 24; (with_reducible refine (tangramlaw06_BucketStable_c2.calls (rd l0 x30_2) g s1_0 t207 w0 _ ?side1 ?side2 A15.out).mono ?_); (case side1 => repeat (first | (with_reducible first | exact HI1.out | apply IsS23.alloc | apply IsS23.drewN | apply IsS23.drew) | exact HI1.out)); (case side2 => repeat (first | (with_reducible first | exact HB.out | apply below_alloc | apply pw_below_drewN | apply below_drew1 | refine below_set ?_ (IsS23.ge HI1.out)) | exact HB.out)); rintro e w21 ⟨rfl, hi, hb, hk⟩; have n0_ := Aside0.mk (Kd.R_mono (Kd.R_keep (IsS23.apart (show IsS23 w0 _ g s1_0 from by repeat (first | (with_reducible first | exact HI1.out | apply IsS23.alloc | apply IsS23.drewN | apply IsS23.drew) | exact HI1.out)) (by (with_reducible repeat (first | apply Kd.R_alloc | apply Kd.R_drewN | apply Kd.R_drew)); exact HO_8.out) (by decide)) hk (fun _ h => h.2)) (fun _ h => h.1)); have n1_ := Aside0.mk (KeepBut.trans (by repeat (first | (with_reducible first | exact HK.out | apply KeepBut.set_ | apply keep_drewN | apply keep_drew | apply keep_alloc) | exact HK.out)) hk (.inl rfl)); have n2_ := Aside0.mk (hb); have n3_ := Aside0.mk (hi); clear HO_8; clear HK; clear HB; clear HI1; have HO_8 := n0_; have HK := n1_; have HB := n2_; have HI1 := n3_; clear n0_ n1_ n2_ n3_; (try clear hb); (try clear hb2); (try clear hk); (try clear hi)) | ((with_reducible refine gate_builtin (b := .append) (xs := #[.tmp 44, .tmp 46]) rfl ?_); at_builtin; refine Kd.R_append (Kd.int .i64) w.heap.size rfl (.tmp 44) (.tmp 46) 23 3 (.int .i64 0) 8 rfl Try.underlying23 info3 rfl (by decide) (by omega) u8 x8_2 t207 [.int .i64 t207] (fun _ => True) (fun _ => False) rfl rfl ?aP (fun _ hk => hk.elim) ?aF ?aO (Below.refl _ _) ?aS ?aL ?_; (case aP => exact rfl); (case aF => exact (fun _ _ => trivial)); (case aO => exact (by (with_reducible repeat (first | apply Kd.R_alloc | apply Kd.R_drewN | apply Kd.R_drew)); exact HO_8.out)); (case aS => exact (keep_size (w := w) (g := g) (row := none) (by repeat (first | (with_reducible first | exact HK.out | apply KeepBut.set_ | apply keep_drewN | apply keep_drew | apply keep_alloc) | exact HK.out)))); (case aL => have := LMc20.out; omega); intro v209 w22 ho hb hg hat; rw [← Ny208.out] at ho; have n0_ := Aside0.mk (IsS23.grown (by repeat (first | (with_reducible first | exact HI1.out | apply IsS23.alloc | apply IsS23.drewN | apply IsS23.drew) | exact HI1.out)) hg (IsS23.own_ne HI1.out HO_8.out (by decide))); have n1_ := Aside0.mk (below_weaken (by repeat (first | (with_reducible first | exact HB.out | apply below_alloc | apply pw_below_drewN | apply below_drew1 | refine below_set ?_ (IsS23.ge HI1.out)) | exact HB.out)) HL.out hb); have n2_ := Aside0.mk (KeepBut.trans (by repeat (first | (with_reducible first | exact HK.out | apply KeepBut.set_ | apply keep_drewN | apply keep_drew | apply keep_alloc) | exact HK.out)) (KeepBut.of_grown hg g) (Kd.R_base2 HO_8.out)); have n3_ := Aside0.mk (ho); clear HI1; clear HB; clear HK; clear HO_8; have HI1 := n0_; have HB := n1_; have HK := n2_; have HO210 := n3_; clear n0_ n1_ n2_ n3_; clear ho hb hg hat))
                            go_roundg k2
                            case measure => have := HJ3.out; have := HK2.out; omega
                            case rel => exact ⟨(y208), (wrap64 (x30_2 + 1)), (by first | rfl | (simp; done) | (simp [*]; done)), H', ⟨by have := HJ3.out; have := HK2.out; omega⟩, ⟨by (with_reducible repeat (first | apply Kd.R_alloc | apply Kd.R_drewN | apply Kd.R_drew)); exact HO210.out⟩, ⟨by repeat (first | (with_reducible first | exact HI1.out | apply IsS23.alloc | apply IsS23.drewN | apply IsS23.drew) | exact HI1.out)⟩, ⟨by repeat (first | (with_reducible first | exact HK.out | apply KeepBut.set_ | apply keep_drewN | apply keep_drew | apply keep_alloc) | exact HK.out)⟩, ⟨by repeat (first | (with_reducible first | exact HB.out | apply below_alloc | apply pw_below_drewN | apply below_drew1 | refine below_set ?_ (IsS23.ge HI1.out)) | exact HB.out)⟩⟩
                          · rw [if_neg c20] at H
                            exact absurd H (by simp)
                    · rw [if_neg c14] at H
                      exact absurd H (by simp)
                  · rw [if_neg c13] at H
                    exact absurd H (by simp)
                · rw [if_neg c12] at H
                  have c12b0 : decide (x30_2 < (l0.length : Int)) = false := decide_eq_false c12
                  clear c12
                  by_cases c23 : 0 ≤ (l0.length : Int)
                  · rw [if_pos c23] at H
                    have c23b0 := eq_true c23
                    have c23b1 : decide (0 ≤ (l0.length : Int)) = true := decide_eq_true c23
                    clear c23
                    by_cases c24 : ((l0.length : Int) : Int).toNat ≤ 35184372088832
                    · rw [if_pos c24] at H
                      have c24b0 := eq_true c24
                      have c24b1 : decide (((l0.length : Int) : Int).toNat ≤ 35184372088832) = true := decide_eq_true c24
                      clear c24
                      obtain ⟨y211, hy211⟩ : ∃ y_ : List Int, y_ = (List.replicate ((l0.length : Int) : Int).toNat 0) := ⟨_, rfl⟩
                      replace H : ((bucket_ranks.f k2 x8_2).bind fun t214 => (bucket_Sort_int_two.l1 k2 l0 y211 t214 (t214.length : Int) 0)) = some (r1, r2) := by first | (rw [hy211]; with_reducible exact H) | (have H2_ := (Option.bind_some _ _).symm.trans H; rw [hy211]; with_reducible exact H2_) | (have H2_ := (Option.bind_some _ _).symm.trans H; with_reducible exact H2_) | with_reducible exact H | (rw [hy211]; exact H) | exact H
                      have Ny211 := Aside0.mk hy211
                      clear hy211
                      replace H := Option.bind_eq_some_iff.mp H
                      obtain ⟨t214, A250, H⟩ := H
                      replace H : (bucket_Sort_int_two.l1 k2 l0 y211 t214 (t214.length : Int) 0) = some (r1, r2) := H
                      have A25 := Aside0.mk A250
                      clear A250
                      have H' := Aside0.mk H
                      clear H
                      go_wp2_with (first | ((with_reducible refine gate_dst (N := 51) rfl ?_); refine Kd.R_make (Kd.int .i64) _ 3 rfl (N := 51) rfl 23 _ _ rfl (l0.length : Int) rfl rfl Try.underlying23 (.int .i64 0) 8 info3 rfl (by decide) (by omega) 0 (ok := fun _ => True) (okp := fun _ => True) rfl (fun _ hk => hk) trivial (of_decide_eq_true (by first | (with_reducible assumption) | assumption)) (Nat.le_trans (Nat.mul_le_mul_right _ (of_decide_eq_true (by first | (with_reducible assumption) | assumption) : (l0.length : Int).toNat ≤ 35184372088832)) (by omega)) (Below.refl _ _) (Nat.le_refl _) ?_; intro v212 w26 ho27 hb hg_ hnew_; clear hg_ hnew_; (first | rw [← Ny211.out] at ho27 | (simp only [Int.reduceToNat] at ho27; rw [← Ny211.out] at ho27)); have n0_ := Aside0.mk (Kd.R_elder' (by (with_reducible repeat (first | apply Kd.R_alloc | apply Kd.R_drewN | apply Kd.R_drew)); exact HO_8.out) (Kd.R_base ho27) hb); have n1_ := Aside0.mk (Kd.R_lower (Kd.R_new' ho27 (Kd.R_lt (by (with_reducible repeat (first | apply Kd.R_alloc | apply Kd.R_drewN | apply Kd.R_drew)); exact HO_8.out))) (keep_size (w := w) (g := g) (row := none) (by repeat (first | (with_reducible first | exact HK.out | apply KeepBut.set_ | apply keep_drewN | apply keep_drew | apply keep_alloc) | exact HK.out)))); have n2_ := Aside0.mk (IsS23.below (by repeat (first | (with_reducible first | exact HI1.out | apply IsS23.alloc | apply IsS23.drewN | apply IsS23.drew) | exact HI1.out)) hb); have n3_ := Aside0.mk (KeepBut.trans (by repeat (first | (with_reducible first | exact HK.out | apply KeepBut.set_ | apply keep_drewN | apply keep_drew | apply keep_alloc) | exact HK.out)) (KeepBut.of_below hb g none) (.inl rfl)); have n4_ := Aside0.mk (below_step (by repeat (first | (with_reducible first | exact HB.out | apply below_alloc | apply pw_below_drewN | apply below_drew1 | refine below_set ?_ (IsS23.ge HI1.out)) | exact HB.out)) hb); clear HO_8; clear HI1; clear HK; clear HB; have HO_8 := n0_; have HO213 := n1_; have HI1 := n2_; have HK := n3_; have HB := n4_; clear n0_ n1_ n2_ n3_ n4_; clear hb ho27; obtain ⟨Ao28, co28, eo28⟩ := Kd.R_slice HO_8.out; subst eo28) | ((with_reducible refine gate_callee (f := 39) rfl ?_); refine goesL_ (some 53) rfl rfl Try.func39 (by kernel_rfl) rfl #[.slice Ao28 x8_2.length co28] rfl (by (try simp only [List.map_toArray, List.map_cons, List.map_nil]); first | done | rfl | (simp only [List.length_drop, List.length_take]; rfl)) ?_; (with_reducible refine (bucket_ranks.calls k2 _ _ x8_2 t214 _ ?side1 ?side2 A25.out).mono ?_); (case side1 => repeat (first | exact (Kd.R_reads' HO_8.out).2.2 | (with_reducible refine Kd.C_alloc ?_ _) | (with_reducible refine Kd.C_drewN ?_ _) | (with_reducible refine Kd.C_drew ?_))); (case side2 => exact (Kd.R_reads' HO_8.out).2.1); rintro e w29 ⟨v215, rfl, ho0, hb⟩; refine ⟨_, rfl, ?_⟩; have n0_ := Aside0.mk (Kd.R_elder' (by (with_reducible repeat (first | apply Kd.R_alloc | apply Kd.R_drewN | apply Kd.R_drew)); exact HO_8.out) (Kd.R_base ho0) hb); have n1_ := Aside0.mk (Kd.R_elder' (by (with_reducible repeat (first | apply Kd.R_alloc | apply Kd.R_drewN | apply Kd.R_drew)); exact HO213.out) (Kd.R_base ho0) hb); have n2_ := Aside0.mk (Kd.R_lower (Kd.R_new' (Kd.R_new' ho0 (Kd.R_lt (by (with_reducible repeat (first | apply Kd.R_alloc | apply Kd.R_drewN | apply Kd.R_drew)); exact HO_8.out))) (Kd.R_lt (by (with_reducible repeat (first | apply Kd.R_alloc | apply Kd.R_drewN | apply Kd.R_drew)); exact HO213.out))) (keep_size (w := w) (g := g) (row := none) (by repeat (first | (with_reducible first | exact HK.out | apply KeepBut.set_ | apply keep_drewN | apply keep_drew | apply keep_alloc) | exact HK.out)))); have n3_ := Aside0.mk (IsS23.below (by repeat (first | (with_reducible first | exact HI1.out | apply IsS23.alloc | apply IsS23.drewN | apply IsS23.drew) | exact HI1.out)) hb); have n4_ := Aside0.mk (KeepBut.trans (by repeat (first | (with_reducible first | exact HK.out | apply KeepBut.set_ | apply keep_drewN | apply keep_drew | apply keep_alloc) | exact HK.out)) (KeepBut.of_below hb g none) (.inl rfl)); have n5_ := Aside0.mk (below_step (by repeat (first | (with_reducible first | exact HB.out | apply below_alloc | apply pw_below_drewN | apply below_drew1 | refine below_set ?_ (IsS23.ge HI1.out)) | exact HB.out)) hb); clear HO_8; clear HO213; clear HI1; clear HK; clear HB; have HO_8 := n0_; have HO213 := n1_; have HO216 := n2_; have HI1 := n3_; have HK := n4_; have HB := n5_; clear n0_ n1_ n2_ n3_ n4_ n5_; (try clear hb); (try clear hb2); (try clear hk); (try clear hi); (try clear ho0); obtain ⟨Ao30, co30, eo30⟩ := Kd.R_slice HO216.out; subst eo30))
                      go_loopg [55] k2 (fun kq v55 w' => ∃ (x12_3 : List Int) (x55_3 : Int), v55 = .int .i64 x55_3 ∧ Aside0 (bucket_Sort_int_two.l1 kq l0 x12_3 t214 (t214.length : Int) x55_3 = some (r1, r2)) ∧ Aside0 (kq ≤ k2) ∧ Aside0 (Kd.R (Kd.int .i64) 3 w' w.heap.size (fun k_ => some k_ ≠ ((.slice Ao30 t214.length co30) : Value).ownBlock) v212 x12_3) ∧ Aside0 (Kd.R (Kd.int .i64) 3 w' w.heap.size (fun k_ => some k_ ≠ (v212 : Value).ownBlock) (.slice Ao30 t214.length co30) t214) ∧ Aside0 (IsS23 w0 w' g s1_0) ∧ Aside0 (KeepBut w w' g none) ∧ Aside0 (Below w0.heap.size w0 w'))
                      case atStart => exact ⟨(y211), (0), (by first | rfl | (simp; done) | (simp [*]; done)), H', ⟨Nat.le_refl _⟩, ⟨by (with_reducible repeat (first | apply Kd.R_alloc | apply Kd.R_drewN | apply Kd.R_drew)); exact Kd.R_mono HO213.out (fun _ hk => hk.2)⟩, ⟨by (with_reducible repeat (first | apply Kd.R_alloc | apply Kd.R_drewN | apply Kd.R_drew)); exact Kd.R_mono HO216.out (fun _ hk => hk.2)⟩, ⟨by repeat (first | (with_reducible first | exact HI1.out | apply IsS23.alloc | apply IsS23.drewN | apply IsS23.drew) | exact HI1.out)⟩, ⟨by repeat (first | (with_reducible first | exact HK.out | apply KeepBut.set_ | apply keep_drewN | apply keep_drew | apply keep_alloc) | exact HK.out)⟩, ⟨by repeat (first | (with_reducible first | exact HB.out | apply below_alloc | apply pw_below_drewN | apply below_drew1 | refine below_set ?_ (IsS23.ge HI1.out)) | exact HB.out)⟩⟩
                      case round =>
                        clear H'
                        try clear c1
                        try clear c2
                        try clear p2
                        try clear q2
                        try clear hx2
                        try clear c3
                        try clear c5
                        try clear c5b0
                        try clear c6
                        try clear c6b0
                        try clear p6
                        try clear c7
                        try clear c8
                        try clear c8b0
                        try clear c8b1
                        try clear c9
                        try clear c9b0
                        try clear c9b1
                        try clear c12
                        try clear c12b0
                        try clear c13
                        try clear c13b0
                        try clear c14
                        try clear c14b0
                        try clear c16
                        try clear c16b0
                        try clear c18
                        try clear c18b0
                        try clear c20
                        try clear p20
                        try clear q20
                        try clear hx20
                        try clear c23
                        try clear c23b0
                        try clear c23b1
                        try clear c24
                        try clear c24b0
                        try clear c24b1
                        try clear hx206_0
                        try clear p2
                        try clear p206
                        try clear q206
                        obtain ⟨x12_3, x55_3, rfl, HA, HK3, HO_12, HO_53, HI1, HK, HB⟩ := hrel
                        cases gk with
                        | zero => exact absurd HA.out (by simp [bucket_Sort_int_two.l1])
                        | succ k3 =>
                          have H := HA.out
                          clear HA
                          simp only [bucket_Sort_int_two.l1] at H
                          by_cases c31 : x55_3 < (t214.length : Int)
                          · rw [if_pos c31] at H
                            have c31b0 : decide (x55_3 < (t214.length : Int)) = true := decide_eq_true c31
                            clear c31
                            by_cases c32 : 0 ≤ x55_3
                            · rw [if_pos c32] at H
                              have c32b0 : decide (0 ≤ x55_3) = true := decide_eq_true c32
                              clear c32
                              by_cases c33 : x55_3 < (t214.length : Int)
                              · rw [if_pos c33] at H
                                have c33b0 : decide (x55_3 < (t214.length : Int)) = true := decide_eq_true c33
                                clear c33
                                by_cases c34 : x55_3 < (l0.length : Int)
                                · rw [if_pos c34] at H
                                  have c34b0 : decide (x55_3 < (l0.length : Int)) = true := decide_eq_true c34
                                  clear c34
                                  by_cases c35 : 0 ≤ (rd t214 x55_3)
                                  · rw [if_pos c35] at H
                                    have c35b0 : decide (0 ≤ (rd t214 x55_3)) = true := decide_eq_true c35
                                    clear c35
                                    by_cases c36 : (rd t214 x55_3) < (x12_3.length : Int)
                                    · rw [if_pos c36] at H
                                      have c36b0 : decide ((rd t214 x55_3) < (x12_3.length : Int)) = true := decide_eq_true c36
                                      clear c36
                                      obtain ⟨y219, hy219⟩ : ∃ y_ : List Int, y_ = (x12_3.set ((rd t214 x55_3) : Int).toNat (rd l0 x55_3)) := ⟨_, rfl⟩
                                      replace H : (bucket_Sort_int_two.l1 k3 l0 y219 t214 (t214.length : Int) (wrap64 (x55_3 + 1))) = some (r1, r2) := by first | (rw [hy219]; with_reducible exact H) | (have H2_ := (Option.bind_some _ _).symm.trans H; rw [hy219]; with_reducible exact H2_) | (have H2_ := (Option.bind_some _ _).symm.trans H; with_reducible exact H2_) | with_reducible exact H | (rw [hy219]; exact H) | exact H
                                      have Ny219 := Aside0.mk hy219
                                      clear hy219
                                      have H' := Aside0.mk H
                                      clear H
                                      have p217 : 0 ≤ (x55_3 : Int) := of_decide_eq_true (by first | (with_reducible assumption) | assumption)
                                      have q217 : x55_3 < (t214.length : Int) := of_decide_eq_true (by first | (with_reducible assumption) | assumption)
                                      obtain ⟨ad217, e217, hx217_0⟩ := Kd.at_int (Kd.R_reads' HO_53.out).2.2 x55_3 p217 q217
                                      cases e217
                                      replace p217 := eq_true p217
                                      replace q217 := eq_true q217
                                      have p218 : 0 ≤ (x55_3 : Int) := of_decide_eq_true (by first | (with_reducible assumption) | assumption)
                                      have q218 : x55_3 < (l0.length : Int) := of_decide_eq_true (by first | (with_reducible assumption) | assumption)
                                      obtain ⟨ad218, e218, hx218_0⟩ := Kd.at_int HR0.out x55_3 p218 q218
                                      cases e218
                                      replace hx218_0 := keep_cell HK.out hx218_0 (by first | (rw [add_block]; exact hf0 _ rfl (by omega)) | exact hf0 _ rfl (by omega) | exact hf0 ad218 rfl (by omega))
                                      replace p218 := eq_true p218
                                      replace q218 := eq_true q218
                                      have p37 : 0 ≤ ((rd t214 x55_3) : Int) := of_decide_eq_true (by first | (with_reducible assumption) | assumption)
                                      have q37 : ((rd t214 x55_3) : Int) < ((x12_3.length : Int) : Int) := of_decide_eq_true (by first | (with_reducible assumption) | assumption)
                                      obtain ⟨go37, co37, eo37, gb37, gl37, cl37, HG37⟩ := Kd.R_form HO_12.out (by omega)
                                      (first | cases eo37 | (injection eo37 with ea_ en_ ec_; (first | subst ea_ | (injection ea_ with ea_; subst ea_)); subst ec_; clear en_))
                                      have GB37 := Aside0.mk gb37
                                      have GG37 := Aside0.mk HG37
                                      clear gb37 gl37 HG37
                                      obtain ⟨hx37_0, hf37_0⟩ := Kd.R_celln 0 HO_12.out ((rd t214 x55_3) : Int) p37 q37
                                      replace p37 := eq_true p37
                                      replace q37 := eq_true q37
                                      have HP38 := Kd.R_putg HO_12.out ((rd t214 x55_3) : Int) (rd l0 x55_3)
                                      go_wp2_with (first | ((with_reducible refine gate_store (t := 3) (p := 66) rfl ?_); refine store_event (t := 3) (p := 66) (v := ?vo_w39) (w1 := (wr.setCell ⟨go37, ((rd t214 x55_3) : Int).toNat, none⟩ (.int .i64 (rd l0 x55_3)))) ?hg ?ho ?hn ?hr ?_; (case ho => rfl); (case hg => rfl); (case hn => rfl); (case hr => first | (go_simp; done) | (go_simp; rfl)); intro w39 hw; have hg : wr.grownBy w39 (some go37) := (by rw [hw]; exact HP38.2); have hp_ : Kd.R (Kd.int .i64) 3 w39 w.heap.size (fun k_ => some k_ ≠ (.slice (some ad217) t214.length co30 : Value).ownBlock) (.slice (some ⟨go37, 0, none⟩) x12_3.length co37) y219 := (by rw [hw, Ny219.out]; exact HP38.1); clear HP38; have n0_ := Aside0.mk (hp_); have n1_ := Aside0.mk (Kd.R_after (v := (.slice (some ⟨go37, 0, none⟩) x12_3.length co37)) (v1 := (.slice (some ⟨go37, 0, none⟩) x12_3.length co37)) (ok := (fun _ => True)) (by (with_reducible repeat (first | apply Kd.R_alloc | apply Kd.R_drewN | apply Kd.R_drew)); exact Kd.R_mono HO_53.out (fun _ hk => ⟨trivial, hk⟩)) hg (.inl rfl)); have n2_ := Aside0.mk (IsS23.grown (by repeat (first | (with_reducible first | exact HI1.out | apply IsS23.alloc | apply IsS23.drewN | apply IsS23.drew) | exact HI1.out)) hg (IsS23.own_ne HI1.out HO_12.out (by decide))); have n3_ := Aside0.mk ((by rw [hw]; exact below_set (HB.out) (Nat.le_trans HL.out GB37.out) : Below w0.heap.size w0 w39)); have n4_ := Aside0.mk (KeepBut.trans (by repeat (first | (with_reducible first | exact HK.out | apply KeepBut.set_ | apply keep_drewN | apply keep_drew | apply keep_alloc) | exact HK.out)) (KeepBut.of_grown hg g) (Kd.R_base2 HO_12.out)); clear HO_12; clear HO_53; clear HI1; clear HB; clear HK; have HO_12 := n0_; have HO_53 := n1_; have HI1 := n2_; have HB := n3_; have HK := n4_; clear n0_ n1_ n2_ n3_ n4_; clear hg hw hp_))
                                      go_roundg k3
                                      case measure => have := HJ3.out; have := HK2.out; have := HK3.out; omega
                                      case rel => exact ⟨(y219), (wrap64 (x55_3 + 1)), (by first | rfl | (simp; done) | (simp [*]; done)), H', ⟨by have := HJ3.out; have := HK2.out; have := HK3.out; omega⟩, ⟨by (with_reducible repeat (first | apply Kd.R_alloc | apply Kd.R_drewN | apply Kd.R_drew)); exact HO_12.out⟩, ⟨by (with_reducible repeat (first | apply Kd.R_alloc | apply Kd.R_drewN | apply Kd.R_drew)); exact Kd.R_mono HO_53.out (fun _ hk => hk.2)⟩, ⟨by repeat (first | (with_reducible first | exact HI1.out | apply IsS23.alloc | apply IsS23.drewN | apply IsS23.drew) | exact HI1.out)⟩, ⟨by repeat (first | (with_reducible first | exact HK.out | apply KeepBut.set_ | apply keep_drewN | apply keep_drew | apply keep_alloc) | exact HK.out)⟩, ⟨by repeat (first | (with_reducible first | exact HB.out | apply below_alloc | apply pw_below_drewN | apply below_drew1 | refine below_set ?_ (IsS23.ge HI1.out)) | exact HB.out)⟩⟩
                                    · rw [if_neg c36] at H
                                      exact absurd H (by simp)
                                  · rw [if_neg c35] at H
                                    exact absurd H (by simp)
                                · rw [if_neg c34] at H
                                  exact absurd H (by simp)
                              · rw [if_neg c33] at H
                                exact absurd H (by simp)
                            · rw [if_neg c32] at H
                              exact absurd H (by simp)
                          · rw [if_neg c31] at H
                            have c31b0 : decide (x55_3 < (t214.length : Int)) = false := decide_eq_false c31
                            clear c31
                            simp only [Option.some.injEq, Prod.mk.injEq] at H
                            obtain ⟨rfl, rfl⟩ := H
                            go_wp2
                            go_ret2
                            exact ⟨_, by first | rfl | (simp [errW_none, errW_some] <;> rfl) | (simp [*, errW_none, errW_some] <;> rfl), by (with_reducible repeat (first | apply Kd.R_alloc | apply Kd.R_drewN | apply Kd.R_drew)); exact Kd.R_mono HO_12.out (fun _ hk => trivial), by repeat (first | (with_reducible first | exact HI1.out | apply IsS23.alloc | apply IsS23.drewN | apply IsS23.drew) | exact HI1.out), by repeat (first | (with_reducible first | exact HB.out | apply below_alloc | apply pw_below_drewN | apply below_drew1 | refine below_set ?_ (IsS23.ge HI1.out)) | exact HB.out), by repeat (first | (with_reducible first | exact HK.out | apply KeepBut.set_ | apply keep_drewN | apply keep_drew | apply keep_alloc) | exact HK.out)⟩
                    · rw [if_neg c24] at H
                      exact absurd H (by simp)
                  · rw [if_neg c23] at H
                    exact absurd H (by simp)
          · rw [if_neg c9] at H
            exact absurd H (by simp)
        · rw [if_neg c8] at H
          exact absurd H (by simp)

end Go.Proofs.Ytndmdapgeegodaa.PBucketS
