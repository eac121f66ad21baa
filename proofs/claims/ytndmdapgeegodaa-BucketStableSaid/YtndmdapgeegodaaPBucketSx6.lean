-- PRINTED by print.py (a twelfth state) out of the translation. Not trusted: Lean checks it.
import Derived.Test.YtndmdapgeegodaaPBucketSx0
import Derived.Test.YtndmdapgeegodaaPBucketSx2
import Derived.Test.YtndmdapgeegodaaPBucketSx3
import Derived.Test.YtndmdapgeegodaaPBucketSx4
import Derived.Test.YtndmdapgeegodaaPBucketSx5
namespace Go.Proofs.Ytndmdapgeegodaa.PBucketS
open Go.RowKit Go.Proofs.YtndmdapgeegodaaW.PrintWords Go.Proofs.YtndmdapgeegodaaW.PrintLast Go.Proofs.YtndmdapgeegodaaW.PrintMore
attribute [local go_sem] max2_int min2_int max_two min_two max_three min_three max_four min_four   -- for this text's walks alone
set_option linter.unusedVariables false
set_option linter.unusedSimpArgs false

/-! ### tangramlaw06_BucketStable: function 9 -/
mutual
def tangramlaw06_BucketStable.l0 : Nat → Int → List Int → Int → List Int → Option (Bool)
  | 0, _, _, _, _ => none
  | k + 1, x1, x5, x6, x222000 => if x6 < (x222000.length : Int) then (if x5.length < 17592186044416 then (tangramlaw06_BucketStable.l0 k x1 (x5 ++ [x6]) (wrap64 (x6 + 1)) x222000) else (none)) else ((bucket_Sort_int.f k x5 x222000 x1).bind fun bt226 => ((some (([] : List Int) : List Int)).bind fun y230 => (if y230.length + x222000.length < 17592186044416 then ((bucket_Ranks.f k (y230 ++ x222000) x1).bind fun bt236 => (if bt226.2 = bt236.2 then (if bt226.2 = 0 then (if (bt226.1.length : Int) = (x222000.length : Int) then (tangramlaw06_BucketStable.j1 k x1 bt226.1 bt236.1 ((bt236.1.length : Int) != (x222000.length : Int)) x222000) else (tangramlaw06_BucketStable.j1 k x1 bt226.1 bt236.1 true x222000)) else (if (bt226.1.length : Int) = 0 then (some ((bt236.1.length : Int) == 0)) else (some false))) else (some false))) else (none))))
def tangramlaw06_BucketStable.j1 : Nat → Int → List Int → List Int → Bool → List Int → Option (Bool)
  | 0, _, _, _, _, _ => none
  | k + 1, x1, x7, x9, x69, x222000 => if x69 = true then (some false) else (tangramlaw06_BucketStable.l1 k x1 x7 x9 0 x222000)
def tangramlaw06_BucketStable.l1 : Nat → Int → List Int → List Int → Int → List Int → Option (Bool)
  | 0, _, _, _, _, _ => none
  | k + 1, x1, x7, x9, x11, x222000 => if x11 < (x7.length : Int) then (if 0 ≤ x11 then (if (rd x7 x11) < 0 then (tangramlaw06_BucketStable.j3 k x1 x7 x9 x11 true x222000) else (if (rd x7 x11) ≥ (x222000.length : Int) then (tangramlaw06_BucketStable.j3 k x1 x7 x9 x11 true x222000) else (if 0 ≤ (rd x7 x11) then (if (rd x7 x11) < (x9.length : Int) then (tangramlaw06_BucketStable.j3 k x1 x7 x9 x11 ((rd x9 (rd x7 x11)) != x11) x222000) else (none)) else (none)))) else (none)) else ((bucket_Sort_int_two.f k x7 x222000 x1).bind fun bt254 => (if bt254.2 = 0 then ((tangramref03_SameInts.f k bt254.1 x7).bind fun t258 => (tangramlaw06_BucketStable.j4 k x1 x7 (!t258) x222000)) else (tangramlaw06_BucketStable.j4 k x1 x7 true x222000)))
def tangramlaw06_BucketStable.j3 : Nat → Int → List Int → List Int → Int → Bool → List Int → Option (Bool)
  | 0, _, _, _, _, _, _ => none
  | k + 1, x1, x7, x9, x11, x100, x222000 => if x100 = true then (some false) else (if x11 > 0 then (if 0 ≤ (wrap64 (x11 - 1)) then (if (wrap64 (x11 - 1)) < (x7.length : Int) then (if 0 ≤ (rd x7 (wrap64 (x11 - 1))) then (if (rd x7 (wrap64 (x11 - 1))) < (x222000.length : Int) then (if 0 ≤ x11 then (if x11 < (x7.length : Int) then (if 0 ≤ (rd x7 x11) then (if (rd x7 x11) < (x222000.length : Int) then (if (rd x222000 (rd x7 (wrap64 (x11 - 1)))) > (rd x222000 (rd x7 x11)) then (some false) else (if (rd x222000 (rd x7 (wrap64 (x11 - 1)))) = (rd x222000 (rd x7 x11)) then (if (rd x7 (wrap64 (x11 - 1))) ≥ (rd x7 x11) then (some false) else (tangramlaw06_BucketStable.l1 k x1 x7 x9 (wrap64 (x11 + 1)) x222000)) else (tangramlaw06_BucketStable.l1 k x1 x7 x9 (wrap64 (x11 + 1)) x222000))) else (none)) else (none)) else (none)) else (none)) else (none)) else (none)) else (none)) else (none)) else (tangramlaw06_BucketStable.l1 k x1 x7 x9 (wrap64 (x11 + 1)) x222000))
def tangramlaw06_BucketStable.j4 : Nat → Int → List Int → Bool → List Int → Option (Bool)
  | 0, _, _, _, _ => none
  | k + 1, x1, x7, x165, x222000 => if x165 = true then (some false) else (if x1 > 100000 then (some true) else ((some (([] : List Int) : List Int)).bind fun y259 => (if y259.length + x222000.length < 17592186044416 then ((bucket_Group.f k (y259 ++ x222000) x1).bind fun bt265 => (tangramlaw06_BucketStable.l2 k x7 bt265.1 ([] : List Int) 0)) else (none))))
def tangramlaw06_BucketStable.l2 : Nat → List Int → List (List Int) → List Int → Int → Option (Bool)
  | 0, _, _, _, _ => none
  | k + 1, x7, x14, x16, x17 => if x17 < (x14.length : Int) then (if 0 ≤ x17 then (if x16.length + (rd_L1 x14 x17).length < 17592186044416 then (tangramlaw06_BucketStable.l2 k x7 x14 (x16 ++ (rd_L1 x14 x17)) (wrap64 (x17 + 1))) else (none)) else (none)) else ((tangramref03_SameInts.f k x16 x7).bind fun t273 => (some t273))
end
def tangramlaw06_BucketStable.f (k : Nat) (l0 : List Int) (a1 : Int) : Option (Bool) := (x_mkbox.f l0).bind fun t220 => ((tangramlaw06_wakes.f k).bind fun t222 => (if t222 = true then (tangramlaw06_BucketStable.l0 k a1 ([] : List Int) 0 t220) else (some false)))
theorem tangramlaw06_BucketStable.mono_l : ∀ k, (∀ y0 y1 y2 y3, LeO (tangramlaw06_BucketStable.l0 k y0 y1 y2 y3) (tangramlaw06_BucketStable.l0 (k + 1) y0 y1 y2 y3)) ∧ (∀ y0 y1 y2 y3 y4, LeO (tangramlaw06_BucketStable.j1 k y0 y1 y2 y3 y4) (tangramlaw06_BucketStable.j1 (k + 1) y0 y1 y2 y3 y4)) ∧ (∀ y0 y1 y2 y3 y4, LeO (tangramlaw06_BucketStable.l1 k y0 y1 y2 y3 y4) (tangramlaw06_BucketStable.l1 (k + 1) y0 y1 y2 y3 y4)) ∧ (∀ y0 y1 y2 y3 y4 y5, LeO (tangramlaw06_BucketStable.j3 k y0 y1 y2 y3 y4 y5) (tangramlaw06_BucketStable.j3 (k + 1) y0 y1 y2 y3 y4 y5)) ∧ (∀ y0 y1 y2 y3, LeO (tangramlaw06_BucketStable.j4 k y0 y1 y2 y3) (tangramlaw06_BucketStable.j4 (k + 1) y0 y1 y2 y3)) ∧ (∀ y0 y1 y2 y3, LeO (tangramlaw06_BucketStable.l2 k y0 y1 y2 y3) (tangramlaw06_BucketStable.l2 (k + 1) y0 y1 y2 y3))
  | 0 => ⟨fun _ _ _ _ r h => by simp [tangramlaw06_BucketStable.l0] at h, fun _ _ _ _ _ r h => by simp [tangramlaw06_BucketStable.j1] at h, fun _ _ _ _ _ r h => by simp [tangramlaw06_BucketStable.l1] at h, fun _ _ _ _ _ _ r h => by simp [tangramlaw06_BucketStable.j3] at h, fun _ _ _ _ r h => by simp [tangramlaw06_BucketStable.j4] at h, fun _ _ _ _ r h => by simp [tangramlaw06_BucketStable.l2] at h⟩
  | k + 1 => by
    obtain ⟨ih0, ih1, ih2, ih3, ih4, ih5⟩ := tangramlaw06_BucketStable.mono_l k
    refine ⟨?_, ?_, ?_, ?_, ?_, ?_⟩
    · intro y0 y1 y2 y3
      unfold tangramlaw06_BucketStable.l0
      repeat' first
      | (with_reducible exact ih0 _ _ _ _)
      | (with_reducible exact ih1 _ _ _ _ _)
      | (with_reducible exact ih2 _ _ _ _ _)
      | (with_reducible exact ih3 _ _ _ _ _ _)
      | (with_reducible exact ih4 _ _ _ _)
      | (with_reducible exact ih5 _ _ _ _)
      | (with_reducible exact bucket_Group.mono _ _ _)
      | (with_reducible exact bucket_Ranks.mono _ _ _)
      | (with_reducible exact bucket_Sort_int.mono _ _ _ _)
      | (with_reducible exact bucket_Sort_int_two.mono _ _ _ _)
      | (with_reducible exact tangramlaw06_wakes.mono _)
      | (with_reducible exact tangramref03_SameInts.mono _ _ _)
      | (with_reducible exact LeO.refl _)
      | (with_reducible exact LeO.none _)
      | (with_reducible refine LeO.ite ?_ ?_)
      | (with_reducible refine LeO.bind ?_ (fun _ => ?_))
      | exact ih0 _ _ _ _
      | exact ih1 _ _ _ _ _
      | exact ih2 _ _ _ _ _
      | exact ih3 _ _ _ _ _ _
      | exact ih4 _ _ _ _
      | exact ih5 _ _ _ _
      | exact bucket_Group.mono _ _ _
      | exact bucket_Ranks.mono _ _ _
      | exact bucket_Sort_int.mono _ _ _ _
      | exact bucket_Sort_int_two.mono _ _ _ _
      | exact tangramlaw06_wakes.mono _
      | exact tangramref03_SameInts.mono _ _ _
      | exact LeO.none _
      | refine LeO.ite ?_ ?_
      | refine LeO.bind ?_ (fun _ => ?_)
    · intro y0 y1 y2 y3 y4
      unfold tangramlaw06_BucketStable.j1
      repeat' first
      | (with_reducible exact ih0 _ _ _ _)
      | (with_reducible exact ih1 _ _ _ _ _)
      | (with_reducible exact ih2 _ _ _ _ _)
      | (with_reducible exact ih3 _ _ _ _ _ _)
      | (with_reducible exact ih4 _ _ _ _)
      | (with_reducible exact ih5 _ _ _ _)
      | (with_reducible exact bucket_Group.mono _ _ _)
      | (with_reducible exact bucket_Ranks.mono _ _ _)
      | (with_reducible exact bucket_Sort_int.mono _ _ _ _)
      | (with_reducible exact bucket_Sort_int_two.mono _ _ _ _)
      | (with_reducible exact tangramlaw06_wakes.mono _)
      | (with_reducible exact tangramref03_SameInts.mono _ _ _)
      | (with_reducible exact LeO.refl _)
      | (with_reducible exact LeO.none _)
      | (with_reducible refine LeO.ite ?_ ?_)
      | (with_reducible refine LeO.bind ?_ (fun _ => ?_))
      | exact ih0 _ _ _ _
      | exact ih1 _ _ _ _ _
      | exact ih2 _ _ _ _ _
      | exact ih3 _ _ _ _ _ _
      | exact ih4 _ _ _ _
      | exact ih5 _ _ _ _
      | exact bucket_Group.mono _ _ _
      | exact bucket_Ranks.mono _ _ _
      | exact bucket_Sort_int.mono _ _ _ _
      | exact bucket_Sort_int_two.mono _ _ _ _
      | exact tangramlaw06_wakes.mono _
      | exact tangramref03_SameInts.mono _ _ _
      | exact LeO.none _
      | refine LeO.ite ?_ ?_
      | refine LeO.bind ?_ (fun _ => ?_)
    · intro y0 y1 y2 y3 y4
      unfold tangramlaw06_BucketStable.l1
      repeat' first
      | (with_reducible exact ih0 _ _ _ _)
      | (with_reducible exact ih1 _ _ _ _ _)
      | (with_reducible exact ih2 _ _ _ _ _)
      | (with_reducible exact ih3 _ _ _ _ _ _)
      | (with_reducible exact ih4 _ _ _ _)
      | (with_reducible exact ih5 _ _ _ _)
      | (with_reducible exact bucket_Group.mono _ _ _)
      | (with_reducible exact bucket_Ranks.mono _ _ _)
      | (with_reducible exact bucket_Sort_int.mono _ _ _ _)
      | (with_reducible exact bucket_Sort_int_two.mono _ _ _ _)
      | (with_reducible exact tangramlaw06_wakes.mono _)
      | (with_reducible exact tangramref03_SameInts.mono _ _ _)
      | (with_reducible exact LeO.refl _)
      | (with_reducible exact LeO.none _)
      | (with_reducible refine LeO.ite ?_ ?_)
      | (with_reducible refine LeO.bind ?_ (fun _ => ?_))
      | exact ih0 _ _ _ _
      | exact ih1 _ _ _ _ _
      | exact ih2 _ _ _ _ _
      | exact ih3 _ _ _ _ _ _
      | exact ih4 _ _ _ _
      | exact ih5 _ _ _ _
      | exact bucket_Group.mono _ _ _
      | exact bucket_Ranks.mono _ _ _
      | exact bucket_Sort_int.mono _ _ _ _
      | exact bucket_Sort_int_two.mono _ _ _ _
      | exact tangramlaw06_wakes.mono _
      | exact tangramref03_SameInts.mono _ _ _
      | exact LeO.none _
      | refine LeO.ite ?_ ?_
      | refine LeO.bind ?_ (fun _ => ?_)
    · intro y0 y1 y2 y3 y4 y5
      unfold tangramlaw06_BucketStable.j3
      repeat' first
      | (with_reducible exact ih0 _ _ _ _)
      | (with_reducible exact ih1 _ _ _ _ _)
      | (with_reducible exact ih2 _ _ _ _ _)
      | (with_reducible exact ih3 _ _ _ _ _ _)
      | (with_reducible exact ih4 _ _ _ _)
      | (with_reducible exact ih5 _ _ _ _)
      | (with_reducible exact bucket_Group.mono _ _ _)
      | (with_reducible exact bucket_Ranks.mono _ _ _)
      | (with_reducible exact bucket_Sort_int.mono _ _ _ _)
      | (with_reducible exact bucket_Sort_int_two.mono _ _ _ _)
      | (with_reducible exact tangramlaw06_wakes.mono _)
      | (with_reducible exact tangramref03_SameInts.mono _ _ _)
      | (with_reducible exact LeO.refl _)
      | (with_reducible exact LeO.none _)
      | (with_reducible refine LeO.ite ?_ ?_)
      | (with_reducible refine LeO.bind ?_ (fun _ => ?_))
      | exact ih0 _ _ _ _
      | exact ih1 _ _ _ _ _
      | exact ih2 _ _ _ _ _
      | exact ih3 _ _ _ _ _ _
      | exact ih4 _ _ _ _
      | exact ih5 _ _ _ _
      | exact bucket_Group.mono _ _ _
      | exact bucket_Ranks.mono _ _ _
      | exact bucket_Sort_int.mono _ _ _ _
      | exact bucket_Sort_int_two.mono _ _ _ _
      | exact tangramlaw06_wakes.mono _
      | exact tangramref03_SameInts.mono _ _ _
      | exact LeO.none _
      | refine LeO.ite ?_ ?_
      | refine LeO.bind ?_ (fun _ => ?_)
    · intro y0 y1 y2 y3
      unfold tangramlaw06_BucketStable.j4
      repeat' first
      | (with_reducible exact ih0 _ _ _ _)
      | (with_reducible exact ih1 _ _ _ _ _)
      | (with_reducible exact ih2 _ _ _ _ _)
      | (with_reducible exact ih3 _ _ _ _ _ _)
      | (with_reducible exact ih4 _ _ _ _)
      | (with_reducible exact ih5 _ _ _ _)
      | (with_reducible exact bucket_Group.mono _ _ _)
      | (with_reducible exact bucket_Ranks.mono _ _ _)
      | (with_reducible exact bucket_Sort_int.mono _ _ _ _)
      | (with_reducible exact bucket_Sort_int_two.mono _ _ _ _)
      | (with_reducible exact tangramlaw06_wakes.mono _)
      | (with_reducible exact tangramref03_SameInts.mono _ _ _)
      | (with_reducible exact LeO.refl _)
      | (with_reducible exact LeO.none _)
      | (with_reducible refine LeO.ite ?_ ?_)
      | (with_reducible refine LeO.bind ?_ (fun _ => ?_))
      | exact ih0 _ _ _ _
      | exact ih1 _ _ _ _ _
      | exact ih2 _ _ _ _ _
      | exact ih3 _ _ _ _ _ _
      | exact ih4 _ _ _ _
      | exact ih5 _ _ _ _
      | exact bucket_Group.mono _ _ _
      | exact bucket_Ranks.mono _ _ _
      | exact bucket_Sort_int.mono _ _ _ _
      | exact bucket_Sort_int_two.mono _ _ _ _
      | exact tangramlaw06_wakes.mono _
      | exact tangramref03_SameInts.mono _ _ _
      | exact LeO.none _
      | refine LeO.ite ?_ ?_
      | refine LeO.bind ?_ (fun _ => ?_)
    · intro y0 y1 y2 y3
      unfold tangramlaw06_BucketStable.l2
      repeat' first
      | (with_reducible exact ih0 _ _ _ _)
      | (with_reducible exact ih1 _ _ _ _ _)
      | (with_reducible exact ih2 _ _ _ _ _)
      | (with_reducible exact ih3 _ _ _ _ _ _)
      | (with_reducible exact ih4 _ _ _ _)
      | (with_reducible exact ih5 _ _ _ _)
      | (with_reducible exact bucket_Group.mono _ _ _)
      | (with_reducible exact bucket_Ranks.mono _ _ _)
      | (with_reducible exact bucket_Sort_int.mono _ _ _ _)
      | (with_reducible exact bucket_Sort_int_two.mono _ _ _ _)
      | (with_reducible exact tangramlaw06_wakes.mono _)
      | (with_reducible exact tangramref03_SameInts.mono _ _ _)
      | (with_reducible exact LeO.refl _)
      | (with_reducible exact LeO.none _)
      | (with_reducible refine LeO.ite ?_ ?_)
      | (with_reducible refine LeO.bind ?_ (fun _ => ?_))
      | exact ih0 _ _ _ _
      | exact ih1 _ _ _ _ _
      | exact ih2 _ _ _ _ _
      | exact ih3 _ _ _ _ _ _
      | exact ih4 _ _ _ _
      | exact ih5 _ _ _ _
      | exact bucket_Group.mono _ _ _
      | exact bucket_Ranks.mono _ _ _
      | exact bucket_Sort_int.mono _ _ _ _
      | exact bucket_Sort_int_two.mono _ _ _ _
      | exact tangramlaw06_wakes.mono _
      | exact tangramref03_SameInts.mono _ _ _
      | exact LeO.none _
      | refine LeO.ite ?_ ?_
      | refine LeO.bind ?_ (fun _ => ?_)
theorem tangramlaw06_BucketStable.mono : ∀ a0 a1 k, LeO (tangramlaw06_BucketStable.f k a0 a1) (tangramlaw06_BucketStable.f (k + 1) a0 a1) := by
  intro a0 a1 k
  obtain ⟨ih0, ih1, ih2, ih3, ih4, ih5⟩ := tangramlaw06_BucketStable.mono_l k
  unfold tangramlaw06_BucketStable.f
  repeat' first
      | (with_reducible exact ih0 _ _ _ _)
      | (with_reducible exact ih1 _ _ _ _ _)
      | (with_reducible exact ih2 _ _ _ _ _)
      | (with_reducible exact ih3 _ _ _ _ _ _)
      | (with_reducible exact ih4 _ _ _ _)
      | (with_reducible exact ih5 _ _ _ _)
      | (with_reducible exact bucket_Group.mono _ _ _)
      | (with_reducible exact bucket_Ranks.mono _ _ _)
      | (with_reducible exact bucket_Sort_int.mono _ _ _ _)
      | (with_reducible exact bucket_Sort_int_two.mono _ _ _ _)
      | (with_reducible exact tangramlaw06_wakes.mono _)
      | (with_reducible exact tangramref03_SameInts.mono _ _ _)
      | (with_reducible exact LeO.refl _)
      | (with_reducible exact LeO.none _)
      | (with_reducible refine LeO.ite ?_ ?_)
      | (with_reducible refine LeO.bind ?_ (fun _ => ?_))
      | exact ih0 _ _ _ _
      | exact ih1 _ _ _ _ _
      | exact ih2 _ _ _ _ _
      | exact ih3 _ _ _ _ _ _
      | exact ih4 _ _ _ _
      | exact ih5 _ _ _ _
      | exact bucket_Group.mono _ _ _
      | exact bucket_Ranks.mono _ _ _
      | exact bucket_Sort_int.mono _ _ _ _
      | exact bucket_Sort_int_two.mono _ _ _ _
      | exact tangramlaw06_wakes.mono _
      | exact tangramref03_SameInts.mono _ _ _
      | exact LeO.none _
      | refine LeO.ite ?_ ?_
      | refine LeO.bind ?_ (fun _ => ?_)
set_option maxHeartbeats 8000000 in
set_option maxRecDepth 100000 in
theorem tangramlaw06_BucketStable.calls (k : Nat) (A0 : Option Addr) (c0 : Nat) (l0 : List Int) (a1 : Int) (r : Bool) (w : World) (hr0 : Kd.C (Kd.int .i64) w A0 l0.length l0) (hc0 : l0.length ≤ c0) (h : tangramlaw06_BucketStable.f k l0 a1 = some r) :
    Calls Try.prog 9 #[.slice A0 l0.length c0, .int .i64 a1] w fun e w' => e = .returned (.bool r) ∧ Below w.heap.size w w' := by
  have HR0 := Aside0.mk hr0
  have HC0 := Aside0.mk hc0
  clear hr0 hc0
  have HB := Aside0.mk (Below.refl w.heap.size w)
  have H : ((x_mkbox.f l0).bind fun t220 => ((tangramlaw06_wakes.f k).bind fun t222 => (if t222 = true then (tangramlaw06_BucketStable.l0 k a1 ([] : List Int) 0 t220) else (some false)))) = some r := h
  clear h
  replace H := Option.bind_eq_some_iff.mp H
  obtain ⟨t220, A30, H⟩ := H
  replace H : ((tangramlaw06_wakes.f k).bind fun t222 => (if t222 = true then (tangramlaw06_BucketStable.l0 k a1 ([] : List Int) 0 t220) else (some false))) = some r := H
  have A3 := Aside0.mk A30
  clear A30
  replace H := Option.bind_eq_some_iff.mp H
  obtain ⟨t222, A40, H⟩ := H
  replace H : (if t222 = true then (tangramlaw06_BucketStable.l0 k a1 ([] : List Int) 0 t220) else (some false)) = some r := H
  have A4 := Aside0.mk A40
  clear A40
  by_cases c5 : t222 = true
  · subst c5
    have H1 : (tangramlaw06_BucketStable.l0 k a1 ([] : List Int) 0 t220) = some r := by rw [if_pos rfl] at H; exact H
    clear H
    have H := H1
    clear H1
    have H' := Aside0.mk H
    clear H
    have hmf_ : ∀ (fn : Fn) (first cap : Array Value) (w : World), (Instr.makeFunc fn first cap).run Try.prog w = .ok (.func fn first cap) w := fun _ _ _ _ => rfl
    go_enter Try.func9, Try.ntmps9
    go_wp2_with (first | ((with_reducible refine gate_dst (N := 2) rfl ?_); refine box_event ?hg (N := 2) ?hd (cs := #[.slice A0 l0.length c0]) (t := 23) ?hr ?_; (case hd => rfl); (case hg => rfl); (case hr => first | (go_simp; done) | (go_simp; rfl)); intro g221 hg_ w6 hbox_ hb2; have hi : IsS23 w w6 g221 t220 := (by have hq_ := Option.some.inj (show some _ = some t220 from A3.out); rw [← hq_]; exact ⟨A0, c0, hbox_, (by rw [hg_]; exact Nat.le_refl _), HR0.out⟩); have hb : Below w.heap.size w w6 := hb2; clear hbox_ hg_; have n0_ := Aside0.mk (hb); have n1_ := Aside0.mk (hi); clear HB; have HB := n0_; have HI221 := n1_; clear n0_ n1_; (try clear hb); (try clear hb2); (try clear hk); (try clear hi)) | (go_at_call 15; (with_reducible refine (tangramlaw06_wakes.calls k  true _ A4.out).mono ?_); rintro e w7 ⟨rfl, hb⟩; have n0_ := Aside0.mk (IsS23.below (by repeat (first | (with_reducible first | exact HI221.out | apply IsS23.alloc | apply IsS23.drewN | apply IsS23.drew) | exact HI221.out)) hb); have n1_ := Aside0.mk (below_step (by repeat (first | (with_reducible first | exact HB.out | apply below_alloc | apply pw_below_drewN | apply below_drew1 | refine below_set ?_ (IsS23.ge HI221.out)) | exact HB.out)) hb); clear HI221; clear HB; have HI221 := n0_; have HB := n1_; clear n0_ n1_; (try clear hb); (try clear hb2); (try clear hk); (try clear hi)))
    repeat (go_quiet (first | ((with_reducible refine gate_dst (N := 2) rfl ?_); refine box_event ?hg (N := 2) ?hd (cs := #[.slice A0 l0.length c0]) (t := 23) ?hr ?_; (case hd => rfl); (case hg => rfl); (case hr => first | (go_simp; done) | (go_simp; rfl)); intro g221 hg_ w6 hbox_ hb2; have hi : IsS23 w w6 g221 t220 := (by have hq_ := Option.some.inj (show some _ = some t220 from A3.out); rw [← hq_]; exact ⟨A0, c0, hbox_, (by rw [hg_]; exact Nat.le_refl _), HR0.out⟩); have hb : Below w.heap.size w w6 := hb2; clear hbox_ hg_; have n0_ := Aside0.mk (hb); have n1_ := Aside0.mk (hi); clear HB; have HB := n0_; have HI221 := n1_; clear n0_ n1_; (try clear hb); (try clear hb2); (try clear hk); (try clear hi)) | (go_at_call 15; (with_reducible refine (tangramlaw06_wakes.calls k  true _ A4.out).mono ?_); rintro e w7 ⟨rfl, hb⟩; have n0_ := Aside0.mk (IsS23.below (by repeat (first | (with_reducible first | exact HI221.out | apply IsS23.alloc | apply IsS23.drewN | apply IsS23.drew) | exact HI221.out)) hb); have n1_ := Aside0.mk (below_step (by repeat (first | (with_reducible first | exact HB.out | apply below_alloc | apply pw_below_drewN | apply below_drew1 | refine below_set ?_ (IsS23.ge HI221.out)) | exact HB.out)) hb); clear HI221; clear HB; have HI221 := n0_; have HB := n1_; clear n0_ n1_; (try clear hb); (try clear hb2); (try clear hk); (try clear hi))); try go_wp2_with (first | ((with_reducible refine gate_dst (N := 2) rfl ?_); refine box_event ?hg (N := 2) ?hd (cs := #[.slice A0 l0.length c0]) (t := 23) ?hr ?_; (case hd => rfl); (case hg => rfl); (case hr => first | (go_simp; done) | (go_simp; rfl)); intro g221 hg_ w6 hbox_ hb2; have hi : IsS23 w w6 g221 t220 := (by have hq_ := Option.some.inj (show some _ = some t220 from A3.out); rw [← hq_]; exact ⟨A0, c0, hbox_, (by rw [hg_]; exact Nat.le_refl _), HR0.out⟩); have hb : Below w.heap.size w w6 := hb2; clear hbox_ hg_; have n0_ := Aside0.mk (hb); have n1_ := Aside0.mk (hi); clear HB; have HB := n0_; have HI221 := n1_; clear n0_ n1_; (try clear hb); (try clear hb2); (try clear hk); (try clear hi)) | (go_at_call 15; (with_reducible refine (tangramlaw06_wakes.calls k  true _ A4.out).mono ?_); rintro e w7 ⟨rfl, hb⟩; have n0_ := Aside0.mk (IsS23.below (by repeat (first | (with_reducible first | exact HI221.out | apply IsS23.alloc | apply IsS23.drewN | apply IsS23.drew) | exact HI221.out)) hb); have n1_ := Aside0.mk (below_step (by repeat (first | (with_reducible first | exact HB.out | apply below_alloc | apply pw_below_drewN | apply below_drew1 | refine below_set ?_ (IsS23.ge HI221.out)) | exact HB.out)) hb); clear HI221; clear HB; have HI221 := n0_; have HB := n1_; clear n0_ n1_; (try clear hb); (try clear hb2); (try clear hk); (try clear hi))))
    go_loopg [5, 6] k (fun kq v5 v6 w' => ∃ (x5_1 : List Int) (x6_1 : Int), v6 = .int .i64 x6_1 ∧ Aside0 (tangramlaw06_BucketStable.l0 kq a1 x5_1 x6_1 t220 = some r) ∧ Aside0 (kq ≤ k) ∧ Aside0 (Kd.R (Kd.int .i64) 3 w' w.heap.size (fun _ => True) v5 x5_1) ∧ Aside0 (IsS23 w w' g221 t220) ∧ Aside0 (Below w.heap.size w w'))
    case atStart => exact ⟨(([] : List Int)), (0), (by first | rfl | (simp; done) | (simp [*]; done)), H', ⟨Nat.le_refl _⟩, ⟨by first | exact Kd.R_nil _ _ _ _ _ | exact Kd.N_nil _ _ _ _ _ | exact Kd.V_nil _ _ _ _ _ | exact Kd.Q_nil _ _ _ _ _ | exact Kd.S_nil _ _ _ _ _⟩, ⟨by repeat (first | (with_reducible first | exact HI221.out | apply IsS23.alloc | apply IsS23.drewN | apply IsS23.drew) | exact HI221.out)⟩, ⟨by repeat (first | (with_reducible first | exact HB.out | apply below_alloc | apply pw_below_drewN | apply below_drew1 | refine below_set ?_ (IsS23.ge HI221.out)) | exact HB.out)⟩⟩
    case round =>
      clear H'
      try clear p2
      try clear c5
      obtain ⟨x5_1, x6_1, rfl, HA, HK1, HO_5, HI221, HB⟩ := hrel
      cases gk with
      | zero => exact absurd HA.out (by simp [tangramlaw06_BucketStable.l0])
      | succ k1 =>
        have H := HA.out
        clear HA
        simp only [tangramlaw06_BucketStable.l0] at H
        by_cases c8 : x6_1 < (t220.length : Int)
        · rw [if_pos c8] at H
          have c8b0 : decide (x6_1 < (t220.length : Int)) = true := decide_eq_true c8
          clear c8
          by_cases c9 : x5_1.length < 17592186044416
          · rw [if_pos c9] at H
            have LMc9 := Aside0.mk c9
            clear c9
            obtain ⟨y223, hy223⟩ : ∃ y_ : List Int, y_ = (x5_1 ++ [x6_1]) := ⟨_, rfl⟩
            replace H : (tangramlaw06_BucketStable.l0 k1 a1 y223 (wrap64 (x6_1 + 1)) t220) = some r := by first | (rw [hy223]; with_reducible exact H) | (have H2_ := (Option.bind_some _ _).symm.trans H; rw [hy223]; with_reducible exact H2_) | (have H2_ := (Option.bind_some _ _).symm.trans H; with_reducible exact H2_) | with_reducible exact H | (rw [hy223]; exact H) | exact H
            have Ny223 := Aside0.mk hy223
            clear hy223
            have H' := Aside0.mk H
            clear H
            obtain ⟨ASz10_0, cSz10_0, HGz10, hgz10, HSz10_0⟩ := HI221.out
            have hcz10_0 := cellS23_0 HGz10
            clear HGz10 hgz10
            go_wp2_with (first | ((with_reducible refine gate_builtin (b := .append) (xs := #[.tmp 26, .tmp 28]) rfl ?_); (try (refine gate_guard (by rfl) ?_; dsimp only)); at_builtin; refine Kd.R_append (Kd.int .i64) (w0 := w) w.heap.size rfl (.tmp 26) (.tmp 28) 23 3 (.int .i64 0) 8 rfl Try.underlying23 info3 rfl (by decide) (by omega) u5 x5_1 x6_1 [.int .i64 x6_1] (fun _ => True) (fun _ => False) rfl rfl ?aP (fun _ hk => hk.elim) ?aF ?aO ?aB ?aS ?aL ?_; (case aP => exact rfl); (case aB => exact (by repeat (first | (with_reducible first | exact HB.out | apply below_alloc | apply pw_below_drewN | apply below_drew1 | refine below_set ?_ (IsS23.ge HI221.out)) | exact HB.out))); (case aF => exact (fun _ _ => trivial)); (case aO => exact (by (with_reducible repeat (first | apply Kd.R_alloc | apply Kd.R_drewN | apply Kd.R_drew)); exact HO_5.out)); (case aS => exact (below_size (by repeat (first | (with_reducible first | exact HB.out | apply below_alloc | apply pw_below_drewN | apply below_drew1 | refine below_set ?_ (IsS23.ge HI221.out)) | exact HB.out)))); (case aL => have := LMc9.out; omega); intro v224 w11 ho hb hg hat; rw [← Ny223.out] at ho; have n0_ := Aside0.mk (IsS23.grown (by repeat (first | (with_reducible first | exact HI221.out | apply IsS23.alloc | apply IsS23.drewN | apply IsS23.drew) | exact HI221.out)) hg (IsS23.own_ne HI221.out HO_5.out (by decide))); have n1_ := Aside0.mk (hb); have n2_ := Aside0.mk (ho); clear HI221; clear HB; clear HO_5; have HI221 := n0_; have HB := n1_; have HO225 := n2_; clear n0_ n1_ n2_; clear ho hb hg hat))
            repeat (go_quiet (first | ((with_reducible refine gate_builtin (b := .append) (xs := #[.tmp 26, .tmp 28]) rfl ?_); (try (refine gate_guard (by rfl) ?_; dsimp only)); at_builtin; refine Kd.R_append (Kd.int .i64) (w0 := w) w.heap.size rfl (.tmp 26) (.tmp 28) 23 3 (.int .i64 0) 8 rfl Try.underlying23 info3 rfl (by decide) (by omega) u5 x5_1 x6_1 [.int .i64 x6_1] (fun _ => True) (fun _ => False) rfl rfl ?aP (fun _ hk => hk.elim) ?aF ?aO ?aB ?aS ?aL ?_; (case aP => exact rfl); (case aB => exact (by repeat (first | (with_reducible first | exact HB.out | apply below_alloc | apply pw_below_drewN | apply below_drew1 | refine below_set ?_ (IsS23.ge HI221.out)) | exact HB.out))); (case aF => exact (fun _ _ => trivial)); (case aO => exact (by (with_reducible repeat (first | apply Kd.R_alloc | apply Kd.R_drewN | apply Kd.R_drew)); exact HO_5.out)); (case aS => exact (below_size (by repeat (first | (with_reducible first | exact HB.out | apply below_alloc | apply pw_below_drewN | apply below_drew1 | refine below_set ?_ (IsS23.ge HI221.out)) | exact HB.out)))); (case aL => have := LMc9.out; omega); intro v224 w11 ho hb hg hat; rw [← Ny223.out] at ho; have n0_ := Aside0.mk (IsS23.grown (by repeat (first | (with_reducible first | exact HI221.out | apply IsS23.alloc | apply IsS23.drewN | apply IsS23.drew) | exact HI221.out)) hg (IsS23.own_ne HI221.out HO_5.out (by decide))); have n1_ := Aside0.mk (hb); have n2_ := Aside0.mk (ho); clear HI221; clear HB; clear HO_5; have HI221 := n0_; have HB := n1_; have HO225 := n2_; clear n0_ n1_ n2_; clear ho hb hg hat)); try go_wp2_with (first | ((with_reducible refine gate_builtin (b := .append) (xs := #[.tmp 26, .tmp 28]) rfl ?_); (try (refine gate_guard (by rfl) ?_; dsimp only)); at_builtin; refine Kd.R_append (Kd.int .i64) (w0 := w) w.heap.size rfl (.tmp 26) (.tmp 28) 23 3 (.int .i64 0) 8 rfl Try.underlying23 info3 rfl (by decide) (by omega) u5 x5_1 x6_1 [.int .i64 x6_1] (fun _ => True) (fun _ => False) rfl rfl ?aP (fun _ hk => hk.elim) ?aF ?aO ?aB ?aS ?aL ?_; (case aP => exact rfl); (case aB => exact (by repeat (first | (with_reducible first | exact HB.out | apply below_alloc | apply pw_below_drewN | apply below_drew1 | refine below_set ?_ (IsS23.ge HI221.out)) | exact HB.out))); (case aF => exact (fun _ _ => trivial)); (case aO => exact (by (with_reducible repeat (first | apply Kd.R_alloc | apply Kd.R_drewN | apply Kd.R_drew)); exact HO_5.out)); (case aS => exact (below_size (by repeat (first | (with_reducible first | exact HB.out | apply below_alloc | apply pw_below_drewN | apply below_drew1 | refine below_set ?_ (IsS23.ge HI221.out)) | exact HB.out)))); (case aL => have := LMc9.out; omega); intro v224 w11 ho hb hg hat; rw [← Ny223.out] at ho; have n0_ := Aside0.mk (IsS23.grown (by repeat (first | (with_reducible first | exact HI221.out | apply IsS23.alloc | apply IsS23.drewN | apply IsS23.drew) | exact HI221.out)) hg (IsS23.own_ne HI221.out HO_5.out (by decide))); have n1_ := Aside0.mk (hb); have n2_ := Aside0.mk (ho); clear HI221; clear HB; clear HO_5; have HI221 := n0_; have HB := n1_; have HO225 := n2_; clear n0_ n1_ n2_; clear ho hb hg hat)))
            go_roundg k1
            case measure => have := HK1.out; omega
            case rel => exact ⟨(y223), (wrap64 (x6_1 + 1)), (by first | rfl | (simp; done) | (simp [*]; done)), H', ⟨by have := HK1.out; omega⟩, ⟨by (with_reducible repeat (first | apply Kd.R_alloc | apply Kd.R_drewN | apply Kd.R_drew)); exact HO225.out⟩, ⟨by repeat (first | (with_reducible first | exact HI221.out | apply IsS23.alloc | apply IsS23.drewN | apply IsS23.drew) | exact HI221.out)⟩, ⟨by repeat (first | (with_reducible first | exact HB.out | apply below_alloc | apply pw_below_drewN | apply below_drew1 | refine below_set ?_ (IsS23.ge HI221.out)) | exact HB.out)⟩⟩
          · rw [if_neg c9] at H
            exact absurd H (by simp)
        · rw [if_neg c8] at H
          have c8b0 : decide (x6_1 < (t220.length : Int)) = false := decide_eq_false c8
          clear c8
          replace H := Option.bind_eq_some_iff.mp H
          obtain ⟨⟨t226, t229⟩, A120, H⟩ := H
          replace H : ((some (([] : List Int) : List Int)).bind fun y230 => (if y230.length + t220.length < 17592186044416 then ((bucket_Ranks.f k1 (y230 ++ t220) a1).bind fun bt236 => (if t229 = bt236.2 then (if t229 = 0 then (if (t226.length : Int) = (t220.length : Int) then (tangramlaw06_BucketStable.j1 k1 a1 t226 bt236.1 ((bt236.1.length : Int) != (t220.length : Int)) t220) else (tangramlaw06_BucketStable.j1 k1 a1 t226 bt236.1 true t220)) else (if (t226.length : Int) = 0 then (some ((bt236.1.length : Int) == 0)) else (some false))) else (some false))) else (none))) = some r := H
          have A12 := Aside0.mk A120
          clear A120
          obtain ⟨y230, hy230⟩ : ∃ y_ : List Int, y_ = (([] : List Int)) := ⟨_, rfl⟩
          replace H : (if y230.length + t220.length < 17592186044416 then ((bucket_Ranks.f k1 (y230 ++ t220) a1).bind fun bt236 => (if t229 = bt236.2 then (if t229 = 0 then (if (t226.length : Int) = (t220.length : Int) then (tangramlaw06_BucketStable.j1 k1 a1 t226 bt236.1 ((bt236.1.length : Int) != (t220.length : Int)) t220) else (tangramlaw06_BucketStable.j1 k1 a1 t226 bt236.1 true t220)) else (if (t226.length : Int) = 0 then (some ((bt236.1.length : Int) == 0)) else (some false))) else (some false))) else (none)) = some r := by first | (rw [hy230]; with_reducible exact H) | (have H2_ := (Option.bind_some _ _).symm.trans H; rw [hy230]; with_reducible exact H2_) | (have H2_ := (Option.bind_some _ _).symm.trans H; with_reducible exact H2_) | with_reducible exact H | (rw [hy230]; exact H) | exact H
          have Ny230 := Aside0.mk hy230
          clear hy230
          by_cases c13 : y230.length + t220.length < 17592186044416
          · rw [if_pos c13] at H
            have LMc13 := Aside0.mk c13
            clear c13
            obtain ⟨y233, hy233⟩ : ∃ y_ : List Int, y_ = (y230 ++ t220) := ⟨_, rfl⟩
            replace H : ((bucket_Ranks.f k1 y233 a1).bind fun bt236 => (if t229 = bt236.2 then (if t229 = 0 then (if (t226.length : Int) = (t220.length : Int) then (tangramlaw06_BucketStable.j1 k1 a1 t226 bt236.1 ((bt236.1.length : Int) != (t220.length : Int)) t220) else (tangramlaw06_BucketStable.j1 k1 a1 t226 bt236.1 true t220)) else (if (t226.length : Int) = 0 then (some ((bt236.1.length : Int) == 0)) else (some false))) else (some false))) = some r := by first | (rw [hy233]; with_reducible exact H) | (have H2_ := (Option.bind_some _ _).symm.trans H; rw [hy233]; with_reducible exact H2_) | (have H2_ := (Option.bind_some _ _).symm.trans H; with_reducible exact H2_) | with_reducible exact H | (rw [hy233]; exact H) | exact H
            have Ny233 := Aside0.mk hy233
            clear hy233
            replace H := Option.bind_eq_some_iff.mp H
            obtain ⟨⟨t236, t237⟩, A140, H⟩ := H
            replace H : (if t229 = t237 then (if t229 = 0 then (if (t226.length : Int) = (t220.length : Int) then (tangramlaw06_BucketStable.j1 k1 a1 t226 t236 ((t236.length : Int) != (t220.length : Int)) t220) else (tangramlaw06_BucketStable.j1 k1 a1 t226 t236 true t220)) else (if (t226.length : Int) = 0 then (some ((t236.length : Int) == 0)) else (some false))) else (some false)) = some r := H
            have A14 := Aside0.mk A140
            clear A140
            by_cases c15 : t229 = t237
            · rw [if_pos c15] at H
              have c15b0 : (t229 == t237) = true := beq_iff_eq.mpr c15
              have c15b1 : (t229 != t237) = false := bne_eq_false_iff_eq.mpr c15
              clear c15
              by_cases c16 : t229 = 0
              · rw [if_pos c16] at H
                have c16b0 : (t229 == 0) = true := beq_iff_eq.mpr c16
                have c16b1 : (t229 != 0) = false := bne_eq_false_iff_eq.mpr c16
                clear c16
                have HC17 := Aside0.mk H
                clear H
                obtain ⟨ASz18_0, cSz18_0, HGz18, hgz18, HSz18_0⟩ := HI221.out
                have hcz18_0 := cellS23_0 HGz18
                clear HGz18 hgz18
                obtain ⟨Ao19, co19, eo19⟩ := Kd.R_slice HO_5.out
                subst eo19
                go_upto_region 14 with (first | (go_at_call 19; (with_reducible refine (bucket_Sort_int.calls k1 _ _ x5_1 g221 t220 a1 t226 t229 w _ ?side1 ?side2 ?side3 ?side4 ?side5 A12.out).mono ?_); (case side1 => repeat (first | (with_reducible first | exact HI221.out | apply IsS23.alloc | apply IsS23.drewN | apply IsS23.drew) | exact HI221.out)); (case side2 => repeat (first | (with_reducible first | exact HB.out | apply below_alloc | apply pw_below_drewN | apply below_drew1 | refine below_set ?_ (IsS23.ge HI221.out)) | exact HB.out)); (case side3 => repeat (first | exact (Kd.R_reads' HO_5.out).2.2 | (with_reducible refine Kd.C_alloc ?_ _) | (with_reducible refine Kd.C_drewN ?_ _) | (with_reducible refine Kd.C_drew ?_))); (case side4 => exact (Kd.R_reads' HO_5.out).2.1); (case side5 => exact far_slice (IsS23.own_ne HI221.out HO_5.out (by decide))); rintro e w20 ⟨v227, rfl, ho0, hi, hb, hk⟩; have n0_ := Aside0.mk (Kd.R_mono (Kd.R_told (Kd.R_oldK (IsS23.apart (show IsS23 w _ g221 t220 from by repeat (first | (with_reducible first | exact HI221.out | apply IsS23.alloc | apply IsS23.drewN | apply IsS23.drew) | exact HI221.out)) (by (with_reducible repeat (first | apply Kd.R_alloc | apply Kd.R_drewN | apply Kd.R_drew)); exact HO_5.out) (by decide)) hk) (Kd.R_base ho0)) (fun _ h_ => h_.1)); have n1_ := Aside0.mk (Kd.R_lower (Kd.R_new' ho0 (Kd.R_lt (by (with_reducible repeat (first | apply Kd.R_alloc | apply Kd.R_drewN | apply Kd.R_drew)); exact HO_5.out))) (below_size (by repeat (first | (with_reducible first | exact HB.out | apply below_alloc | apply pw_below_drewN | apply below_drew1 | refine below_set ?_ (IsS23.ge HI221.out)) | exact HB.out)))); have n2_ := Aside0.mk (hb); have n3_ := Aside0.mk (hi); clear HO_5; clear HB; clear HI221; have HO_5 := n0_; have HO228 := n1_; have HB := n2_; have HI221 := n3_; clear n0_ n1_ n2_ n3_; (try clear hb); (try clear hb2); (try clear hk); (try clear hi); (try clear ho0)) | ((with_reducible refine gate_dst (N := 38) rfl ?_); (try (refine gate_guard (by rfl) ?_; dsimp only)); refine Kd.R_lit (Kd.int .i64) _ 3 ?hg (N := 38) ?hd (xs := ([] : List Int)) (inner := []) (ok := fun _ => True) (okp := fun _ => True) ?hr ?hp (fun _ hk => hk) trivial (Below.refl _ _) (Nat.le_refl _) (by simp) ?_; (case hd => rfl); (case hg => rfl); (case hr => first | (go_simp; done) | (go_simp; rfl)); (case hp => exact (Reps.none _ _)); intro v231 w21 ho22 hb hg_ hnew_; clear hg_ hnew_; (first | rw [← Ny230.out] at ho22 | (simp only [Int.reduceToNat] at ho22; rw [← Ny230.out] at ho22)); have n0_ := Aside0.mk (Kd.R_elder' (by (with_reducible repeat (first | apply Kd.R_alloc | apply Kd.R_drewN | apply Kd.R_drew)); exact HO_5.out) (Kd.R_base ho22) hb); have n1_ := Aside0.mk (Kd.R_elder' (by (with_reducible repeat (first | apply Kd.R_alloc | apply Kd.R_drewN | apply Kd.R_drew)); exact HO228.out) (Kd.R_base ho22) hb); have n2_ := Aside0.mk (Kd.R_lower (Kd.R_new' (Kd.R_new' ho22 (Kd.R_lt (by (with_reducible repeat (first | apply Kd.R_alloc | apply Kd.R_drewN | apply Kd.R_drew)); exact HO_5.out))) (Kd.R_lt (by (with_reducible repeat (first | apply Kd.R_alloc | apply Kd.R_drewN | apply Kd.R_drew)); exact HO228.out))) (below_size (by repeat (first | (with_reducible first | exact HB.out | apply below_alloc | apply pw_below_drewN | apply below_drew1 | refine below_set ?_ (IsS23.ge HI221.out)) | exact HB.out)))); have n3_ := Aside0.mk (IsS23.below (by repeat (first | (with_reducible first | exact HI221.out | apply IsS23.alloc | apply IsS23.drewN | apply IsS23.drew) | exact HI221.out)) hb); have n4_ := Aside0.mk (below_step (by repeat (first | (with_reducible first | exact HB.out | apply below_alloc | apply pw_below_drewN | apply below_drew1 | refine below_set ?_ (IsS23.ge HI221.out)) | exact HB.out)) hb); clear HO_5; clear HO228; clear HI221; clear HB; have HO_5 := n0_; have HO228 := n1_; have HO232 := n2_; have HI221 := n3_; have HB := n4_; clear n0_ n1_ n2_ n3_ n4_; clear hb ho22; obtain ⟨ASz23_0, cSz23_0, HGz23, hgz23, HSz23_0⟩ := HI221.out; have hcz23_0 := cellS23_0 HGz23; clear HGz23 hgz23) | ((with_reducible refine gate_builtin (b := .append) (xs := #[.tmp 38, .tmp 39]) rfl ?_); (try (refine gate_guard (by rfl) ?_; dsimp only)); at_builtin; refine Kd.R_append_rows (Kd.int .i64) (w0 := w) w.heap.size rfl (.tmp 38) (.tmp 39) 23 3 (.int .i64 0) 8 rfl Try.underlying23 info3 rfl (by decide) (by omega) v231 y230 t220 _ _ _ (fun k_ => some k_ ≠ (.slice Ao19 x5_1.length co19 : Value).ownBlock ∧ some k_ ≠ (v227 : Value).ownBlock) (fun _ => False) rfl rfl ?aO ?aR (fun _ _ h => h) (fun _ h => h.elim) ?aF ?aB ?aS ?aL ?_; (case aR => exact Kd.C_below HSz23_0 (by repeat (first | (with_reducible first | exact HB.out | apply below_alloc | apply pw_below_drewN | apply below_drew1 | refine below_set ?_ (IsS23.ge HI221.out)) | exact HB.out))); (case aB => exact (by repeat (first | (with_reducible first | exact HB.out | apply below_alloc | apply pw_below_drewN | apply below_drew1 | refine below_set ?_ (IsS23.ge HI221.out)) | exact HB.out))); (case aF => exact (fun k_ hk => ⟨Kd.fresh' (Kd.R_lt (by (with_reducible repeat (first | apply Kd.R_alloc | apply Kd.R_drewN | apply Kd.R_drew)); exact HO_5.out)) k_ hk, Kd.fresh' (Kd.R_lt (by (with_reducible repeat (first | apply Kd.R_alloc | apply Kd.R_drewN | apply Kd.R_drew)); exact HO228.out)) k_ hk⟩)); (case aO => exact (by (with_reducible repeat (first | apply Kd.R_alloc | apply Kd.R_drewN | apply Kd.R_drew)); exact Kd.R_mono HO232.out (fun _ hk => ⟨hk.1.2, hk.2⟩))); (case aS => exact (below_size (by repeat (first | (with_reducible first | exact HB.out | apply below_alloc | apply pw_below_drewN | apply below_drew1 | refine below_set ?_ (IsS23.ge HI221.out)) | exact HB.out)))); (case aL => have := LMc13.out; omega); intro v234 w24 ho hb hg hat; rw [← Ny233.out] at ho; have n0_ := Aside0.mk (Kd.R_after (ok := (fun k_ => some k_ ≠ (v227 : Value).ownBlock)) (by (with_reducible repeat (first | apply Kd.R_alloc | apply Kd.R_drewN | apply Kd.R_drew)); exact Kd.R_mono HO_5.out (fun _ hk => ⟨hk.1.2, hk.2⟩)) hg hat); have n1_ := Aside0.mk (IsS23.grown (by repeat (first | (with_reducible first | exact HI221.out | apply IsS23.alloc | apply IsS23.drewN | apply IsS23.drew) | exact HI221.out)) hg (IsS23.own_ne HI221.out HO232.out (by decide))); have n2_ := Aside0.mk (Kd.R_after (ok := (fun k_ => some k_ ≠ (.slice Ao19 x5_1.length co19 : Value).ownBlock)) (by (with_reducible repeat (first | apply Kd.R_alloc | apply Kd.R_drewN | apply Kd.R_drew)); exact Kd.R_mono HO228.out (fun _ hk => ⟨hk.1.2, hk.2⟩)) hg hat); have n3_ := Aside0.mk (hb); have n4_ := Aside0.mk (ho); clear HO_5; clear HI221; clear HO228; clear HB; clear HO232; have HO_5 := n0_; have HI221 := n1_; have HO228 := n2_; have HB := n3_; have HO235 := n4_; clear n0_ n1_ n2_ n3_ n4_; clear ho hb hg hat; obtain ⟨Ao25, co25, eo25⟩ := Kd.R_slice HO235.out; subst eo25) | (go_at_call 17; (with_reducible refine (bucket_Ranks.calls k1 _ _ y233 a1 t236 t237 _ ?side1 ?side2 A14.out).mono ?_); (case side1 => repeat (first | exact (Kd.R_reads' HO235.out).2.2 | (with_reducible refine Kd.C_alloc ?_ _) | (with_reducible refine Kd.C_drewN ?_ _) | (with_reducible refine Kd.C_drew ?_))); (case side2 => exact (Kd.R_reads' HO235.out).2.1); rintro e w26 ⟨v238, rfl, ho0, hb⟩; have n0_ := Aside0.mk (Kd.R_elder' (by (with_reducible repeat (first | apply Kd.R_alloc | apply Kd.R_drewN | apply Kd.R_drew)); exact HO_5.out) (Kd.R_base ho0) hb); have n1_ := Aside0.mk (Kd.R_elder' (by (with_reducible repeat (first | apply Kd.R_alloc | apply Kd.R_drewN | apply Kd.R_drew)); exact HO228.out) (Kd.R_base ho0) hb); have n2_ := Aside0.mk (Kd.R_elder' (by (with_reducible repeat (first | apply Kd.R_alloc | apply Kd.R_drewN | apply Kd.R_drew)); exact HO235.out) (Kd.R_base ho0) hb); have n3_ := Aside0.mk (Kd.R_lower (Kd.R_new' (Kd.R_new' (Kd.R_new' ho0 (Kd.R_lt (by (with_reducible repeat (first | apply Kd.R_alloc | apply Kd.R_drewN | apply Kd.R_drew)); exact HO_5.out))) (Kd.R_lt (by (with_reducible repeat (first | apply Kd.R_alloc | apply Kd.R_drewN | apply Kd.R_drew)); exact HO228.out))) (Kd.R_lt (by (with_reducible repeat (first | apply Kd.R_alloc | apply Kd.R_drewN | apply Kd.R_drew)); exact HO235.out))) (below_size (by repeat (first | (with_reducible first | exact HB.out | apply below_alloc | apply pw_below_drewN | apply below_drew1 | refine below_set ?_ (IsS23.ge HI221.out)) | exact HB.out)))); have n4_ := Aside0.mk (IsS23.below (by repeat (first | (with_reducible first | exact HI221.out | apply IsS23.alloc | apply IsS23.drewN | apply IsS23.drew) | exact HI221.out)) hb); have n5_ := Aside0.mk (below_step (by repeat (first | (with_reducible first | exact HB.out | apply below_alloc | apply pw_below_drewN | apply below_drew1 | refine below_set ?_ (IsS23.ge HI221.out)) | exact HB.out)) hb); clear HO_5; clear HO228; clear HO235; clear HI221; clear HB; have HO_5 := n0_; have HO228 := n1_; have HO235 := n2_; have HO239 := n3_; have HI221 := n4_; have HB := n5_; clear n0_ n1_ n2_ n3_ n4_ n5_; (try clear hb); (try clear hb2); (try clear hk); (try clear hi); (try clear ho0)))
                repeat (go_quiet (first | (go_at_call 19; (with_reducible refine (bucket_Sort_int.calls k1 _ _ x5_1 g221 t220 a1 t226 t229 w _ ?side1 ?side2 ?side3 ?side4 ?side5 A12.out).mono ?_); (case side1 => repeat (first | (with_reducible first | exact HI221.out | apply IsS23.alloc | apply IsS23.drewN | apply IsS23.drew) | exact HI221.out)); (case side2 => repeat (first | (with_reducible first | exact HB.out | apply below_alloc | apply pw_below_drewN | apply below_drew1 | refine below_set ?_ (IsS23.ge HI221.out)) | exact HB.out)); (case side3 => repeat (first | exact (Kd.R_reads' HO_5.out).2.2 | (with_reducible refine Kd.C_alloc ?_ _) | (with_reducible refine Kd.C_drewN ?_ _) | (with_reducible refine Kd.C_drew ?_))); (case side4 => exact (Kd.R_reads' HO_5.out).2.1); (case side5 => exact far_slice (IsS23.own_ne HI221.out HO_5.out (by decide))); rintro e w20 ⟨v227, rfl, ho0, hi, hb, hk⟩; have n0_ := Aside0.mk (Kd.R_mono (Kd.R_told (Kd.R_oldK (IsS23.apart (show IsS23 w _ g221 t220 from by repeat (first | (with_reducible first | exact HI221.out | apply IsS23.alloc | apply IsS23.drewN | apply IsS23.drew) | exact HI221.out)) (by (with_reducible repeat (first | apply Kd.R_alloc | apply Kd.R_drewN | apply Kd.R_drew)); exact HO_5.out) (by decide)) hk) (Kd.R_base ho0)) (fun _ h_ => h_.1)); have n1_ := Aside0.mk (Kd.R_lower (Kd.R_new' ho0 (Kd.R_lt (by (with_reducible repeat (first | apply Kd.R_alloc | apply Kd.R_drewN | apply Kd.R_drew)); exact HO_5.out))) (below_size (by repeat (first | (with_reducible first | exact HB.out | apply below_alloc | apply pw_below_drewN | apply below_drew1 | refine below_set ?_ (IsS23.ge HI221.out)) | exact HB.out)))); have n2_ := Aside0.mk (hb); have n3_ := Aside0.mk (hi); clear HO_5; clear HB; clear HI221; have HO_5 := n0_; have HO228 := n1_; have HB := n2_; have HI221 := n3_; clear n0_ n1_ n2_ n3_; (try clear hb); (try clear hb2); (try clear hk); (try clear hi); (try clear ho0)) | ((with_reducible refine gate_dst (N := 38) rfl ?_); (try (refine gate_guard (by rfl) ?_; dsimp only)); refine Kd.R_lit (Kd.int .i64) _ 3 ?hg (N := 38) ?hd (xs := ([] : List Int)) (inner := []) (ok := fun _ => True) (okp := fun _ => True) ?hr ?hp (fun _ hk => hk) trivial (Below.refl _ _) (Nat.le_refl _) (by simp) ?_; (case hd => rfl); (case hg => rfl); (case hr => first | (go_simp; done) | (go_simp; rfl)); (case hp => exact (Reps.none _ _)); intro v231 w21 ho22 hb hg_ hnew_; clear hg_ hnew_; (first | rw [← Ny230.out] at ho22 | (simp only [Int.reduceToNat] at ho22; rw [← Ny230.out] at ho22)); have n0_ := Aside0.mk (Kd.R_elder' (by (with_reducible repeat (first | apply Kd.R_alloc | apply Kd.R_drewN | apply Kd.R_drew)); exact HO_5.out) (Kd.R_base ho22) hb); have n1_ := Aside0.mk (Kd.R_elder' (by (with_reducible repeat (first | apply Kd.R_alloc | apply Kd.R_drewN | apply Kd.R_drew)); exact HO228.out) (Kd.R_base ho22) hb); have n2_ := Aside0.mk (Kd.R_lower (Kd.R_new' (Kd.R_new' ho22 (Kd.R_lt (by (with_reducible repeat (first | apply Kd.R_alloc | apply Kd.R_drewN | apply Kd.R_drew)); exact HO_5.out))) (Kd.R_lt (by (with_reducible repeat (first | apply Kd.R_alloc | apply Kd.R_drewN | apply Kd.R_drew)); exact HO228.out))) (below_size (by repeat (first | (with_reducible first | exact HB.out | apply below_alloc | apply pw_below_drewN | apply below_drew1 | refine below_set ?_ (IsS23.ge HI221.out)) | exact HB.out)))); have n3_ := Aside0.mk (IsS23.below (by repeat (first | (with_reducible first | exact HI221.out | apply IsS23.alloc | apply IsS23.drewN | apply IsS23.drew) | exact HI221.out)) hb); have n4_ := Aside0.mk (below_step (by repeat (first | (with_reducible first | exact HB.out | apply below_alloc | apply pw_below_drewN | apply below_drew1 | refine below_set ?_ (IsS23.ge HI221.out)) | exact HB.out)) hb); clear HO_5; clear HO228; clear HI221; clear HB; have HO_5 := n0_; have HO228 := n1_; have HO232 := n2_; have HI221 := n3_; have HB := n4_; clear n0_ n1_ n2_ n3_ n4_; clear hb ho22; obtain ⟨ASz23_0, cSz23_0, HGz23, hgz23, HSz23_0⟩ := HI221.out; have hcz23_0 := cellS23_0 HGz23; clear HGz23 hgz23) | ((with_reducible refine gate_builtin (b := .append) (xs := #[.tmp 38, .tmp 39]) rfl ?_); (try (refine gate_guard (by rfl) ?_; dsimp only)); at_builtin; refine Kd.R_append_rows (Kd.int .i64) (w0 := w) w.heap.size rfl (.tmp 38) (.tmp 39) 23 3 (.int .i64 0) 8 rfl Try.underlying23 info3 rfl (by decide) (by omega) v231 y230 t220 _ _ _ (fun k_ => some k_ ≠ (.slice Ao19 x5_1.length co19 : Value).ownBlock ∧ some k_ ≠ (v227 : Value).ownBlock) (fun _ => False) rfl rfl ?aO ?aR (fun _ _ h => h) (fun _ h => h.elim) ?aF ?aB ?aS ?aL ?_; (case aR => exact Kd.C_below HSz23_0 (by repeat (first | (with_reducible first | exact HB.out | apply below_alloc | apply pw_below_drewN | apply below_drew1 | refine below_set ?_ (IsS23.ge HI221.out)) | exact HB.out))); (case aB => exact (by repeat (first | (with_reducible first | exact HB.out | apply below_alloc | apply pw_below_drewN | apply below_drew1 | refine below_set ?_ (IsS23.ge HI221.out)) | exact HB.out))); (case aF => exact (fun k_ hk => ⟨Kd.fresh' (Kd.R_lt (by (with_reducible repeat (first | apply Kd.R_alloc | apply Kd.R_drewN | apply Kd.R_drew)); exact HO_5.out)) k_ hk, Kd.fresh' (Kd.R_lt (by (with_reducible repeat (first | apply Kd.R_alloc | apply Kd.R_drewN | apply Kd.R_drew)); exact HO228.out)) k_ hk⟩)); (case aO => exact (by (with_reducible repeat (first | apply Kd.R_alloc | apply Kd.R_drewN | apply Kd.R_drew)); exact Kd.R_mono HO232.out (fun _ hk => ⟨hk.1.2, hk.2⟩))); (case aS => exact (below_size (by repeat (first | (with_reducible first | exact HB.out | apply below_alloc | apply pw_below_drewN | apply below_drew1 | refine below_set ?_ (IsS23.ge HI221.out)) | exact HB.out)))); (case aL => have := LMc13.out; omega); intro v234 w24 ho hb hg hat; rw [← Ny233.out] at ho; have n0_ := Aside0.mk (Kd.R_after (ok := (fun k_ => some k_ ≠ (v227 : Value).ownBlock)) (by (with_reducible repeat (first | apply Kd.R_alloc | apply Kd.R_drewN | apply Kd.R_drew)); exact Kd.R_mono HO_5.out (fun _ hk => ⟨hk.1.2, hk.2⟩)) hg hat); have n1_ := Aside0.mk (IsS23.grown (by repeat (first | (with_reducible first | exact HI221.out | apply IsS23.alloc | apply IsS23.drewN | apply IsS23.drew) | exact HI221.out)) hg (IsS23.own_ne HI221.out HO232.out (by decide))); have n2_ := Aside0.mk (Kd.R_after (ok := (fun k_ => some k_ ≠ (.slice Ao19 x5_1.length co19 : Value).ownBlock)) (by (with_reducible repeat (first | apply Kd.R_alloc | apply Kd.R_drewN | apply Kd.R_drew)); exact Kd.R_mono HO228.out (fun _ hk => ⟨hk.1.2, hk.2⟩)) hg hat); have n3_ := Aside0.mk (hb); have n4_ := Aside0.mk (ho); clear HO_5; clear HI221; clear HO228; clear HB; clear HO232; have HO_5 := n0_; have HI221 := n1_; have HO228 := n2_; have HB := n3_; have HO235 := n4_; clear n0_ n1_ n2_ n3_ n4_; clear ho hb hg hat; obtain ⟨Ao25, co25, eo25⟩ := Kd.R_slice HO235.out; subst eo25) | (go_at_call 17; (with_reducible refine (bucket_Ranks.calls k1 _ _ y233 a1 t236 t237 _ ?side1 ?side2 A14.out).mono ?_); (case side1 => repeat (first | exact (Kd.R_reads' HO235.out).2.2 | (with_reducible refine Kd.C_alloc ?_ _) | (with_reducible refine Kd.C_drewN ?_ _) | (with_reducible refine Kd.C_drew ?_))); (case side2 => exact (Kd.R_reads' HO235.out).2.1); rintro e w26 ⟨v238, rfl, ho0, hb⟩; have n0_ := Aside0.mk (Kd.R_elder' (by (with_reducible repeat (first | apply Kd.R_alloc | apply Kd.R_drewN | apply Kd.R_drew)); exact HO_5.out) (Kd.R_base ho0) hb); have n1_ := Aside0.mk (Kd.R_elder' (by (with_reducible repeat (first | apply Kd.R_alloc | apply Kd.R_drewN | apply Kd.R_drew)); exact HO228.out) (Kd.R_base ho0) hb); have n2_ := Aside0.mk (Kd.R_elder' (by (with_reducible repeat (first | apply Kd.R_alloc | apply Kd.R_drewN | apply Kd.R_drew)); exact HO235.out) (Kd.R_base ho0) hb); have n3_ := Aside0.mk (Kd.R_lower (Kd.R_new' (Kd.R_new' (Kd.R_new' ho0 (Kd.R_lt (by (with_reducible repeat (first | apply Kd.R_alloc | apply Kd.R_drewN | apply Kd.R_drew)); exact HO_5.out))) (Kd.R_lt (by (with_reducible repeat (first | apply Kd.R_alloc | apply Kd.R_drewN | apply Kd.R_drew)); exact HO228.out))) (Kd.R_lt (by (with_reducible repeat (first | apply Kd.R_alloc | apply Kd.R_drewN | apply Kd.R_drew)); exact HO235.out))) (below_size (by repeat (first | (with_reducible first | exact HB.out | apply below_alloc | apply pw_below_drewN | apply below_drew1 | refine below_set ?_ (IsS23.ge HI221.out)) | exact HB.out)))); have n4_ := Aside0.mk (IsS23.below (by repeat (first | (with_reducible first | exact HI221.out | apply IsS23.alloc | apply IsS23.drewN | apply IsS23.drew) | exact HI221.out)) hb); have n5_ := Aside0.mk (below_step (by repeat (first | (with_reducible first | exact HB.out | apply below_alloc | apply pw_below_drewN | apply below_drew1 | refine below_set ?_ (IsS23.ge HI221.out)) | exact HB.out)) hb); clear HO_5; clear HO228; clear HO235; clear HI221; clear HB; have HO_5 := n0_; have HO228 := n1_; have HO235 := n2_; have HO239 := n3_; have HI221 := n4_; have HB := n5_; clear n0_ n1_ n2_ n3_ n4_ n5_; (try clear hb); (try clear hb2); (try clear hk); (try clear hi); (try clear ho0))); go_upto_region 14 with (first | (go_at_call 19; (with_reducible refine (bucket_Sort_int.calls k1 _ _ x5_1 g221 t220 a1 t226 t229 w _ ?side1 ?side2 ?side3 ?side4 ?side5 A12.out).mono ?_); (case side1 => repeat (first | (with_reducible first | exact HI221.out | apply IsS23.alloc | apply IsS23.drewN | apply IsS23.drew) | exact HI221.out)); (case side2 => repeat (first | (with_reducible first | exact HB.out | apply below_alloc | apply pw_below_drewN | apply below_drew1 | refine below_set ?_ (IsS23.ge HI221.out)) | exact HB.out)); (case side3 => repeat (first | exact (Kd.R_reads' HO_5.out).2.2 | (with_reducible refine Kd.C_alloc ?_ _) | (with_reducible refine Kd.C_drewN ?_ _) | (with_reducible refine Kd.C_drew ?_))); (case side4 => exact (Kd.R_reads' HO_5.out).2.1); (case side5 => exact far_slice (IsS23.own_ne HI221.out HO_5.out (by decide))); rintro e w20 ⟨v227, rfl, ho0, hi, hb, hk⟩; have n0_ := Aside0.mk (Kd.R_mono (Kd.R_told (Kd.R_oldK (IsS23.apart (show IsS23 w _ g221 t220 from by repeat (first | (with_reducible first | exact HI221.out | apply IsS23.alloc | apply IsS23.drewN | apply IsS23.drew) | exact HI221.out)) (by (with_reducible repeat (first | apply Kd.R_alloc | apply Kd.R_drewN | apply Kd.R_drew)); exact HO_5.out) (by decide)) hk) (Kd.R_base ho0)) (fun _ h_ => h_.1)); have n1_ := Aside0.mk (Kd.R_lower (Kd.R_new' ho0 (Kd.R_lt (by (with_reducible repeat (first | apply Kd.R_alloc | apply Kd.R_drewN | apply Kd.R_drew)); exact HO_5.out))) (below_size (by repeat (first | (with_reducible first | exact HB.out | apply below_alloc | apply pw_below_drewN | apply below_drew1 | refine below_set ?_ (IsS23.ge HI221.out)) | exact HB.out)))); have n2_ := Aside0.mk (hb); have n3_ := Aside0.mk (hi); clear HO_5; clear HB; clear HI221; have HO_5 := n0_; have HO228 := n1_; have HB := n2_; have HI221 := n3_; clear n0_ n1_ n2_ n3_; (try clear hb); (try clear hb2); (try clear hk); (try clear hi); (try clear ho0)) | ((with_reducible refine gate_dst (N := 38) rfl ?_); (try (refine gate_guard (by rfl) ?_; dsimp only)); refine Kd.R_lit (Kd.int .i64) _ 3 ?hg (N := 38) ?hd (xs := ([] : List Int)) (inner := []) (ok := fun _ => True) (okp := fun _ => True) ?hr ?hp (fun _ hk => hk) trivial (Below.refl _ _) (Nat.le_refl _) (by simp) ?_; (case hd => rfl); (case hg => rfl); (case hr => first | (go_simp; done) | (go_simp; rfl)); (case hp => exact (Reps.none _ _)); intro v231 w21 ho22 hb hg_ hnew_; clear hg_ hnew_; (first | rw [← Ny230.out] at ho22 | (simp only [Int.reduceToNat] at ho22; rw [← Ny230.out] at ho22)); have n0_ := Aside0.mk (Kd.R_elder' (by (with_reducible repeat (first | apply Kd.R_alloc | apply Kd.R_drewN | apply Kd.R_drew)); exact HO_5.out) (Kd.R_base ho22) hb); have n1_ := Aside0.mk (Kd.R_elder' (by (with_reducible repeat (first | apply Kd.R_alloc | apply Kd.R_drewN | apply Kd.R_drew)); exact HO228.out) (Kd.R_base ho22) hb); have n2_ := Aside0.mk (Kd.R_lower (Kd.R_new' (Kd.R_new' ho22 (Kd.R_lt (by (with_reducible repeat (first | apply Kd.R_alloc | apply Kd.R_drewN | apply Kd.R_drew)); exact HO_5.out))) (Kd.R_lt (by (with_reducible repeat (first | apply Kd.R_alloc | apply Kd.R_drewN | apply Kd.R_drew)); exact HO228.out))) (below_size (by repeat (first | (with_reducible first | exact HB.out | apply below_alloc | apply pw_below_drewN | apply below_drew1 | refine below_set ?_ (IsS23.ge HI221.out)) | exact HB.out)))); have n3_ := Aside0.mk (IsS23.below (by repeat (first | (with_reducible first | exact HI221.out | apply IsS23.alloc | apply IsS23.drewN | apply IsS23.drew) | exact HI221.out)) hb); have n4_ := Aside0.mk (below_step (by repeat (first | (with_reducible first | exact HB.out | apply below_alloc | apply pw_below_drewN | apply below_drew1 | refine below_set ?_ (IsS23.ge HI221.out)) | exact HB.out)) hb); clear HO_5; clear HO228; clear HI221; clear HB; have HO_5 := n0_; have HO228 := n1_; have HO232 := n2_; have HI221 := n3_; have HB := n4_; clear n0_ n1_ n2_ n3_ n4_; clear hb ho22; obtain ⟨ASz23_0, cSz23_0, HGz23, hgz23, HSz23_0⟩ := HI221.out; have hcz23_0 := cellS23_0 HGz23; clear HGz23 hgz23) | ((with_reducible refine gate_builtin (b := .append) (xs := #[.tmp 38, .tmp 39]) rfl ?_); (try (refine gate_guard (by rfl) ?_; dsimp only)); at_builtin; refine Kd.R_append_rows (Kd.int .i64) (w0 := w) w.heap.size rfl (.tmp 38) (.tmp 39) 23 3 (.int .i64 0) 8 rfl Try.underlying23 info3 rfl (by decide) (by omega) v231 y230 t220 _ _ _ (fun k_ => some k_ ≠ (.slice Ao19 x5_1.length co19 : Value).ownBlock ∧ some k_ ≠ (v227 : Value).ownBlock) (fun _ => False) rfl rfl ?aO ?aR (fun _ _ h => h) (fun _ h => h.elim) ?aF ?aB ?aS ?aL ?_; (case aR => exact Kd.C_below HSz23_0 (by repeat (first | (with_reducible first | exact HB.out | apply below_alloc | apply pw_below_drewN | apply below_drew1 | refine below_set ?_ (IsS23.ge HI221.out)) | exact HB.out))); (case aB => exact (by repeat (first | (with_reducible first | exact HB.out | apply below_alloc | apply pw_below_drewN | apply below_drew1 | refine below_set ?_ (IsS23.ge HI221.out)) | exact HB.out))); (case aF => exact (fun k_ hk => ⟨Kd.fresh' (Kd.R_lt (by (with_reducible repeat (first | apply Kd.R_alloc | apply Kd.R_drewN | apply Kd.R_drew)); exact HO_5.out)) k_ hk, Kd.fresh' (Kd.R_lt (by (with_reducible repeat (first | apply Kd.R_alloc | apply Kd.R_drewN | apply Kd.R_drew)); exact HO228.out)) k_ hk⟩)); (case aO => exact (by (with_reducible repeat (first | apply Kd.R_alloc | apply Kd.R_drewN | apply Kd.R_drew)); exact Kd.R_mono HO232.out (fun _ hk => ⟨hk.1.2, hk.2⟩))); (case aS => exact (below_size (by repeat (first | (with_reducible first | exact HB.out | apply below_alloc | apply pw_below_drewN | apply below_drew1 | refine below_set ?_ (IsS23.ge HI221.out)) | exact HB.out)))); (case aL => have := LMc13.out; omega); intro v234 w24 ho hb hg hat; rw [← Ny233.out] at ho; have n0_ := Aside0.mk (Kd.R_after (ok := (fun k_ => some k_ ≠ (v227 : Value).ownBlock)) (by (with_reducible repeat (first | apply Kd.R_alloc | apply Kd.R_drewN | apply Kd.R_drew)); exact Kd.R_mono HO_5.out (fun _ hk => ⟨hk.1.2, hk.2⟩)) hg hat); have n1_ := Aside0.mk (IsS23.grown (by repeat (first | (with_reducible first | exact HI221.out | apply IsS23.alloc | apply IsS23.drewN | apply IsS23.drew) | exact HI221.out)) hg (IsS23.own_ne HI221.out HO232.out (by decide))); have n2_ := Aside0.mk (Kd.R_after (ok := (fun k_ => some k_ ≠ (.slice Ao19 x5_1.length co19 : Value).ownBlock)) (by (with_reducible repeat (first | apply Kd.R_alloc | apply Kd.R_drewN | apply Kd.R_drew)); exact Kd.R_mono HO228.out (fun _ hk => ⟨hk.1.2, hk.2⟩)) hg hat); have n3_ := Aside0.mk (hb); have n4_ := Aside0.mk (ho); clear HO_5; clear HI221; clear HO228; clear HB; clear HO232; have HO_5 := n0_; have HI221 := n1_; have HO228 := n2_; have HB := n3_; have HO235 := n4_; clear n0_ n1_ n2_ n3_ n4_; clear ho hb hg hat; obtain ⟨Ao25, co25, eo25⟩ := Kd.R_slice HO235.out; subst eo25) | (go_at_call 17; (with_reducible refine (bucket_Ranks.calls k1 _ _ y233 a1 t236 t237 _ ?side1 ?side2 A14.out).mono ?_); (case side1 => repeat (first | exact (Kd.R_reads' HO235.out).2.2 | (with_reducible refine Kd.C_alloc ?_ _) | (with_reducible refine Kd.C_drewN ?_ _) | (with_reducible refine Kd.C_drew ?_))); (case side2 => exact (Kd.R_reads' HO235.out).2.1); rintro e w26 ⟨v238, rfl, ho0, hb⟩; have n0_ := Aside0.mk (Kd.R_elder' (by (with_reducible repeat (first | apply Kd.R_alloc | apply Kd.R_drewN | apply Kd.R_drew)); exact HO_5.out) (Kd.R_base ho0) hb); have n1_ := Aside0.mk (Kd.R_elder' (by (with_reducible repeat (first | apply Kd.R_alloc | apply Kd.R_drewN | apply Kd.R_drew)); exact HO228.out) (Kd.R_base ho0) hb); have n2_ := Aside0.mk (Kd.R_elder' (by (with_reducible repeat (first | apply Kd.R_alloc | apply Kd.R_drewN | apply Kd.R_drew)); exact HO235.out) (Kd.R_base ho0) hb); have n3_ := Aside0.mk (Kd.R_lower (Kd.R_new' (Kd.R_new' (Kd.R_new' ho0 (Kd.R_lt (by (with_reducible repeat (first | apply Kd.R_alloc | apply Kd.R_drewN | apply Kd.R_drew)); exact HO_5.out))) (Kd.R_lt (by (with_reducible repeat (first | apply Kd.R_alloc | apply Kd.R_drewN | apply Kd.R_drew)); exact HO228.out))) (Kd.R_lt (by (with_reducible repeat (first | apply Kd.R_alloc | apply Kd.R_drewN | apply Kd.R_drew)); exact HO235.out))) (below_size (by repeat (first | (with_reducible first | exact HB.out | apply below_alloc | apply pw_below_drewN | apply below_drew1 | refine below_set ?_ (IsS23.ge HI221.out)) | exact HB.out)))); have n4_ := Aside0.mk (IsS23.below (by repeat (first | (with_reducible first | exact HI221.out | apply IsS23.alloc | apply IsS23.drewN | apply IsS23.drew) | exact HI221.out)) hb); have n5_ := Aside0.mk (below_step (by repeat (first | (with_reducible first | exact HB.out | apply below_alloc | apply pw_below_drewN | apply below_drew1 | refine below_set ?_ (IsS23.ge HI221.out)) | exact HB.out)) hb); clear HO_5; clear HO228; clear HO235; clear HI221; clear HB; have HO_5 := n0_; have HO228 := n1_; have HO235 := n2_; have HO239 := n3_; have HI221 := n4_; have HB := n5_; clear n0_ n1_ n2_ n3_ n4_ n5_; (try clear hb); (try clear hb2); (try clear hk); (try clear hi); (try clear ho0))))
                (try simp only [Act.put, List.setIfInBounds_toArray, List.set_cons_zero, List.set_cons_succ])
                go_cut [69] (fun v69 wc => ∃ (kq : Nat) (x69_16 : Bool), v69 = .bool x69_16 ∧ Aside0 (tangramlaw06_BucketStable.j1 kq a1 t226 t236 x69_16 t220 = some r) ∧ Aside0 (kq ≤ k1) ∧ Aside0 (Kd.R (Kd.int .i64) 3 wc w.heap.size (fun k_ => some k_ ≠ (v238 : Value).ownBlock) v227 t226) ∧ Aside0 (Kd.R (Kd.int .i64) 3 wc w.heap.size (fun k_ => some k_ ≠ (v227 : Value).ownBlock) v238 t236) ∧ Aside0 (IsS23 w wc g221 t220) ∧ Aside0 (Below w.heap.size w wc))
                case first =>
                  have H := HC17.out
                  clear HC17
                  by_cases c27 : (t226.length : Int) = (t220.length : Int)
                  · rw [if_pos c27] at H
                    have c27b0 : ((t226.length : Int) == (t220.length : Int)) = true := beq_iff_eq.mpr c27
                    have c27b1 : ((t226.length : Int) != (t220.length : Int)) = false := bne_eq_false_iff_eq.mpr c27
                    have c27b2 : (t226.length == t220.length) = true := by first | simpa using c27 | (simp at c27 ⊢; omega)
                    clear c27
                    (first | rw [c27b0] | (simp only [i64_w, i32_w]; rw [c27b0]) | skip)
                    have H' := Aside0.mk H
                    clear H
                    obtain ⟨Ao28, co28, eo28⟩ := Kd.R_slice HO228.out
                    subst eo28
                    obtain ⟨ASz29_0, cSz29_0, HGz29, hgz29, HSz29_0⟩ := HI221.out
                    have hcz29_0 := cellS23_0 HGz29
                    clear HGz29 hgz29
                    obtain ⟨Ao30, co30, eo30⟩ := Kd.R_slice HO239.out
                    subst eo30
                    go_wp2
                    repeat (go_quiet (fail); try go_wp2)
                    go_meet
                    case rel => exact ⟨_, (((t236.length : Int) != (t220.length : Int))), (by first | rfl | (simp; done) | (simp [*]; done)), H', ⟨by have := HK1.out; first | omega | exact Nat.le_refl _⟩, ⟨by (with_reducible repeat (first | apply Kd.R_alloc | apply Kd.R_drewN | apply Kd.R_drew)); exact Kd.R_mono HO228.out (fun _ hk => hk.2)⟩, ⟨by (with_reducible repeat (first | apply Kd.R_alloc | apply Kd.R_drewN | apply Kd.R_drew)); exact Kd.R_mono HO239.out (fun _ hk => hk.1.2)⟩, ⟨by repeat (first | (with_reducible first | exact HI221.out | apply IsS23.alloc | apply IsS23.drewN | apply IsS23.drew) | exact HI221.out)⟩, ⟨by repeat (first | (with_reducible first | exact HB.out | apply below_alloc | apply pw_below_drewN | apply below_drew1 | refine below_set ?_ (IsS23.ge HI221.out)) | exact HB.out)⟩⟩
                  · rw [if_neg c27] at H
                    have c27b0 : ((t226.length : Int) == (t220.length : Int)) = false := beq_eq_false_iff_ne.mpr c27
                    have c27b1 : ((t226.length : Int) != (t220.length : Int)) = true := bne_iff_ne.mpr c27
                    have c27b2 : (t226.length == t220.length) = false := by first | simpa using c27 | (simp at c27 ⊢; omega)
                    (first | rw [c27b0] | (simp only [i64_w, i32_w]; rw [c27b0]) | skip)
                    have H' := Aside0.mk H
                    clear H
                    obtain ⟨Ao31, co31, eo31⟩ := Kd.R_slice HO228.out
                    subst eo31
                    obtain ⟨ASz32_0, cSz32_0, HGz32, hgz32, HSz32_0⟩ := HI221.out
                    have hcz32_0 := cellS23_0 HGz32
                    clear HGz32 hgz32
                    go_wp2
                    repeat (go_quiet (fail); try go_wp2)
                    go_meet
                    case rel => exact ⟨_, (true), (by first | rfl | (simp; done) | (simp [*]; done)), H', ⟨by have := HK1.out; first | omega | exact Nat.le_refl _⟩, ⟨by (with_reducible repeat (first | apply Kd.R_alloc | apply Kd.R_drewN | apply Kd.R_drew)); exact Kd.R_mono HO228.out (fun _ hk => hk.2)⟩, ⟨by (with_reducible repeat (first | apply Kd.R_alloc | apply Kd.R_drewN | apply Kd.R_drew)); exact Kd.R_mono HO239.out (fun _ hk => hk.1.2)⟩, ⟨by repeat (first | (with_reducible first | exact HI221.out | apply IsS23.alloc | apply IsS23.drewN | apply IsS23.drew) | exact HI221.out)⟩, ⟨by repeat (first | (with_reducible first | exact HB.out | apply below_alloc | apply pw_below_drewN | apply below_drew1 | refine below_set ?_ (IsS23.ge HI221.out)) | exact HB.out)⟩⟩
                case rest =>
                  clear HC17
                  try clear c1
                  try clear c2
                  try clear p2
                  try clear c5
                  try clear p6
                  try clear c8
                  try clear c8b0
                  try clear c9
                  try clear c13
                  try clear c15
                  try clear c15b0
                  try clear c15b1
                  try clear c16
                  try clear c16b0
                  try clear c16b1
                  try clear c27
                  try clear c27b0
                  try clear c27b1
                  try clear c27b2
                  try clear hcz10_0
                  try clear hcz18_0
                  try clear hcz23_0
                  try clear hcz29_0
                  try clear hcz32_0
                  try clear p2
                  obtain ⟨kq, x69_16, rfl, HA, HJ16, HO_7, HO_9, HI221, HB⟩ := hcut
                  cases kq with
                  | zero => exact absurd HA.out (by simp [tangramlaw06_BucketStable.j1])
                  | succ kj16 =>
                    have H := HA.out
                    clear HA
                    simp only [tangramlaw06_BucketStable.j1] at H
                    by_cases c33 : x69_16 = true
                    · subst c33
                      have H1 : (some false) = some r := by rw [if_pos rfl] at H; exact H
                      clear H
                      have H := H1
                      clear H1
                      obtain rfl := Option.some.inj H
                      go_wp2
                      repeat (go_quiet (fail); try go_wp2)
                      go_ret
                      exact ⟨by first | rfl | (simp [errW_none, errW_some] <;> rfl) | (simp [*, errW_none, errW_some] <;> rfl), by repeat (first | (with_reducible first | exact HB.out | apply below_alloc | apply pw_below_drewN | apply below_drew1 | refine below_set ?_ (IsS23.ge HI221.out)) | exact HB.out)⟩
                    · replace c33 := Bool.eq_false_iff.mpr c33
                      subst c33
                      have H1 : (tangramlaw06_BucketStable.l1 kj16 a1 t226 t236 0 t220) = some r := by rw [if_neg (show ¬ (false = true) by decide)] at H; exact H
                      clear H
                      have H := H1
                      clear H1
                      have H' := Aside0.mk H
                      clear H
                      go_wp2
                      repeat (go_quiet (fail); try go_wp2)
                      go_loopg [11] kj16 (fun kq v11 w' => ∃ (x11_3 : Int), v11 = .int .i64 x11_3 ∧ Aside0 (tangramlaw06_BucketStable.l1 kq a1 t226 t236 x11_3 t220 = some r) ∧ Aside0 (kq ≤ kj16) ∧ Aside0 (Kd.R (Kd.int .i64) 3 w' w.heap.size (fun k_ => some k_ ≠ (v238 : Value).ownBlock) v227 t226) ∧ Aside0 (Kd.R (Kd.int .i64) 3 w' w.heap.size (fun k_ => some k_ ≠ (v227 : Value).ownBlock) v238 t236) ∧ Aside0 (IsS23 w w' g221 t220) ∧ Aside0 (Below w.heap.size w w'))
                      case atStart => exact ⟨(0), (by first | rfl | (simp; done) | (simp [*]; done)), H', ⟨Nat.le_refl _⟩, ⟨by (with_reducible repeat (first | apply Kd.R_alloc | apply Kd.R_drewN | apply Kd.R_drew)); exact HO_7.out⟩, ⟨by (with_reducible repeat (first | apply Kd.R_alloc | apply Kd.R_drewN | apply Kd.R_drew)); exact HO_9.out⟩, ⟨by repeat (first | (with_reducible first | exact HI221.out | apply IsS23.alloc | apply IsS23.drewN | apply IsS23.drew) | exact HI221.out)⟩, ⟨by repeat (first | (with_reducible first | exact HB.out | apply below_alloc | apply pw_below_drewN | apply below_drew1 | refine below_set ?_ (IsS23.ge HI221.out)) | exact HB.out)⟩⟩
                      case round =>
                        clear H'
                        try clear c1
                        try clear c2
                        try clear p2
                        try clear c3
                        try clear c5
                        try clear p6
                        try clear c8
                        try clear c8b0
                        try clear c9
                        try clear c13
                        try clear c15
                        try clear c15b0
                        try clear c15b1
                        try clear c16
                        try clear c16b0
                        try clear c16b1
                        try clear c27
                        try clear c27b0
                        try clear c27b1
                        try clear c27b2
                        try clear c33
                        try clear hcz10_0
                        try clear hcz18_0
                        try clear hcz23_0
                        try clear hcz29_0
                        try clear hcz32_0
                        try clear p2
                        try clear p6
                        obtain ⟨x11_3, rfl, HA, HK3, HO_7, HO_9, HI221, HB⟩ := hrel
                        cases gk with
                        | zero => exact absurd HA.out (by simp [tangramlaw06_BucketStable.l1])
                        | succ k3 =>
                          have H := HA.out
                          clear HA
                          simp only [tangramlaw06_BucketStable.l1] at H
                          by_cases c34 : x11_3 < (t226.length : Int)
                          · rw [if_pos c34] at H
                            have c34b0 : decide (x11_3 < (t226.length : Int)) = true := decide_eq_true c34
                            clear c34
                            have HC35 := Aside0.mk H
                            clear H
                            obtain ⟨Ao36, co36, eo36⟩ := Kd.R_slice HO_7.out
                            subst eo36
                            go_upto_region 19 with (fail)
                            repeat (go_quiet (fail); go_upto_region 19 with (fail))
                            go_cut [100] (fun v100 wc => ∃ (kq : Nat) (x100_34 : Bool), v100 = .bool x100_34 ∧ Aside0 (tangramlaw06_BucketStable.j3 kq a1 t226 t236 x11_3 x100_34 t220 = some r) ∧ Aside0 (kq ≤ k3) ∧ Aside0 (Kd.R (Kd.int .i64) 3 wc w.heap.size (fun k_ => some k_ ≠ (v238 : Value).ownBlock) (.slice Ao36 t226.length co36) t226) ∧ Aside0 (Kd.R (Kd.int .i64) 3 wc w.heap.size (fun k_ => some k_ ≠ ((.slice Ao36 t226.length co36) : Value).ownBlock) v238 t236) ∧ Aside0 (IsS23 w wc g221 t220) ∧ Aside0 (Below w.heap.size w wc))
                            case first =>
                              have H := HC35.out
                              clear HC35
                              by_cases c37 : 0 ≤ x11_3
                              · rw [if_pos c37] at H
                                have c37b0 : decide (0 ≤ x11_3) = true := decide_eq_true c37
                                clear c37
                                (first | rw [c37b0] | (simp only [i64_w, i32_w]; rw [c37b0]) | skip)
                                by_cases c38 : (rd t226 x11_3) < 0
                                · rw [if_pos c38] at H
                                  have c38b0 : decide ((rd t226 x11_3) < 0) = true := decide_eq_true c38
                                  clear c38
                                  have H' := Aside0.mk H
                                  clear H
                                  have p240 : 0 ≤ (x11_3 : Int) := of_decide_eq_true (by first | (with_reducible assumption) | assumption)
                                  have q240 : x11_3 < (t226.length : Int) := of_decide_eq_true (by first | (with_reducible assumption) | assumption)
                                  obtain ⟨ad240, e240, hx240_0⟩ := Kd.at_int (Kd.R_reads' HO_7.out).2.2 x11_3 p240 q240
                                  cases e240
                                  replace p240 := eq_true p240
                                  replace q240 := eq_true q240
                                  go_wp2
                                  repeat (go_quiet (fail); try go_wp2)
                                  go_meet
                                  case rel => exact ⟨_, (true), (by first | rfl | (simp; done) | (simp [*]; done)), H', ⟨by have := HK1.out; have := HJ16.out; have := HK3.out; first | omega | exact Nat.le_refl _⟩, ⟨by (with_reducible repeat (first | apply Kd.R_alloc | apply Kd.R_drewN | apply Kd.R_drew)); exact HO_7.out⟩, ⟨by (with_reducible repeat (first | apply Kd.R_alloc | apply Kd.R_drewN | apply Kd.R_drew)); exact HO_9.out⟩, ⟨by repeat (first | (with_reducible first | exact HI221.out | apply IsS23.alloc | apply IsS23.drewN | apply IsS23.drew) | exact HI221.out)⟩, ⟨by repeat (first | (with_reducible first | exact HB.out | apply below_alloc | apply pw_below_drewN | apply below_drew1 | refine below_set ?_ (IsS23.ge HI221.out)) | exact HB.out)⟩⟩
                                · rw [if_neg c38] at H
                                  have c38b0 : decide ((rd t226 x11_3) < 0) = false := decide_eq_false c38
                                  clear c38
                                  by_cases c39 : (rd t226 x11_3) ≥ (t220.length : Int)
                                  · rw [if_pos c39] at H
                                    have c39b0 : decide ((t220.length : Int) ≤ (rd t226 x11_3)) = true := decide_eq_true c39
                                    clear c39
                                    have H' := Aside0.mk H
                                    clear H
                                    have p240 : 0 ≤ (x11_3 : Int) := of_decide_eq_true (by first | (with_reducible assumption) | assumption)
                                    have q240 : x11_3 < (t226.length : Int) := of_decide_eq_true (by first | (with_reducible assumption) | assumption)
                                    obtain ⟨ad240, e240, hx240_0⟩ := Kd.at_int (Kd.R_reads' HO_7.out).2.2 x11_3 p240 q240
                                    cases e240
                                    replace p240 := eq_true p240
                                    replace q240 := eq_true q240
                                    have p241 : 0 ≤ (x11_3 : Int) := of_decide_eq_true (by first | (with_reducible assumption) | assumption)
                                    have q241 : x11_3 < (t226.length : Int) := of_decide_eq_true (by first | (with_reducible assumption) | assumption)
                                    obtain ⟨ad241, e241, hx241_0⟩ := Kd.at_int (Kd.R_reads' HO_7.out).2.2 x11_3 p241 q241
                                    obtain rfl : ad240 = ad241 := (by injection e241)
                                    replace p241 := eq_true p241
                                    replace q241 := eq_true q241
                                    obtain ⟨ASz40_0, cSz40_0, HGz40, hgz40, HSz40_0⟩ := HI221.out
                                    have hcz40_0 := cellS23_0 HGz40
                                    clear HGz40 hgz40
                                    go_wp2
                                    repeat (go_quiet (fail); try go_wp2)
                                    go_meet
                                    case rel => exact ⟨_, (true), (by first | rfl | (simp; done) | (simp [*]; done)), H', ⟨by have := HK1.out; have := HJ16.out; have := HK3.out; first | omega | exact Nat.le_refl _⟩, ⟨by (with_reducible repeat (first | apply Kd.R_alloc | apply Kd.R_drewN | apply Kd.R_drew)); exact HO_7.out⟩, ⟨by (with_reducible repeat (first | apply Kd.R_alloc | apply Kd.R_drewN | apply Kd.R_drew)); exact HO_9.out⟩, ⟨by repeat (first | (with_reducible first | exact HI221.out | apply IsS23.alloc | apply IsS23.drewN | apply IsS23.drew) | exact HI221.out)⟩, ⟨by repeat (first | (with_reducible first | exact HB.out | apply below_alloc | apply pw_below_drewN | apply below_drew1 | refine below_set ?_ (IsS23.ge HI221.out)) | exact HB.out)⟩⟩
                                  · rw [if_neg c39] at H
                                    have c39b0 : decide ((t220.length : Int) ≤ (rd t226 x11_3)) = false := decide_eq_false c39
                                    clear c39
                                    by_cases c41 : 0 ≤ (rd t226 x11_3)
                                    · rw [if_pos c41] at H
                                      have c41b0 : decide (0 ≤ (rd t226 x11_3)) = true := decide_eq_true c41
                                      clear c41
                                      by_cases c42 : (rd t226 x11_3) < (t236.length : Int)
                                      · rw [if_pos c42] at H
                                        have c42b0 : decide ((rd t226 x11_3) < (t236.length : Int)) = true := decide_eq_true c42
                                        clear c42
                                        have H' := Aside0.mk H
                                        clear H
                                        have p240 : 0 ≤ (x11_3 : Int) := of_decide_eq_true (by first | (with_reducible assumption) | assumption)
                                        have q240 : x11_3 < (t226.length : Int) := of_decide_eq_true (by first | (with_reducible assumption) | assumption)
                                        obtain ⟨ad240, e240, hx240_0⟩ := Kd.at_int (Kd.R_reads' HO_7.out).2.2 x11_3 p240 q240
                                        cases e240
                                        replace p240 := eq_true p240
                                        replace q240 := eq_true q240
                                        have p241 : 0 ≤ (x11_3 : Int) := of_decide_eq_true (by first | (with_reducible assumption) | assumption)
                                        have q241 : x11_3 < (t226.length : Int) := of_decide_eq_true (by first | (with_reducible assumption) | assumption)
                                        obtain ⟨ad241, e241, hx241_0⟩ := Kd.at_int (Kd.R_reads' HO_7.out).2.2 x11_3 p241 q241
                                        obtain rfl : ad240 = ad241 := (by injection e241)
                                        replace p241 := eq_true p241
                                        replace q241 := eq_true q241
                                        obtain ⟨ASz43_0, cSz43_0, HGz43, hgz43, HSz43_0⟩ := HI221.out
                                        have hcz43_0 := cellS23_0 HGz43
                                        clear HGz43 hgz43
                                        have p242 : 0 ≤ (x11_3 : Int) := of_decide_eq_true (by first | (with_reducible assumption) | assumption)
                                        have q242 : x11_3 < (t226.length : Int) := of_decide_eq_true (by first | (with_reducible assumption) | assumption)
                                        obtain ⟨ad242, e242, hx242_0⟩ := Kd.at_int (Kd.R_reads' HO_7.out).2.2 x11_3 p242 q242
                                        obtain rfl : ad240 = ad242 := (by injection e242)
                                        replace p242 := eq_true p242
                                        replace q242 := eq_true q242
                                        obtain ⟨Ao44, co44, eo44⟩ := Kd.R_slice HO_9.out
                                        subst eo44
                                        have p243 : 0 ≤ ((rd t226 x11_3) : Int) := of_decide_eq_true (by first | (with_reducible assumption) | assumption)
                                        have q243 : (rd t226 x11_3) < (t236.length : Int) := of_decide_eq_true (by first | (with_reducible assumption) | assumption)
                                        obtain ⟨ad243, e243, hx243_0⟩ := Kd.at_int (Kd.R_reads' HO_9.out).2.2 (rd t226 x11_3) p243 q243
                                        cases e243
                                        replace p243 := eq_true p243
                                        replace q243 := eq_true q243
                                        go_wp2
                                        repeat (go_quiet (fail); try go_wp2)
                                        go_meet
                                        case rel => exact ⟨_, (((rd t236 (rd t226 x11_3)) != x11_3)), (by first | rfl | (simp; done) | (simp [*]; done)), H', ⟨by have := HK1.out; have := HJ16.out; have := HK3.out; first | omega | exact Nat.le_refl _⟩, ⟨by (with_reducible repeat (first | apply Kd.R_alloc | apply Kd.R_drewN | apply Kd.R_drew)); exact HO_7.out⟩, ⟨by (with_reducible repeat (first | apply Kd.R_alloc | apply Kd.R_drewN | apply Kd.R_drew)); exact HO_9.out⟩, ⟨by repeat (first | (with_reducible first | exact HI221.out | apply IsS23.alloc | apply IsS23.drewN | apply IsS23.drew) | exact HI221.out)⟩, ⟨by repeat (first | (with_reducible first | exact HB.out | apply below_alloc | apply pw_below_drewN | apply below_drew1 | refine below_set ?_ (IsS23.ge HI221.out)) | exact HB.out)⟩⟩
                                      · rw [if_neg c42] at H
                                        exact absurd H (by simp)
                                    · rw [if_neg c41] at H
                                      exact absurd H (by simp)
                              · rw [if_neg c37] at H
                                exact absurd H (by simp)
                            case rest =>
                              clear HC35
                              try clear c1
                              try clear c2
                              try clear p2
                              try clear q2
                              try clear hx2
                              try clear c3
                              try clear c4
                              try clear c5
                              try clear p6
                              try clear c8
                              try clear c8b0
                              try clear c9
                              try clear c13
                              try clear c15
                              try clear c15b0
                              try clear c15b1
                              try clear c16
                              try clear c16b0
                              try clear c16b1
                              try clear p24
                              try clear q24
                              try clear hx24
                              try clear c27
                              try clear c27b0
                              try clear c27b1
                              try clear c27b2
                              try clear c33
                              try clear c34
                              try clear c34b0
                              try clear c37
                              try clear c37b0
                              try clear c38
                              try clear c38b0
                              try clear c39
                              try clear c39b0
                              try clear c41
                              try clear c41b0
                              try clear c42
                              try clear c42b0
                              try clear hcz10_0
                              try clear hcz18_0
                              try clear hcz23_0
                              try clear hcz29_0
                              try clear hcz32_0
                              try clear hcz40_0
                              try clear hcz43_0
                              try clear hx240_0
                              try clear hx241_0
                              try clear hx242_0
                              try clear hx243_0
                              try clear p2
                              try clear p240
                              try clear p241
                              try clear p242
                              try clear p243
                              try clear p6
                              try clear q240
                              try clear q241
                              try clear q242
                              try clear q243
                              obtain ⟨kq, x100_34, rfl, HA, HJ34, HO_7, HO_9, HI221, HB⟩ := hcut
                              cases kq with
                              | zero => exact absurd HA.out (by simp [tangramlaw06_BucketStable.j3])
                              | succ kj34 =>
                                have H := HA.out
                                clear HA
                                simp only [tangramlaw06_BucketStable.j3] at H
                                by_cases c45 : x100_34 = true
                                · subst c45
                                  have H1 : (some false) = some r := by rw [if_pos rfl] at H; exact H
                                  clear H
                                  have H := H1
                                  clear H1
                                  obtain rfl := Option.some.inj H
                                  go_wp2
                                  repeat (go_quiet (fail); try go_wp2)
                                  go_ret
                                  exact ⟨by first | rfl | (simp [errW_none, errW_some] <;> rfl) | (simp [*, errW_none, errW_some] <;> rfl), by repeat (first | (with_reducible first | exact HB.out | apply below_alloc | apply pw_below_drewN | apply below_drew1 | refine below_set ?_ (IsS23.ge HI221.out)) | exact HB.out)⟩
                                · replace c45 := Bool.eq_false_iff.mpr c45
                                  subst c45
                                  have H1 : (if x11_3 > 0 then (if 0 ≤ (wrap64 (x11_3 - 1)) then (if (wrap64 (x11_3 - 1)) < (t226.length : Int) then (if 0 ≤ (rd t226 (wrap64 (x11_3 - 1))) then (if (rd t226 (wrap64 (x11_3 - 1))) < (t220.length : Int) then (if 0 ≤ x11_3 then (if x11_3 < (t226.length : Int) then (if 0 ≤ (rd t226 x11_3) then (if (rd t226 x11_3) < (t220.length : Int) then (if (rd t220 (rd t226 (wrap64 (x11_3 - 1)))) > (rd t220 (rd t226 x11_3)) then (some false) else (if (rd t220 (rd t226 (wrap64 (x11_3 - 1)))) = (rd t220 (rd t226 x11_3)) then (if (rd t226 (wrap64 (x11_3 - 1))) ≥ (rd t226 x11_3) then (some false) else (tangramlaw06_BucketStable.l1 kj34 a1 t226 t236 (wrap64 (x11_3 + 1)) t220)) else (tangramlaw06_BucketStable.l1 kj34 a1 t226 t236 (wrap64 (x11_3 + 1)) t220))) else (none)) else (none)) else (none)) else (none)) else (none)) else (none)) else (none)) else (none)) else (tangramlaw06_BucketStable.l1 kj34 a1 t226 t236 (wrap64 (x11_3 + 1)) t220)) = some r := by rw [if_neg (show ¬ (false = true) by decide)] at H; exact H
                                  clear H
                                  have H := H1
                                  clear H1
                                  by_cases c46 : x11_3 > 0
                                  · rw [if_pos c46] at H
                                    have c46b0 : decide (0 < x11_3) = true := decide_eq_true c46
                                    clear c46
                                    obtain ⟨ji47, hji47⟩ : ∃ j_ : Int, (wrap64 (x11_3 - 1)) = j_ := ⟨_, rfl⟩
                                    replace H : (if 0 ≤ (ji47) then (if (ji47) < (t226.length : Int) then (if 0 ≤ (rd t226 (ji47)) then (if (rd t226 (ji47)) < (t220.length : Int) then (if 0 ≤ x11_3 then (if x11_3 < (t226.length : Int) then (if 0 ≤ (rd t226 x11_3) then (if (rd t226 x11_3) < (t220.length : Int) then (if (rd t220 (rd t226 (ji47))) > (rd t220 (rd t226 x11_3)) then (some false) else (if (rd t220 (rd t226 (ji47))) = (rd t220 (rd t226 x11_3)) then (if (rd t226 (ji47)) ≥ (rd t226 x11_3) then (some false) else (tangramlaw06_BucketStable.l1 kj34 a1 t226 t236 (wrap64 (x11_3 + 1)) t220)) else (tangramlaw06_BucketStable.l1 kj34 a1 t226 t236 (wrap64 (x11_3 + 1)) t220))) else (none)) else (none)) else (none)) else (none)) else (none)) else (none)) else (none)) else (none)) = some r := by first | (rw [hji47] at H; exact H) | (simp only [hji47] at H ⊢; exact H)
                                    have hji47w : (IntKind.i64.wrap (x11_3 - 1)) = ji47 := (i64_w _).trans hji47
                                    by_cases c48 : 0 ≤ (ji47)
                                    · rw [if_pos c48] at H
                                      have c48b0 : decide (0 ≤ (ji47)) = true := decide_eq_true c48
                                      clear c48
                                      by_cases c49 : (ji47) < (t226.length : Int)
                                      · rw [if_pos c49] at H
                                        have c49b0 : decide ((ji47) < (t226.length : Int)) = true := decide_eq_true c49
                                        clear c49
                                        by_cases c50 : 0 ≤ (rd t226 (ji47))
                                        · rw [if_pos c50] at H
                                          have c50b0 : decide (0 ≤ (rd t226 (ji47))) = true := decide_eq_true c50
                                          clear c50
                                          by_cases c51 : (rd t226 (ji47)) < (t220.length : Int)
                                          · rw [if_pos c51] at H
                                            have c51b0 : decide ((rd t226 (ji47)) < (t220.length : Int)) = true := decide_eq_true c51
                                            clear c51
                                            by_cases c52 : 0 ≤ x11_3
                                            · rw [if_pos c52] at H
                                              have c52b0 : decide (0 ≤ x11_3) = true := decide_eq_true c52
                                              clear c52
                                              by_cases c53 : x11_3 < (t226.length : Int)
                                              · rw [if_pos c53] at H
                                                have c53b0 : decide (x11_3 < (t226.length : Int)) = true := decide_eq_true c53
                                                clear c53
                                                by_cases c54 : 0 ≤ (rd t226 x11_3)
                                                · rw [if_pos c54] at H
                                                  have c54b0 : decide (0 ≤ (rd t226 x11_3)) = true := decide_eq_true c54
                                                  clear c54
                                                  by_cases c55 : (rd t226 x11_3) < (t220.length : Int)
                                                  · rw [if_pos c55] at H
                                                    have c55b0 : decide ((rd t226 x11_3) < (t220.length : Int)) = true := decide_eq_true c55
                                                    clear c55
                                                    by_cases c56 : (rd t220 (rd t226 (ji47))) > (rd t220 (rd t226 x11_3))
                                                    · rw [if_pos c56] at H
                                                      have c56b0 : decide ((rd t220 (rd t226 x11_3)) < (rd t220 (rd t226 (ji47)))) = true := decide_eq_true c56
                                                      clear c56
                                                      obtain rfl := Option.some.inj H
                                                      obtain ⟨ASz57_0, cSz57_0, HGz57, hgz57, HSz57_0⟩ := HI221.out
                                                      have hcz57_0 := cellS23_0 HGz57
                                                      clear HGz57 hgz57
                                                      have p244 : 0 ≤ ((ji47) : Int) := of_decide_eq_true (by first | (with_reducible assumption) | assumption)
                                                      have q244 : (ji47) < (t226.length : Int) := of_decide_eq_true (by first | (with_reducible assumption) | assumption)
                                                      obtain ⟨ad244, e244, hx244_0⟩ := Kd.at_int (Kd.R_reads' HO_7.out).2.2 (ji47) p244 q244
                                                      cases e244
                                                      replace p244 := eq_true p244
                                                      replace q244 := eq_true q244
                                                      have p245 : 0 ≤ ((rd t226 (ji47)) : Int) := of_decide_eq_true (by first | (with_reducible assumption) | assumption)
                                                      have q245 : (rd t226 (ji47)) < (t220.length : Int) := of_decide_eq_true (by first | (with_reducible assumption) | assumption)
                                                      obtain ⟨ad245, e245, hx245_0⟩ := Kd.at_int HSz57_0 (rd t226 (ji47)) p245 q245
                                                      cases e245
                                                      replace hx245_0 := pw_cell_below HB.out hx245_0
                                                      replace p245 := eq_true p245
                                                      replace q245 := eq_true q245
                                                      have p246 : 0 ≤ (x11_3 : Int) := of_decide_eq_true (by first | (with_reducible assumption) | assumption)
                                                      have q246 : x11_3 < (t226.length : Int) := of_decide_eq_true (by first | (with_reducible assumption) | assumption)
                                                      obtain ⟨ad246, e246, hx246_0⟩ := Kd.at_int (Kd.R_reads' HO_7.out).2.2 x11_3 p246 q246
                                                      obtain rfl : ad244 = ad246 := (by injection e246)
                                                      replace p246 := eq_true p246
                                                      replace q246 := eq_true q246
                                                      have p247 : 0 ≤ ((rd t226 x11_3) : Int) := of_decide_eq_true (by first | (with_reducible assumption) | assumption)
                                                      have q247 : (rd t226 x11_3) < (t220.length : Int) := of_decide_eq_true (by first | (with_reducible assumption) | assumption)
                                                      obtain ⟨ad247, e247, hx247_0⟩ := Kd.at_int HSz57_0 (rd t226 x11_3) p247 q247
                                                      obtain rfl : ad245 = ad247 := (by injection e247)
                                                      replace hx247_0 := pw_cell_below HB.out hx247_0
                                                      replace p247 := eq_true p247
                                                      replace q247 := eq_true q247
                                                      go_wp2
                                                      repeat (go_quiet (fail); try go_wp2)
                                                      go_ret
                                                      exact ⟨by first | rfl | (simp [errW_none, errW_some] <;> rfl) | (simp only [← hji47]; first | rfl | (simp [errW_none, errW_some] <;> rfl)) | (simp [*, errW_none, errW_some] <;> rfl), by repeat (first | (with_reducible first | exact HB.out | apply below_alloc | apply pw_below_drewN | apply below_drew1 | refine below_set ?_ (IsS23.ge HI221.out)) | exact HB.out)⟩
                                                    · rw [if_neg c56] at H
                                                      have c56b0 : decide ((rd t220 (rd t226 x11_3)) < (rd t220 (rd t226 (ji47)))) = false := decide_eq_false c56
                                                      clear c56
                                                      by_cases c58 : (rd t220 (rd t226 (ji47))) = (rd t220 (rd t226 x11_3))
                                                      · rw [if_pos c58] at H
                                                        have c58b0 : ((rd t220 (rd t226 (ji47))) == (rd t220 (rd t226 x11_3))) = true := beq_iff_eq.mpr c58
                                                        have c58b1 : ((rd t220 (rd t226 (ji47))) != (rd t220 (rd t226 x11_3))) = false := bne_eq_false_iff_eq.mpr c58
                                                        clear c58
                                                        by_cases c59 : (rd t226 (ji47)) ≥ (rd t226 x11_3)
                                                        · rw [if_pos c59] at H
                                                          have c59b0 : decide ((rd t226 x11_3) ≤ (rd t226 (ji47))) = true := decide_eq_true c59
                                                          clear c59
                                                          obtain rfl := Option.some.inj H
                                                          obtain ⟨ASz60_0, cSz60_0, HGz60, hgz60, HSz60_0⟩ := HI221.out
                                                          have hcz60_0 := cellS23_0 HGz60
                                                          clear HGz60 hgz60
                                                          have p244 : 0 ≤ ((ji47) : Int) := of_decide_eq_true (by first | (with_reducible assumption) | assumption)
                                                          have q244 : (ji47) < (t226.length : Int) := of_decide_eq_true (by first | (with_reducible assumption) | assumption)
                                                          obtain ⟨ad244, e244, hx244_0⟩ := Kd.at_int (Kd.R_reads' HO_7.out).2.2 (ji47) p244 q244
                                                          cases e244
                                                          replace p244 := eq_true p244
                                                          replace q244 := eq_true q244
                                                          have p245 : 0 ≤ ((rd t226 (ji47)) : Int) := of_decide_eq_true (by first | (with_reducible assumption) | assumption)
                                                          have q245 : (rd t226 (ji47)) < (t220.length : Int) := of_decide_eq_true (by first | (with_reducible assumption) | assumption)
                                                          obtain ⟨ad245, e245, hx245_0⟩ := Kd.at_int HSz60_0 (rd t226 (ji47)) p245 q245
                                                          cases e245
                                                          replace hx245_0 := pw_cell_below HB.out hx245_0
                                                          replace p245 := eq_true p245
                                                          replace q245 := eq_true q245
                                                          have p246 : 0 ≤ (x11_3 : Int) := of_decide_eq_true (by first | (with_reducible assumption) | assumption)
                                                          have q246 : x11_3 < (t226.length : Int) := of_decide_eq_true (by first | (with_reducible assumption) | assumption)
                                                          obtain ⟨ad246, e246, hx246_0⟩ := Kd.at_int (Kd.R_reads' HO_7.out).2.2 x11_3 p246 q246
                                                          obtain rfl : ad244 = ad246 := (by injection e246)
                                                          replace p246 := eq_true p246
                                                          replace q246 := eq_true q246
                                                          have p247 : 0 ≤ ((rd t226 x11_3) : Int) := of_decide_eq_true (by first | (with_reducible assumption) | assumption)
                                                          have q247 : (rd t226 x11_3) < (t220.length : Int) := of_decide_eq_true (by first | (with_reducible assumption) | assumption)
                                                          obtain ⟨ad247, e247, hx247_0⟩ := Kd.at_int HSz60_0 (rd t226 x11_3) p247 q247
                                                          obtain rfl : ad245 = ad247 := (by injection e247)
                                                          replace hx247_0 := pw_cell_below HB.out hx247_0
                                                          replace p247 := eq_true p247
                                                          replace q247 := eq_true q247
                                                          have p248 : 0 ≤ ((ji47) : Int) := of_decide_eq_true (by first | (with_reducible assumption) | assumption)
                                                          have q248 : (ji47) < (t226.length : Int) := of_decide_eq_true (by first | (with_reducible assumption) | assumption)
                                                          obtain ⟨ad248, e248, hx248_0⟩ := Kd.at_int (Kd.R_reads' HO_7.out).2.2 (ji47) p248 q248
                                                          obtain rfl : ad244 = ad248 := (by injection e248)
                                                          replace p248 := eq_true p248
                                                          replace q248 := eq_true q248
                                                          have p249 : 0 ≤ ((rd t226 (ji47)) : Int) := of_decide_eq_true (by first | (with_reducible assumption) | assumption)
                                                          have q249 : (rd t226 (ji47)) < (t220.length : Int) := of_decide_eq_true (by first | (with_reducible assumption) | assumption)
                                                          obtain ⟨ad249, e249, hx249_0⟩ := Kd.at_int HSz60_0 (rd t226 (ji47)) p249 q249
                                                          obtain rfl : ad245 = ad249 := (by injection e249)
                                                          replace hx249_0 := pw_cell_below HB.out hx249_0
                                                          replace p249 := eq_true p249
                                                          replace q249 := eq_true q249
                                                          have p250 : 0 ≤ (x11_3 : Int) := of_decide_eq_true (by first | (with_reducible assumption) | assumption)
                                                          have q250 : x11_3 < (t226.length : Int) := of_decide_eq_true (by first | (with_reducible assumption) | assumption)
                                                          obtain ⟨ad250, e250, hx250_0⟩ := Kd.at_int (Kd.R_reads' HO_7.out).2.2 x11_3 p250 q250
                                                          obtain rfl : ad244 = ad250 := (by injection e250)
                                                          replace p250 := eq_true p250
                                                          replace q250 := eq_true q250
                                                          have p251 : 0 ≤ ((rd t226 x11_3) : Int) := of_decide_eq_true (by first | (with_reducible assumption) | assumption)
                                                          have q251 : (rd t226 x11_3) < (t220.length : Int) := of_decide_eq_true (by first | (with_reducible assumption) | assumption)
                                                          obtain ⟨ad251, e251, hx251_0⟩ := Kd.at_int HSz60_0 (rd t226 x11_3) p251 q251
                                                          obtain rfl : ad245 = ad251 := (by injection e251)
                                                          replace hx251_0 := pw_cell_below HB.out hx251_0
                                                          replace p251 := eq_true p251
                                                          replace q251 := eq_true q251
                                                          have p252 : 0 ≤ ((ji47) : Int) := of_decide_eq_true (by first | (with_reducible assumption) | assumption)
                                                          have q252 : (ji47) < (t226.length : Int) := of_decide_eq_true (by first | (with_reducible assumption) | assumption)
                                                          obtain ⟨ad252, e252, hx252_0⟩ := Kd.at_int (Kd.R_reads' HO_7.out).2.2 (ji47) p252 q252
                                                          obtain rfl : ad244 = ad252 := (by injection e252)
                                                          replace p252 := eq_true p252
                                                          replace q252 := eq_true q252
                                                          have p253 : 0 ≤ (x11_3 : Int) := of_decide_eq_true (by first | (with_reducible assumption) | assumption)
                                                          have q253 : x11_3 < (t226.length : Int) := of_decide_eq_true (by first | (with_reducible assumption) | assumption)
                                                          obtain ⟨ad253, e253, hx253_0⟩ := Kd.at_int (Kd.R_reads' HO_7.out).2.2 x11_3 p253 q253
                                                          obtain rfl : ad244 = ad253 := (by injection e253)
                                                          replace p253 := eq_true p253
                                                          replace q253 := eq_true q253
                                                          go_wp2
                                                          repeat (go_quiet (fail); try go_wp2)
                                                          go_ret
                                                          exact ⟨by first | rfl | (simp [errW_none, errW_some] <;> rfl) | (simp only [← hji47]; first | rfl | (simp [errW_none, errW_some] <;> rfl)) | (simp [*, errW_none, errW_some] <;> rfl), by repeat (first | (with_reducible first | exact HB.out | apply below_alloc | apply pw_below_drewN | apply below_drew1 | refine below_set ?_ (IsS23.ge HI221.out)) | exact HB.out)⟩
                                                        · rw [if_neg c59] at H
                                                          have c59b0 : decide ((rd t226 x11_3) ≤ (rd t226 (ji47))) = false := decide_eq_false c59
                                                          clear c59
                                                          have H' := Aside0.mk H
                                                          clear H
                                                          obtain ⟨ASz61_0, cSz61_0, HGz61, hgz61, HSz61_0⟩ := HI221.out
                                                          have hcz61_0 := cellS23_0 HGz61
                                                          clear HGz61 hgz61
                                                          have p244 : 0 ≤ ((ji47) : Int) := of_decide_eq_true (by first | (with_reducible assumption) | assumption)
                                                          have q244 : (ji47) < (t226.length : Int) := of_decide_eq_true (by first | (with_reducible assumption) | assumption)
                                                          obtain ⟨ad244, e244, hx244_0⟩ := Kd.at_int (Kd.R_reads' HO_7.out).2.2 (ji47) p244 q244
                                                          cases e244
                                                          replace p244 := eq_true p244
                                                          replace q244 := eq_true q244
                                                          have p245 : 0 ≤ ((rd t226 (ji47)) : Int) := of_decide_eq_true (by first | (with_reducible assumption) | assumption)
                                                          have q245 : (rd t226 (ji47)) < (t220.length : Int) := of_decide_eq_true (by first | (with_reducible assumption) | assumption)
                                                          obtain ⟨ad245, e245, hx245_0⟩ := Kd.at_int HSz61_0 (rd t226 (ji47)) p245 q245
                                                          cases e245
                                                          replace hx245_0 := pw_cell_below HB.out hx245_0
                                                          replace p245 := eq_true p245
                                                          replace q245 := eq_true q245
                                                          have p246 : 0 ≤ (x11_3 : Int) := of_decide_eq_true (by first | (with_reducible assumption) | assumption)
                                                          have q246 : x11_3 < (t226.length : Int) := of_decide_eq_true (by first | (with_reducible assumption) | assumption)
                                                          obtain ⟨ad246, e246, hx246_0⟩ := Kd.at_int (Kd.R_reads' HO_7.out).2.2 x11_3 p246 q246
                                                          obtain rfl : ad244 = ad246 := (by injection e246)
                                                          replace p246 := eq_true p246
                                                          replace q246 := eq_true q246
                                                          have p247 : 0 ≤ ((rd t226 x11_3) : Int) := of_decide_eq_true (by first | (with_reducible assumption) | assumption)
                                                          have q247 : (rd t226 x11_3) < (t220.length : Int) := of_decide_eq_true (by first | (with_reducible assumption) | assumption)
                                                          obtain ⟨ad247, e247, hx247_0⟩ := Kd.at_int HSz61_0 (rd t226 x11_3) p247 q247
                                                          obtain rfl : ad245 = ad247 := (by injection e247)
                                                          replace hx247_0 := pw_cell_below HB.out hx247_0
                                                          replace p247 := eq_true p247
                                                          replace q247 := eq_true q247
                                                          have p248 : 0 ≤ ((ji47) : Int) := of_decide_eq_true (by first | (with_reducible assumption) | assumption)
                                                          have q248 : (ji47) < (t226.length : Int) := of_decide_eq_true (by first | (with_reducible assumption) | assumption)
                                                          obtain ⟨ad248, e248, hx248_0⟩ := Kd.at_int (Kd.R_reads' HO_7.out).2.2 (ji47) p248 q248
                                                          obtain rfl : ad244 = ad248 := (by injection e248)
                                                          replace p248 := eq_true p248
                                                          replace q248 := eq_true q248
                                                          have p249 : 0 ≤ ((rd t226 (ji47)) : Int) := of_decide_eq_true (by first | (with_reducible assumption) | assumption)
                                                          have q249 : (rd t226 (ji47)) < (t220.length : Int) := of_decide_eq_true (by first | (with_reducible assumption) | assumption)
                                                          obtain ⟨ad249, e249, hx249_0⟩ := Kd.at_int HSz61_0 (rd t226 (ji47)) p249 q249
                                                          obtain rfl : ad245 = ad249 := (by injection e249)
                                                          replace hx249_0 := pw_cell_below HB.out hx249_0
                                                          replace p249 := eq_true p249
                                                          replace q249 := eq_true q249
                                                          have p250 : 0 ≤ (x11_3 : Int) := of_decide_eq_true (by first | (with_reducible assumption) | assumption)
                                                          have q250 : x11_3 < (t226.length : Int) := of_decide_eq_true (by first | (with_reducible assumption) | assumption)
                                                          obtain ⟨ad250, e250, hx250_0⟩ := Kd.at_int (Kd.R_reads' HO_7.out).2.2 x11_3 p250 q250
                                                          obtain rfl : ad244 = ad250 := (by injection e250)
                                                          replace p250 := eq_true p250
                                                          replace q250 := eq_true q250
                                                          have p251 : 0 ≤ ((rd t226 x11_3) : Int) := of_decide_eq_true (by first | (with_reducible assumption) | assumption)
                                                          have q251 : (rd t226 x11_3) < (t220.length : Int) := of_decide_eq_true (by first | (with_reducible assumption) | assumption)
                                                          obtain ⟨ad251, e251, hx251_0⟩ := Kd.at_int HSz61_0 (rd t226 x11_3) p251 q251
                                                          obtain rfl : ad245 = ad251 := (by injection e251)
                                                          replace hx251_0 := pw_cell_below HB.out hx251_0
                                                          replace p251 := eq_true p251
                                                          replace q251 := eq_true q251
                                                          have p252 : 0 ≤ ((ji47) : Int) := of_decide_eq_true (by first | (with_reducible assumption) | assumption)
                                                          have q252 : (ji47) < (t226.length : Int) := of_decide_eq_true (by first | (with_reducible assumption) | assumption)
                                                          obtain ⟨ad252, e252, hx252_0⟩ := Kd.at_int (Kd.R_reads' HO_7.out).2.2 (ji47) p252 q252
                                                          obtain rfl : ad244 = ad252 := (by injection e252)
                                                          replace p252 := eq_true p252
                                                          replace q252 := eq_true q252
                                                          have p253 : 0 ≤ (x11_3 : Int) := of_decide_eq_true (by first | (with_reducible assumption) | assumption)
                                                          have q253 : x11_3 < (t226.length : Int) := of_decide_eq_true (by first | (with_reducible assumption) | assumption)
                                                          obtain ⟨ad253, e253, hx253_0⟩ := Kd.at_int (Kd.R_reads' HO_7.out).2.2 x11_3 p253 q253
                                                          obtain rfl : ad244 = ad253 := (by injection e253)
                                                          replace p253 := eq_true p253
                                                          replace q253 := eq_true q253
                                                          go_wp2
                                                          repeat (go_quiet (fail); try go_wp2)
                                                          go_roundg kj34
                                                          case measure => have := HK1.out; have := HJ16.out; have := HK3.out; have := HJ34.out; omega
                                                          case rel => exact ⟨(wrap64 (x11_3 + 1)), (by first | rfl | (simp; done) | (simp [*]; done)), H', ⟨by have := HK1.out; have := HJ16.out; have := HK3.out; have := HJ34.out; omega⟩, ⟨by (with_reducible repeat (first | apply Kd.R_alloc | apply Kd.R_drewN | apply Kd.R_drew)); exact HO_7.out⟩, ⟨by (with_reducible repeat (first | apply Kd.R_alloc | apply Kd.R_drewN | apply Kd.R_drew)); exact HO_9.out⟩, ⟨by repeat (first | (with_reducible first | exact HI221.out | apply IsS23.alloc | apply IsS23.drewN | apply IsS23.drew) | exact HI221.out)⟩, ⟨by repeat (first | (with_reducible first | exact HB.out | apply below_alloc | apply pw_below_drewN | apply below_drew1 | refine below_set ?_ (IsS23.ge HI221.out)) | exact HB.out)⟩⟩
                                                      · rw [if_neg c58] at H
                                                        have c58b0 : ((rd t220 (rd t226 (ji47))) == (rd t220 (rd t226 x11_3))) = false := beq_eq_false_iff_ne.mpr c58
                                                        have c58b1 : ((rd t220 (rd t226 (ji47))) != (rd t220 (rd t226 x11_3))) = true := bne_iff_ne.mpr c58
                                                        have H' := Aside0.mk H
                                                        clear H
                                                        obtain ⟨ASz62_0, cSz62_0, HGz62, hgz62, HSz62_0⟩ := HI221.out
                                                        have hcz62_0 := cellS23_0 HGz62
                                                        clear HGz62 hgz62
                                                        have p244 : 0 ≤ ((ji47) : Int) := of_decide_eq_true (by first | (with_reducible assumption) | assumption)
                                                        have q244 : (ji47) < (t226.length : Int) := of_decide_eq_true (by first | (with_reducible assumption) | assumption)
                                                        obtain ⟨ad244, e244, hx244_0⟩ := Kd.at_int (Kd.R_reads' HO_7.out).2.2 (ji47) p244 q244
                                                        cases e244
                                                        replace p244 := eq_true p244
                                                        replace q244 := eq_true q244
                                                        have p245 : 0 ≤ ((rd t226 (ji47)) : Int) := of_decide_eq_true (by first | (with_reducible assumption) | assumption)
                                                        have q245 : (rd t226 (ji47)) < (t220.length : Int) := of_decide_eq_true (by first | (with_reducible assumption) | assumption)
                                                        obtain ⟨ad245, e245, hx245_0⟩ := Kd.at_int HSz62_0 (rd t226 (ji47)) p245 q245
                                                        cases e245
                                                        replace hx245_0 := pw_cell_below HB.out hx245_0
                                                        replace p245 := eq_true p245
                                                        replace q245 := eq_true q245
                                                        have p246 : 0 ≤ (x11_3 : Int) := of_decide_eq_true (by first | (with_reducible assumption) | assumption)
                                                        have q246 : x11_3 < (t226.length : Int) := of_decide_eq_true (by first | (with_reducible assumption) | assumption)
                                                        obtain ⟨ad246, e246, hx246_0⟩ := Kd.at_int (Kd.R_reads' HO_7.out).2.2 x11_3 p246 q246
                                                        obtain rfl : ad244 = ad246 := (by injection e246)
                                                        replace p246 := eq_true p246
                                                        replace q246 := eq_true q246
                                                        have p247 : 0 ≤ ((rd t226 x11_3) : Int) := of_decide_eq_true (by first | (with_reducible assumption) | assumption)
                                                        have q247 : (rd t226 x11_3) < (t220.length : Int) := of_decide_eq_true (by first | (with_reducible assumption) | assumption)
                                                        obtain ⟨ad247, e247, hx247_0⟩ := Kd.at_int HSz62_0 (rd t226 x11_3) p247 q247
                                                        obtain rfl : ad245 = ad247 := (by injection e247)
                                                        replace hx247_0 := pw_cell_below HB.out hx247_0
                                                        replace p247 := eq_true p247
                                                        replace q247 := eq_true q247
                                                        have p248 : 0 ≤ ((ji47) : Int) := of_decide_eq_true (by first | (with_reducible assumption) | assumption)
                                                        have q248 : (ji47) < (t226.length : Int) := of_decide_eq_true (by first | (with_reducible assumption) | assumption)
                                                        obtain ⟨ad248, e248, hx248_0⟩ := Kd.at_int (Kd.R_reads' HO_7.out).2.2 (ji47) p248 q248
                                                        obtain rfl : ad244 = ad248 := (by injection e248)
                                                        replace p248 := eq_true p248
                                                        replace q248 := eq_true q248
                                                        have p249 : 0 ≤ ((rd t226 (ji47)) : Int) := of_decide_eq_true (by first | (with_reducible assumption) | assumption)
                                                        have q249 : (rd t226 (ji47)) < (t220.length : Int) := of_decide_eq_true (by first | (with_reducible assumption) | assumption)
                                                        obtain ⟨ad249, e249, hx249_0⟩ := Kd.at_int HSz62_0 (rd t226 (ji47)) p249 q249
                                                        obtain rfl : ad245 = ad249 := (by injection e249)
                                                        replace hx249_0 := pw_cell_below HB.out hx249_0
                                                        replace p249 := eq_true p249
                                                        replace q249 := eq_true q249
                                                        have p250 : 0 ≤ (x11_3 : Int) := of_decide_eq_true (by first | (with_reducible assumption) | assumption)
                                                        have q250 : x11_3 < (t226.length : Int) := of_decide_eq_true (by first | (with_reducible assumption) | assumption)
                                                        obtain ⟨ad250, e250, hx250_0⟩ := Kd.at_int (Kd.R_reads' HO_7.out).2.2 x11_3 p250 q250
                                                        obtain rfl : ad244 = ad250 := (by injection e250)
                                                        replace p250 := eq_true p250
                                                        replace q250 := eq_true q250
                                                        have p251 : 0 ≤ ((rd t226 x11_3) : Int) := of_decide_eq_true (by first | (with_reducible assumption) | assumption)
                                                        have q251 : (rd t226 x11_3) < (t220.length : Int) := of_decide_eq_true (by first | (with_reducible assumption) | assumption)
                                                        obtain ⟨ad251, e251, hx251_0⟩ := Kd.at_int HSz62_0 (rd t226 x11_3) p251 q251
                                                        obtain rfl : ad245 = ad251 := (by injection e251)
                                                        replace hx251_0 := pw_cell_below HB.out hx251_0
                                                        replace p251 := eq_true p251
                                                        replace q251 := eq_true q251
                                                        go_wp2
                                                        repeat (go_quiet (fail); try go_wp2)
                                                        go_roundg kj34
                                                        case measure => have := HK1.out; have := HJ16.out; have := HK3.out; have := HJ34.out; omega
                                                        case rel => exact ⟨(wrap64 (x11_3 + 1)), (by first | rfl | (simp; done) | (simp [*]; done)), H', ⟨by have := HK1.out; have := HJ16.out; have := HK3.out; have := HJ34.out; omega⟩, ⟨by (with_reducible repeat (first | apply Kd.R_alloc | apply Kd.R_drewN | apply Kd.R_drew)); exact HO_7.out⟩, ⟨by (with_reducible repeat (first | apply Kd.R_alloc | apply Kd.R_drewN | apply Kd.R_drew)); exact HO_9.out⟩, ⟨by repeat (first | (with_reducible first | exact HI221.out | apply IsS23.alloc | apply IsS23.drewN | apply IsS23.drew) | exact HI221.out)⟩, ⟨by repeat (first | (with_reducible first | exact HB.out | apply below_alloc | apply pw_below_drewN | apply below_drew1 | refine below_set ?_ (IsS23.ge HI221.out)) | exact HB.out)⟩⟩
                                                  · rw [if_neg c55] at H
                                                    exact absurd H (by simp)
                                                · rw [if_neg c54] at H
                                                  exact absurd H (by simp)
                                              · rw [if_neg c53] at H
                                                exact absurd H (by simp)
                                            · rw [if_neg c52] at H
                                              exact absurd H (by simp)
                                          · rw [if_neg c51] at H
                                            exact absurd H (by simp)
                                        · rw [if_neg c50] at H
                                          exact absurd H (by simp)
                                      · rw [if_neg c49] at H
                                        exact absurd H (by simp)
                                    · rw [if_neg c48] at H
                                      exact absurd H (by simp)
                                  · rw [if_neg c46] at H
                                    have c46b0 : decide (0 < x11_3) = false := decide_eq_false c46
                                    clear c46
                                    have H' := Aside0.mk H
                                    clear H
                                    go_wp2
                                    repeat (go_quiet (fail); try go_wp2)
                                    go_roundg kj34
                                    case measure => have := HK1.out; have := HJ16.out; have := HK3.out; have := HJ34.out; omega
                                    case rel => exact ⟨(wrap64 (x11_3 + 1)), (by first | rfl | (simp; done) | (simp [*]; done)), H', ⟨by have := HK1.out; have := HJ16.out; have := HK3.out; have := HJ34.out; omega⟩, ⟨by (with_reducible repeat (first | apply Kd.R_alloc | apply Kd.R_drewN | apply Kd.R_drew)); exact HO_7.out⟩, ⟨by (with_reducible repeat (first | apply Kd.R_alloc | apply Kd.R_drewN | apply Kd.R_drew)); exact HO_9.out⟩, ⟨by repeat (first | (with_reducible first | exact HI221.out | apply IsS23.alloc | apply IsS23.drewN | apply IsS23.drew) | exact HI221.out)⟩, ⟨by repeat (first | (with_reducible first | exact HB.out | apply below_alloc | apply pw_below_drewN | apply below_drew1 | refine below_set ?_ (IsS23.ge HI221.out)) | exact HB.out)⟩⟩
                          · rw [if_neg c34] at H
                            have c34b0 : decide (x11_3 < (t226.length : Int)) = false := decide_eq_false c34
                            clear c34
                            replace H := Option.bind_eq_some_iff.mp H
                            obtain ⟨⟨t254, t257⟩, A630, H⟩ := H
                            replace H : (if t257 = 0 then ((tangramref03_SameInts.f k3 t254 t226).bind fun t258 => (tangramlaw06_BucketStable.j4 k3 a1 t226 (!t258) t220)) else (tangramlaw06_BucketStable.j4 k3 a1 t226 true t220)) = some r := H
                            have A63 := Aside0.mk A630
                            clear A630
                            have HC64 := Aside0.mk H
                            clear H
                            obtain ⟨Ao65, co65, eo65⟩ := Kd.R_slice HO_7.out
                            subst eo65
                            go_upto_region 24 with (first | (go_at_call 19; (with_reducible refine (bucket_Sort_int_two.calls k3 _ _ t226 g221 t220 a1 t254 t257 w _ ?side1 ?side2 ?side3 ?side4 ?side5 A63.out).mono ?_); (case side1 => repeat (first | (with_reducible first | exact HI221.out | apply IsS23.alloc | apply IsS23.drewN | apply IsS23.drew) | exact HI221.out)); (case side2 => repeat (first | (with_reducible first | exact HB.out | apply below_alloc | apply pw_below_drewN | apply below_drew1 | refine below_set ?_ (IsS23.ge HI221.out)) | exact HB.out)); (case side3 => repeat (first | exact (Kd.R_reads' HO_7.out).2.2 | (with_reducible refine Kd.C_alloc ?_ _) | (with_reducible refine Kd.C_drewN ?_ _) | (with_reducible refine Kd.C_drew ?_))); (case side4 => exact (Kd.R_reads' HO_7.out).2.1); (case side5 => exact far_slice (IsS23.own_ne HI221.out HO_7.out (by decide))); rintro e w66 ⟨v255, rfl, ho0, hi, hb, hk⟩; have n0_ := Aside0.mk (Kd.R_mono (Kd.R_told (Kd.R_oldK (IsS23.apart (show IsS23 w _ g221 t220 from by repeat (first | (with_reducible first | exact HI221.out | apply IsS23.alloc | apply IsS23.drewN | apply IsS23.drew) | exact HI221.out)) (by (with_reducible repeat (first | apply Kd.R_alloc | apply Kd.R_drewN | apply Kd.R_drew)); exact HO_7.out) (by decide)) hk) (Kd.R_base ho0)) (fun _ h_ => h_.1)); have n1_ := Aside0.mk (Kd.R_mono (Kd.R_told (Kd.R_oldK (IsS23.apart (show IsS23 w _ g221 t220 from by repeat (first | (with_reducible first | exact HI221.out | apply IsS23.alloc | apply IsS23.drewN | apply IsS23.drew) | exact HI221.out)) (by (with_reducible repeat (first | apply Kd.R_alloc | apply Kd.R_drewN | apply Kd.R_drew)); exact HO_9.out) (by decide)) hk) (Kd.R_base ho0)) (fun _ h_ => h_.1)); have n2_ := Aside0.mk (Kd.R_lower (Kd.R_new' (Kd.R_new' ho0 (Kd.R_lt (by (with_reducible repeat (first | apply Kd.R_alloc | apply Kd.R_drewN | apply Kd.R_drew)); exact HO_7.out))) (Kd.R_lt (by (with_reducible repeat (first | apply Kd.R_alloc | apply Kd.R_drewN | apply Kd.R_drew)); exact HO_9.out))) (below_size (by repeat (first | (with_reducible first | exact HB.out | apply below_alloc | apply pw_below_drewN | apply below_drew1 | refine below_set ?_ (IsS23.ge HI221.out)) | exact HB.out)))); have n3_ := Aside0.mk (hb); have n4_ := Aside0.mk (hi); clear HO_7; clear HO_9; clear HB; clear HI221; have HO_7 := n0_; have HO_9 := n1_; have HO256 := n2_; have HB := n3_; have HI221 := n4_; clear n0_ n1_ n2_ n3_ n4_; (try clear hb); (try clear hb2); (try clear hk); (try clear hi); (try clear ho0)))
                            repeat (go_quiet (first | (go_at_call 19; (with_reducible refine (bucket_Sort_int_two.calls k3 _ _ t226 g221 t220 a1 t254 t257 w _ ?side1 ?side2 ?side3 ?side4 ?side5 A63.out).mono ?_); (case side1 => repeat (first | (with_reducible first | exact HI221.out | apply IsS23.alloc | apply IsS23.drewN | apply IsS23.drew) | exact HI221.out)); (case side2 => repeat (first | (with_reducible first | exact HB.out | apply below_alloc | apply pw_below_drewN | apply below_drew1 | refine below_set ?_ (IsS23.ge HI221.out)) | exact HB.out)); (case side3 => repeat (first | exact (Kd.R_reads' HO_7.out).2.2 | (with_reducible refine Kd.C_alloc ?_ _) | (with_reducible refine Kd.C_drewN ?_ _) | (with_reducible refine Kd.C_drew ?_))); (case side4 => exact (Kd.R_reads' HO_7.out).2.1); (case side5 => exact far_slice (IsS23.own_ne HI221.out HO_7.out (by decide))); rintro e w66 ⟨v255, rfl, ho0, hi, hb, hk⟩; have n0_ := Aside0.mk (Kd.R_mono (Kd.R_told (Kd.R_oldK (IsS23.apart (show IsS23 w _ g221 t220 from by repeat (first | (with_reducible first | exact HI221.out | apply IsS23.alloc | apply IsS23.drewN | apply IsS23.drew) | exact HI221.out)) (by (with_reducible repeat (first | apply Kd.R_alloc | apply Kd.R_drewN | apply Kd.R_drew)); exact HO_7.out) (by decide)) hk) (Kd.R_base ho0)) (fun _ h_ => h_.1)); have n1_ := Aside0.mk (Kd.R_mono (Kd.R_told (Kd.R_oldK (IsS23.apart (show IsS23 w _ g221 t220 from by repeat (first | (with_reducible first | exact HI221.out | apply IsS23.alloc | apply IsS23.drewN | apply IsS23.drew) | exact HI221.out)) (by (with_reducible repeat (first | apply Kd.R_alloc | apply Kd.R_drewN | apply Kd.R_drew)); exact HO_9.out) (by decide)) hk) (Kd.R_base ho0)) (fun _ h_ => h_.1)); have n2_ := Aside0.mk (Kd.R_lower (Kd.R_new' (Kd.R_new' ho0 (Kd.R_lt (by (with_reducible repeat (first | apply Kd.R_alloc | apply Kd.R_drewN | apply Kd.R_drew)); exact HO_7.out))) (Kd.R_lt (by (with_reducible repeat (first | apply Kd.R_alloc | apply Kd.R_drewN | apply Kd.R_drew)); exact HO_9.out))) (below_size (by repeat (first | (with_reducible first | exact HB.out | apply below_alloc | apply pw_below_drewN | apply below_drew1 | refine below_set ?_ (IsS23.ge HI221.out)) | exact HB.out)))); have n3_ := Aside0.mk (hb); have n4_ := Aside0.mk (hi); clear HO_7; clear HO_9; clear HB; clear HI221; have HO_7 := n0_; have HO_9 := n1_; have HO256 := n2_; have HB := n3_; have HI221 := n4_; clear n0_ n1_ n2_ n3_ n4_; (try clear hb); (try clear hb2); (try clear hk); (try clear hi); (try clear ho0))); go_upto_region 24 with (first | (go_at_call 19; (with_reducible refine (bucket_Sort_int_two.calls k3 _ _ t226 g221 t220 a1 t254 t257 w _ ?side1 ?side2 ?side3 ?side4 ?side5 A63.out).mono ?_); (case side1 => repeat (first | (with_reducible first | exact HI221.out | apply IsS23.alloc | apply IsS23.drewN | apply IsS23.drew) | exact HI221.out)); (case side2 => repeat (first | (with_reducible first | exact HB.out | apply below_alloc | apply pw_below_drewN | apply below_drew1 | refine below_set ?_ (IsS23.ge HI221.out)) | exact HB.out)); (case side3 => repeat (first | exact (Kd.R_reads' HO_7.out).2.2 | (with_reducible refine Kd.C_alloc ?_ _) | (with_reducible refine Kd.C_drewN ?_ _) | (with_reducible refine Kd.C_drew ?_))); (case side4 => exact (Kd.R_reads' HO_7.out).2.1); (case side5 => exact far_slice (IsS23.own_ne HI221.out HO_7.out (by decide))); rintro e w66 ⟨v255, rfl, ho0, hi, hb, hk⟩; have n0_ := Aside0.mk (Kd.R_mono (Kd.R_told (Kd.R_oldK (IsS23.apart (show IsS23 w _ g221 t220 from by repeat (first | (with_reducible first | exact HI221.out | apply IsS23.alloc | apply IsS23.drewN | apply IsS23.drew) | exact HI221.out)) (by (with_reducible repeat (first | apply Kd.R_alloc | apply Kd.R_drewN | apply Kd.R_drew)); exact HO_7.out) (by decide)) hk) (Kd.R_base ho0)) (fun _ h_ => h_.1)); have n1_ := Aside0.mk (Kd.R_mono (Kd.R_told (Kd.R_oldK (IsS23.apart (show IsS23 w _ g221 t220 from by repeat (first | (with_reducible first | exact HI221.out | apply IsS23.alloc | apply IsS23.drewN | apply IsS23.drew) | exact HI221.out)) (by (with_reducible repeat (first | apply Kd.R_alloc | apply Kd.R_drewN | apply Kd.R_drew)); exact HO_9.out) (by decide)) hk) (Kd.R_base ho0)) (fun _ h_ => h_.1)); have n2_ := Aside0.mk (Kd.R_lower (Kd.R_new' (Kd.R_new' ho0 (Kd.R_lt (by (with_reducible repeat (first | apply Kd.R_alloc | apply Kd.R_drewN | apply Kd.R_drew)); exact HO_7.out))) (Kd.R_lt (by (with_reducible repeat (first | apply Kd.R_alloc | apply Kd.R_drewN | apply Kd.R_drew)); exact HO_9.out))) (below_size (by repeat (first | (with_reducible first | exact HB.out | apply below_alloc | apply pw_below_drewN | apply below_drew1 | refine below_set ?_ (IsS23.ge HI221.out)) | exact HB.out)))); have n3_ := Aside0.mk (hb); have n4_ := Aside0.mk (hi); clear HO_7; clear HO_9; clear HB; clear HI221; have HO_7 := n0_; have HO_9 := n1_; have HO256 := n2_; have HB := n3_; have HI221 := n4_; clear n0_ n1_ n2_ n3_ n4_; (try clear hb); (try clear hb2); (try clear hk); (try clear hi); (try clear ho0))))
                            (try simp only [Act.put, List.setIfInBounds_toArray, List.set_cons_zero, List.set_cons_succ])
                            go_cut [165] (fun v165 wc => ∃ (kq : Nat) (x165_63 : Bool), v165 = .bool x165_63 ∧ Aside0 (tangramlaw06_BucketStable.j4 kq a1 t226 x165_63 t220 = some r) ∧ Aside0 (kq ≤ k3) ∧ Aside0 (Kd.R (Kd.int .i64) 3 wc w.heap.size (fun _ => True) (.slice Ao65 t226.length co65) t226) ∧ Aside0 (IsS23 w wc g221 t220) ∧ Aside0 (Below w.heap.size w wc))
                            case first =>
                              have H := HC64.out
                              clear HC64
                              by_cases c67 : t257 = 0
                              · rw [if_pos c67] at H
                                have c67b0 : (t257 == 0) = true := beq_iff_eq.mpr c67
                                have c67b1 : (t257 != 0) = false := bne_eq_false_iff_eq.mpr c67
                                clear c67
                                (first | rw [c67b0] | (simp only [i64_w, i32_w]; rw [c67b0]) | skip)
                                replace H := Option.bind_eq_some_iff.mp H
                                obtain ⟨t258, A680, H⟩ := H
                                replace H : (tangramlaw06_BucketStable.j4 k3 a1 t226 (!t258) t220) = some r := H
                                have A68 := Aside0.mk A680
                                clear A680
                                have H' := Aside0.mk H
                                clear H
                                obtain ⟨Ao69, co69, eo69⟩ := Kd.R_slice HO256.out
                                subst eo69
                                go_wp2_with (first | (go_at_call 18; (with_reducible refine (tangramref03_SameInts.calls k3 _ _ t254 _ _ t226 t258 _ ?side1 ?side2 ?side3 ?side4 A68.out).mono ?_); (case side1 => repeat (first | exact (Kd.R_reads' HO256.out).2.2 | (with_reducible refine Kd.C_alloc ?_ _) | (with_reducible refine Kd.C_drewN ?_ _) | (with_reducible refine Kd.C_drew ?_))); (case side2 => exact (Kd.R_reads' HO256.out).2.1); (case side3 => repeat (first | exact (Kd.R_reads' HO_7.out).2.2 | (with_reducible refine Kd.C_alloc ?_ _) | (with_reducible refine Kd.C_drewN ?_ _) | (with_reducible refine Kd.C_drew ?_))); (case side4 => exact (Kd.R_reads' HO_7.out).2.1); rintro e w' ⟨rfl, ⟨nd, rfl⟩⟩; (try first | exact ⟨rfl, _, World.drewN_drewN _ _ _⟩ | exact ⟨rfl, _, Eq.trans (World.drewN_drewN _ _ _) (congrArg (World.drewN _) (Nat.add_assoc _ _ _))⟩)))
                                repeat (go_quiet (first | (go_at_call 18; (with_reducible refine (tangramref03_SameInts.calls k3 _ _ t254 _ _ t226 t258 _ ?side1 ?side2 ?side3 ?side4 A68.out).mono ?_); (case side1 => repeat (first | exact (Kd.R_reads' HO256.out).2.2 | (with_reducible refine Kd.C_alloc ?_ _) | (with_reducible refine Kd.C_drewN ?_ _) | (with_reducible refine Kd.C_drew ?_))); (case side2 => exact (Kd.R_reads' HO256.out).2.1); (case side3 => repeat (first | exact (Kd.R_reads' HO_7.out).2.2 | (with_reducible refine Kd.C_alloc ?_ _) | (with_reducible refine Kd.C_drewN ?_ _) | (with_reducible refine Kd.C_drew ?_))); (case side4 => exact (Kd.R_reads' HO_7.out).2.1); rintro e w' ⟨rfl, ⟨nd, rfl⟩⟩; (try first | exact ⟨rfl, _, World.drewN_drewN _ _ _⟩ | exact ⟨rfl, _, Eq.trans (World.drewN_drewN _ _ _) (congrArg (World.drewN _) (Nat.add_assoc _ _ _))⟩))); try go_wp2_with (first | (go_at_call 18; (with_reducible refine (tangramref03_SameInts.calls k3 _ _ t254 _ _ t226 t258 _ ?side1 ?side2 ?side3 ?side4 A68.out).mono ?_); (case side1 => repeat (first | exact (Kd.R_reads' HO256.out).2.2 | (with_reducible refine Kd.C_alloc ?_ _) | (with_reducible refine Kd.C_drewN ?_ _) | (with_reducible refine Kd.C_drew ?_))); (case side2 => exact (Kd.R_reads' HO256.out).2.1); (case side3 => repeat (first | exact (Kd.R_reads' HO_7.out).2.2 | (with_reducible refine Kd.C_alloc ?_ _) | (with_reducible refine Kd.C_drewN ?_ _) | (with_reducible refine Kd.C_drew ?_))); (case side4 => exact (Kd.R_reads' HO_7.out).2.1); rintro e w' ⟨rfl, ⟨nd, rfl⟩⟩; (try first | exact ⟨rfl, _, World.drewN_drewN _ _ _⟩ | exact ⟨rfl, _, Eq.trans (World.drewN_drewN _ _ _) (congrArg (World.drewN _) (Nat.add_assoc _ _ _))⟩))))
                                go_meet
                                case rel => exact ⟨_, (!t258), (by first | rfl | (simp; done) | (simp [*]; done)), H', ⟨by have := HK1.out; have := HJ16.out; have := HK3.out; first | omega | exact Nat.le_refl _⟩, ⟨by (with_reducible repeat (first | apply Kd.R_alloc | apply Kd.R_drewN | apply Kd.R_drew)); exact Kd.R_mono HO_7.out (fun _ hk => trivial)⟩, ⟨by repeat (first | (with_reducible first | exact HI221.out | apply IsS23.alloc | apply IsS23.drewN | apply IsS23.drew) | exact HI221.out)⟩, ⟨by repeat (first | (with_reducible first | exact HB.out | apply below_alloc | apply pw_below_drewN | apply below_drew1 | refine below_set ?_ (IsS23.ge HI221.out)) | exact HB.out)⟩⟩
                              · rw [if_neg c67] at H
                                have c67b0 : (t257 == 0) = false := beq_eq_false_iff_ne.mpr c67
                                have c67b1 : (t257 != 0) = true := bne_iff_ne.mpr c67
                                (first | rw [c67b0] | (simp only [i64_w, i32_w]; rw [c67b0]) | skip)
                                have H' := Aside0.mk H
                                clear H
                                go_wp2
                                repeat (go_quiet (fail); try go_wp2)
                                go_meet
                                case rel => exact ⟨_, (true), (by first | rfl | (simp; done) | (simp [*]; done)), H', ⟨by have := HK1.out; have := HJ16.out; have := HK3.out; first | omega | exact Nat.le_refl _⟩, ⟨by (with_reducible repeat (first | apply Kd.R_alloc | apply Kd.R_drewN | apply Kd.R_drew)); exact Kd.R_mono HO_7.out (fun _ hk => trivial)⟩, ⟨by repeat (first | (with_reducible first | exact HI221.out | apply IsS23.alloc | apply IsS23.drewN | apply IsS23.drew) | exact HI221.out)⟩, ⟨by repeat (first | (with_reducible first | exact HB.out | apply below_alloc | apply pw_below_drewN | apply below_drew1 | refine below_set ?_ (IsS23.ge HI221.out)) | exact HB.out)⟩⟩
                            case rest =>
                              clear HC64
                              try clear c1
                              try clear c2
                              try clear p2
                              try clear q2
                              try clear hx2
                              try clear c3
                              try clear c4
                              try clear c5
                              try clear c6
                              try clear p6
                              try clear c8
                              try clear c8b0
                              try clear c9
                              try clear c13
                              try clear c15
                              try clear c15b0
                              try clear c15b1
                              try clear c16
                              try clear c16b0
                              try clear c16b1
                              try clear p24
                              try clear q24
                              try clear hx24
                              try clear p25
                              try clear q25
                              try clear hx25
                              try clear c27
                              try clear c27b0
                              try clear c27b1
                              try clear c27b2
                              try clear c33
                              try clear c34
                              try clear c34b0
                              try clear c37
                              try clear c37b0
                              try clear c38
                              try clear c38b0
                              try clear c39
                              try clear c39b0
                              try clear c41
                              try clear c41b0
                              try clear c42
                              try clear c42b0
                              try clear c45
                              try clear c46
                              try clear c46b0
                              try clear c48
                              try clear c48b0
                              try clear c49
                              try clear c49b0
                              try clear c50
                              try clear c50b0
                              try clear c51
                              try clear c51b0
                              try clear c52
                              try clear c52b0
                              try clear c53
                              try clear c53b0
                              try clear c54
                              try clear c54b0
                              try clear c55
                              try clear c55b0
                              try clear c56
                              try clear c56b0
                              try clear c58
                              try clear c58b0
                              try clear c58b1
                              try clear c59
                              try clear c59b0
                              try clear p64
                              try clear c67
                              try clear c67b0
                              try clear c67b1
                              try clear hcz10_0
                              try clear hcz18_0
                              try clear hcz23_0
                              try clear hcz29_0
                              try clear hcz32_0
                              try clear hcz40_0
                              try clear hcz43_0
                              try clear hcz57_0
                              try clear hcz60_0
                              try clear hcz61_0
                              try clear hcz62_0
                              try clear hx240_0
                              try clear hx241_0
                              try clear hx242_0
                              try clear hx243_0
                              try clear hx244_0
                              try clear hx245_0
                              try clear hx246_0
                              try clear hx247_0
                              try clear hx248_0
                              try clear hx249_0
                              try clear hx250_0
                              try clear hx251_0
                              try clear hx252_0
                              try clear hx253_0
                              try clear p2
                              try clear p24
                              try clear p240
                              try clear p241
                              try clear p242
                              try clear p243
                              try clear p244
                              try clear p245
                              try clear p246
                              try clear p247
                              try clear p248
                              try clear p249
                              try clear p250
                              try clear p251
                              try clear p252
                              try clear p253
                              try clear p6
                              try clear q2
                              try clear q24
                              try clear q240
                              try clear q241
                              try clear q242
                              try clear q243
                              try clear q244
                              try clear q245
                              try clear q246
                              try clear q247
                              try clear q248
                              try clear q249
                              try clear q250
                              try clear q251
                              try clear q252
                              try clear q253
                              obtain ⟨kq, x165_63, rfl, HA, HJ63, HO_7, HI221, HB⟩ := hcut
                              cases kq with
                              | zero => exact absurd HA.out (by simp [tangramlaw06_BucketStable.j4])
                              | succ kj63 =>
                                have H := HA.out
                                clear HA
                                simp only [tangramlaw06_BucketStable.j4] at H
                                by_cases c70 : x165_63 = true
                                · subst c70
                                  have H1 : (some false) = some r := by rw [if_pos rfl] at H; exact H
                                  clear H
                                  have H := H1
                                  clear H1
                                  obtain rfl := Option.some.inj H
                                  go_wp2
                                  repeat (go_quiet (fail); try go_wp2)
                                  go_ret
                                  exact ⟨by first | rfl | (simp [errW_none, errW_some] <;> rfl) | (simp [*, errW_none, errW_some] <;> rfl), by repeat (first | (with_reducible first | exact HB.out | apply below_alloc | apply pw_below_drewN | apply below_drew1 | refine below_set ?_ (IsS23.ge HI221.out)) | exact HB.out)⟩
                                · replace c70 := Bool.eq_false_iff.mpr c70
                                  subst c70
                                  have H1 : (if a1 > 100000 then (some true) else ((some (([] : List Int) : List Int)).bind fun y259 => (if y259.length + t220.length < 17592186044416 then ((bucket_Group.f kj63 (y259 ++ t220) a1).bind fun bt265 => (tangramlaw06_BucketStable.l2 kj63 t226 bt265.1 ([] : List Int) 0)) else (none)))) = some r := by rw [if_neg (show ¬ (false = true) by decide)] at H; exact H
                                  clear H
                                  have H := H1
                                  clear H1
                                  by_cases c71 : a1 > 100000
                                  · rw [if_pos c71] at H
                                    have c71b0 : decide (100000 < a1) = true := decide_eq_true c71
                                    clear c71
                                    obtain rfl := Option.some.inj H
                                    go_wp2
                                    repeat (go_quiet (fail); try go_wp2)
                                    go_ret
                                    exact ⟨by first | rfl | (simp [errW_none, errW_some] <;> rfl) | (simp [*, errW_none, errW_some] <;> rfl), by repeat (first | (with_reducible first | exact HB.out | apply below_alloc | apply pw_below_drewN | apply below_drew1 | refine below_set ?_ (IsS23.ge HI221.out)) | exact HB.out)⟩
                                  · rw [if_neg c71] at H
                                    have c71b0 : decide (100000 < a1) = false := decide_eq_false c71
                                    clear c71
                                    obtain ⟨y259, hy259⟩ : ∃ y_ : List Int, y_ = (([] : List Int)) := ⟨_, rfl⟩
                                    replace H : (if y259.length + t220.length < 17592186044416 then ((bucket_Group.f kj63 (y259 ++ t220) a1).bind fun bt265 => (tangramlaw06_BucketStable.l2 kj63 t226 bt265.1 ([] : List Int) 0)) else (none)) = some r := by first | (rw [hy259]; with_reducible exact H) | (have H2_ := (Option.bind_some _ _).symm.trans H; rw [hy259]; with_reducible exact H2_) | (have H2_ := (Option.bind_some _ _).symm.trans H; with_reducible exact H2_) | with_reducible exact H | (rw [hy259]; exact H) | exact H
                                    have Ny259 := Aside0.mk hy259
                                    clear hy259
                                    by_cases c72 : y259.length + t220.length < 17592186044416
                                    · rw [if_pos c72] at H
                                      have LMc72 := Aside0.mk c72
                                      clear c72
                                      obtain ⟨y262, hy262⟩ : ∃ y_ : List Int, y_ = (y259 ++ t220) := ⟨_, rfl⟩
                                      replace H : ((bucket_Group.f kj63 y262 a1).bind fun bt265 => (tangramlaw06_BucketStable.l2 kj63 t226 bt265.1 ([] : List Int) 0)) = some r := by first | (rw [hy262]; with_reducible exact H) | (have H2_ := (Option.bind_some _ _).symm.trans H; rw [hy262]; with_reducible exact H2_) | (have H2_ := (Option.bind_some _ _).symm.trans H; with_reducible exact H2_) | with_reducible exact H | (rw [hy262]; exact H) | exact H
                                      have Ny262 := Aside0.mk hy262
                                      clear hy262
                                      replace H := Option.bind_eq_some_iff.mp H
                                      obtain ⟨⟨t265, t266⟩, A730, H⟩ := H
                                      replace H : (tangramlaw06_BucketStable.l2 kj63 t226 t265 ([] : List Int) 0) = some r := H
                                      have A73 := Aside0.mk A730
                                      clear A730
                                      have H' := Aside0.mk H
                                      clear H
                                      go_wp2_with (first | ((with_reducible refine gate_dst (N := 169) rfl ?_); (try (refine gate_guard (by rfl) ?_; dsimp only)); refine Kd.R_lit (Kd.int .i64) _ 3 ?hg (N := 169) ?hd (xs := ([] : List Int)) (inner := []) (ok := fun _ => True) (okp := fun _ => True) ?hr ?hp (fun _ hk => hk) trivial (Below.refl _ _) (Nat.le_refl _) (by simp) ?_; (case hd => rfl); (case hg => rfl); (case hr => first | (go_simp; done) | (go_simp; rfl)); (case hp => exact (Reps.none _ _)); intro v260 w74 ho75 hb hg_ hnew_; clear hg_ hnew_; (first | rw [← Ny259.out] at ho75 | (simp only [Int.reduceToNat] at ho75; rw [← Ny259.out] at ho75)); have n0_ := Aside0.mk (Kd.R_elder' (by (with_reducible repeat (first | apply Kd.R_alloc | apply Kd.R_drewN | apply Kd.R_drew)); exact HO_7.out) (Kd.R_base ho75) hb); have n1_ := Aside0.mk (Kd.R_lower (Kd.R_new' ho75 (Kd.R_lt (by (with_reducible repeat (first | apply Kd.R_alloc | apply Kd.R_drewN | apply Kd.R_drew)); exact HO_7.out))) (below_size (by repeat (first | (with_reducible first | exact HB.out | apply below_alloc | apply pw_below_drewN | apply below_drew1 | refine below_set ?_ (IsS23.ge HI221.out)) | exact HB.out)))); have n2_ := Aside0.mk (IsS23.below (by repeat (first | (with_reducible first | exact HI221.out | apply IsS23.alloc | apply IsS23.drewN | apply IsS23.drew) | exact HI221.out)) hb); have n3_ := Aside0.mk (below_step (by repeat (first | (with_reducible first | exact HB.out | apply below_alloc | apply pw_below_drewN | apply below_drew1 | refine below_set ?_ (IsS23.ge HI221.out)) | exact HB.out)) hb); clear HO_7; clear HI221; clear HB; have HO_7 := n0_; have HO261 := n1_; have HI221 := n2_; have HB := n3_; clear n0_ n1_ n2_ n3_; clear hb ho75; obtain ⟨ASz76_0, cSz76_0, HGz76, hgz76, HSz76_0⟩ := HI221.out; have hcz76_0 := cellS23_0 HGz76; clear HGz76 hgz76) | ((with_reducible refine gate_builtin (b := .append) (xs := #[.tmp 169, .tmp 170]) rfl ?_); (try (refine gate_guard (by rfl) ?_; dsimp only)); at_builtin; refine Kd.R_append_rows (Kd.int .i64) (w0 := w) w.heap.size rfl (.tmp 169) (.tmp 170) 23 3 (.int .i64 0) 8 rfl Try.underlying23 info3 rfl (by decide) (by omega) v260 y259 t220 _ _ _ (fun k_ => some k_ ≠ (.slice Ao65 t226.length co65 : Value).ownBlock) (fun _ => False) rfl rfl ?aO ?aR (fun _ _ h => h) (fun _ h => h.elim) ?aF ?aB ?aS ?aL ?_; (case aR => exact Kd.C_below HSz76_0 (by repeat (first | (with_reducible first | exact HB.out | apply below_alloc | apply pw_below_drewN | apply below_drew1 | refine below_set ?_ (IsS23.ge HI221.out)) | exact HB.out))); (case aB => exact (by repeat (first | (with_reducible first | exact HB.out | apply below_alloc | apply pw_below_drewN | apply below_drew1 | refine below_set ?_ (IsS23.ge HI221.out)) | exact HB.out))); (case aF => exact (fun k_ hk => Kd.fresh' (Kd.R_lt (by (with_reducible repeat (first | apply Kd.R_alloc | apply Kd.R_drewN | apply Kd.R_drew)); exact HO_7.out)) k_ hk)); (case aO => exact (by (with_reducible repeat (first | apply Kd.R_alloc | apply Kd.R_drewN | apply Kd.R_drew)); exact Kd.R_mono HO261.out (fun _ hk => hk.2))); (case aS => exact (below_size (by repeat (first | (with_reducible first | exact HB.out | apply below_alloc | apply pw_below_drewN | apply below_drew1 | refine below_set ?_ (IsS23.ge HI221.out)) | exact HB.out)))); (case aL => have := LMc72.out; omega); intro v263 w77 ho hb hg hat; rw [← Ny262.out] at ho; have n0_ := Aside0.mk (Kd.R_after (ok := (fun _ => True)) (by (with_reducible repeat (first | apply Kd.R_alloc | apply Kd.R_drewN | apply Kd.R_drew)); exact HO_7.out) hg hat); have n1_ := Aside0.mk (IsS23.grown (by repeat (first | (with_reducible first | exact HI221.out | apply IsS23.alloc | apply IsS23.drewN | apply IsS23.drew) | exact HI221.out)) hg (IsS23.own_ne HI221.out HO261.out (by decide))); have n2_ := Aside0.mk (hb); have n3_ := Aside0.mk (ho); clear HO_7; clear HI221; clear HB; clear HO261; have HO_7 := n0_; have HI221 := n1_; have HB := n2_; have HO264 := n3_; clear n0_ n1_ n2_ n3_; clear ho hb hg hat; obtain ⟨Ao78, co78, eo78⟩ := Kd.R_slice HO264.out; subst eo78) | (go_at_call 21; (with_reducible refine (bucket_Group.calls kj63 _ _ y262 a1 t265 t266 _ ?side1 ?side2 A73.out).mono ?_); (case side1 => repeat (first | exact (Kd.R_reads' HO264.out).2.2 | (with_reducible refine Kd.C_alloc ?_ _) | (with_reducible refine Kd.C_drewN ?_ _) | (with_reducible refine Kd.C_drew ?_))); (case side2 => exact (Kd.R_reads' HO264.out).2.1); rintro e w79 ⟨v267, rfl, ho0, hb⟩; have n0_ := Aside0.mk (Kd.R_below (by (with_reducible repeat (first | apply Kd.R_alloc | apply Kd.R_drewN | apply Kd.R_drew)); exact HO_7.out) hb); have n1_ := Aside0.mk (Kd.R_below (by (with_reducible repeat (first | apply Kd.R_alloc | apply Kd.R_drewN | apply Kd.R_drew)); exact HO264.out) hb); have n2_ := Aside0.mk (Kd.S_lower (Kd.S_new' (Kd.S_new' ho0 (Kd.R_lt (by (with_reducible repeat (first | apply Kd.R_alloc | apply Kd.R_drewN | apply Kd.R_drew)); exact HO_7.out))) (Kd.R_lt (by (with_reducible repeat (first | apply Kd.R_alloc | apply Kd.R_drewN | apply Kd.R_drew)); exact HO264.out))) (below_size (by repeat (first | (with_reducible first | exact HB.out | apply below_alloc | apply pw_below_drewN | apply below_drew1 | refine below_set ?_ (IsS23.ge HI221.out)) | exact HB.out)))); have n3_ := Aside0.mk (IsS23.below (by repeat (first | (with_reducible first | exact HI221.out | apply IsS23.alloc | apply IsS23.drewN | apply IsS23.drew) | exact HI221.out)) hb); have n4_ := Aside0.mk (below_step (by repeat (first | (with_reducible first | exact HB.out | apply below_alloc | apply pw_below_drewN | apply below_drew1 | refine below_set ?_ (IsS23.ge HI221.out)) | exact HB.out)) hb); clear HO_7; clear HO264; clear HI221; clear HB; have HO_7 := n0_; have HO264 := n1_; have HO268 := n2_; have HI221 := n3_; have HB := n4_; clear n0_ n1_ n2_ n3_ n4_; (try clear hb); (try clear hb2); (try clear hk); (try clear hi); (try clear ho0)))
                                      repeat (go_quiet (first | ((with_reducible refine gate_dst (N := 169) rfl ?_); (try (refine gate_guard (by rfl) ?_; dsimp only)); refine Kd.R_lit (Kd.int .i64) _ 3 ?hg (N := 169) ?hd (xs := ([] : List Int)) (inner := []) (ok := fun _ => True) (okp := fun _ => True) ?hr ?hp (fun _ hk => hk) trivial (Below.refl _ _) (Nat.le_refl _) (by simp) ?_; (case hd => rfl); (case hg => rfl); (case hr => first | (go_simp; done) | (go_simp; rfl)); (case hp => exact (Reps.none _ _)); intro v260 w74 ho75 hb hg_ hnew_; clear hg_ hnew_; (first | rw [← Ny259.out] at ho75 | (simp only [Int.reduceToNat] at ho75; rw [← Ny259.out] at ho75)); have n0_ := Aside0.mk (Kd.R_elder' (by (with_reducible repeat (first | apply Kd.R_alloc | apply Kd.R_drewN | apply Kd.R_drew)); exact HO_7.out) (Kd.R_base ho75) hb); have n1_ := Aside0.mk (Kd.R_lower (Kd.R_new' ho75 (Kd.R_lt (by (with_reducible repeat (first | apply Kd.R_alloc | apply Kd.R_drewN | apply Kd.R_drew)); exact HO_7.out))) (below_size (by repeat (first | (with_reducible first | exact HB.out | apply below_alloc | apply pw_below_drewN | apply below_drew1 | refine below_set ?_ (IsS23.ge HI221.out)) | exact HB.out)))); have n2_ := Aside0.mk (IsS23.below (by repeat (first | (with_reducible first | exact HI221.out | apply IsS23.alloc | apply IsS23.drewN | apply IsS23.drew) | exact HI221.out)) hb); have n3_ := Aside0.mk (below_step (by repeat (first | (with_reducible first | exact HB.out | apply below_alloc | apply pw_below_drewN | apply below_drew1 | refine below_set ?_ (IsS23.ge HI221.out)) | exact HB.out)) hb); clear HO_7; clear HI221; clear HB; have HO_7 := n0_; have HO261 := n1_; have HI221 := n2_; have HB := n3_; clear n0_ n1_ n2_ n3_; clear hb ho75; obtain ⟨ASz76_0, cSz76_0, HGz76, hgz76, HSz76_0⟩ := HI221.out; have hcz76_0 := cellS23_0 HGz76; clear HGz76 hgz76) | ((with_reducible refine gate_builtin (b := .append) (xs := #[.tmp 169, .tmp 170]) rfl ?_); (try (refine gate_guard (by rfl) ?_; dsimp only)); at_builtin; refine Kd.R_append_rows (Kd.int .i64) (w0 := w) w.heap.size rfl (.tmp 169) (.tmp 170) 23 3 (.int .i64 0) 8 rfl Try.underlying23 info3 rfl (by decide) (by omega) v260 y259 t220 _ _ _ (fun k_ => some k_ ≠ (.slice Ao65 t226.length co65 : Value).ownBlock) (fun _ => False) rfl rfl ?aO ?aR (fun _ _ h => h) (fun _ h => h.elim) ?aF ?aB ?aS ?aL ?_; (case aR => exact Kd.C_below HSz76_0 (by repeat (first | (with_reducible first | exact HB.out | apply below_alloc | apply pw_below_drewN | apply below_drew1 | refine below_set ?_ (IsS23.ge HI221.out)) | exact HB.out))); (case aB => exact (by repeat (first | (with_reducible first | exact HB.out | apply below_alloc | apply pw_below_drewN | apply below_drew1 | refine below_set ?_ (IsS23.ge HI221.out)) | exact HB.out))); (case aF => exact (fun k_ hk => Kd.fresh' (Kd.R_lt (by (with_reducible repeat (first | apply Kd.R_alloc | apply Kd.R_drewN | apply Kd.R_drew)); exact HO_7.out)) k_ hk)); (case aO => exact (by (with_reducible repeat (first | apply Kd.R_alloc | apply Kd.R_drewN | apply Kd.R_drew)); exact Kd.R_mono HO261.out (fun _ hk => hk.2))); (case aS => exact (below_size (by repeat (first | (with_reducible first | exact HB.out | apply below_alloc | apply pw_below_drewN | apply below_drew1 | refine below_set ?_ (IsS23.ge HI221.out)) | exact HB.out)))); (case aL => have := LMc72.out; omega); intro v263 w77 ho hb hg hat; rw [← Ny262.out] at ho; have n0_ := Aside0.mk (Kd.R_after (ok := (fun _ => True)) (by (with_reducible repeat (first | apply Kd.R_alloc | apply Kd.R_drewN | apply Kd.R_drew)); exact HO_7.out) hg hat); have n1_ := Aside0.mk (IsS23.grown (by repeat (first | (with_reducible first | exact HI221.out | apply IsS23.alloc | apply IsS23.drewN | apply IsS23.drew) | exact HI221.out)) hg (IsS23.own_ne HI221.out HO261.out (by decide))); have n2_ := Aside0.mk (hb); have n3_ := Aside0.mk (ho); clear HO_7; clear HI221; clear HB; clear HO261; have HO_7 := n0_; have HI221 := n1_; have HB := n2_; have HO264 := n3_; clear n0_ n1_ n2_ n3_; clear ho hb hg hat; obtain ⟨Ao78, co78, eo78⟩ := Kd.R_slice HO264.out; subst eo78) | (go_at_call 21; (with_reducible refine (bucket_Group.calls kj63 _ _ y262 a1 t265 t266 _ ?side1 ?side2 A73.out).mono ?_); (case side1 => repeat (first | exact (Kd.R_reads' HO264.out).2.2 | (with_reducible refine Kd.C_alloc ?_ _) | (with_reducible refine Kd.C_drewN ?_ _) | (with_reducible refine Kd.C_drew ?_))); (case side2 => exact (Kd.R_reads' HO264.out).2.1); rintro e w79 ⟨v267, rfl, ho0, hb⟩; have n0_ := Aside0.mk (Kd.R_below (by (with_reducible repeat (first | apply Kd.R_alloc | apply Kd.R_drewN | apply Kd.R_drew)); exact HO_7.out) hb); have n1_ := Aside0.mk (Kd.R_below (by (with_reducible repeat (first | apply Kd.R_alloc | apply Kd.R_drewN | apply Kd.R_drew)); exact HO264.out) hb); have n2_ := Aside0.mk (Kd.S_lower (Kd.S_new' (Kd.S_new' ho0 (Kd.R_lt (by (with_reducible repeat (first | apply Kd.R_alloc | apply Kd.R_drewN | apply Kd.R_drew)); exact HO_7.out))) (Kd.R_lt (by (with_reducible repeat (first | apply Kd.R_alloc | apply Kd.R_drewN | apply Kd.R_drew)); exact HO264.out))) (below_size (by repeat (first | (with_reducible first | exact HB.out | apply below_alloc | apply pw_below_drewN | apply below_drew1 | refine below_set ?_ (IsS23.ge HI221.out)) | exact HB.out)))); have n3_ := Aside0.mk (IsS23.below (by repeat (first | (with_reducible first | exact HI221.out | apply IsS23.alloc | apply IsS23.drewN | apply IsS23.drew) | exact HI221.out)) hb); have n4_ := Aside0.mk (below_step (by repeat (first | (with_reducible first | exact HB.out | apply below_alloc | apply pw_below_drewN | apply below_drew1 | refine below_set ?_ (IsS23.ge HI221.out)) | exact HB.out)) hb); clear HO_7; clear HO264; clear HI221; clear HB; have HO_7 := n0_; have HO264 := n1_; have HO268 := n2_; have HI221 := n3_; have HB := n4_; clear n0_ n1_ n2_ n3_ n4_; (try clear hb); (try clear hb2); (try clear hk); (try clear hi); (try clear ho0))); try go_wp2_with (first | ((with_reducible refine gate_dst (N := 169) rfl ?_); (try (refine gate_guard (by rfl) ?_; dsimp only)); refine Kd.R_lit (Kd.int .i64) _ 3 ?hg (N := 169) ?hd (xs := ([] : List Int)) (inner := []) (ok := fun _ => True) (okp := fun _ => True) ?hr ?hp (fun _ hk => hk) trivial (Below.refl _ _) (Nat.le_refl _) (by simp) ?_; (case hd => rfl); (case hg => rfl); (case hr => first | (go_simp; done) | (go_simp; rfl)); (case hp => exact (Reps.none _ _)); intro v260 w74 ho75 hb hg_ hnew_; clear hg_ hnew_; (first | rw [← Ny259.out] at ho75 | (simp only [Int.reduceToNat] at ho75; rw [← Ny259.out] at ho75)); have n0_ := Aside0.mk (Kd.R_elder' (by (with_reducible repeat (first | apply Kd.R_alloc | apply Kd.R_drewN | apply Kd.R_drew)); exact HO_7.out) (Kd.R_base ho75) hb); have n1_ := Aside0.mk (Kd.R_lower (Kd.R_new' ho75 (Kd.R_lt (by (with_reducible repeat (first | apply Kd.R_alloc | apply Kd.R_drewN | apply Kd.R_drew)); exact HO_7.out))) (below_size (by repeat (first | (with_reducible first | exact HB.out | apply below_alloc | apply pw_below_drewN | apply below_drew1 | refine below_set ?_ (IsS23.ge HI221.out)) | exact HB.out)))); have n2_ := Aside0.mk (IsS23.below (by repeat (first | (with_reducible first | exact HI221.out | apply IsS23.alloc | apply IsS23.drewN | apply IsS23.drew) | exact HI221.out)) hb); have n3_ := Aside0.mk (below_step (by repeat (first | (with_reducible first | exact HB.out | apply below_alloc | apply pw_below_drewN | apply below_drew1 | refine below_set ?_ (IsS23.ge HI221.out)) | exact HB.out)) hb); clear HO_7; clear HI221; clear HB; have HO_7 := n0_; have HO261 := n1_; have HI221 := n2_; have HB := n3_; clear n0_ n1_ n2_ n3_; clear hb ho75; obtain ⟨ASz76_0, cSz76_0, HGz76, hgz76, HSz76_0⟩ := HI221.out; have hcz76_0 := cellS23_0 HGz76; clear HGz76 hgz76) | ((with_reducible refine gate_builtin (b := .append) (xs := #[.tmp 169, .tmp 170]) rfl ?_); (try (refine gate_guard (by rfl) ?_; dsimp only)); at_builtin; refine Kd.R_append_rows (Kd.int .i64) (w0 := w) w.heap.size rfl (.tmp 169) (.tmp 170) 23 3 (.int .i64 0) 8 rfl Try.underlying23 info3 rfl (by decide) (by omega) v260 y259 t220 _ _ _ (fun k_ => some k_ ≠ (.slice Ao65 t226.length co65 : Value).ownBlock) (fun _ => False) rfl rfl ?aO ?aR (fun _ _ h => h) (fun _ h => h.elim) ?aF ?aB ?aS ?aL ?_; (case aR => exact Kd.C_below HSz76_0 (by repeat (first | (with_reducible first | exact HB.out | apply below_alloc | apply pw_below_drewN | apply below_drew1 | refine below_set ?_ (IsS23.ge HI221.out)) | exact HB.out))); (case aB => exact (by repeat (first | (with_reducible first | exact HB.out | apply below_alloc | apply pw_below_drewN | apply below_drew1 | refine below_set ?_ (IsS23.ge HI221.out)) | exact HB.out))); (case aF => exact (fun k_ hk => Kd.fresh' (Kd.R_lt (by (with_reducible repeat (first | apply Kd.R_alloc | apply Kd.R_drewN | apply Kd.R_drew)); exact HO_7.out)) k_ hk)); (case aO => exact (by (with_reducible repeat (first | apply Kd.R_alloc | apply Kd.R_drewN | apply Kd.R_drew)); exact Kd.R_mono HO261.out (fun _ hk => hk.2))); (case aS => exact (below_size (by repeat (first | (with_reducible first | exact HB.out | apply below_alloc | apply pw_below_drewN | apply below_drew1 | refine below_set ?_ (IsS23.ge HI221.out)) | exact HB.out)))); (case aL => have := LMc72.out; omega); intro v263 w77 ho hb hg hat; rw [← Ny262.out] at ho; have n0_ := Aside0.mk (Kd.R_after (ok := (fun _ => True)) (by (with_reducible repeat (first | apply Kd.R_alloc | apply Kd.R_drewN | apply Kd.R_drew)); exact HO_7.out) hg hat); have n1_ := Aside0.mk (IsS23.grown (by repeat (first | (with_reducible first | exact HI221.out | apply IsS23.alloc | apply IsS23.drewN | apply IsS23.drew) | exact HI221.out)) hg (IsS23.own_ne HI221.out HO261.out (by decide))); have n2_ := Aside0.mk (hb); have n3_ := Aside0.mk (ho); clear HO_7; clear HI221; clear HB; clear HO261; have HO_7 := n0_; have HI221 := n1_; have HB := n2_; have HO264 := n3_; clear n0_ n1_ n2_ n3_; clear ho hb hg hat; obtain ⟨Ao78, co78, eo78⟩ := Kd.R_slice HO264.out; subst eo78) | (go_at_call 21; (with_reducible refine (bucket_Group.calls kj63 _ _ y262 a1 t265 t266 _ ?side1 ?side2 A73.out).mono ?_); (case side1 => repeat (first | exact (Kd.R_reads' HO264.out).2.2 | (with_reducible refine Kd.C_alloc ?_ _) | (with_reducible refine Kd.C_drewN ?_ _) | (with_reducible refine Kd.C_drew ?_))); (case side2 => exact (Kd.R_reads' HO264.out).2.1); rintro e w79 ⟨v267, rfl, ho0, hb⟩; have n0_ := Aside0.mk (Kd.R_below (by (with_reducible repeat (first | apply Kd.R_alloc | apply Kd.R_drewN | apply Kd.R_drew)); exact HO_7.out) hb); have n1_ := Aside0.mk (Kd.R_below (by (with_reducible repeat (first | apply Kd.R_alloc | apply Kd.R_drewN | apply Kd.R_drew)); exact HO264.out) hb); have n2_ := Aside0.mk (Kd.S_lower (Kd.S_new' (Kd.S_new' ho0 (Kd.R_lt (by (with_reducible repeat (first | apply Kd.R_alloc | apply Kd.R_drewN | apply Kd.R_drew)); exact HO_7.out))) (Kd.R_lt (by (with_reducible repeat (first | apply Kd.R_alloc | apply Kd.R_drewN | apply Kd.R_drew)); exact HO264.out))) (below_size (by repeat (first | (with_reducible first | exact HB.out | apply below_alloc | apply pw_below_drewN | apply below_drew1 | refine below_set ?_ (IsS23.ge HI221.out)) | exact HB.out)))); have n3_ := Aside0.mk (IsS23.below (by repeat (first | (with_reducible first | exact HI221.out | apply IsS23.alloc | apply IsS23.drewN | apply IsS23.drew) | exact HI221.out)) hb); have n4_ := Aside0.mk (below_step (by repeat (first | (with_reducible first | exact HB.out | apply below_alloc | apply pw_below_drewN | apply below_drew1 | refine below_set ?_ (IsS23.ge HI221.out)) | exact HB.out)) hb); clear HO_7; clear HO264; clear HI221; clear HB; have HO_7 := n0_; have HO264 := n1_; have HO268 := n2_; have HI221 := n3_; have HB := n4_; clear n0_ n1_ n2_ n3_ n4_; (try clear hb); (try clear hb2); (try clear hk); (try clear hi); (try clear ho0))))
                                      go_loopg [16, 17] kj63 (fun kq v16 v17 w' => ∃ (x16_5 : List Int) (x17_5 : Int), v17 = .int .i64 x17_5 ∧ Aside0 (tangramlaw06_BucketStable.l2 kq t226 t265 x16_5 x17_5 = some r) ∧ Aside0 (kq ≤ kj63) ∧ Aside0 (Kd.R (Kd.int .i64) 3 w' w.heap.size (fun k_ => some k_ ≠ (v16 : Value).ownBlock) (.slice Ao65 t226.length co65) t226) ∧ Aside0 (Kd.S (Kd.slice 3 (Kd.int .i64)) 23 w' w.heap.size (fun k_ => some k_ ≠ ((.slice Ao65 t226.length co65) : Value).ownBlock ∧ some k_ ≠ (v16 : Value).ownBlock) v267 t265) ∧ Aside0 (Kd.R (Kd.int .i64) 3 w' w.heap.size (fun k_ => some k_ ≠ ((.slice Ao65 t226.length co65) : Value).ownBlock) v16 x16_5) ∧ Aside0 (IsS23 w w' g221 t220) ∧ Aside0 (Below w.heap.size w w'))
                                      case atStart => exact ⟨(([] : List Int)), (0), (by first | rfl | (simp; done) | (simp [*]; done)), H', ⟨Nat.le_refl _⟩, ⟨by (with_reducible repeat (first | apply Kd.R_alloc | apply Kd.R_drewN | apply Kd.R_drew)); exact Kd.R_mono HO_7.out (fun _ hk => (by simp [Value.ownBlock]))⟩, ⟨by (with_reducible repeat (first | apply Kd.S_alloc | apply Kd.S_drewN | apply Kd.S_drew)); exact Kd.S_mono HO268.out (fun _ hk => ⟨hk.1.2, (by simp [Value.ownBlock])⟩)⟩, ⟨by first | exact Kd.R_nil _ _ _ _ _ | exact Kd.N_nil _ _ _ _ _ | exact Kd.V_nil _ _ _ _ _ | exact Kd.Q_nil _ _ _ _ _ | exact Kd.S_nil _ _ _ _ _⟩, ⟨by repeat (first | (with_reducible first | exact HI221.out | apply IsS23.alloc | apply IsS23.drewN | apply IsS23.drew) | exact HI221.out)⟩, ⟨by repeat (first | (with_reducible first | exact HB.out | apply below_alloc | apply pw_below_drewN | apply below_drew1 | refine below_set ?_ (IsS23.ge HI221.out)) | exact HB.out)⟩⟩
                                      case round =>
                                        clear H'
                                        try clear c1
                                        try clear c2
                                        try clear p2
                                        try clear q2
                                        try clear hx2
                                        try clear c3
                                        try clear c4
                                        try clear c5
                                        try clear c6
                                        try clear p6
                                        try clear c7
                                        try clear c8
                                        try clear c8b0
                                        try clear c9
                                        try clear c13
                                        try clear c15
                                        try clear c15b0
                                        try clear c15b1
                                        try clear c16
                                        try clear c16b0
                                        try clear c16b1
                                        try clear p24
                                        try clear q24
                                        try clear hx24
                                        try clear p25
                                        try clear q25
                                        try clear hx25
                                        try clear c27
                                        try clear c27b0
                                        try clear c27b1
                                        try clear c27b2
                                        try clear c33
                                        try clear c34
                                        try clear c34b0
                                        try clear c37
                                        try clear c37b0
                                        try clear c38
                                        try clear c38b0
                                        try clear c39
                                        try clear c39b0
                                        try clear c41
                                        try clear c41b0
                                        try clear c42
                                        try clear c42b0
                                        try clear c45
                                        try clear c46
                                        try clear c46b0
                                        try clear c48
                                        try clear c48b0
                                        try clear c49
                                        try clear c49b0
                                        try clear c50
                                        try clear c50b0
                                        try clear c51
                                        try clear c51b0
                                        try clear c52
                                        try clear c52b0
                                        try clear c53
                                        try clear c53b0
                                        try clear c54
                                        try clear c54b0
                                        try clear c55
                                        try clear c55b0
                                        try clear c56
                                        try clear c56b0
                                        try clear c58
                                        try clear c58b0
                                        try clear c58b1
                                        try clear c59
                                        try clear c59b0
                                        try clear p64
                                        try clear c67
                                        try clear c67b0
                                        try clear c67b1
                                        try clear c70
                                        try clear c71
                                        try clear c71b0
                                        try clear c72
                                        try clear hcz10_0
                                        try clear hcz18_0
                                        try clear hcz23_0
                                        try clear hcz29_0
                                        try clear hcz32_0
                                        try clear hcz40_0
                                        try clear hcz43_0
                                        try clear hcz57_0
                                        try clear hcz60_0
                                        try clear hcz61_0
                                        try clear hcz62_0
                                        try clear hcz76_0
                                        try clear hx240_0
                                        try clear hx241_0
                                        try clear hx242_0
                                        try clear hx243_0
                                        try clear hx244_0
                                        try clear hx245_0
                                        try clear hx246_0
                                        try clear hx247_0
                                        try clear hx248_0
                                        try clear hx249_0
                                        try clear hx250_0
                                        try clear hx251_0
                                        try clear hx252_0
                                        try clear hx253_0
                                        try clear p2
                                        try clear p24
                                        try clear p240
                                        try clear p241
                                        try clear p242
                                        try clear p243
                                        try clear p244
                                        try clear p245
                                        try clear p246
                                        try clear p247
                                        try clear p248
                                        try clear p249
                                        try clear p25
                                        try clear p250
                                        try clear p251
                                        try clear p252
                                        try clear p253
                                        try clear p6
                                        try clear p64
                                        try clear q2
                                        try clear q24
                                        try clear q240
                                        try clear q241
                                        try clear q242
                                        try clear q243
                                        try clear q244
                                        try clear q245
                                        try clear q246
                                        try clear q247
                                        try clear q248
                                        try clear q249
                                        try clear q25
                                        try clear q250
                                        try clear q251
                                        try clear q252
                                        try clear q253
                                        obtain ⟨x16_5, x17_5, rfl, HA, HK5, HO_7, HO_14, HO_16, HI221, HB⟩ := hrel
                                        cases gk with
                                        | zero => exact absurd HA.out (by simp [tangramlaw06_BucketStable.l2])
                                        | succ k5 =>
                                          have H := HA.out
                                          clear HA
                                          simp only [tangramlaw06_BucketStable.l2] at H
                                          by_cases c80 : x17_5 < (t265.length : Int)
                                          · rw [if_pos c80] at H
                                            have c80b0 : decide (x17_5 < (t265.length : Int)) = true := decide_eq_true c80
                                            clear c80
                                            by_cases c81 : 0 ≤ x17_5
                                            · rw [if_pos c81] at H
                                              have c81b0 : decide (0 ≤ x17_5) = true := decide_eq_true c81
                                              clear c81
                                              by_cases c82 : x16_5.length + (rd_L1 t265 x17_5).length < 17592186044416
                                              · rw [if_pos c82] at H
                                                have LMc82 := Aside0.mk c82
                                                clear c82
                                                obtain ⟨y270, hy270⟩ : ∃ y_ : List Int, y_ = (x16_5 ++ (rd_L1 t265 x17_5)) := ⟨_, rfl⟩
                                                replace H : (tangramlaw06_BucketStable.l2 k5 t226 t265 y270 (wrap64 (x17_5 + 1))) = some r := by first | (rw [hy270]; with_reducible exact H) | (have H2_ := (Option.bind_some _ _).symm.trans H; rw [hy270]; with_reducible exact H2_) | (have H2_ := (Option.bind_some _ _).symm.trans H; with_reducible exact H2_) | with_reducible exact H | (rw [hy270]; exact H) | exact H
                                                have Ny270 := Aside0.mk hy270
                                                clear hy270
                                                have H' := Aside0.mk H
                                                clear H
                                                obtain ⟨Ao83, co83, eo83⟩ := Kd.S_slice HO_14.out
                                                subst eo83
                                                have p269 : 0 ≤ (x17_5 : Int) := of_decide_eq_true (by first | (with_reducible assumption) | assumption)
                                                have q269 : x17_5 < (t265.length : Int) := of_decide_eq_true (by first | (with_reducible assumption) | assumption)
                                                obtain ⟨ad269, A269_0, c269_0, e269, hx269_0, hl269_0, hi269_0⟩ := at_L1 (Kd.S_reads' HO_14.out).2.2 x17_5 p269 q269
                                                cases e269
                                                obtain ⟨ce269, hce269, hMe269, hcc269⟩ := Kd.S_get HO_14.out [] x17_5 p269 (by first | exact q269 | exact of_decide_eq_true (by first | (with_reducible assumption) | assumption) | (have e_ := (Kd.S_reads' HO_14.out).1; omega))
                                                obtain ⟨ve269_0, rfl, ge269_0⟩ := hMe269
                                                have hv269_0 := hcc269 0 _ rfl
                                                rw [Nat.add_zero, show ((Kd.slice 3 (Kd.int .i64))).sz = 1 from rfl, Nat.mul_one] at hv269_0
                                                replace hv269_0 := Option.some.inj (hv269_0.symm.trans hx269_0)
                                                rw [hv269_0] at ge269_0
                                                have HL269_0 := Aside0.mk (show Kd.R (Kd.int .i64) 3 _ _ _ _ (rd_L1 t265 x17_5) from ge269_0)
                                                clear hv269_0 ge269_0
                                                clear hcc269 hce269
                                                have HR269_0 := Aside0.mk hi269_0
                                                have HC269_0 := Aside0.mk hl269_0
                                                clear hi269_0 hl269_0
                                                replace p269 := eq_true p269
                                                replace q269 := eq_true q269
                                                go_wp2_with (first | ((with_reducible refine gate_builtin (b := .append) (xs := #[.tmp 182, .tmp 186]) rfl ?_); (try (refine gate_guard (by rfl) ?_; dsimp only)); at_builtin; refine Kd.R_append_rows (Kd.int .i64) (w0 := w) w.heap.size rfl (.tmp 182) (.tmp 186) 23 3 (.int .i64 0) 8 rfl Try.underlying23 info3 rfl (by decide) (by omega) u16 x16_5 (rd_L1 t265 x17_5) _ _ _ (fun k_ => some k_ ≠ (.slice Ao65 t226.length co65 : Value).ownBlock) (fun _ => False) rfl rfl ?aO ?aR (fun _ _ h => h) (fun _ h => h.elim) ?aF ?aB ?aS ?aL ?_; (case aR => repeat (first | exact (by repeat (first | (with_reducible exact HR269_0.out) | (with_reducible refine Kd.C_alloc ?_ _) | (with_reducible refine Kd.C_drewN ?_ _) | (with_reducible refine Kd.C_drew ?_) | exact HR269_0.out)) | (with_reducible refine Kd.C_alloc ?_ _) | (with_reducible refine Kd.C_drewN ?_ _) | (with_reducible refine Kd.C_drew ?_))); (case aB => exact (by repeat (first | (with_reducible first | exact HB.out | apply below_alloc | apply pw_below_drewN | apply below_drew1 | refine below_set ?_ (IsS23.ge HI221.out)) | exact HB.out))); (case aF => exact (fun k_ hk => Kd.fresh' (Kd.R_lt (by (with_reducible repeat (first | apply Kd.R_alloc | apply Kd.R_drewN | apply Kd.R_drew)); exact HO_7.out)) k_ hk)); (case aO => exact (by (with_reducible repeat (first | apply Kd.R_alloc | apply Kd.R_drewN | apply Kd.R_drew)); exact HO_16.out)); (case aS => exact (below_size (by repeat (first | (with_reducible first | exact HB.out | apply below_alloc | apply pw_below_drewN | apply below_drew1 | refine below_set ?_ (IsS23.ge HI221.out)) | exact HB.out)))); (case aL => have := LMc82.out; omega); intro v271 w84 ho hb hg hat; rw [← Ny270.out] at ho; have n0_ := Aside0.mk (Kd.R_after (ok := (fun _ => True)) (by (with_reducible repeat (first | apply Kd.R_alloc | apply Kd.R_drewN | apply Kd.R_drew)); exact Kd.R_mono HO_7.out (fun _ hk => ⟨trivial, hk⟩)) hg hat); have n1_ := Aside0.mk (Kd.S_after (ok := (fun k_ => some k_ ≠ (.slice Ao65 t226.length co65 : Value).ownBlock)) (by (with_reducible repeat (first | apply Kd.S_alloc | apply Kd.S_drewN | apply Kd.S_drew)); exact HO_14.out) hg hat); have n2_ := Aside0.mk (IsS23.grown (by repeat (first | (with_reducible first | exact HI221.out | apply IsS23.alloc | apply IsS23.drewN | apply IsS23.drew) | exact HI221.out)) hg (IsS23.own_ne HI221.out HO_16.out (by decide))); have n3_ := Aside0.mk (Kd.R_after (ok := (fun k_ => some k_ ≠ (.slice Ao65 t226.length co65 : Value).ownBlock ∧ some k_ ≠ (.slice (some ad269) t265.length co83 : Value).ownBlock)) (by (with_reducible repeat (first | apply Kd.R_alloc | apply Kd.R_drewN | apply Kd.R_drew)); exact Kd.R_mono HL269_0.out (fun _ hk => ⟨⟨hk.1.1, hk.2⟩, hk.1.2⟩)) hg hat); have n4_ := Aside0.mk (hb); have n5_ := Aside0.mk (ho); clear HO_7; clear HO_14; clear HI221; clear HL269_0; clear HB; clear HO_16; have HO_7 := n0_; have HO_14 := n1_; have HI221 := n2_; have HL269_0 := n3_; have HB := n4_; have HO272 := n5_; clear n0_ n1_ n2_ n3_ n4_ n5_; clear ho hb hg hat))
                                                repeat (go_quiet (first | ((with_reducible refine gate_builtin (b := .append) (xs := #[.tmp 182, .tmp 186]) rfl ?_); (try (refine gate_guard (by rfl) ?_; dsimp only)); at_builtin; refine Kd.R_append_rows (Kd.int .i64) (w0 := w) w.heap.size rfl (.tmp 182) (.tmp 186) 23 3 (.int .i64 0) 8 rfl Try.underlying23 info3 rfl (by decide) (by omega) u16 x16_5 (rd_L1 t265 x17_5) _ _ _ (fun k_ => some k_ ≠ (.slice Ao65 t226.length co65 : Value).ownBlock) (fun _ => False) rfl rfl ?aO ?aR (fun _ _ h => h) (fun _ h => h.elim) ?aF ?aB ?aS ?aL ?_; (case aR => repeat (first | exact (by repeat (first | (with_reducible exact HR269_0.out) | (with_reducible refine Kd.C_alloc ?_ _) | (with_reducible refine Kd.C_drewN ?_ _) | (with_reducible refine Kd.C_drew ?_) | exact HR269_0.out)) | (with_reducible refine Kd.C_alloc ?_ _) | (with_reducible refine Kd.C_drewN ?_ _) | (with_reducible refine Kd.C_drew ?_))); (case aB => exact (by repeat (first | (with_reducible first | exact HB.out | apply below_alloc | apply pw_below_drewN | apply below_drew1 | refine below_set ?_ (IsS23.ge HI221.out)) | exact HB.out))); (case aF => exact (fun k_ hk => Kd.fresh' (Kd.R_lt (by (with_reducible repeat (first | apply Kd.R_alloc | apply Kd.R_drewN | apply Kd.R_drew)); exact HO_7.out)) k_ hk)); (case aO => exact (by (with_reducible repeat (first | apply Kd.R_alloc | apply Kd.R_drewN | apply Kd.R_drew)); exact HO_16.out)); (case aS => exact (below_size (by repeat (first | (with_reducible first | exact HB.out | apply below_alloc | apply pw_below_drewN | apply below_drew1 | refine below_set ?_ (IsS23.ge HI221.out)) | exact HB.out)))); (case aL => have := LMc82.out; omega); intro v271 w84 ho hb hg hat; rw [← Ny270.out] at ho; have n0_ := Aside0.mk (Kd.R_after (ok := (fun _ => True)) (by (with_reducible repeat (first | apply Kd.R_alloc | apply Kd.R_drewN | apply Kd.R_drew)); exact Kd.R_mono HO_7.out (fun _ hk => ⟨trivial, hk⟩)) hg hat); have n1_ := Aside0.mk (Kd.S_after (ok := (fun k_ => some k_ ≠ (.slice Ao65 t226.length co65 : Value).ownBlock)) (by (with_reducible repeat (first | apply Kd.S_alloc | apply Kd.S_drewN | apply Kd.S_drew)); exact HO_14.out) hg hat); have n2_ := Aside0.mk (IsS23.grown (by repeat (first | (with_reducible first | exact HI221.out | apply IsS23.alloc | apply IsS23.drewN | apply IsS23.drew) | exact HI221.out)) hg (IsS23.own_ne HI221.out HO_16.out (by decide))); have n3_ := Aside0.mk (Kd.R_after (ok := (fun k_ => some k_ ≠ (.slice Ao65 t226.length co65 : Value).ownBlock ∧ some k_ ≠ (.slice (some ad269) t265.length co83 : Value).ownBlock)) (by (with_reducible repeat (first | apply Kd.R_alloc | apply Kd.R_drewN | apply Kd.R_drew)); exact Kd.R_mono HL269_0.out (fun _ hk => ⟨⟨hk.1.1, hk.2⟩, hk.1.2⟩)) hg hat); have n4_ := Aside0.mk (hb); have n5_ := Aside0.mk (ho); clear HO_7; clear HO_14; clear HI221; clear HL269_0; clear HB; clear HO_16; have HO_7 := n0_; have HO_14 := n1_; have HI221 := n2_; have HL269_0 := n3_; have HB := n4_; have HO272 := n5_; clear n0_ n1_ n2_ n3_ n4_ n5_; clear ho hb hg hat)); try go_wp2_with (first | ((with_reducible refine gate_builtin (b := .append) (xs := #[.tmp 182, .tmp 186]) rfl ?_); (try (refine gate_guard (by rfl) ?_; dsimp only)); at_builtin; refine Kd.R_append_rows (Kd.int .i64) (w0 := w) w.heap.size rfl (.tmp 182) (.tmp 186) 23 3 (.int .i64 0) 8 rfl Try.underlying23 info3 rfl (by decide) (by omega) u16 x16_5 (rd_L1 t265 x17_5) _ _ _ (fun k_ => some k_ ≠ (.slice Ao65 t226.length co65 : Value).ownBlock) (fun _ => False) rfl rfl ?aO ?aR (fun _ _ h => h) (fun _ h => h.elim) ?aF ?aB ?aS ?aL ?_; (case aR => repeat (first | exact (by repeat (first | (with_reducible exact HR269_0.out) | (with_reducible refine Kd.C_alloc ?_ _) | (with_reducible refine Kd.C_drewN ?_ _) | (with_reducible refine Kd.C_drew ?_) | exact HR269_0.out)) | (with_reducible refine Kd.C_alloc ?_ _) | (with_reducible refine Kd.C_drewN ?_ _) | (with_reducible refine Kd.C_drew ?_))); (case aB => exact (by repeat (first | (with_reducible first | exact HB.out | apply below_alloc | apply pw_below_drewN | apply below_drew1 | refine below_set ?_ (IsS23.ge HI221.out)) | exact HB.out))); (case aF => exact (fun k_ hk => Kd.fresh' (Kd.R_lt (by (with_reducible repeat (first | apply Kd.R_alloc | apply Kd.R_drewN | apply Kd.R_drew)); exact HO_7.out)) k_ hk)); (case aO => exact (by (with_reducible repeat (first | apply Kd.R_alloc | apply Kd.R_drewN | apply Kd.R_drew)); exact HO_16.out)); (case aS => exact (below_size (by repeat (first | (with_reducible first | exact HB.out | apply below_alloc | apply pw_below_drewN | apply below_drew1 | refine below_set ?_ (IsS23.ge HI221.out)) | exact HB.out)))); (case aL => have := LMc82.out; omega); intro v271 w84 ho hb hg hat; rw [← Ny270.out] at ho; have n0_ := Aside0.mk (Kd.R_after (ok := (fun _ => True)) (by (with_reducible repeat (first | apply Kd.R_alloc | apply Kd.R_drewN | apply Kd.R_drew)); exact Kd.R_mono HO_7.out (fun _ hk => ⟨trivial, hk⟩)) hg hat); have n1_ := Aside0.mk (Kd.S_after (ok := (fun k_ => some k_ ≠ (.slice Ao65 t226.length co65 : Value).ownBlock)) (by (with_reducible repeat (first | apply Kd.S_alloc | apply Kd.S_drewN | apply Kd.S_drew)); exact HO_14.out) hg hat); have n2_ := Aside0.mk (IsS23.grown (by repeat (first | (with_reducible first | exact HI221.out | apply IsS23.alloc | apply IsS23.drewN | apply IsS23.drew) | exact HI221.out)) hg (IsS23.own_ne HI221.out HO_16.out (by decide))); have n3_ := Aside0.mk (Kd.R_after (ok := (fun k_ => some k_ ≠ (.slice Ao65 t226.length co65 : Value).ownBlock ∧ some k_ ≠ (.slice (some ad269) t265.length co83 : Value).ownBlock)) (by (with_reducible repeat (first | apply Kd.R_alloc | apply Kd.R_drewN | apply Kd.R_drew)); exact Kd.R_mono HL269_0.out (fun _ hk => ⟨⟨hk.1.1, hk.2⟩, hk.1.2⟩)) hg hat); have n4_ := Aside0.mk (hb); have n5_ := Aside0.mk (ho); clear HO_7; clear HO_14; clear HI221; clear HL269_0; clear HB; clear HO_16; have HO_7 := n0_; have HO_14 := n1_; have HI221 := n2_; have HL269_0 := n3_; have HB := n4_; have HO272 := n5_; clear n0_ n1_ n2_ n3_ n4_ n5_; clear ho hb hg hat)))
                                                go_roundg k5
                                                case measure => have := HK1.out; have := HJ16.out; have := HK3.out; have := HJ63.out; have := HK5.out; omega
                                                case rel => exact ⟨(y270), (wrap64 (x17_5 + 1)), (by first | rfl | (simp; done) | (simp [*]; done)), H', ⟨by have := HK1.out; have := HJ16.out; have := HK3.out; have := HJ63.out; have := HK5.out; omega⟩, ⟨by (with_reducible repeat (first | apply Kd.R_alloc | apply Kd.R_drewN | apply Kd.R_drew)); exact Kd.R_mono HO_7.out (fun _ hk => hk.2)⟩, ⟨by (with_reducible repeat (first | apply Kd.S_alloc | apply Kd.S_drewN | apply Kd.S_drew)); exact HO_14.out⟩, ⟨by (with_reducible repeat (first | apply Kd.R_alloc | apply Kd.R_drewN | apply Kd.R_drew)); exact HO272.out⟩, ⟨by repeat (first | (with_reducible first | exact HI221.out | apply IsS23.alloc | apply IsS23.drewN | apply IsS23.drew) | exact HI221.out)⟩, ⟨by repeat (first | (with_reducible first | exact HB.out | apply below_alloc | apply pw_below_drewN | apply below_drew1 | refine below_set ?_ (IsS23.ge HI221.out)) | exact HB.out)⟩⟩
                                              · rw [if_neg c82] at H
                                                exact absurd H (by simp)
                                            · rw [if_neg c81] at H
                                              exact absurd H (by simp)
                                          · rw [if_neg c80] at H
                                            have c80b0 : decide (x17_5 < (t265.length : Int)) = false := decide_eq_false c80
                                            clear c80
                                            replace H := Option.bind_eq_some_iff.mp H
                                            obtain ⟨t273, A850, H⟩ := H
                                            replace H : (some t273) = some r := H
                                            have A85 := Aside0.mk A850
                                            clear A850
                                            obtain rfl := Option.some.inj H
                                            obtain ⟨Ao86, co86, eo86⟩ := Kd.S_slice HO_14.out
                                            subst eo86
                                            obtain ⟨Ao87, co87, eo87⟩ := Kd.R_slice HO_16.out
                                            subst eo87
                                            go_wp2_with (first | (go_at_call 18; (with_reducible refine (tangramref03_SameInts.calls k5 _ _ x16_5 _ _ t226 t273 _ ?side1 ?side2 ?side3 ?side4 A85.out).mono ?_); (case side1 => repeat (first | exact (Kd.R_reads' HO_16.out).2.2 | (with_reducible refine Kd.C_alloc ?_ _) | (with_reducible refine Kd.C_drewN ?_ _) | (with_reducible refine Kd.C_drew ?_))); (case side2 => exact (Kd.R_reads' HO_16.out).2.1); (case side3 => repeat (first | exact (Kd.R_reads' HO_7.out).2.2 | (with_reducible refine Kd.C_alloc ?_ _) | (with_reducible refine Kd.C_drewN ?_ _) | (with_reducible refine Kd.C_drew ?_))); (case side4 => exact (Kd.R_reads' HO_7.out).2.1); rintro e w' ⟨rfl, ⟨nd, rfl⟩⟩; (try first | exact ⟨rfl, _, World.drewN_drewN _ _ _⟩ | exact ⟨rfl, _, Eq.trans (World.drewN_drewN _ _ _) (congrArg (World.drewN _) (Nat.add_assoc _ _ _))⟩)))
                                            repeat (go_quiet (first | (go_at_call 18; (with_reducible refine (tangramref03_SameInts.calls k5 _ _ x16_5 _ _ t226 t273 _ ?side1 ?side2 ?side3 ?side4 A85.out).mono ?_); (case side1 => repeat (first | exact (Kd.R_reads' HO_16.out).2.2 | (with_reducible refine Kd.C_alloc ?_ _) | (with_reducible refine Kd.C_drewN ?_ _) | (with_reducible refine Kd.C_drew ?_))); (case side2 => exact (Kd.R_reads' HO_16.out).2.1); (case side3 => repeat (first | exact (Kd.R_reads' HO_7.out).2.2 | (with_reducible refine Kd.C_alloc ?_ _) | (with_reducible refine Kd.C_drewN ?_ _) | (with_reducible refine Kd.C_drew ?_))); (case side4 => exact (Kd.R_reads' HO_7.out).2.1); rintro e w' ⟨rfl, ⟨nd, rfl⟩⟩; (try first | exact ⟨rfl, _, World.drewN_drewN _ _ _⟩ | exact ⟨rfl, _, Eq.trans (World.drewN_drewN _ _ _) (congrArg (World.drewN _) (Nat.add_assoc _ _ _))⟩))); try go_wp2_with (first | (go_at_call 18; (with_reducible refine (tangramref03_SameInts.calls k5 _ _ x16_5 _ _ t226 t273 _ ?side1 ?side2 ?side3 ?side4 A85.out).mono ?_); (case side1 => repeat (first | exact (Kd.R_reads' HO_16.out).2.2 | (with_reducible refine Kd.C_alloc ?_ _) | (with_reducible refine Kd.C_drewN ?_ _) | (with_reducible refine Kd.C_drew ?_))); (case side2 => exact (Kd.R_reads' HO_16.out).2.1); (case side3 => repeat (first | exact (Kd.R_reads' HO_7.out).2.2 | (with_reducible refine Kd.C_alloc ?_ _) | (with_reducible refine Kd.C_drewN ?_ _) | (with_reducible refine Kd.C_drew ?_))); (case side4 => exact (Kd.R_reads' HO_7.out).2.1); rintro e w' ⟨rfl, ⟨nd, rfl⟩⟩; (try first | exact ⟨rfl, _, World.drewN_drewN _ _ _⟩ | exact ⟨rfl, _, Eq.trans (World.drewN_drewN _ _ _) (congrArg (World.drewN _) (Nat.add_assoc _ _ _))⟩))))
                                            go_ret
                                            exact ⟨by first | rfl | (simp [errW_none, errW_some] <;> rfl) | (simp [*, errW_none, errW_some] <;> rfl), by repeat (first | (with_reducible first | exact HB.out | apply below_alloc | apply pw_below_drewN | apply below_drew1 | refine below_set ?_ (IsS23.ge HI221.out)) | exact HB.out)⟩
                                    · rw [if_neg c72] at H
                                      exact absurd H (by simp)
              · rw [if_neg c16] at H
                have c16b0 : (t229 == 0) = false := beq_eq_false_iff_ne.mpr c16
                have c16b1 : (t229 != 0) = true := bne_iff_ne.mpr c16
                by_cases c88 : (t226.length : Int) = 0
                · rw [if_pos c88] at H
                  have c88b0 : ((t226.length : Int) == 0) = true := beq_iff_eq.mpr c88
                  have c88b1 : ((t226.length : Int) != 0) = false := bne_eq_false_iff_eq.mpr c88
                  clear c88
                  obtain rfl := Option.some.inj H
                  obtain ⟨ASz89_0, cSz89_0, HGz89, hgz89, HSz89_0⟩ := HI221.out
                  have hcz89_0 := cellS23_0 HGz89
                  clear HGz89 hgz89
                  obtain ⟨Ao90, co90, eo90⟩ := Kd.R_slice HO_5.out
                  subst eo90
                  go_wp2_with (first | (go_at_call 19; (with_reducible refine (bucket_Sort_int.calls k1 _ _ x5_1 g221 t220 a1 t226 t229 w _ ?side1 ?side2 ?side3 ?side4 ?side5 A12.out).mono ?_); (case side1 => repeat (first | (with_reducible first | exact HI221.out | apply IsS23.alloc | apply IsS23.drewN | apply IsS23.drew) | exact HI221.out)); (case side2 => repeat (first | (with_reducible first | exact HB.out | apply below_alloc | apply pw_below_drewN | apply below_drew1 | refine below_set ?_ (IsS23.ge HI221.out)) | exact HB.out)); (case side3 => repeat (first | exact (Kd.R_reads' HO_5.out).2.2 | (with_reducible refine Kd.C_alloc ?_ _) | (with_reducible refine Kd.C_drewN ?_ _) | (with_reducible refine Kd.C_drew ?_))); (case side4 => exact (Kd.R_reads' HO_5.out).2.1); (case side5 => exact far_slice (IsS23.own_ne HI221.out HO_5.out (by decide))); rintro e w91 ⟨v227, rfl, ho0, hi, hb, hk⟩; have n0_ := Aside0.mk (Kd.R_mono (Kd.R_told (Kd.R_oldK (IsS23.apart (show IsS23 w _ g221 t220 from by repeat (first | (with_reducible first | exact HI221.out | apply IsS23.alloc | apply IsS23.drewN | apply IsS23.drew) | exact HI221.out)) (by (with_reducible repeat (first | apply Kd.R_alloc | apply Kd.R_drewN | apply Kd.R_drew)); exact HO_5.out) (by decide)) hk) (Kd.R_base ho0)) (fun _ h_ => h_.1)); have n1_ := Aside0.mk (Kd.R_lower (Kd.R_new' ho0 (Kd.R_lt (by (with_reducible repeat (first | apply Kd.R_alloc | apply Kd.R_drewN | apply Kd.R_drew)); exact HO_5.out))) (below_size (by repeat (first | (with_reducible first | exact HB.out | apply below_alloc | apply pw_below_drewN | apply below_drew1 | refine below_set ?_ (IsS23.ge HI221.out)) | exact HB.out)))); have n2_ := Aside0.mk (hb); have n3_ := Aside0.mk (hi); clear HO_5; clear HB; clear HI221; have HO_5 := n0_; have HO228 := n1_; have HB := n2_; have HI221 := n3_; clear n0_ n1_ n2_ n3_; (try clear hb); (try clear hb2); (try clear hk); (try clear hi); (try clear ho0)) | ((with_reducible refine gate_dst (N := 38) rfl ?_); (try (refine gate_guard (by rfl) ?_; dsimp only)); refine Kd.R_lit (Kd.int .i64) _ 3 ?hg (N := 38) ?hd (xs := ([] : List Int)) (inner := []) (ok := fun _ => True) (okp := fun _ => True) ?hr ?hp (fun _ hk => hk) trivial (Below.refl _ _) (Nat.le_refl _) (by simp) ?_; (case hd => rfl); (case hg => rfl); (case hr => first | (go_simp; done) | (go_simp; rfl)); (case hp => exact (Reps.none _ _)); intro v231 w92 ho93 hb hg_ hnew_; clear hg_ hnew_; (first | rw [← Ny230.out] at ho93 | (simp only [Int.reduceToNat] at ho93; rw [← Ny230.out] at ho93)); have n0_ := Aside0.mk (Kd.R_elder' (by (with_reducible repeat (first | apply Kd.R_alloc | apply Kd.R_drewN | apply Kd.R_drew)); exact HO_5.out) (Kd.R_base ho93) hb); have n1_ := Aside0.mk (Kd.R_elder' (by (with_reducible repeat (first | apply Kd.R_alloc | apply Kd.R_drewN | apply Kd.R_drew)); exact HO228.out) (Kd.R_base ho93) hb); have n2_ := Aside0.mk (Kd.R_lower (Kd.R_new' (Kd.R_new' ho93 (Kd.R_lt (by (with_reducible repeat (first | apply Kd.R_alloc | apply Kd.R_drewN | apply Kd.R_drew)); exact HO_5.out))) (Kd.R_lt (by (with_reducible repeat (first | apply Kd.R_alloc | apply Kd.R_drewN | apply Kd.R_drew)); exact HO228.out))) (below_size (by repeat (first | (with_reducible first | exact HB.out | apply below_alloc | apply pw_below_drewN | apply below_drew1 | refine below_set ?_ (IsS23.ge HI221.out)) | exact HB.out)))); have n3_ := Aside0.mk (IsS23.below (by repeat (first | (with_reducible first | exact HI221.out | apply IsS23.alloc | apply IsS23.drewN | apply IsS23.drew) | exact HI221.out)) hb); have n4_ := Aside0.mk (below_step (by repeat (first | (with_reducible first | exact HB.out | apply below_alloc | apply pw_below_drewN | apply below_drew1 | refine below_set ?_ (IsS23.ge HI221.out)) | exact HB.out)) hb); clear HO_5; clear HO228; clear HI221; clear HB; have HO_5 := n0_; have HO228 := n1_; have HO232 := n2_; have HI221 := n3_; have HB := n4_; clear n0_ n1_ n2_ n3_ n4_; clear hb ho93; obtain ⟨ASz94_0, cSz94_0, HGz94, hgz94, HSz94_0⟩ := HI221.out; have hcz94_0 := cellS23_0 HGz94; clear HGz94 hgz94) | ((with_reducible refine gate_builtin (b := .append) (xs := #[.tmp 38, .tmp 39]) rfl ?_); (try (refine gate_guard (by rfl) ?_; dsimp only)); at_builtin; refine Kd.R_append_rows (Kd.int .i64) (w0 := w) w.heap.size rfl (.tmp 38) (.tmp 39) 23 3 (.int .i64 0) 8 rfl Try.underlying23 info3 rfl (by decide) (by omega) v231 y230 t220 _ _ _ (fun k_ => some k_ ≠ (.slice Ao90 x5_1.length co90 : Value).ownBlock ∧ some k_ ≠ (v227 : Value).ownBlock) (fun _ => False) rfl rfl ?aO ?aR (fun _ _ h => h) (fun _ h => h.elim) ?aF ?aB ?aS ?aL ?_; (case aR => exact Kd.C_below HSz94_0 (by repeat (first | (with_reducible first | exact HB.out | apply below_alloc | apply pw_below_drewN | apply below_drew1 | refine below_set ?_ (IsS23.ge HI221.out)) | exact HB.out))); (case aB => exact (by repeat (first | (with_reducible first | exact HB.out | apply below_alloc | apply pw_below_drewN | apply below_drew1 | refine below_set ?_ (IsS23.ge HI221.out)) | exact HB.out))); (case aF => exact (fun k_ hk => ⟨Kd.fresh' (Kd.R_lt (by (with_reducible repeat (first | apply Kd.R_alloc | apply Kd.R_drewN | apply Kd.R_drew)); exact HO_5.out)) k_ hk, Kd.fresh' (Kd.R_lt (by (with_reducible repeat (first | apply Kd.R_alloc | apply Kd.R_drewN | apply Kd.R_drew)); exact HO228.out)) k_ hk⟩)); (case aO => exact (by (with_reducible repeat (first | apply Kd.R_alloc | apply Kd.R_drewN | apply Kd.R_drew)); exact Kd.R_mono HO232.out (fun _ hk => ⟨hk.1.2, hk.2⟩))); (case aS => exact (below_size (by repeat (first | (with_reducible first | exact HB.out | apply below_alloc | apply pw_below_drewN | apply below_drew1 | refine below_set ?_ (IsS23.ge HI221.out)) | exact HB.out)))); (case aL => have := LMc13.out; omega); intro v234 w95 ho hb hg hat; rw [← Ny233.out] at ho; have n0_ := Aside0.mk (Kd.R_after (ok := (fun k_ => some k_ ≠ (v227 : Value).ownBlock)) (by (with_reducible repeat (first | apply Kd.R_alloc | apply Kd.R_drewN | apply Kd.R_drew)); exact Kd.R_mono HO_5.out (fun _ hk => ⟨hk.1.2, hk.2⟩)) hg hat); have n1_ := Aside0.mk (IsS23.grown (by repeat (first | (with_reducible first | exact HI221.out | apply IsS23.alloc | apply IsS23.drewN | apply IsS23.drew) | exact HI221.out)) hg (IsS23.own_ne HI221.out HO232.out (by decide))); have n2_ := Aside0.mk (Kd.R_after (ok := (fun k_ => some k_ ≠ (.slice Ao90 x5_1.length co90 : Value).ownBlock)) (by (with_reducible repeat (first | apply Kd.R_alloc | apply Kd.R_drewN | apply Kd.R_drew)); exact Kd.R_mono HO228.out (fun _ hk => ⟨hk.1.2, hk.2⟩)) hg hat); have n3_ := Aside0.mk (hb); have n4_ := Aside0.mk (ho); clear HO_5; clear HI221; clear HO228; clear HB; clear HO232; have HO_5 := n0_; have HI221 := n1_; have HO228 := n2_; have HB := n3_; have HO235 := n4_; clear n0_ n1_ n2_ n3_ n4_; clear ho hb hg hat; obtain ⟨Ao96, co96, eo96⟩ := Kd.R_slice HO235.out; subst eo96) | (go_at_call 17; (with_reducible refine (bucket_Ranks.calls k1 _ _ y233 a1 t236 t237 _ ?side1 ?side2 A14.out).mono ?_); (case side1 => repeat (first | exact (Kd.R_reads' HO235.out).2.2 | (with_reducible refine Kd.C_alloc ?_ _) | (with_reducible refine Kd.C_drewN ?_ _) | (with_reducible refine Kd.C_drew ?_))); (case side2 => exact (Kd.R_reads' HO235.out).2.1); rintro e w97 ⟨v238, rfl, ho0, hb⟩; have n0_ := Aside0.mk (Kd.R_elder' (by (with_reducible repeat (first | apply Kd.R_alloc | apply Kd.R_drewN | apply Kd.R_drew)); exact HO_5.out) (Kd.R_base ho0) hb); have n1_ := Aside0.mk (Kd.R_elder' (by (with_reducible repeat (first | apply Kd.R_alloc | apply Kd.R_drewN | apply Kd.R_drew)); exact HO228.out) (Kd.R_base ho0) hb); have n2_ := Aside0.mk (Kd.R_elder' (by (with_reducible repeat (first | apply Kd.R_alloc | apply Kd.R_drewN | apply Kd.R_drew)); exact HO235.out) (Kd.R_base ho0) hb); have n3_ := Aside0.mk (Kd.R_lower (Kd.R_new' (Kd.R_new' (Kd.R_new' ho0 (Kd.R_lt (by (with_reducible repeat (first | apply Kd.R_alloc | apply Kd.R_drewN | apply Kd.R_drew)); exact HO_5.out))) (Kd.R_lt (by (with_reducible repeat (first | apply Kd.R_alloc | apply Kd.R_drewN | apply Kd.R_drew)); exact HO228.out))) (Kd.R_lt (by (with_reducible repeat (first | apply Kd.R_alloc | apply Kd.R_drewN | apply Kd.R_drew)); exact HO235.out))) (below_size (by repeat (first | (with_reducible first | exact HB.out | apply below_alloc | apply pw_below_drewN | apply below_drew1 | refine below_set ?_ (IsS23.ge HI221.out)) | exact HB.out)))); have n4_ := Aside0.mk (IsS23.below (by repeat (first | (with_reducible first | exact HI221.out | apply IsS23.alloc | apply IsS23.drewN | apply IsS23.drew) | exact HI221.out)) hb); have n5_ := Aside0.mk (below_step (by repeat (first | (with_reducible first | exact HB.out | apply below_alloc | apply pw_below_drewN | apply below_drew1 | refine below_set ?_ (IsS23.ge HI221.out)) | exact HB.out)) hb); clear HO_5; clear HO228; clear HO235; clear HI221; clear HB; have HO_5 := n0_; have HO228 := n1_; have HO235 := n2_; have HO239 := n3_; have HI221 := n4_; have HB := n5_; clear n0_ n1_ n2_ n3_ n4_ n5_; (try clear hb); (try clear hb2); (try clear hk); (try clear hi); (try clear ho0); obtain ⟨Ao98, co98, eo98⟩ := Kd.R_slice HO228.out; subst eo98; obtain ⟨Ao99, co99, eo99⟩ := Kd.R_slice HO239.out; subst eo99))
                  repeat (go_quiet (first | (go_at_call 19; (with_reducible refine (bucket_Sort_int.calls k1 _ _ x5_1 g221 t220 a1 t226 t229 w _ ?side1 ?side2 ?side3 ?side4 ?side5 A12.out).mono ?_); (case side1 => repeat (first | (with_reducible first | exact HI221.out | apply IsS23.alloc | apply IsS23.drewN | apply IsS23.drew) | exact HI221.out)); (case side2 => repeat (first | (with_reducible first | exact HB.out | apply below_alloc | apply pw_below_drewN | apply below_drew1 | refine below_set ?_ (IsS23.ge HI221.out)) | exact HB.out)); (case side3 => repeat (first | exact (Kd.R_reads' HO_5.out).2.2 | (with_reducible refine Kd.C_alloc ?_ _) | (with_reducible refine Kd.C_drewN ?_ _) | (with_reducible refine Kd.C_drew ?_))); (case side4 => exact (Kd.R_reads' HO_5.out).2.1); (case side5 => exact far_slice (IsS23.own_ne HI221.out HO_5.out (by decide))); rintro e w91 ⟨v227, rfl, ho0, hi, hb, hk⟩; have n0_ := Aside0.mk (Kd.R_mono (Kd.R_told (Kd.R_oldK (IsS23.apart (show IsS23 w _ g221 t220 from by repeat (first | (with_reducible first | exact HI221.out | apply IsS23.alloc | apply IsS23.drewN | apply IsS23.drew) | exact HI221.out)) (by (with_reducible repeat (first | apply Kd.R_alloc | apply Kd.R_drewN | apply Kd.R_drew)); exact HO_5.out) (by decide)) hk) (Kd.R_base ho0)) (fun _ h_ => h_.1)); have n1_ := Aside0.mk (Kd.R_lower (Kd.R_new' ho0 (Kd.R_lt (by (with_reducible repeat (first | apply Kd.R_alloc | apply Kd.R_drewN | apply Kd.R_drew)); exact HO_5.out))) (below_size (by repeat (first | (with_reducible first | exact HB.out | apply below_alloc | apply pw_below_drewN | apply below_drew1 | refine below_set ?_ (IsS23.ge HI221.out)) | exact HB.out)))); have n2_ := Aside0.mk (hb); have n3_ := Aside0.mk (hi); clear HO_5; clear HB; clear HI221; have HO_5 := n0_; have HO228 := n1_; have HB := n2_; have HI221 := n3_; clear n0_ n1_ n2_ n3_; (try clear hb); (try clear hb2); (try clear hk); (try clear hi); (try clear ho0)) | ((with_reducible refine gate_dst (N := 38) rfl ?_); (try (refine gate_guard (by rfl) ?_; dsimp only)); refine Kd.R_lit (Kd.int .i64) _ 3 ?hg (N := 38) ?hd (xs := ([] : List Int)) (inner := []) (ok := fun _ => True) (okp := fun _ => True) ?hr ?hp (fun _ hk => hk) trivial (Below.refl _ _) (Nat.le_refl _) (by simp) ?_; (case hd => rfl); (case hg => rfl); (case hr => first | (go_simp; done) | (go_simp; rfl)); (case hp => exact (Reps.none _ _)); intro v231 w92 ho93 hb hg_ hnew_; clear hg_ hnew_; (first | rw [← Ny230.out] at ho93 | (simp only [Int.reduceToNat] at ho93; rw [← Ny230.out] at ho93)); have n0_ := Aside0.mk (Kd.R_elder' (by (with_reducible repeat (first | apply Kd.R_alloc | apply Kd.R_drewN | apply Kd.R_drew)); exact HO_5.out) (Kd.R_base ho93) hb); have n1_ := Aside0.mk (Kd.R_elder' (by (with_reducible repeat (first | apply Kd.R_alloc | apply Kd.R_drewN | apply Kd.R_drew)); exact HO228.out) (Kd.R_base ho93) hb); have n2_ := Aside0.mk (Kd.R_lower (Kd.R_new' (Kd.R_new' ho93 (Kd.R_lt (by (with_reducible repeat (first | apply Kd.R_alloc | apply Kd.R_drewN | apply Kd.R_drew)); exact HO_5.out))) (Kd.R_lt (by (with_reducible repeat (first | apply Kd.R_alloc | apply Kd.R_drewN | apply Kd.R_drew)); exact HO228.out))) (below_size (by repeat (first | (with_reducible first | exact HB.out | apply below_alloc | apply pw_below_drewN | apply below_drew1 | refine below_set ?_ (IsS23.ge HI221.out)) | exact HB.out)))); have n3_ := Aside0.mk (IsS23.below (by repeat (first | (with_reducible first | exact HI221.out | apply IsS23.alloc | apply IsS23.drewN | apply IsS23.drew) | exact HI221.out)) hb); have n4_ := Aside0.mk (below_step (by repeat (first | (with_reducible first | exact HB.out | apply below_alloc | apply pw_below_drewN | apply below_drew1 | refine below_set ?_ (IsS23.ge HI221.out)) | exact HB.out)) hb); clear HO_5; clear HO228; clear HI221; clear HB; have HO_5 := n0_; have HO228 := n1_; have HO232 := n2_; have HI221 := n3_; have HB := n4_; clear n0_ n1_ n2_ n3_ n4_; clear hb ho93; obtain ⟨ASz94_0, cSz94_0, HGz94, hgz94, HSz94_0⟩ := HI221.out; have hcz94_0 := cellS23_0 HGz94; clear HGz94 hgz94) | ((with_reducible refine gate_builtin (b := .append) (xs := #[.tmp 38, .tmp 39]) rfl ?_); (try (refine gate_guard (by rfl) ?_; dsimp only)); at_builtin; refine Kd.R_append_rows (Kd.int .i64) (w0 := w) w.heap.size rfl (.tmp 38) (.tmp 39) 23 3 (.int .i64 0) 8 rfl Try.underlying23 info3 rfl (by decide) (by omega) v231 y230 t220 _ _ _ (fun k_ => some k_ ≠ (.slice Ao90 x5_1.length co90 : Value).ownBlock ∧ some k_ ≠ (v227 : Value).ownBlock) (fun _ => False) rfl rfl ?aO ?aR (fun _ _ h => h) (fun _ h => h.elim) ?aF ?aB ?aS ?aL ?_; (case aR => exact Kd.C_below HSz94_0 (by repeat (first | (with_reducible first | exact HB.out | apply below_alloc | apply pw_below_drewN | apply below_drew1 | refine below_set ?_ (IsS23.ge HI221.out)) | exact HB.out))); (case aB => exact (by repeat (first | (with_reducible first | exact HB.out | apply below_alloc | apply pw_below_drewN | apply below_drew1 | refine below_set ?_ (IsS23.ge HI221.out)) | exact HB.out))); (case aF => exact (fun k_ hk => ⟨Kd.fresh' (Kd.R_lt (by (with_reducible repeat (first | apply Kd.R_alloc | apply Kd.R_drewN | apply Kd.R_drew)); exact HO_5.out)) k_ hk, Kd.fresh' (Kd.R_lt (by (with_reducible repeat (first | apply Kd.R_alloc | apply Kd.R_drewN | apply Kd.R_drew)); exact HO228.out)) k_ hk⟩)); (case aO => exact (by (with_reducible repeat (first | apply Kd.R_alloc | apply Kd.R_drewN | apply Kd.R_drew)); exact Kd.R_mono HO232.out (fun _ hk => ⟨hk.1.2, hk.2⟩))); (case aS => exact (below_size (by repeat (first | (with_reducible first | exact HB.out | apply below_alloc | apply pw_below_drewN | apply below_drew1 | refine below_set ?_ (IsS23.ge HI221.out)) | exact HB.out)))); (case aL => have := LMc13.out; omega); intro v234 w95 ho hb hg hat; rw [← Ny233.out] at ho; have n0_ := Aside0.mk (Kd.R_after (ok := (fun k_ => some k_ ≠ (v227 : Value).ownBlock)) (by (with_reducible repeat (first | apply Kd.R_alloc | apply Kd.R_drewN | apply Kd.R_drew)); exact Kd.R_mono HO_5.out (fun _ hk => ⟨hk.1.2, hk.2⟩)) hg hat); have n1_ := Aside0.mk (IsS23.grown (by repeat (first | (with_reducible first | exact HI221.out | apply IsS23.alloc | apply IsS23.drewN | apply IsS23.drew) | exact HI221.out)) hg (IsS23.own_ne HI221.out HO232.out (by decide))); have n2_ := Aside0.mk (Kd.R_after (ok := (fun k_ => some k_ ≠ (.slice Ao90 x5_1.length co90 : Value).ownBlock)) (by (with_reducible repeat (first | apply Kd.R_alloc | apply Kd.R_drewN | apply Kd.R_drew)); exact Kd.R_mono HO228.out (fun _ hk => ⟨hk.1.2, hk.2⟩)) hg hat); have n3_ := Aside0.mk (hb); have n4_ := Aside0.mk (ho); clear HO_5; clear HI221; clear HO228; clear HB; clear HO232; have HO_5 := n0_; have HI221 := n1_; have HO228 := n2_; have HB := n3_; have HO235 := n4_; clear n0_ n1_ n2_ n3_ n4_; clear ho hb hg hat; obtain ⟨Ao96, co96, eo96⟩ := Kd.R_slice HO235.out; subst eo96) | (go_at_call 17; (with_reducible refine (bucket_Ranks.calls k1 _ _ y233 a1 t236 t237 _ ?side1 ?side2 A14.out).mono ?_); (case side1 => repeat (first | exact (Kd.R_reads' HO235.out).2.2 | (with_reducible refine Kd.C_alloc ?_ _) | (with_reducible refine Kd.C_drewN ?_ _) | (with_reducible refine Kd.C_drew ?_))); (case side2 => exact (Kd.R_reads' HO235.out).2.1); rintro e w97 ⟨v238, rfl, ho0, hb⟩; have n0_ := Aside0.mk (Kd.R_elder' (by (with_reducible repeat (first | apply Kd.R_alloc | apply Kd.R_drewN | apply Kd.R_drew)); exact HO_5.out) (Kd.R_base ho0) hb); have n1_ := Aside0.mk (Kd.R_elder' (by (with_reducible repeat (first | apply Kd.R_alloc | apply Kd.R_drewN | apply Kd.R_drew)); exact HO228.out) (Kd.R_base ho0) hb); have n2_ := Aside0.mk (Kd.R_elder' (by (with_reducible repeat (first | apply Kd.R_alloc | apply Kd.R_drewN | apply Kd.R_drew)); exact HO235.out) (Kd.R_base ho0) hb); have n3_ := Aside0.mk (Kd.R_lower (Kd.R_new' (Kd.R_new' (Kd.R_new' ho0 (Kd.R_lt (by (with_reducible repeat (first | apply Kd.R_alloc | apply Kd.R_drewN | apply Kd.R_drew)); exact HO_5.out))) (Kd.R_lt (by (with_reducible repeat (first | apply Kd.R_alloc | apply Kd.R_drewN | apply Kd.R_drew)); exact HO228.out))) (Kd.R_lt (by (with_reducible repeat (first | apply Kd.R_alloc | apply Kd.R_drewN | apply Kd.R_drew)); exact HO235.out))) (below_size (by repeat (first | (with_reducible first | exact HB.out | apply below_alloc | apply pw_below_drewN | apply below_drew1 | refine below_set ?_ (IsS23.ge HI221.out)) | exact HB.out)))); have n4_ := Aside0.mk (IsS23.below (by repeat (first | (with_reducible first | exact HI221.out | apply IsS23.alloc | apply IsS23.drewN | apply IsS23.drew) | exact HI221.out)) hb); have n5_ := Aside0.mk (below_step (by repeat (first | (with_reducible first | exact HB.out | apply below_alloc | apply pw_below_drewN | apply below_drew1 | refine below_set ?_ (IsS23.ge HI221.out)) | exact HB.out)) hb); clear HO_5; clear HO228; clear HO235; clear HI221; clear HB; have HO_5 := n0_; have HO228 := n1_; have HO235 := n2_; have HO239 := n3_; have HI221 := n4_; have HB := n5_; clear n0_ n1_ n2_ n3_ n4_ n5_; (try clear hb); (try clear hb2); (try clear hk); (try clear hi); (try clear ho0); obtain ⟨Ao98, co98, eo98⟩ := Kd.R_slice HO228.out; subst eo98; obtain ⟨Ao99, co99, eo99⟩ := Kd.R_slice HO239.out; subst eo99)); try go_wp2_with (first | (go_at_call 19; (with_reducible refine (bucket_Sort_int.calls k1 _ _ x5_1 g221 t220 a1 t226 t229 w _ ?side1 ?side2 ?side3 ?side4 ?side5 A12.out).mono ?_); (case side1 => repeat (first | (with_reducible first | exact HI221.out | apply IsS23.alloc | apply IsS23.drewN | apply IsS23.drew) | exact HI221.out)); (case side2 => repeat (first | (with_reducible first | exact HB.out | apply below_alloc | apply pw_below_drewN | apply below_drew1 | refine below_set ?_ (IsS23.ge HI221.out)) | exact HB.out)); (case side3 => repeat (first | exact (Kd.R_reads' HO_5.out).2.2 | (with_reducible refine Kd.C_alloc ?_ _) | (with_reducible refine Kd.C_drewN ?_ _) | (with_reducible refine Kd.C_drew ?_))); (case side4 => exact (Kd.R_reads' HO_5.out).2.1); (case side5 => exact far_slice (IsS23.own_ne HI221.out HO_5.out (by decide))); rintro e w91 ⟨v227, rfl, ho0, hi, hb, hk⟩; have n0_ := Aside0.mk (Kd.R_mono (Kd.R_told (Kd.R_oldK (IsS23.apart (show IsS23 w _ g221 t220 from by repeat (first | (with_reducible first | exact HI221.out | apply IsS23.alloc | apply IsS23.drewN | apply IsS23.drew) | exact HI221.out)) (by (with_reducible repeat (first | apply Kd.R_alloc | apply Kd.R_drewN | apply Kd.R_drew)); exact HO_5.out) (by decide)) hk) (Kd.R_base ho0)) (fun _ h_ => h_.1)); have n1_ := Aside0.mk (Kd.R_lower (Kd.R_new' ho0 (Kd.R_lt (by (with_reducible repeat (first | apply Kd.R_alloc | apply Kd.R_drewN | apply Kd.R_drew)); exact HO_5.out))) (below_size (by repeat (first | (with_reducible first | exact HB.out | apply below_alloc | apply pw_below_drewN | apply below_drew1 | refine below_set ?_ (IsS23.ge HI221.out)) | exact HB.out)))); have n2_ := Aside0.mk (hb); have n3_ := Aside0.mk (hi); clear HO_5; clear HB; clear HI221; have HO_5 := n0_; have HO228 := n1_; have HB := n2_; have HI221 := n3_; clear n0_ n1_ n2_ n3_; (try clear hb); (try clear hb2); (try clear hk); (try clear hi); (try clear ho0)) | ((with_reducible refine gate_dst (N := 38) rfl ?_); (try (refine gate_guard (by rfl) ?_; dsimp only)); refine Kd.R_lit (Kd.int .i64) _ 3 ?hg (N := 38) ?hd (xs := ([] : List Int)) (inner := []) (ok := fun _ => True) (okp := fun _ => True) ?hr ?hp (fun _ hk => hk) trivial (Below.refl _ _) (Nat.le_refl _) (by simp) ?_; (case hd => rfl); (case hg => rfl); (case hr => first | (go_simp; done) | (go_simp; rfl)); (case hp => exact (Reps.none _ _)); intro v231 w92 ho93 hb hg_ hnew_; clear hg_ hnew_; (first | rw [← Ny230.out] at ho93 | (simp only [Int.reduceToNat] at ho93; rw [← Ny230.out] at ho93)); have n0_ := Aside0.mk (Kd.R_elder' (by (with_reducible repeat (first | apply Kd.R_alloc | apply Kd.R_drewN | apply Kd.R_drew)); exact HO_5.out) (Kd.R_base ho93) hb); have n1_ := Aside0.mk (Kd.R_elder' (by (with_reducible repeat (first | apply Kd.R_alloc | apply Kd.R_drewN | apply Kd.R_drew)); exact HO228.out) (Kd.R_base ho93) hb); have n2_ := Aside0.mk (Kd.R_lower (Kd.R_new' (Kd.R_new' ho93 (Kd.R_lt (by (with_reducible repeat (first | apply Kd.R_alloc | apply Kd.R_drewN | apply Kd.R_drew)); exact HO_5.out))) (Kd.R_lt (by (with_reducible repeat (first | apply Kd.R_alloc | apply Kd.R_drewN | apply Kd.R_drew)); exact HO228.out))) (below_size (by repeat (first | (with_reducible first | exact HB.out | apply below_alloc | apply pw_below_drewN | apply below_drew1 | refine below_set ?_ (IsS23.ge HI221.out)) | exact HB.out)))); have n3_ := Aside0.mk (IsS23.below (by repeat (first | (with_reducible first | exact HI221.out | apply IsS23.alloc | apply IsS23.drewN | apply IsS23.drew) | exact HI221.out)) hb); have n4_ := Aside0.mk (below_step (by repeat (first | (with_reducible first | exact HB.out | apply below_alloc | apply pw_below_drewN | apply below_drew1 | refine below_set ?_ (IsS23.ge HI221.out)) | exact HB.out)) hb); clear HO_5; clear HO228; clear HI221; clear HB; have HO_5 := n0_; have HO228 := n1_; have HO232 := n2_; have HI221 := n3_; have HB := n4_; clear n0_ n1_ n2_ n3_ n4_; clear hb ho93; obtain ⟨ASz94_0, cSz94_0, HGz94, hgz94, HSz94_0⟩ := HI221.out; have hcz94_0 := cellS23_0 HGz94; clear HGz94 hgz94) | ((with_reducible refine gate_builtin (b := .append) (xs := #[.tmp 38, .tmp 39]) rfl ?_); (try (refine gate_guard (by rfl) ?_; dsimp only)); at_builtin; refine Kd.R_append_rows (Kd.int .i64) (w0 := w) w.heap.size rfl (.tmp 38) (.tmp 39) 23 3 (.int .i64 0) 8 rfl Try.underlying23 info3 rfl (by decide) (by omega) v231 y230 t220 _ _ _ (fun k_ => some k_ ≠ (.slice Ao90 x5_1.length co90 : Value).ownBlock ∧ some k_ ≠ (v227 : Value).ownBlock) (fun _ => False) rfl rfl ?aO ?aR (fun _ _ h => h) (fun _ h => h.elim) ?aF ?aB ?aS ?aL ?_; (case aR => exact Kd.C_below HSz94_0 (by repeat (first | (with_reducible first | exact HB.out | apply below_alloc | apply pw_below_drewN | apply below_drew1 | refine below_set ?_ (IsS23.ge HI221.out)) | exact HB.out))); (case aB => exact (by repeat (first | (with_reducible first | exact HB.out | apply below_alloc | apply pw_below_drewN | apply below_drew1 | refine below_set ?_ (IsS23.ge HI221.out)) | exact HB.out))); (case aF => exact (fun k_ hk => ⟨Kd.fresh' (Kd.R_lt (by (with_reducible repeat (first | apply Kd.R_alloc | apply Kd.R_drewN | apply Kd.R_drew)); exact HO_5.out)) k_ hk, Kd.fresh' (Kd.R_lt (by (with_reducible repeat (first | apply Kd.R_alloc | apply Kd.R_drewN | apply Kd.R_drew)); exact HO228.out)) k_ hk⟩)); (case aO => exact (by (with_reducible repeat (first | apply Kd.R_alloc | apply Kd.R_drewN | apply Kd.R_drew)); exact Kd.R_mono HO232.out (fun _ hk => ⟨hk.1.2, hk.2⟩))); (case aS => exact (below_size (by repeat (first | (with_reducible first | exact HB.out | apply below_alloc | apply pw_below_drewN | apply below_drew1 | refine below_set ?_ (IsS23.ge HI221.out)) | exact HB.out)))); (case aL => have := LMc13.out; omega); intro v234 w95 ho hb hg hat; rw [← Ny233.out] at ho; have n0_ := Aside0.mk (Kd.R_after (ok := (fun k_ => some k_ ≠ (v227 : Value).ownBlock)) (by (with_reducible repeat (first | apply Kd.R_alloc | apply Kd.R_drewN | apply Kd.R_drew)); exact Kd.R_mono HO_5.out (fun _ hk => ⟨hk.1.2, hk.2⟩)) hg hat); have n1_ := Aside0.mk (IsS23.grown (by repeat (first | (with_reducible first | exact HI221.out | apply IsS23.alloc | apply IsS23.drewN | apply IsS23.drew) | exact HI221.out)) hg (IsS23.own_ne HI221.out HO232.out (by decide))); have n2_ := Aside0.mk (Kd.R_after (ok := (fun k_ => some k_ ≠ (.slice Ao90 x5_1.length co90 : Value).ownBlock)) (by (with_reducible repeat (first | apply Kd.R_alloc | apply Kd.R_drewN | apply Kd.R_drew)); exact Kd.R_mono HO228.out (fun _ hk => ⟨hk.1.2, hk.2⟩)) hg hat); have n3_ := Aside0.mk (hb); have n4_ := Aside0.mk (ho); clear HO_5; clear HI221; clear HO228; clear HB; clear HO232; have HO_5 := n0_; have HI221 := n1_; have HO228 := n2_; have HB := n3_; have HO235 := n4_; clear n0_ n1_ n2_ n3_ n4_; clear ho hb hg hat; obtain ⟨Ao96, co96, eo96⟩ := Kd.R_slice HO235.out; subst eo96) | (go_at_call 17; (with_reducible refine (bucket_Ranks.calls k1 _ _ y233 a1 t236 t237 _ ?side1 ?side2 A14.out).mono ?_); (case side1 => repeat (first | exact (Kd.R_reads' HO235.out).2.2 | (with_reducible refine Kd.C_alloc ?_ _) | (with_reducible refine Kd.C_drewN ?_ _) | (with_reducible refine Kd.C_drew ?_))); (case side2 => exact (Kd.R_reads' HO235.out).2.1); rintro e w97 ⟨v238, rfl, ho0, hb⟩; have n0_ := Aside0.mk (Kd.R_elder' (by (with_reducible repeat (first | apply Kd.R_alloc | apply Kd.R_drewN | apply Kd.R_drew)); exact HO_5.out) (Kd.R_base ho0) hb); have n1_ := Aside0.mk (Kd.R_elder' (by (with_reducible repeat (first | apply Kd.R_alloc | apply Kd.R_drewN | apply Kd.R_drew)); exact HO228.out) (Kd.R_base ho0) hb); have n2_ := Aside0.mk (Kd.R_elder' (by (with_reducible repeat (first | apply Kd.R_alloc | apply Kd.R_drewN | apply Kd.R_drew)); exact HO235.out) (Kd.R_base ho0) hb); have n3_ := Aside0.mk (Kd.R_lower (Kd.R_new' (Kd.R_new' (Kd.R_new' ho0 (Kd.R_lt (by (with_reducible repeat (first | apply Kd.R_alloc | apply Kd.R_drewN | apply Kd.R_drew)); exact HO_5.out))) (Kd.R_lt (by (with_reducible repeat (first | apply Kd.R_alloc | apply Kd.R_drewN | apply Kd.R_drew)); exact HO228.out))) (Kd.R_lt (by (with_reducible repeat (first | apply Kd.R_alloc | apply Kd.R_drewN | apply Kd.R_drew)); exact HO235.out))) (below_size (by repeat (first | (with_reducible first | exact HB.out | apply below_alloc | apply pw_below_drewN | apply below_drew1 | refine below_set ?_ (IsS23.ge HI221.out)) | exact HB.out)))); have n4_ := Aside0.mk (IsS23.below (by repeat (first | (with_reducible first | exact HI221.out | apply IsS23.alloc | apply IsS23.drewN | apply IsS23.drew) | exact HI221.out)) hb); have n5_ := Aside0.mk (below_step (by repeat (first | (with_reducible first | exact HB.out | apply below_alloc | apply pw_below_drewN | apply below_drew1 | refine below_set ?_ (IsS23.ge HI221.out)) | exact HB.out)) hb); clear HO_5; clear HO228; clear HO235; clear HI221; clear HB; have HO_5 := n0_; have HO228 := n1_; have HO235 := n2_; have HO239 := n3_; have HI221 := n4_; have HB := n5_; clear n0_ n1_ n2_ n3_ n4_ n5_; (try clear hb); (try clear hb2); (try clear hk); (try clear hi); (try clear ho0); obtain ⟨Ao98, co98, eo98⟩ := Kd.R_slice HO228.out; subst eo98; obtain ⟨Ao99, co99, eo99⟩ := Kd.R_slice HO239.out; subst eo99)))
                  go_ret
                  exact ⟨by first | rfl | (simp [errW_none, errW_some] <;> rfl) | (simp [*, errW_none, errW_some] <;> rfl), by repeat (first | (with_reducible first | exact HB.out | apply below_alloc | apply pw_below_drewN | apply below_drew1 | refine below_set ?_ (IsS23.ge HI221.out)) | exact HB.out)⟩
                · rw [if_neg c88] at H
                  have c88b0 : ((t226.length : Int) == 0) = false := beq_eq_false_iff_ne.mpr c88
                  have c88b1 : ((t226.length : Int) != 0) = true := bne_iff_ne.mpr c88
                  have c88b2 : ¬ (t226 = []) := fun h_ => c88 (by rw [h_]; rfl)
                  obtain rfl := Option.some.inj H
                  obtain ⟨ASz100_0, cSz100_0, HGz100, hgz100, HSz100_0⟩ := HI221.out
                  have hcz100_0 := cellS23_0 HGz100
                  clear HGz100 hgz100
                  obtain ⟨Ao101, co101, eo101⟩ := Kd.R_slice HO_5.out
                  subst eo101
                  go_wp2_with (first | (go_at_call 19; (with_reducible refine (bucket_Sort_int.calls k1 _ _ x5_1 g221 t220 a1 t226 t229 w _ ?side1 ?side2 ?side3 ?side4 ?side5 A12.out).mono ?_); (case side1 => repeat (first | (with_reducible first | exact HI221.out | apply IsS23.alloc | apply IsS23.drewN | apply IsS23.drew) | exact HI221.out)); (case side2 => repeat (first | (with_reducible first | exact HB.out | apply below_alloc | apply pw_below_drewN | apply below_drew1 | refine below_set ?_ (IsS23.ge HI221.out)) | exact HB.out)); (case side3 => repeat (first | exact (Kd.R_reads' HO_5.out).2.2 | (with_reducible refine Kd.C_alloc ?_ _) | (with_reducible refine Kd.C_drewN ?_ _) | (with_reducible refine Kd.C_drew ?_))); (case side4 => exact (Kd.R_reads' HO_5.out).2.1); (case side5 => exact far_slice (IsS23.own_ne HI221.out HO_5.out (by decide))); rintro e w102 ⟨v227, rfl, ho0, hi, hb, hk⟩; have n0_ := Aside0.mk (Kd.R_mono (Kd.R_told (Kd.R_oldK (IsS23.apart (show IsS23 w _ g221 t220 from by repeat (first | (with_reducible first | exact HI221.out | apply IsS23.alloc | apply IsS23.drewN | apply IsS23.drew) | exact HI221.out)) (by (with_reducible repeat (first | apply Kd.R_alloc | apply Kd.R_drewN | apply Kd.R_drew)); exact HO_5.out) (by decide)) hk) (Kd.R_base ho0)) (fun _ h_ => h_.1)); have n1_ := Aside0.mk (Kd.R_lower (Kd.R_new' ho0 (Kd.R_lt (by (with_reducible repeat (first | apply Kd.R_alloc | apply Kd.R_drewN | apply Kd.R_drew)); exact HO_5.out))) (below_size (by repeat (first | (with_reducible first | exact HB.out | apply below_alloc | apply pw_below_drewN | apply below_drew1 | refine below_set ?_ (IsS23.ge HI221.out)) | exact HB.out)))); have n2_ := Aside0.mk (hb); have n3_ := Aside0.mk (hi); clear HO_5; clear HB; clear HI221; have HO_5 := n0_; have HO228 := n1_; have HB := n2_; have HI221 := n3_; clear n0_ n1_ n2_ n3_; (try clear hb); (try clear hb2); (try clear hk); (try clear hi); (try clear ho0)) | ((with_reducible refine gate_dst (N := 38) rfl ?_); (try (refine gate_guard (by rfl) ?_; dsimp only)); refine Kd.R_lit (Kd.int .i64) _ 3 ?hg (N := 38) ?hd (xs := ([] : List Int)) (inner := []) (ok := fun _ => True) (okp := fun _ => True) ?hr ?hp (fun _ hk => hk) trivial (Below.refl _ _) (Nat.le_refl _) (by simp) ?_; (case hd => rfl); (case hg => rfl); (case hr => first | (go_simp; done) | (go_simp; rfl)); (case hp => exact (Reps.none _ _)); intro v231 w103 ho104 hb hg_ hnew_; clear hg_ hnew_; (first | rw [← Ny230.out] at ho104 | (simp only [Int.reduceToNat] at ho104; rw [← Ny230.out] at ho104)); have n0_ := Aside0.mk (Kd.R_elder' (by (with_reducible repeat (first | apply Kd.R_alloc | apply Kd.R_drewN | apply Kd.R_drew)); exact HO_5.out) (Kd.R_base ho104) hb); have n1_ := Aside0.mk (Kd.R_elder' (by (with_reducible repeat (first | apply Kd.R_alloc | apply Kd.R_drewN | apply Kd.R_drew)); exact HO228.out) (Kd.R_base ho104) hb); have n2_ := Aside0.mk (Kd.R_lower (Kd.R_new' (Kd.R_new' ho104 (Kd.R_lt (by (with_reducible repeat (first | apply Kd.R_alloc | apply Kd.R_drewN | apply Kd.R_drew)); exact HO_5.out))) (Kd.R_lt (by (with_reducible repeat (first | apply Kd.R_alloc | apply Kd.R_drewN | apply Kd.R_drew)); exact HO228.out))) (below_size (by repeat (first | (with_reducible first | exact HB.out | apply below_alloc | apply pw_below_drewN | apply below_drew1 | refine below_set ?_ (IsS23.ge HI221.out)) | exact HB.out)))); have n3_ := Aside0.mk (IsS23.below (by repeat (first | (with_reducible first | exact HI221.out | apply IsS23.alloc | apply IsS23.drewN | apply IsS23.drew) | exact HI221.out)) hb); have n4_ := Aside0.mk (below_step (by repeat (first | (with_reducible first | exact HB.out | apply below_alloc | apply pw_below_drewN | apply below_drew1 | refine below_set ?_ (IsS23.ge HI221.out)) | exact HB.out)) hb); clear HO_5; clear HO228; clear HI221; clear HB; have HO_5 := n0_; have HO228 := n1_; have HO232 := n2_; have HI221 := n3_; have HB := n4_; clear n0_ n1_ n2_ n3_ n4_; clear hb ho104; obtain ⟨ASz105_0, cSz105_0, HGz105, hgz105, HSz105_0⟩ := HI221.out; have hcz105_0 := cellS23_0 HGz105; clear HGz105 hgz105) | ((with_reducible refine gate_builtin (b := .append) (xs := #[.tmp 38, .tmp 39]) rfl ?_); (try (refine gate_guard (by rfl) ?_; dsimp only)); at_builtin; refine Kd.R_append_rows (Kd.int .i64) (w0 := w) w.heap.size rfl (.tmp 38) (.tmp 39) 23 3 (.int .i64 0) 8 rfl Try.underlying23 info3 rfl (by decide) (by omega) v231 y230 t220 _ _ _ (fun k_ => some k_ ≠ (.slice Ao101 x5_1.length co101 : Value).ownBlock ∧ some k_ ≠ (v227 : Value).ownBlock) (fun _ => False) rfl rfl ?aO ?aR (fun _ _ h => h) (fun _ h => h.elim) ?aF ?aB ?aS ?aL ?_; (case aR => exact Kd.C_below HSz105_0 (by repeat (first | (with_reducible first | exact HB.out | apply below_alloc | apply pw_below_drewN | apply below_drew1 | refine below_set ?_ (IsS23.ge HI221.out)) | exact HB.out))); (case aB => exact (by repeat (first | (with_reducible first | exact HB.out | apply below_alloc | apply pw_below_drewN | apply below_drew1 | refine below_set ?_ (IsS23.ge HI221.out)) | exact HB.out))); (case aF => exact (fun k_ hk => ⟨Kd.fresh' (Kd.R_lt (by (with_reducible repeat (first | apply Kd.R_alloc | apply Kd.R_drewN | apply Kd.R_drew)); exact HO_5.out)) k_ hk, Kd.fresh' (Kd.R_lt (by (with_reducible repeat (first | apply Kd.R_alloc | apply Kd.R_drewN | apply Kd.R_drew)); exact HO228.out)) k_ hk⟩)); (case aO => exact (by (with_reducible repeat (first | apply Kd.R_alloc | apply Kd.R_drewN | apply Kd.R_drew)); exact Kd.R_mono HO232.out (fun _ hk => ⟨hk.1.2, hk.2⟩))); (case aS => exact (below_size (by repeat (first | (with_reducible first | exact HB.out | apply below_alloc | apply pw_below_drewN | apply below_drew1 | refine below_set ?_ (IsS23.ge HI221.out)) | exact HB.out)))); (case aL => have := LMc13.out; omega); intro v234 w106 ho hb hg hat; rw [← Ny233.out] at ho; have n0_ := Aside0.mk (Kd.R_after (ok := (fun k_ => some k_ ≠ (v227 : Value).ownBlock)) (by (with_reducible repeat (first | apply Kd.R_alloc | apply Kd.R_drewN | apply Kd.R_drew)); exact Kd.R_mono HO_5.out (fun _ hk => ⟨hk.1.2, hk.2⟩)) hg hat); have n1_ := Aside0.mk (IsS23.grown (by repeat (first | (with_reducible first | exact HI221.out | apply IsS23.alloc | apply IsS23.drewN | apply IsS23.drew) | exact HI221.out)) hg (IsS23.own_ne HI221.out HO232.out (by decide))); have n2_ := Aside0.mk (Kd.R_after (ok := (fun k_ => some k_ ≠ (.slice Ao101 x5_1.length co101 : Value).ownBlock)) (by (with_reducible repeat (first | apply Kd.R_alloc | apply Kd.R_drewN | apply Kd.R_drew)); exact Kd.R_mono HO228.out (fun _ hk => ⟨hk.1.2, hk.2⟩)) hg hat); have n3_ := Aside0.mk (hb); have n4_ := Aside0.mk (ho); clear HO_5; clear HI221; clear HO228; clear HB; clear HO232; have HO_5 := n0_; have HI221 := n1_; have HO228 := n2_; have HB := n3_; have HO235 := n4_; clear n0_ n1_ n2_ n3_ n4_; clear ho hb hg hat; obtain ⟨Ao107, co107, eo107⟩ := Kd.R_slice HO235.out; subst eo107) | (go_at_call 17; (with_reducible refine (bucket_Ranks.calls k1 _ _ y233 a1 t236 t237 _ ?side1 ?side2 A14.out).mono ?_); (case side1 => repeat (first | exact (Kd.R_reads' HO235.out).2.2 | (with_reducible refine Kd.C_alloc ?_ _) | (with_reducible refine Kd.C_drewN ?_ _) | (with_reducible refine Kd.C_drew ?_))); (case side2 => exact (Kd.R_reads' HO235.out).2.1); rintro e w108 ⟨v238, rfl, ho0, hb⟩; have n0_ := Aside0.mk (Kd.R_elder' (by (with_reducible repeat (first | apply Kd.R_alloc | apply Kd.R_drewN | apply Kd.R_drew)); exact HO_5.out) (Kd.R_base ho0) hb); have n1_ := Aside0.mk (Kd.R_elder' (by (with_reducible repeat (first | apply Kd.R_alloc | apply Kd.R_drewN | apply Kd.R_drew)); exact HO228.out) (Kd.R_base ho0) hb); have n2_ := Aside0.mk (Kd.R_elder' (by (with_reducible repeat (first | apply Kd.R_alloc | apply Kd.R_drewN | apply Kd.R_drew)); exact HO235.out) (Kd.R_base ho0) hb); have n3_ := Aside0.mk (Kd.R_lower (Kd.R_new' (Kd.R_new' (Kd.R_new' ho0 (Kd.R_lt (by (with_reducible repeat (first | apply Kd.R_alloc | apply Kd.R_drewN | apply Kd.R_drew)); exact HO_5.out))) (Kd.R_lt (by (with_reducible repeat (first | apply Kd.R_alloc | apply Kd.R_drewN | apply Kd.R_drew)); exact HO228.out))) (Kd.R_lt (by (with_reducible repeat (first | apply Kd.R_alloc | apply Kd.R_drewN | apply Kd.R_drew)); exact HO235.out))) (below_size (by repeat (first | (with_reducible first | exact HB.out | apply below_alloc | apply pw_below_drewN | apply below_drew1 | refine below_set ?_ (IsS23.ge HI221.out)) | exact HB.out)))); have n4_ := Aside0.mk (IsS23.below (by repeat (first | (with_reducible first | exact HI221.out | apply IsS23.alloc | apply IsS23.drewN | apply IsS23.drew) | exact HI221.out)) hb); have n5_ := Aside0.mk (below_step (by repeat (first | (with_reducible first | exact HB.out | apply below_alloc | apply pw_below_drewN | apply below_drew1 | refine below_set ?_ (IsS23.ge HI221.out)) | exact HB.out)) hb); clear HO_5; clear HO228; clear HO235; clear HI221; clear HB; have HO_5 := n0_; have HO228 := n1_; have HO235 := n2_; have HO239 := n3_; have HI221 := n4_; have HB := n5_; clear n0_ n1_ n2_ n3_ n4_ n5_; (try clear hb); (try clear hb2); (try clear hk); (try clear hi); (try clear ho0); obtain ⟨Ao109, co109, eo109⟩ := Kd.R_slice HO228.out; subst eo109))
                  repeat (go_quiet (first | (go_at_call 19; (with_reducible refine (bucket_Sort_int.calls k1 _ _ x5_1 g221 t220 a1 t226 t229 w _ ?side1 ?side2 ?side3 ?side4 ?side5 A12.out).mono ?_); (case side1 => repeat (first | (with_reducible first | exact HI221.out | apply IsS23.alloc | apply IsS23.drewN | apply IsS23.drew) | exact HI221.out)); (case side2 => repeat (first | (with_reducible first | exact HB.out | apply below_alloc | apply pw_below_drewN | apply below_drew1 | refine below_set ?_ (IsS23.ge HI221.out)) | exact HB.out)); (case side3 => repeat (first | exact (Kd.R_reads' HO_5.out).2.2 | (with_reducible refine Kd.C_alloc ?_ _) | (with_reducible refine Kd.C_drewN ?_ _) | (with_reducible refine Kd.C_drew ?_))); (case side4 => exact (Kd.R_reads' HO_5.out).2.1); (case side5 => exact far_slice (IsS23.own_ne HI221.out HO_5.out (by decide))); rintro e w102 ⟨v227, rfl, ho0, hi, hb, hk⟩; have n0_ := Aside0.mk (Kd.R_mono (Kd.R_told (Kd.R_oldK (IsS23.apart (show IsS23 w _ g221 t220 from by repeat (first | (with_reducible first | exact HI221.out | apply IsS23.alloc | apply IsS23.drewN | apply IsS23.drew) | exact HI221.out)) (by (with_reducible repeat (first | apply Kd.R_alloc | apply Kd.R_drewN | apply Kd.R_drew)); exact HO_5.out) (by decide)) hk) (Kd.R_base ho0)) (fun _ h_ => h_.1)); have n1_ := Aside0.mk (Kd.R_lower (Kd.R_new' ho0 (Kd.R_lt (by (with_reducible repeat (first | apply Kd.R_alloc | apply Kd.R_drewN | apply Kd.R_drew)); exact HO_5.out))) (below_size (by repeat (first | (with_reducible first | exact HB.out | apply below_alloc | apply pw_below_drewN | apply below_drew1 | refine below_set ?_ (IsS23.ge HI221.out)) | exact HB.out)))); have n2_ := Aside0.mk (hb); have n3_ := Aside0.mk (hi); clear HO_5; clear HB; clear HI221; have HO_5 := n0_; have HO228 := n1_; have HB := n2_; have HI221 := n3_; clear n0_ n1_ n2_ n3_; (try clear hb); (try clear hb2); (try clear hk); (try clear hi); (try clear ho0)) | ((with_reducible refine gate_dst (N := 38) rfl ?_); (try (refine gate_guard (by rfl) ?_; dsimp only)); refine Kd.R_lit (Kd.int .i64) _ 3 ?hg (N := 38) ?hd (xs := ([] : List Int)) (inner := []) (ok := fun _ => True) (okp := fun _ => True) ?hr ?hp (fun _ hk => hk) trivial (Below.refl _ _) (Nat.le_refl _) (by simp) ?_; (case hd => rfl); (case hg => rfl); (case hr => first | (go_simp; done) | (go_simp; rfl)); (case hp => exact (Reps.none _ _)); intro v231 w103 ho104 hb hg_ hnew_; clear hg_ hnew_; (first | rw [← Ny230.out] at ho104 | (simp only [Int.reduceToNat] at ho104; rw [← Ny230.out] at ho104)); have n0_ := Aside0.mk (Kd.R_elder' (by (with_reducible repeat (first | apply Kd.R_alloc | apply Kd.R_drewN | apply Kd.R_drew)); exact HO_5.out) (Kd.R_base ho104) hb); have n1_ := Aside0.mk (Kd.R_elder' (by (with_reducible repeat (first | apply Kd.R_alloc | apply Kd.R_drewN | apply Kd.R_drew)); exact HO228.out) (Kd.R_base ho104) hb); have n2_ := Aside0.mk (Kd.R_lower (Kd.R_new' (Kd.R_new' ho104 (Kd.R_lt (by (with_reducible repeat (first | apply Kd.R_alloc | apply Kd.R_drewN | apply Kd.R_drew)); exact HO_5.out))) (Kd.R_lt (by (with_reducible repeat (first | apply Kd.R_alloc | apply Kd.R_drewN | apply Kd.R_drew)); exact HO228.out))) (below_size (by repeat (first | (with_reducible first | exact HB.out | apply below_alloc | apply pw_below_drewN | apply below_drew1 | refine below_set ?_ (IsS23.ge HI221.out)) | exact HB.out)))); have n3_ := Aside0.mk (IsS23.below (by repeat (first | (with_reducible first | exact HI221.out | apply IsS23.alloc | apply IsS23.drewN | apply IsS23.drew) | exact HI221.out)) hb); have n4_ := Aside0.mk (below_step (by repeat (first | (with_reducible first | exact HB.out | apply below_alloc | apply pw_below_drewN | apply below_drew1 | refine below_set ?_ (IsS23.ge HI221.out)) | exact HB.out)) hb); clear HO_5; clear HO228; clear HI221; clear HB; have HO_5 := n0_; have HO228 := n1_; have HO232 := n2_; have HI221 := n3_; have HB := n4_; clear n0_ n1_ n2_ n3_ n4_; clear hb ho104; obtain ⟨ASz105_0, cSz105_0, HGz105, hgz105, HSz105_0⟩ := HI221.out; have hcz105_0 := cellS23_0 HGz105; clear HGz105 hgz105) | ((with_reducible refine gate_builtin (b := .append) (xs := #[.tmp 38, .tmp 39]) rfl ?_); (try (refine gate_guard (by rfl) ?_; dsimp only)); at_builtin; refine Kd.R_append_rows (Kd.int .i64) (w0 := w) w.heap.size rfl (.tmp 38) (.tmp 39) 23 3 (.int .i64 0) 8 rfl Try.underlying23 info3 rfl (by decide) (by omega) v231 y230 t220 _ _ _ (fun k_ => some k_ ≠ (.slice Ao101 x5_1.length co101 : Value).ownBlock ∧ some k_ ≠ (v227 : Value).ownBlock) (fun _ => False) rfl rfl ?aO ?aR (fun _ _ h => h) (fun _ h => h.elim) ?aF ?aB ?aS ?aL ?_; (case aR => exact Kd.C_below HSz105_0 (by repeat (first | (with_reducible first | exact HB.out | apply below_alloc | apply pw_below_drewN | apply below_drew1 | refine below_set ?_ (IsS23.ge HI221.out)) | exact HB.out))); (case aB => exact (by repeat (first | (with_reducible first | exact HB.out | apply below_alloc | apply pw_below_drewN | apply below_drew1 | refine below_set ?_ (IsS23.ge HI221.out)) | exact HB.out))); (case aF => exact (fun k_ hk => ⟨Kd.fresh' (Kd.R_lt (by (with_reducible repeat (first | apply Kd.R_alloc | apply Kd.R_drewN | apply Kd.R_drew)); exact HO_5.out)) k_ hk, Kd.fresh' (Kd.R_lt (by (with_reducible repeat (first | apply Kd.R_alloc | apply Kd.R_drewN | apply Kd.R_drew)); exact HO228.out)) k_ hk⟩)); (case aO => exact (by (with_reducible repeat (first | apply Kd.R_alloc | apply Kd.R_drewN | apply Kd.R_drew)); exact Kd.R_mono HO232.out (fun _ hk => ⟨hk.1.2, hk.2⟩))); (case aS => exact (below_size (by repeat (first | (with_reducible first | exact HB.out | apply below_alloc | apply pw_below_drewN | apply below_drew1 | refine below_set ?_ (IsS23.ge HI221.out)) | exact HB.out)))); (case aL => have := LMc13.out; omega); intro v234 w106 ho hb hg hat; rw [← Ny233.out] at ho; have n0_ := Aside0.mk (Kd.R_after (ok := (fun k_ => some k_ ≠ (v227 : Value).ownBlock)) (by (with_reducible repeat (first | apply Kd.R_alloc | apply Kd.R_drewN | apply Kd.R_drew)); exact Kd.R_mono HO_5.out (fun _ hk => ⟨hk.1.2, hk.2⟩)) hg hat); have n1_ := Aside0.mk (IsS23.grown (by repeat (first | (with_reducible first | exact HI221.out | apply IsS23.alloc | apply IsS23.drewN | apply IsS23.drew) | exact HI221.out)) hg (IsS23.own_ne HI221.out HO232.out (by decide))); have n2_ := Aside0.mk (Kd.R_after (ok := (fun k_ => some k_ ≠ (.slice Ao101 x5_1.length co101 : Value).ownBlock)) (by (with_reducible repeat (first | apply Kd.R_alloc | apply Kd.R_drewN | apply Kd.R_drew)); exact Kd.R_mono HO228.out (fun _ hk => ⟨hk.1.2, hk.2⟩)) hg hat); have n3_ := Aside0.mk (hb); have n4_ := Aside0.mk (ho); clear HO_5; clear HI221; clear HO228; clear HB; clear HO232; have HO_5 := n0_; have HI221 := n1_; have HO228 := n2_; have HB := n3_; have HO235 := n4_; clear n0_ n1_ n2_ n3_ n4_; clear ho hb hg hat; obtain ⟨Ao107, co107, eo107⟩ := Kd.R_slice HO235.out; subst eo107) | (go_at_call 17; (with_reducible refine (bucket_Ranks.calls k1 _ _ y233 a1 t236 t237 _ ?side1 ?side2 A14.out).mono ?_); (case side1 => repeat (first | exact (Kd.R_reads' HO235.out).2.2 | (with_reducible refine Kd.C_alloc ?_ _) | (with_reducible refine Kd.C_drewN ?_ _) | (with_reducible refine Kd.C_drew ?_))); (case side2 => exact (Kd.R_reads' HO235.out).2.1); rintro e w108 ⟨v238, rfl, ho0, hb⟩; have n0_ := Aside0.mk (Kd.R_elder' (by (with_reducible repeat (first | apply Kd.R_alloc | apply Kd.R_drewN | apply Kd.R_drew)); exact HO_5.out) (Kd.R_base ho0) hb); have n1_ := Aside0.mk (Kd.R_elder' (by (with_reducible repeat (first | apply Kd.R_alloc | apply Kd.R_drewN | apply Kd.R_drew)); exact HO228.out) (Kd.R_base ho0) hb); have n2_ := Aside0.mk (Kd.R_elder' (by (with_reducible repeat (first | apply Kd.R_alloc | apply Kd.R_drewN | apply Kd.R_drew)); exact HO235.out) (Kd.R_base ho0) hb); have n3_ := Aside0.mk (Kd.R_lower (Kd.R_new' (Kd.R_new' (Kd.R_new' ho0 (Kd.R_lt (by (with_reducible repeat (first | apply Kd.R_alloc | apply Kd.R_drewN | apply Kd.R_drew)); exact HO_5.out))) (Kd.R_lt (by (with_reducible repeat (first | apply Kd.R_alloc | apply Kd.R_drewN | apply Kd.R_drew)); exact HO228.out))) (Kd.R_lt (by (with_reducible repeat (first | apply Kd.R_alloc | apply Kd.R_drewN | apply Kd.R_drew)); exact HO235.out))) (below_size (by repeat (first | (with_reducible first | exact HB.out | apply below_alloc | apply pw_below_drewN | apply below_drew1 | refine below_set ?_ (IsS23.ge HI221.out)) | exact HB.out)))); have n4_ := Aside0.mk (IsS23.below (by repeat (first | (with_reducible first | exact HI221.out | apply IsS23.alloc | apply IsS23.drewN | apply IsS23.drew) | exact HI221.out)) hb); have n5_ := Aside0.mk (below_step (by repeat (first | (with_reducible first | exact HB.out | apply below_alloc | apply pw_below_drewN | apply below_drew1 | refine below_set ?_ (IsS23.ge HI221.out)) | exact HB.out)) hb); clear HO_5; clear HO228; clear HO235; clear HI221; clear HB; have HO_5 := n0_; have HO228 := n1_; have HO235 := n2_; have HO239 := n3_; have HI221 := n4_; have HB := n5_; clear n0_ n1_ n2_ n3_ n4_ n5_; (try clear hb); (try clear hb2); (try clear hk); (try clear hi); (try clear ho0); obtain ⟨Ao109, co109, eo109⟩ := Kd.R_slice HO228.out; subst eo109)); try go_wp2_with (first | (go_at_call 19; (with_reducible refine (bucket_Sort_int.calls k1 _ _ x5_1 g221 t220 a1 t226 t229 w _ ?side1 ?side2 ?side3 ?side4 ?side5 A12.out).mono ?_); (case side1 => repeat (first | (with_reducible first | exact HI221.out | apply IsS23.alloc | apply IsS23.drewN | apply IsS23.drew) | exact HI221.out)); (case side2 => repeat (first | (with_reducible first | exact HB.out | apply below_alloc | apply pw_below_drewN | apply below_drew1 | refine below_set ?_ (IsS23.ge HI221.out)) | exact HB.out)); (case side3 => repeat (first | exact (Kd.R_reads' HO_5.out).2.2 | (with_reducible refine Kd.C_alloc ?_ _) | (with_reducible refine Kd.C_drewN ?_ _) | (with_reducible refine Kd.C_drew ?_))); (case side4 => exact (Kd.R_reads' HO_5.out).2.1); (case side5 => exact far_slice (IsS23.own_ne HI221.out HO_5.out (by decide))); rintro e w102 ⟨v227, rfl, ho0, hi, hb, hk⟩; have n0_ := Aside0.mk (Kd.R_mono (Kd.R_told (Kd.R_oldK (IsS23.apart (show IsS23 w _ g221 t220 from by repeat (first | (with_reducible first | exact HI221.out | apply IsS23.alloc | apply IsS23.drewN | apply IsS23.drew) | exact HI221.out)) (by (with_reducible repeat (first | apply Kd.R_alloc | apply Kd.R_drewN | apply Kd.R_drew)); exact HO_5.out) (by decide)) hk) (Kd.R_base ho0)) (fun _ h_ => h_.1)); have n1_ := Aside0.mk (Kd.R_lower (Kd.R_new' ho0 (Kd.R_lt (by (with_reducible repeat (first | apply Kd.R_alloc | apply Kd.R_drewN | apply Kd.R_drew)); exact HO_5.out))) (below_size (by repeat (first | (with_reducible first | exact HB.out | apply below_alloc | apply pw_below_drewN | apply below_drew1 | refine below_set ?_ (IsS23.ge HI221.out)) | exact HB.out)))); have n2_ := Aside0.mk (hb); have n3_ := Aside0.mk (hi); clear HO_5; clear HB; clear HI221; have HO_5 := n0_; have HO228 := n1_; have HB := n2_; have HI221 := n3_; clear n0_ n1_ n2_ n3_; (try clear hb); (try clear hb2); (try clear hk); (try clear hi); (try clear ho0)) | ((with_reducible refine gate_dst (N := 38) rfl ?_); (try (refine gate_guard (by rfl) ?_; dsimp only)); refine Kd.R_lit (Kd.int .i64) _ 3 ?hg (N := 38) ?hd (xs := ([] : List Int)) (inner := []) (ok := fun _ => True) (okp := fun _ => True) ?hr ?hp (fun _ hk => hk) trivial (Below.refl _ _) (Nat.le_refl _) (by simp) ?_; (case hd => rfl); (case hg => rfl); (case hr => first | (go_simp; done) | (go_simp; rfl)); (case hp => exact (Reps.none _ _)); intro v231 w103 ho104 hb hg_ hnew_; clear hg_ hnew_; (first | rw [← Ny230.out] at ho104 | (simp only [Int.reduceToNat] at ho104; rw [← Ny230.out] at ho104)); have n0_ := Aside0.mk (Kd.R_elder' (by (with_reducible repeat (first | apply Kd.R_alloc | apply Kd.R_drewN | apply Kd.R_drew)); exact HO_5.out) (Kd.R_base ho104) hb); have n1_ := Aside0.mk (Kd.R_elder' (by (with_reducible repeat (first | apply Kd.R_alloc | apply Kd.R_drewN | apply Kd.R_drew)); exact HO228.out) (Kd.R_base ho104) hb); have n2_ := Aside0.mk (Kd.R_lower (Kd.R_new' (Kd.R_new' ho104 (Kd.R_lt (by (with_reducible repeat (first | apply Kd.R_alloc | apply Kd.R_drewN | apply Kd.R_drew)); exact HO_5.out))) (Kd.R_lt (by (with_reducible repeat (first | apply Kd.R_alloc | apply Kd.R_drewN | apply Kd.R_drew)); exact HO228.out))) (below_size (by repeat (first | (with_reducible first | exact HB.out | apply below_alloc | apply pw_below_drewN | apply below_drew1 | refine below_set ?_ (IsS23.ge HI221.out)) | exact HB.out)))); have n3_ := Aside0.mk (IsS23.below (by repeat (first | (with_reducible first | exact HI221.out | apply IsS23.alloc | apply IsS23.drewN | apply IsS23.drew) | exact HI221.out)) hb); have n4_ := Aside0.mk (below_step (by repeat (first | (with_reducible first | exact HB.out | apply below_alloc | apply pw_below_drewN | apply below_drew1 | refine below_set ?_ (IsS23.ge HI221.out)) | exact HB.out)) hb); clear HO_5; clear HO228; clear HI221; clear HB; have HO_5 := n0_; have HO228 := n1_; have HO232 := n2_; have HI221 := n3_; have HB := n4_; clear n0_ n1_ n2_ n3_ n4_; clear hb ho104; obtain ⟨ASz105_0, cSz105_0, HGz105, hgz105, HSz105_0⟩ := HI221.out; have hcz105_0 := cellS23_0 HGz105; clear HGz105 hgz105) | ((with_reducible refine gate_builtin (b := .append) (xs := #[.tmp 38, .tmp 39]) rfl ?_); (try (refine gate_guard (by rfl) ?_; dsimp only)); at_builtin; refine Kd.R_append_rows (Kd.int .i64) (w0 := w) w.heap.size rfl (.tmp 38) (.tmp 39) 23 3 (.int .i64 0) 8 rfl Try.underlying23 info3 rfl (by decide) (by omega) v231 y230 t220 _ _ _ (fun k_ => some k_ ≠ (.slice Ao101 x5_1.length co101 : Value).ownBlock ∧ some k_ ≠ (v227 : Value).ownBlock) (fun _ => False) rfl rfl ?aO ?aR (fun _ _ h => h) (fun _ h => h.elim) ?aF ?aB ?aS ?aL ?_; (case aR => exact Kd.C_below HSz105_0 (by repeat (first | (with_reducible first | exact HB.out | apply below_alloc | apply pw_below_drewN | apply below_drew1 | refine below_set ?_ (IsS23.ge HI221.out)) | exact HB.out))); (case aB => exact (by repeat (first | (with_reducible first | exact HB.out | apply below_alloc | apply pw_below_drewN | apply below_drew1 | refine below_set ?_ (IsS23.ge HI221.out)) | exact HB.out))); (case aF => exact (fun k_ hk => ⟨Kd.fresh' (Kd.R_lt (by (with_reducible repeat (first | apply Kd.R_alloc | apply Kd.R_drewN | apply Kd.R_drew)); exact HO_5.out)) k_ hk, Kd.fresh' (Kd.R_lt (by (with_reducible repeat (first | apply Kd.R_alloc | apply Kd.R_drewN | apply Kd.R_drew)); exact HO228.out)) k_ hk⟩)); (case aO => exact (by (with_reducible repeat (first | apply Kd.R_alloc | apply Kd.R_drewN | apply Kd.R_drew)); exact Kd.R_mono HO232.out (fun _ hk => ⟨hk.1.2, hk.2⟩))); (case aS => exact (below_size (by repeat (first | (with_reducible first | exact HB.out | apply below_alloc | apply pw_below_drewN | apply below_drew1 | refine below_set ?_ (IsS23.ge HI221.out)) | exact HB.out)))); (case aL => have := LMc13.out; omega); intro v234 w106 ho hb hg hat; rw [← Ny233.out] at ho; have n0_ := Aside0.mk (Kd.R_after (ok := (fun k_ => some k_ ≠ (v227 : Value).ownBlock)) (by (with_reducible repeat (first | apply Kd.R_alloc | apply Kd.R_drewN | apply Kd.R_drew)); exact Kd.R_mono HO_5.out (fun _ hk => ⟨hk.1.2, hk.2⟩)) hg hat); have n1_ := Aside0.mk (IsS23.grown (by repeat (first | (with_reducible first | exact HI221.out | apply IsS23.alloc | apply IsS23.drewN | apply IsS23.drew) | exact HI221.out)) hg (IsS23.own_ne HI221.out HO232.out (by decide))); have n2_ := Aside0.mk (Kd.R_after (ok := (fun k_ => some k_ ≠ (.slice Ao101 x5_1.length co101 : Value).ownBlock)) (by (with_reducible repeat (first | apply Kd.R_alloc | apply Kd.R_drewN | apply Kd.R_drew)); exact Kd.R_mono HO228.out (fun _ hk => ⟨hk.1.2, hk.2⟩)) hg hat); have n3_ := Aside0.mk (hb); have n4_ := Aside0.mk (ho); clear HO_5; clear HI221; clear HO228; clear HB; clear HO232; have HO_5 := n0_; have HI221 := n1_; have HO228 := n2_; have HB := n3_; have HO235 := n4_; clear n0_ n1_ n2_ n3_ n4_; clear ho hb hg hat; obtain ⟨Ao107, co107, eo107⟩ := Kd.R_slice HO235.out; subst eo107) | (go_at_call 17; (with_reducible refine (bucket_Ranks.calls k1 _ _ y233 a1 t236 t237 _ ?side1 ?side2 A14.out).mono ?_); (case side1 => repeat (first | exact (Kd.R_reads' HO235.out).2.2 | (with_reducible refine Kd.C_alloc ?_ _) | (with_reducible refine Kd.C_drewN ?_ _) | (with_reducible refine Kd.C_drew ?_))); (case side2 => exact (Kd.R_reads' HO235.out).2.1); rintro e w108 ⟨v238, rfl, ho0, hb⟩; have n0_ := Aside0.mk (Kd.R_elder' (by (with_reducible repeat (first | apply Kd.R_alloc | apply Kd.R_drewN | apply Kd.R_drew)); exact HO_5.out) (Kd.R_base ho0) hb); have n1_ := Aside0.mk (Kd.R_elder' (by (with_reducible repeat (first | apply Kd.R_alloc | apply Kd.R_drewN | apply Kd.R_drew)); exact HO228.out) (Kd.R_base ho0) hb); have n2_ := Aside0.mk (Kd.R_elder' (by (with_reducible repeat (first | apply Kd.R_alloc | apply Kd.R_drewN | apply Kd.R_drew)); exact HO235.out) (Kd.R_base ho0) hb); have n3_ := Aside0.mk (Kd.R_lower (Kd.R_new' (Kd.R_new' (Kd.R_new' ho0 (Kd.R_lt (by (with_reducible repeat (first | apply Kd.R_alloc | apply Kd.R_drewN | apply Kd.R_drew)); exact HO_5.out))) (Kd.R_lt (by (with_reducible repeat (first | apply Kd.R_alloc | apply Kd.R_drewN | apply Kd.R_drew)); exact HO228.out))) (Kd.R_lt (by (with_reducible repeat (first | apply Kd.R_alloc | apply Kd.R_drewN | apply Kd.R_drew)); exact HO235.out))) (below_size (by repeat (first | (with_reducible first | exact HB.out | apply below_alloc | apply pw_below_drewN | apply below_drew1 | refine below_set ?_ (IsS23.ge HI221.out)) | exact HB.out)))); have n4_ := Aside0.mk (IsS23.below (by repeat (first | (with_reducible first | exact HI221.out | apply IsS23.alloc | apply IsS23.drewN | apply IsS23.drew) | exact HI221.out)) hb); have n5_ := Aside0.mk (below_step (by repeat (first | (with_reducible first | exact HB.out | apply below_alloc | apply pw_below_drewN | apply below_drew1 | refine below_set ?_ (IsS23.ge HI221.out)) | exact HB.out)) hb); clear HO_5; clear HO228; clear HO235; clear HI221; clear HB; have HO_5 := n0_; have HO228 := n1_; have HO235 := n2_; have HO239 := n3_; have HI221 := n4_; have HB := n5_; clear n0_ n1_ n2_ n3_ n4_ n5_; (try clear hb); (try clear hb2); (try clear hk); (try clear hi); (try clear ho0); obtain ⟨Ao109, co109, eo109⟩ := Kd.R_slice HO228.out; subst eo109)))
                  go_ret
                  exact ⟨by first | rfl | (simp [errW_none, errW_some] <;> rfl) | (simp [*, errW_none, errW_some] <;> rfl), by repeat (first | (with_reducible first | exact HB.out | apply below_alloc | apply pw_below_drewN | apply below_drew1 | refine below_set ?_ (IsS23.ge HI221.out)) | exact HB.out)⟩
            · rw [if_neg c15] at H
              have c15b0 : (t229 == t237) = false := beq_eq_false_iff_ne.mpr c15
              have c15b1 : (t229 != t237) = true := bne_iff_ne.mpr c15
              obtain rfl := Option.some.inj H
              obtain ⟨ASz110_0, cSz110_0, HGz110, hgz110, HSz110_0⟩ := HI221.out
              have hcz110_0 := cellS23_0 HGz110
              clear HGz110 hgz110
              obtain ⟨Ao111, co111, eo111⟩ := Kd.R_slice HO_5.out
              subst eo111
              go_wp2_with (first | (go_at_call 19; (with_reducible refine (bucket_Sort_int.calls k1 _ _ x5_1 g221 t220 a1 t226 t229 w _ ?side1 ?side2 ?side3 ?side4 ?side5 A12.out).mono ?_); (case side1 => repeat (first | (with_reducible first | exact HI221.out | apply IsS23.alloc | apply IsS23.drewN | apply IsS23.drew) | exact HI221.out)); (case side2 => repeat (first | (with_reducible first | exact HB.out | apply below_alloc | apply pw_below_drewN | apply below_drew1 | refine below_set ?_ (IsS23.ge HI221.out)) | exact HB.out)); (case side3 => repeat (first | exact (Kd.R_reads' HO_5.out).2.2 | (with_reducible refine Kd.C_alloc ?_ _) | (with_reducible refine Kd.C_drewN ?_ _) | (with_reducible refine Kd.C_drew ?_))); (case side4 => exact (Kd.R_reads' HO_5.out).2.1); (case side5 => exact far_slice (IsS23.own_ne HI221.out HO_5.out (by decide))); rintro e w112 ⟨v227, rfl, ho0, hi, hb, hk⟩; have n0_ := Aside0.mk (Kd.R_mono (Kd.R_told (Kd.R_oldK (IsS23.apart (show IsS23 w _ g221 t220 from by repeat (first | (with_reducible first | exact HI221.out | apply IsS23.alloc | apply IsS23.drewN | apply IsS23.drew) | exact HI221.out)) (by (with_reducible repeat (first | apply Kd.R_alloc | apply Kd.R_drewN | apply Kd.R_drew)); exact HO_5.out) (by decide)) hk) (Kd.R_base ho0)) (fun _ h_ => h_.1)); have n1_ := Aside0.mk (Kd.R_lower (Kd.R_new' ho0 (Kd.R_lt (by (with_reducible repeat (first | apply Kd.R_alloc | apply Kd.R_drewN | apply Kd.R_drew)); exact HO_5.out))) (below_size (by repeat (first | (with_reducible first | exact HB.out | apply below_alloc | apply pw_below_drewN | apply below_drew1 | refine below_set ?_ (IsS23.ge HI221.out)) | exact HB.out)))); have n2_ := Aside0.mk (hb); have n3_ := Aside0.mk (hi); clear HO_5; clear HB; clear HI221; have HO_5 := n0_; have HO228 := n1_; have HB := n2_; have HI221 := n3_; clear n0_ n1_ n2_ n3_; (try clear hb); (try clear hb2); (try clear hk); (try clear hi); (try clear ho0)) | ((with_reducible refine gate_dst (N := 38) rfl ?_); (try (refine gate_guard (by rfl) ?_; dsimp only)); refine Kd.R_lit (Kd.int .i64) _ 3 ?hg (N := 38) ?hd (xs := ([] : List Int)) (inner := []) (ok := fun _ => True) (okp := fun _ => True) ?hr ?hp (fun _ hk => hk) trivial (Below.refl _ _) (Nat.le_refl _) (by simp) ?_; (case hd => rfl); (case hg => rfl); (case hr => first | (go_simp; done) | (go_simp; rfl)); (case hp => exact (Reps.none _ _)); intro v231 w113 ho114 hb hg_ hnew_; clear hg_ hnew_; (first | rw [← Ny230.out] at ho114 | (simp only [Int.reduceToNat] at ho114; rw [← Ny230.out] at ho114)); have n0_ := Aside0.mk (Kd.R_elder' (by (with_reducible repeat (first | apply Kd.R_alloc | apply Kd.R_drewN | apply Kd.R_drew)); exact HO_5.out) (Kd.R_base ho114) hb); have n1_ := Aside0.mk (Kd.R_elder' (by (with_reducible repeat (first | apply Kd.R_alloc | apply Kd.R_drewN | apply Kd.R_drew)); exact HO228.out) (Kd.R_base ho114) hb); have n2_ := Aside0.mk (Kd.R_lower (Kd.R_new' (Kd.R_new' ho114 (Kd.R_lt (by (with_reducible repeat (first | apply Kd.R_alloc | apply Kd.R_drewN | apply Kd.R_drew)); exact HO_5.out))) (Kd.R_lt (by (with_reducible repeat (first | apply Kd.R_alloc | apply Kd.R_drewN | apply Kd.R_drew)); exact HO228.out))) (below_size (by repeat (first | (with_reducible first | exact HB.out | apply below_alloc | apply pw_below_drewN | apply below_drew1 | refine below_set ?_ (IsS23.ge HI221.out)) | exact HB.out)))); have n3_ := Aside0.mk (IsS23.below (by repeat (first | (with_reducible first | exact HI221.out | apply IsS23.alloc | apply IsS23.drewN | apply IsS23.drew) | exact HI221.out)) hb); have n4_ := Aside0.mk (below_step (by repeat (first | (with_reducible first | exact HB.out | apply below_alloc | apply pw_below_drewN | apply below_drew1 | refine below_set ?_ (IsS23.ge HI221.out)) | exact HB.out)) hb); clear HO_5; clear HO228; clear HI221; clear HB; have HO_5 := n0_; have HO228 := n1_; have HO232 := n2_; have HI221 := n3_; have HB := n4_; clear n0_ n1_ n2_ n3_ n4_; clear hb ho114; obtain ⟨ASz115_0, cSz115_0, HGz115, hgz115, HSz115_0⟩ := HI221.out; have hcz115_0 := cellS23_0 HGz115; clear HGz115 hgz115) | ((with_reducible refine gate_builtin (b := .append) (xs := #[.tmp 38, .tmp 39]) rfl ?_); (try (refine gate_guard (by rfl) ?_; dsimp only)); at_builtin; refine Kd.R_append_rows (Kd.int .i64) (w0 := w) w.heap.size rfl (.tmp 38) (.tmp 39) 23 3 (.int .i64 0) 8 rfl Try.underlying23 info3 rfl (by decide) (by omega) v231 y230 t220 _ _ _ (fun k_ => some k_ ≠ (.slice Ao111 x5_1.length co111 : Value).ownBlock ∧ some k_ ≠ (v227 : Value).ownBlock) (fun _ => False) rfl rfl ?aO ?aR (fun _ _ h => h) (fun _ h => h.elim) ?aF ?aB ?aS ?aL ?_; (case aR => exact Kd.C_below HSz115_0 (by repeat (first | (with_reducible first | exact HB.out | apply below_alloc | apply pw_below_drewN | apply below_drew1 | refine below_set ?_ (IsS23.ge HI221.out)) | exact HB.out))); (case aB => exact (by repeat (first | (with_reducible first | exact HB.out | apply below_alloc | apply pw_below_drewN | apply below_drew1 | refine below_set ?_ (IsS23.ge HI221.out)) | exact HB.out))); (case aF => exact (fun k_ hk => ⟨Kd.fresh' (Kd.R_lt (by (with_reducible repeat (first | apply Kd.R_alloc | apply Kd.R_drewN | apply Kd.R_drew)); exact HO_5.out)) k_ hk, Kd.fresh' (Kd.R_lt (by (with_reducible repeat (first | apply Kd.R_alloc | apply Kd.R_drewN | apply Kd.R_drew)); exact HO228.out)) k_ hk⟩)); (case aO => exact (by (with_reducible repeat (first | apply Kd.R_alloc | apply Kd.R_drewN | apply Kd.R_drew)); exact Kd.R_mono HO232.out (fun _ hk => ⟨hk.1.2, hk.2⟩))); (case aS => exact (below_size (by repeat (first | (with_reducible first | exact HB.out | apply below_alloc | apply pw_below_drewN | apply below_drew1 | refine below_set ?_ (IsS23.ge HI221.out)) | exact HB.out)))); (case aL => have := LMc13.out; omega); intro v234 w116 ho hb hg hat; rw [← Ny233.out] at ho; have n0_ := Aside0.mk (Kd.R_after (ok := (fun k_ => some k_ ≠ (v227 : Value).ownBlock)) (by (with_reducible repeat (first | apply Kd.R_alloc | apply Kd.R_drewN | apply Kd.R_drew)); exact Kd.R_mono HO_5.out (fun _ hk => ⟨hk.1.2, hk.2⟩)) hg hat); have n1_ := Aside0.mk (IsS23.grown (by repeat (first | (with_reducible first | exact HI221.out | apply IsS23.alloc | apply IsS23.drewN | apply IsS23.drew) | exact HI221.out)) hg (IsS23.own_ne HI221.out HO232.out (by decide))); have n2_ := Aside0.mk (Kd.R_after (ok := (fun k_ => some k_ ≠ (.slice Ao111 x5_1.length co111 : Value).ownBlock)) (by (with_reducible repeat (first | apply Kd.R_alloc | apply Kd.R_drewN | apply Kd.R_drew)); exact Kd.R_mono HO228.out (fun _ hk => ⟨hk.1.2, hk.2⟩)) hg hat); have n3_ := Aside0.mk (hb); have n4_ := Aside0.mk (ho); clear HO_5; clear HI221; clear HO228; clear HB; clear HO232; have HO_5 := n0_; have HI221 := n1_; have HO228 := n2_; have HB := n3_; have HO235 := n4_; clear n0_ n1_ n2_ n3_ n4_; clear ho hb hg hat; obtain ⟨Ao117, co117, eo117⟩ := Kd.R_slice HO235.out; subst eo117) | (go_at_call 17; (with_reducible refine (bucket_Ranks.calls k1 _ _ y233 a1 t236 t237 _ ?side1 ?side2 A14.out).mono ?_); (case side1 => repeat (first | exact (Kd.R_reads' HO235.out).2.2 | (with_reducible refine Kd.C_alloc ?_ _) | (with_reducible refine Kd.C_drewN ?_ _) | (with_reducible refine Kd.C_drew ?_))); (case side2 => exact (Kd.R_reads' HO235.out).2.1); rintro e w118 ⟨v238, rfl, ho0, hb⟩; have n0_ := Aside0.mk (Kd.R_elder' (by (with_reducible repeat (first | apply Kd.R_alloc | apply Kd.R_drewN | apply Kd.R_drew)); exact HO_5.out) (Kd.R_base ho0) hb); have n1_ := Aside0.mk (Kd.R_elder' (by (with_reducible repeat (first | apply Kd.R_alloc | apply Kd.R_drewN | apply Kd.R_drew)); exact HO228.out) (Kd.R_base ho0) hb); have n2_ := Aside0.mk (Kd.R_elder' (by (with_reducible repeat (first | apply Kd.R_alloc | apply Kd.R_drewN | apply Kd.R_drew)); exact HO235.out) (Kd.R_base ho0) hb); have n3_ := Aside0.mk (Kd.R_lower (Kd.R_new' (Kd.R_new' (Kd.R_new' ho0 (Kd.R_lt (by (with_reducible repeat (first | apply Kd.R_alloc | apply Kd.R_drewN | apply Kd.R_drew)); exact HO_5.out))) (Kd.R_lt (by (with_reducible repeat (first | apply Kd.R_alloc | apply Kd.R_drewN | apply Kd.R_drew)); exact HO228.out))) (Kd.R_lt (by (with_reducible repeat (first | apply Kd.R_alloc | apply Kd.R_drewN | apply Kd.R_drew)); exact HO235.out))) (below_size (by repeat (first | (with_reducible first | exact HB.out | apply below_alloc | apply pw_below_drewN | apply below_drew1 | refine below_set ?_ (IsS23.ge HI221.out)) | exact HB.out)))); have n4_ := Aside0.mk (IsS23.below (by repeat (first | (with_reducible first | exact HI221.out | apply IsS23.alloc | apply IsS23.drewN | apply IsS23.drew) | exact HI221.out)) hb); have n5_ := Aside0.mk (below_step (by repeat (first | (with_reducible first | exact HB.out | apply below_alloc | apply pw_below_drewN | apply below_drew1 | refine below_set ?_ (IsS23.ge HI221.out)) | exact HB.out)) hb); clear HO_5; clear HO228; clear HO235; clear HI221; clear HB; have HO_5 := n0_; have HO228 := n1_; have HO235 := n2_; have HO239 := n3_; have HI221 := n4_; have HB := n5_; clear n0_ n1_ n2_ n3_ n4_ n5_; (try clear hb); (try clear hb2); (try clear hk); (try clear hi); (try clear ho0)))
              repeat (go_quiet (first | (go_at_call 19; (with_reducible refine (bucket_Sort_int.calls k1 _ _ x5_1 g221 t220 a1 t226 t229 w _ ?side1 ?side2 ?side3 ?side4 ?side5 A12.out).mono ?_); (case side1 => repeat (first | (with_reducible first | exact HI221.out | apply IsS23.alloc | apply IsS23.drewN | apply IsS23.drew) | exact HI221.out)); (case side2 => repeat (first | (with_reducible first | exact HB.out | apply below_alloc | apply pw_below_drewN | apply below_drew1 | refine below_set ?_ (IsS23.ge HI221.out)) | exact HB.out)); (case side3 => repeat (first | exact (Kd.R_reads' HO_5.out).2.2 | (with_reducible refine Kd.C_alloc ?_ _) | (with_reducible refine Kd.C_drewN ?_ _) | (with_reducible refine Kd.C_drew ?_))); (case side4 => exact (Kd.R_reads' HO_5.out).2.1); (case side5 => exact far_slice (IsS23.own_ne HI221.out HO_5.out (by decide))); rintro e w112 ⟨v227, rfl, ho0, hi, hb, hk⟩; have n0_ := Aside0.mk (Kd.R_mono (Kd.R_told (Kd.R_oldK (IsS23.apart (show IsS23 w _ g221 t220 from by repeat (first | (with_reducible first | exact HI221.out | apply IsS23.alloc | apply IsS23.drewN | apply IsS23.drew) | exact HI221.out)) (by (with_reducible repeat (first | apply Kd.R_alloc | apply Kd.R_drewN | apply Kd.R_drew)); exact HO_5.out) (by decide)) hk) (Kd.R_base ho0)) (fun _ h_ => h_.1)); have n1_ := Aside0.mk (Kd.R_lower (Kd.R_new' ho0 (Kd.R_lt (by (with_reducible repeat (first | apply Kd.R_alloc | apply Kd.R_drewN | apply Kd.R_drew)); exact HO_5.out))) (below_size (by repeat (first | (with_reducible first | exact HB.out | apply below_alloc | apply pw_below_drewN | apply below_drew1 | refine below_set ?_ (IsS23.ge HI221.out)) | exact HB.out)))); have n2_ := Aside0.mk (hb); have n3_ := Aside0.mk (hi); clear HO_5; clear HB; clear HI221; have HO_5 := n0_; have HO228 := n1_; have HB := n2_; have HI221 := n3_; clear n0_ n1_ n2_ n3_; (try clear hb); (try clear hb2); (try clear hk); (try clear hi); (try clear ho0)) | ((with_reducible refine gate_dst (N := 38) rfl ?_); (try (refine gate_guard (by rfl) ?_; dsimp only)); refine Kd.R_lit (Kd.int .i64) _ 3 ?hg (N := 38) ?hd (xs := ([] : List Int)) (inner := []) (ok := fun _ => True) (okp := fun _ => True) ?hr ?hp (fun _ hk => hk) trivial (Below.refl _ _) (Nat.le_refl _) (by simp) ?_; (case hd => rfl); (case hg => rfl); (case hr => first | (go_simp; done) | (go_simp; rfl)); (case hp => exact (Reps.none _ _)); intro v231 w113 ho114 hb hg_ hnew_; clear hg_ hnew_; (first | rw [← Ny230.out] at ho114 | (simp only [Int.reduceToNat] at ho114; rw [← Ny230.out] at ho114)); have n0_ := Aside0.mk (Kd.R_elder' (by (with_reducible repeat (first | apply Kd.R_alloc | apply Kd.R_drewN | apply Kd.R_drew)); exact HO_5.out) (Kd.R_base ho114) hb); have n1_ := Aside0.mk (Kd.R_elder' (by (with_reducible repeat (first | apply Kd.R_alloc | apply Kd.R_drewN | apply Kd.R_drew)); exact HO228.out) (Kd.R_base ho114) hb); have n2_ := Aside0.mk (Kd.R_lower (Kd.R_new' (Kd.R_new' ho114 (Kd.R_lt (by (with_reducible repeat (first | apply Kd.R_alloc | apply Kd.R_drewN | apply Kd.R_drew)); exact HO_5.out))) (Kd.R_lt (by (with_reducible repeat (first | apply Kd.R_alloc | apply Kd.R_drewN | apply Kd.R_drew)); exact HO228.out))) (below_size (by repeat (first | (with_reducible first | exact HB.out | apply below_alloc | apply pw_below_drewN | apply below_drew1 | refine below_set ?_ (IsS23.ge HI221.out)) | exact HB.out)))); have n3_ := Aside0.mk (IsS23.below (by repeat (first | (with_reducible first | exact HI221.out | apply IsS23.alloc | apply IsS23.drewN | apply IsS23.drew) | exact HI221.out)) hb); have n4_ := Aside0.mk (below_step (by repeat (first | (with_reducible first | exact HB.out | apply below_alloc | apply pw_below_drewN | apply below_drew1 | refine below_set ?_ (IsS23.ge HI221.out)) | exact HB.out)) hb); clear HO_5; clear HO228; clear HI221; clear HB; have HO_5 := n0_; have HO228 := n1_; have HO232 := n2_; have HI221 := n3_; have HB := n4_; clear n0_ n1_ n2_ n3_ n4_; clear hb ho114; obtain ⟨ASz115_0, cSz115_0, HGz115, hgz115, HSz115_0⟩ := HI221.out; have hcz115_0 := cellS23_0 HGz115; clear HGz115 hgz115) | ((with_reducible refine gate_builtin (b := .append) (xs := #[.tmp 38, .tmp 39]) rfl ?_); (try (refine gate_guard (by rfl) ?_; dsimp only)); at_builtin; refine Kd.R_append_rows (Kd.int .i64) (w0 := w) w.heap.size rfl (.tmp 38) (.tmp 39) 23 3 (.int .i64 0) 8 rfl Try.underlying23 info3 rfl (by decide) (by omega) v231 y230 t220 _ _ _ (fun k_ => some k_ ≠ (.slice Ao111 x5_1.length co111 : Value).ownBlock ∧ some k_ ≠ (v227 : Value).ownBlock) (fun _ => False) rfl rfl ?aO ?aR (fun _ _ h => h) (fun _ h => h.elim) ?aF ?aB ?aS ?aL ?_; (case aR => exact Kd.C_below HSz115_0 (by repeat (first | (with_reducible first | exact HB.out | apply below_alloc | apply pw_below_drewN | apply below_drew1 | refine below_set ?_ (IsS23.ge HI221.out)) | exact HB.out))); (case aB => exact (by repeat (first | (with_reducible first | exact HB.out | apply below_alloc | apply pw_below_drewN | apply below_drew1 | refine below_set ?_ (IsS23.ge HI221.out)) | exact HB.out))); (case aF => exact (fun k_ hk => ⟨Kd.fresh' (Kd.R_lt (by (with_reducible repeat (first | apply Kd.R_alloc | apply Kd.R_drewN | apply Kd.R_drew)); exact HO_5.out)) k_ hk, Kd.fresh' (Kd.R_lt (by (with_reducible repeat (first | apply Kd.R_alloc | apply Kd.R_drewN | apply Kd.R_drew)); exact HO228.out)) k_ hk⟩)); (case aO => exact (by (with_reducible repeat (first | apply Kd.R_alloc | apply Kd.R_drewN | apply Kd.R_drew)); exact Kd.R_mono HO232.out (fun _ hk => ⟨hk.1.2, hk.2⟩))); (case aS => exact (below_size (by repeat (first | (with_reducible first | exact HB.out | apply below_alloc | apply pw_below_drewN | apply below_drew1 | refine below_set ?_ (IsS23.ge HI221.out)) | exact HB.out)))); (case aL => have := LMc13.out; omega); intro v234 w116 ho hb hg hat; rw [← Ny233.out] at ho; have n0_ := Aside0.mk (Kd.R_after (ok := (fun k_ => some k_ ≠ (v227 : Value).ownBlock)) (by (with_reducible repeat (first | apply Kd.R_alloc | apply Kd.R_drewN | apply Kd.R_drew)); exact Kd.R_mono HO_5.out (fun _ hk => ⟨hk.1.2, hk.2⟩)) hg hat); have n1_ := Aside0.mk (IsS23.grown (by repeat (first | (with_reducible first | exact HI221.out | apply IsS23.alloc | apply IsS23.drewN | apply IsS23.drew) | exact HI221.out)) hg (IsS23.own_ne HI221.out HO232.out (by decide))); have n2_ := Aside0.mk (Kd.R_after (ok := (fun k_ => some k_ ≠ (.slice Ao111 x5_1.length co111 : Value).ownBlock)) (by (with_reducible repeat (first | apply Kd.R_alloc | apply Kd.R_drewN | apply Kd.R_drew)); exact Kd.R_mono HO228.out (fun _ hk => ⟨hk.1.2, hk.2⟩)) hg hat); have n3_ := Aside0.mk (hb); have n4_ := Aside0.mk (ho); clear HO_5; clear HI221; clear HO228; clear HB; clear HO232; have HO_5 := n0_; have HI221 := n1_; have HO228 := n2_; have HB := n3_; have HO235 := n4_; clear n0_ n1_ n2_ n3_ n4_; clear ho hb hg hat; obtain ⟨Ao117, co117, eo117⟩ := Kd.R_slice HO235.out; subst eo117) | (go_at_call 17; (with_reducible refine (bucket_Ranks.calls k1 _ _ y233 a1 t236 t237 _ ?side1 ?side2 A14.out).mono ?_); (case side1 => repeat (first | exact (Kd.R_reads' HO235.out).2.2 | (with_reducible refine Kd.C_alloc ?_ _) | (with_reducible refine Kd.C_drewN ?_ _) | (with_reducible refine Kd.C_drew ?_))); (case side2 => exact (Kd.R_reads' HO235.out).2.1); rintro e w118 ⟨v238, rfl, ho0, hb⟩; have n0_ := Aside0.mk (Kd.R_elder' (by (with_reducible repeat (first | apply Kd.R_alloc | apply Kd.R_drewN | apply Kd.R_drew)); exact HO_5.out) (Kd.R_base ho0) hb); have n1_ := Aside0.mk (Kd.R_elder' (by (with_reducible repeat (first | apply Kd.R_alloc | apply Kd.R_drewN | apply Kd.R_drew)); exact HO228.out) (Kd.R_base ho0) hb); have n2_ := Aside0.mk (Kd.R_elder' (by (with_reducible repeat (first | apply Kd.R_alloc | apply Kd.R_drewN | apply Kd.R_drew)); exact HO235.out) (Kd.R_base ho0) hb); have n3_ := Aside0.mk (Kd.R_lower (Kd.R_new' (Kd.R_new' (Kd.R_new' ho0 (Kd.R_lt (by (with_reducible repeat (first | apply Kd.R_alloc | apply Kd.R_drewN | apply Kd.R_drew)); exact HO_5.out))) (Kd.R_lt (by (with_reducible repeat (first | apply Kd.R_alloc | apply Kd.R_drewN | apply Kd.R_drew)); exact HO228.out))) (Kd.R_lt (by (with_reducible repeat (first | apply Kd.R_alloc | apply Kd.R_drewN | apply Kd.R_drew)); exact HO235.out))) (below_size (by repeat (first | (with_reducible first | exact HB.out | apply below_alloc | apply pw_below_drewN | apply below_drew1 | refine below_set ?_ (IsS23.ge HI221.out)) | exact HB.out)))); have n4_ := Aside0.mk (IsS23.below (by repeat (first | (with_reducible first | exact HI221.out | apply IsS23.alloc | apply IsS23.drewN | apply IsS23.drew) | exact HI221.out)) hb); have n5_ := Aside0.mk (below_step (by repeat (first | (with_reducible first | exact HB.out | apply below_alloc | apply pw_below_drewN | apply below_drew1 | refine below_set ?_ (IsS23.ge HI221.out)) | exact HB.out)) hb); clear HO_5; clear HO228; clear HO235; clear HI221; clear HB; have HO_5 := n0_; have HO228 := n1_; have HO235 := n2_; have HO239 := n3_; have HI221 := n4_; have HB := n5_; clear n0_ n1_ n2_ n3_ n4_ n5_; (try clear hb); (try clear hb2); (try clear hk); (try clear hi); (try clear ho0))); try go_wp2_with (first | (go_at_call 19; (with_reducible refine (bucket_Sort_int.calls k1 _ _ x5_1 g221 t220 a1 t226 t229 w _ ?side1 ?side2 ?side3 ?side4 ?side5 A12.out).mono ?_); (case side1 => repeat (first | (with_reducible first | exact HI221.out | apply IsS23.alloc | apply IsS23.drewN | apply IsS23.drew) | exact HI221.out)); (case side2 => repeat (first | (with_reducible first | exact HB.out | apply below_alloc | apply pw_below_drewN | apply below_drew1 | refine below_set ?_ (IsS23.ge HI221.out)) | exact HB.out)); (case side3 => repeat (first | exact (Kd.R_reads' HO_5.out).2.2 | (with_reducible refine Kd.C_alloc ?_ _) | (with_reducible refine Kd.C_drewN ?_ _) | (with_reducible refine Kd.C_drew ?_))); (case side4 => exact (Kd.R_reads' HO_5.out).2.1); (case side5 => exact far_slice (IsS23.own_ne HI221.out HO_5.out (by decide))); rintro e w112 ⟨v227, rfl, ho0, hi, hb, hk⟩; have n0_ := Aside0.mk (Kd.R_mono (Kd.R_told (Kd.R_oldK (IsS23.apart (show IsS23 w _ g221 t220 from by repeat (first | (with_reducible first | exact HI221.out | apply IsS23.alloc | apply IsS23.drewN | apply IsS23.drew) | exact HI221.out)) (by (with_reducible repeat (first | apply Kd.R_alloc | apply Kd.R_drewN | apply Kd.R_drew)); exact HO_5.out) (by decide)) hk) (Kd.R_base ho0)) (fun _ h_ => h_.1)); have n1_ := Aside0.mk (Kd.R_lower (Kd.R_new' ho0 (Kd.R_lt (by (with_reducible repeat (first | apply Kd.R_alloc | apply Kd.R_drewN | apply Kd.R_drew)); exact HO_5.out))) (below_size (by repeat (first | (with_reducible first | exact HB.out | apply below_alloc | apply pw_below_drewN | apply below_drew1 | refine below_set ?_ (IsS23.ge HI221.out)) | exact HB.out)))); have n2_ := Aside0.mk (hb); have n3_ := Aside0.mk (hi); clear HO_5; clear HB; clear HI221; have HO_5 := n0_; have HO228 := n1_; have HB := n2_; have HI221 := n3_; clear n0_ n1_ n2_ n3_; (try clear hb); (try clear hb2); (try clear hk); (try clear hi); (try clear ho0)) | ((with_reducible refine gate_dst (N := 38) rfl ?_); (try (refine gate_guard (by rfl) ?_; dsimp only)); refine Kd.R_lit (Kd.int .i64) _ 3 ?hg (N := 38) ?hd (xs := ([] : List Int)) (inner := []) (ok := fun _ => True) (okp := fun _ => True) ?hr ?hp (fun _ hk => hk) trivial (Below.refl _ _) (Nat.le_refl _) (by simp) ?_; (case hd => rfl); (case hg => rfl); (case hr => first | (go_simp; done) | (go_simp; rfl)); (case hp => exact (Reps.none _ _)); intro v231 w113 ho114 hb hg_ hnew_; clear hg_ hnew_; (first | rw [← Ny230.out] at ho114 | (simp only [Int.reduceToNat] at ho114; rw [← Ny230.out] at ho114)); have n0_ := Aside0.mk (Kd.R_elder' (by (with_reducible repeat (first | apply Kd.R_alloc | apply Kd.R_drewN | apply Kd.R_drew)); exact HO_5.out) (Kd.R_base ho114) hb); have n1_ := Aside0.mk (Kd.R_elder' (by (with_reducible repeat (first | apply Kd.R_alloc | apply Kd.R_drewN | apply Kd.R_drew)); exact HO228.out) (Kd.R_base ho114) hb); have n2_ := Aside0.mk (Kd.R_lower (Kd.R_new' (Kd.R_new' ho114 (Kd.R_lt (by (with_reducible repeat (first | apply Kd.R_alloc | apply Kd.R_drewN | apply Kd.R_drew)); exact HO_5.out))) (Kd.R_lt (by (with_reducible repeat (first | apply Kd.R_alloc | apply Kd.R_drewN | apply Kd.R_drew)); exact HO228.out))) (below_size (by repeat (first | (with_reducible first | exact HB.out | apply below_alloc | apply pw_below_drewN | apply below_drew1 | refine below_set ?_ (IsS23.ge HI221.out)) | exact HB.out)))); have n3_ := Aside0.mk (IsS23.below (by repeat (first | (with_reducible first | exact HI221.out | apply IsS23.alloc | apply IsS23.drewN | apply IsS23.drew) | exact HI221.out)) hb); have n4_ := Aside0.mk (below_step (by repeat (first | (with_reducible first | exact HB.out | apply below_alloc | apply pw_below_drewN | apply below_drew1 | refine below_set ?_ (IsS23.ge HI221.out)) | exact HB.out)) hb); clear HO_5; clear HO228; clear HI221; clear HB; have HO_5 := n0_; have HO228 := n1_; have HO232 := n2_; have HI221 := n3_; have HB := n4_; clear n0_ n1_ n2_ n3_ n4_; clear hb ho114; obtain ⟨ASz115_0, cSz115_0, HGz115, hgz115, HSz115_0⟩ := HI221.out; have hcz115_0 := cellS23_0 HGz115; clear HGz115 hgz115) | ((with_reducible refine gate_builtin (b := .append) (xs := #[.tmp 38, .tmp 39]) rfl ?_); (try (refine gate_guard (by rfl) ?_; dsimp only)); at_builtin; refine Kd.R_append_rows (Kd.int .i64) (w0 := w) w.heap.size rfl (.tmp 38) (.tmp 39) 23 3 (.int .i64 0) 8 rfl Try.underlying23 info3 rfl (by decide) (by omega) v231 y230 t220 _ _ _ (fun k_ => some k_ ≠ (.slice Ao111 x5_1.length co111 : Value).ownBlock ∧ some k_ ≠ (v227 : Value).ownBlock) (fun _ => False) rfl rfl ?aO ?aR (fun _ _ h => h) (fun _ h => h.elim) ?aF ?aB ?aS ?aL ?_; (case aR => exact Kd.C_below HSz115_0 (by repeat (first | (with_reducible first | exact HB.out | apply below_alloc | apply pw_below_drewN | apply below_drew1 | refine below_set ?_ (IsS23.ge HI221.out)) | exact HB.out))); (case aB => exact (by repeat (first | (with_reducible first | exact HB.out | apply below_alloc | apply pw_below_drewN | apply below_drew1 | refine below_set ?_ (IsS23.ge HI221.out)) | exact HB.out))); (case aF => exact (fun k_ hk => ⟨Kd.fresh' (Kd.R_lt (by (with_reducible repeat (first | apply Kd.R_alloc | apply Kd.R_drewN | apply Kd.R_drew)); exact HO_5.out)) k_ hk, Kd.fresh' (Kd.R_lt (by (with_reducible repeat (first | apply Kd.R_alloc | apply Kd.R_drewN | apply Kd.R_drew)); exact HO228.out)) k_ hk⟩)); (case aO => exact (by (with_reducible repeat (first | apply Kd.R_alloc | apply Kd.R_drewN | apply Kd.R_drew)); exact Kd.R_mono HO232.out (fun _ hk => ⟨hk.1.2, hk.2⟩))); (case aS => exact (below_size (by repeat (first | (with_reducible first | exact HB.out | apply below_alloc | apply pw_below_drewN | apply below_drew1 | refine below_set ?_ (IsS23.ge HI221.out)) | exact HB.out)))); (case aL => have := LMc13.out; omega); intro v234 w116 ho hb hg hat; rw [← Ny233.out] at ho; have n0_ := Aside0.mk (Kd.R_after (ok := (fun k_ => some k_ ≠ (v227 : Value).ownBlock)) (by (with_reducible repeat (first | apply Kd.R_alloc | apply Kd.R_drewN | apply Kd.R_drew)); exact Kd.R_mono HO_5.out (fun _ hk => ⟨hk.1.2, hk.2⟩)) hg hat); have n1_ := Aside0.mk (IsS23.grown (by repeat (first | (with_reducible first | exact HI221.out | apply IsS23.alloc | apply IsS23.drewN | apply IsS23.drew) | exact HI221.out)) hg (IsS23.own_ne HI221.out HO232.out (by decide))); have n2_ := Aside0.mk (Kd.R_after (ok := (fun k_ => some k_ ≠ (.slice Ao111 x5_1.length co111 : Value).ownBlock)) (by (with_reducible repeat (first | apply Kd.R_alloc | apply Kd.R_drewN | apply Kd.R_drew)); exact Kd.R_mono HO228.out (fun _ hk => ⟨hk.1.2, hk.2⟩)) hg hat); have n3_ := Aside0.mk (hb); have n4_ := Aside0.mk (ho); clear HO_5; clear HI221; clear HO228; clear HB; clear HO232; have HO_5 := n0_; have HI221 := n1_; have HO228 := n2_; have HB := n3_; have HO235 := n4_; clear n0_ n1_ n2_ n3_ n4_; clear ho hb hg hat; obtain ⟨Ao117, co117, eo117⟩ := Kd.R_slice HO235.out; subst eo117) | (go_at_call 17; (with_reducible refine (bucket_Ranks.calls k1 _ _ y233 a1 t236 t237 _ ?side1 ?side2 A14.out).mono ?_); (case side1 => repeat (first | exact (Kd.R_reads' HO235.out).2.2 | (with_reducible refine Kd.C_alloc ?_ _) | (with_reducible refine Kd.C_drewN ?_ _) | (with_reducible refine Kd.C_drew ?_))); (case side2 => exact (Kd.R_reads' HO235.out).2.1); rintro e w118 ⟨v238, rfl, ho0, hb⟩; have n0_ := Aside0.mk (Kd.R_elder' (by (with_reducible repeat (first | apply Kd.R_alloc | apply Kd.R_drewN | apply Kd.R_drew)); exact HO_5.out) (Kd.R_base ho0) hb); have n1_ := Aside0.mk (Kd.R_elder' (by (with_reducible repeat (first | apply Kd.R_alloc | apply Kd.R_drewN | apply Kd.R_drew)); exact HO228.out) (Kd.R_base ho0) hb); have n2_ := Aside0.mk (Kd.R_elder' (by (with_reducible repeat (first | apply Kd.R_alloc | apply Kd.R_drewN | apply Kd.R_drew)); exact HO235.out) (Kd.R_base ho0) hb); have n3_ := Aside0.mk (Kd.R_lower (Kd.R_new' (Kd.R_new' (Kd.R_new' ho0 (Kd.R_lt (by (with_reducible repeat (first | apply Kd.R_alloc | apply Kd.R_drewN | apply Kd.R_drew)); exact HO_5.out))) (Kd.R_lt (by (with_reducible repeat (first | apply Kd.R_alloc | apply Kd.R_drewN | apply Kd.R_drew)); exact HO228.out))) (Kd.R_lt (by (with_reducible repeat (first | apply Kd.R_alloc | apply Kd.R_drewN | apply Kd.R_drew)); exact HO235.out))) (below_size (by repeat (first | (with_reducible first | exact HB.out | apply below_alloc | apply pw_below_drewN | apply below_drew1 | refine below_set ?_ (IsS23.ge HI221.out)) | exact HB.out)))); have n4_ := Aside0.mk (IsS23.below (by repeat (first | (with_reducible first | exact HI221.out | apply IsS23.alloc | apply IsS23.drewN | apply IsS23.drew) | exact HI221.out)) hb); have n5_ := Aside0.mk (below_step (by repeat (first | (with_reducible first | exact HB.out | apply below_alloc | apply pw_below_drewN | apply below_drew1 | refine below_set ?_ (IsS23.ge HI221.out)) | exact HB.out)) hb); clear HO_5; clear HO228; clear HO235; clear HI221; clear HB; have HO_5 := n0_; have HO228 := n1_; have HO235 := n2_; have HO239 := n3_; have HI221 := n4_; have HB := n5_; clear n0_ n1_ n2_ n3_ n4_ n5_; (try clear hb); (try clear hb2); (try clear hk); (try clear hi); (try clear ho0))))
              go_ret
              exact ⟨by first | rfl | (simp [errW_none, errW_some] <;> rfl) | (simp [*, errW_none, errW_some] <;> rfl), by repeat (first | (with_reducible first | exact HB.out | apply below_alloc | apply pw_below_drewN | apply below_drew1 | refine below_set ?_ (IsS23.ge HI221.out)) | exact HB.out)⟩
          · rw [if_neg c13] at H
            exact absurd H (by simp)
  · replace c5 := Bool.eq_false_iff.mpr c5
    subst c5
    have H1 : (some false) = some r := by rw [if_neg (show ¬ (false = true) by decide)] at H; exact H
    clear H
    have H := H1
    clear H1
    obtain rfl := Option.some.inj H
    have hmf_ : ∀ (fn : Fn) (first cap : Array Value) (w : World), (Instr.makeFunc fn first cap).run Try.prog w = .ok (.func fn first cap) w := fun _ _ _ _ => rfl
    go_enter Try.func9, Try.ntmps9
    go_wp2_with (first | ((with_reducible refine gate_dst (N := 2) rfl ?_); refine box_event ?hg (N := 2) ?hd (cs := #[.slice A0 l0.length c0]) (t := 23) ?hr ?_; (case hd => rfl); (case hg => rfl); (case hr => first | (go_simp; done) | (go_simp; rfl)); intro g221 hg_ w119 hbox_ hb2; have hi : IsS23 w w119 g221 t220 := (by have hq_ := Option.some.inj (show some _ = some t220 from A3.out); rw [← hq_]; exact ⟨A0, c0, hbox_, (by rw [hg_]; exact Nat.le_refl _), HR0.out⟩); have hb : Below w.heap.size w w119 := hb2; clear hbox_ hg_; have n0_ := Aside0.mk (hb); have n1_ := Aside0.mk (hi); clear HB; have HB := n0_; have HI221 := n1_; clear n0_ n1_; (try clear hb); (try clear hb2); (try clear hk); (try clear hi)) | (go_at_call 15; (with_reducible refine (tangramlaw06_wakes.calls k  false _ A4.out).mono ?_); rintro e w120 ⟨rfl, hb⟩; have n0_ := Aside0.mk (IsS23.below (by repeat (first | (with_reducible first | exact HI221.out | apply IsS23.alloc | apply IsS23.drewN | apply IsS23.drew) | exact HI221.out)) hb); have n1_ := Aside0.mk (below_step (by repeat (first | (with_reducible first | exact HB.out | apply below_alloc | apply pw_below_drewN | apply below_drew1 | refine below_set ?_ (IsS23.ge HI221.out)) | exact HB.out)) hb); clear HI221; clear HB; have HI221 := n0_; have HB := n1_; clear n0_ n1_; (try clear hb); (try clear hb2); (try clear hk); (try clear hi)))
    repeat (go_quiet (first | ((with_reducible refine gate_dst (N := 2) rfl ?_); refine box_event ?hg (N := 2) ?hd (cs := #[.slice A0 l0.length c0]) (t := 23) ?hr ?_; (case hd => rfl); (case hg => rfl); (case hr => first | (go_simp; done) | (go_simp; rfl)); intro g221 hg_ w119 hbox_ hb2; have hi : IsS23 w w119 g221 t220 := (by have hq_ := Option.some.inj (show some _ = some t220 from A3.out); rw [← hq_]; exact ⟨A0, c0, hbox_, (by rw [hg_]; exact Nat.le_refl _), HR0.out⟩); have hb : Below w.heap.size w w119 := hb2; clear hbox_ hg_; have n0_ := Aside0.mk (hb); have n1_ := Aside0.mk (hi); clear HB; have HB := n0_; have HI221 := n1_; clear n0_ n1_; (try clear hb); (try clear hb2); (try clear hk); (try clear hi)) | (go_at_call 15; (with_reducible refine (tangramlaw06_wakes.calls k  false _ A4.out).mono ?_); rintro e w120 ⟨rfl, hb⟩; have n0_ := Aside0.mk (IsS23.below (by repeat (first | (with_reducible first | exact HI221.out | apply IsS23.alloc | apply IsS23.drewN | apply IsS23.drew) | exact HI221.out)) hb); have n1_ := Aside0.mk (below_step (by repeat (first | (with_reducible first | exact HB.out | apply below_alloc | apply pw_below_drewN | apply below_drew1 | refine below_set ?_ (IsS23.ge HI221.out)) | exact HB.out)) hb); clear HI221; clear HB; have HI221 := n0_; have HB := n1_; clear n0_ n1_; (try clear hb); (try clear hb2); (try clear hk); (try clear hi))); try go_wp2_with (first | ((with_reducible refine gate_dst (N := 2) rfl ?_); refine box_event ?hg (N := 2) ?hd (cs := #[.slice A0 l0.length c0]) (t := 23) ?hr ?_; (case hd => rfl); (case hg => rfl); (case hr => first | (go_simp; done) | (go_simp; rfl)); intro g221 hg_ w119 hbox_ hb2; have hi : IsS23 w w119 g221 t220 := (by have hq_ := Option.some.inj (show some _ = some t220 from A3.out); rw [← hq_]; exact ⟨A0, c0, hbox_, (by rw [hg_]; exact Nat.le_refl _), HR0.out⟩); have hb : Below w.heap.size w w119 := hb2; clear hbox_ hg_; have n0_ := Aside0.mk (hb); have n1_ := Aside0.mk (hi); clear HB; have HB := n0_; have HI221 := n1_; clear n0_ n1_; (try clear hb); (try clear hb2); (try clear hk); (try clear hi)) | (go_at_call 15; (with_reducible refine (tangramlaw06_wakes.calls k  false _ A4.out).mono ?_); rintro e w120 ⟨rfl, hb⟩; have n0_ := Aside0.mk (IsS23.below (by repeat (first | (with_reducible first | exact HI221.out | apply IsS23.alloc | apply IsS23.drewN | apply IsS23.drew) | exact HI221.out)) hb); have n1_ := Aside0.mk (below_step (by repeat (first | (with_reducible first | exact HB.out | apply below_alloc | apply pw_below_drewN | apply below_drew1 | refine below_set ?_ (IsS23.ge HI221.out)) | exact HB.out)) hb); clear HI221; clear HB; have HI221 := n0_; have HB := n1_; clear n0_ n1_; (try clear hb); (try clear hb2); (try clear hk); (try clear hi))))
    go_ret
    exact ⟨by first | rfl | (simp [errW_none, errW_some] <;> rfl) | (simp [*, errW_none, errW_some] <;> rfl), by repeat (first | (with_reducible first | exact HB.out | apply below_alloc | apply pw_below_drewN | apply below_drew1 | refine below_set ?_ (IsS23.ge HI221.out)) | exact HB.out)⟩

/-- THE ONE PURE STATEMENT of tangramlaw06_BucketStable: yours. -/
def tangramlaw06_BucketStable.Pure : Prop := ∀ (l0 : List Int) (a1 : Int), l0.length ≤ maxLen → l0.length * 8 ≤ 140737488351232 → (∀ x ∈ l0, (Lit.int .i64 x).wf = true) → (Lit.int .i64 a1).wf = true → ∃ k, tangramlaw06_BucketStable.f k l0 a1 = some true
theorem tangramlaw06_BucketStable.walk (P : tangramlaw06_BucketStable.Pure) (a0 : Option Addr) (len0 cap0 : Nat) (z0 : List Int) (a1 : Int) (w : World) (w0 : (a0 = none ∧ len0 = 0 ∧ cap0 = 0 ∧ z0 = []) ∨ ∃ x, a0 = some x ∧ len0 ≤ cap0 ∧ cap0 ≤ maxLen ∧ z0.length = cap0 ∧ (∀ i, i < z0.length → w.cell? (x.add i) = some (.int .i64 (z0.getD i 0))) ∧ ∀ n ∈ z0, (Lit.int .i64 n).wf = true) (y0 : len0 * 8 ≤ 140737488351232) (w1 : (Lit.int .i64 a1).wf = true) :
    Calls Try.prog 9 #[.slice a0 len0 cap0, .int .i64 a1] w fun e w' => e = .returned (.bool true) ∧ Below w.heap.size w w' := by
  obtain ⟨l0, rfl, hr0, hm0, hw0, hc0⟩ := ReadsInt.ofRowC w0
  obtain ⟨k, h⟩ := P l0 a1 hm0 y0 hw0 w1
  refine (tangramlaw06_BucketStable.calls k _ _ l0 a1 true w (Kd.C_of_reads (d := (0 : Int)) (h1 := fun _ => rfl) hr0) hc0 h).mono ?_
  rintro e w' ⟨rfl, hd⟩
  exact ⟨rfl, hd⟩

end Go.Proofs.Ytndmdapgeegodaa.PBucketS
