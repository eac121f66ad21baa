-- PRINTED by print.py (a twelfth state) out of the translation. Not trusted: Lean checks it.
import Derived.Test.YthejafdcdcchbaaDoorZPSimAx0
import Derived.Test.YthejafdcdcchbaaDoorZPSimAx6
import Derived.Test.YthejafdcdcchbaaDoorZPSimAx8
import Derived.Test.YthejafdcdcchbaaDoorZPSimAx12
import Derived.Test.YthejafdcdcchbaaDoorZPSimAx16
import Derived.Test.YthejafdcdcchbaaDoorZPSimAx17
import Derived.Test.YthejafdcdcchbaaDoorZPSimAx27
import Derived.Test.YthejafdcdcchbaaDoorZPSimAx35
import Derived.Test.YthejafdcdcchbaaDoorZPSimAx38
import Derived.Test.YthejafdcdcchbaaDoorZPSimAx41
namespace Go.Proofs.YthejafdcdcchbaaDoor.PSimA
open Go.RowKit Go.Proofs.YthejafdcdcchbaaDoorW.PrintWords Go.Proofs.YthejafdcdcchbaaDoorW.PrintLast Go.Proofs.YthejafdcdcchbaaDoorW.PrintMore
open Go.Proofs.YthejafdcdcchbaaDoorX
attribute [local go_sem] max2_int min2_int max_two min_two max_three min_three max_four min_four   -- for this text's walks alone
set_option linter.unusedVariables false
set_option linter.unusedSimpArgs false

attribute [local go_sem high] eqA60
/-! ### tangramlaw03_SimpleBack: function 10 -/
mutual
def tangramlaw03_SimpleBack.l0 : Nat → List Int → List Int → List (S53) → Int → Int → List (S42) → Option (Bool)
 | 0, _, _, _, _, _, _ => none
 | k + 1, x1, x2, x9, x10, x620000, x620001 => if x10 < (x1.length : Int) then (tangramlaw03_SimpleBack.j1 k x1 x2 x9 x10 (decide ((x9.length : Int) > 0)) x620000 x620001) else (tangramlaw03_SimpleBack.j1 k x1 x2 x9 x10 false x620000 x620001)
def tangramlaw03_SimpleBack.j1 : Nat → List Int → List Int → List (S53) → Int → Bool → Int → List (S42) → Option (Bool)
 | 0, _, _, _, _, _, _, _ => none
 | k + 1, x1, x2, x9, x10, x46, x620000, x620001 => if x46 = true then (if 0 ≤ x10 then (if x10 < (x1.length : Int) then (if (x9.length : Int) = 0 then (none) else (if (Int.tmod (rd x1 x10) (x9.length : Int)) < 0 then (if 0 ≤ (wrap64 (-(Int.tmod (rd x1 x10) (x9.length : Int)))) then (if (wrap64 (-(Int.tmod (rd x1 x10) (x9.length : Int)))) < (x9.length : Int) then (if 0 ≤ (Int.tmod x10 (x9.length : Int)) then (if (Int.tmod x10 (x9.length : Int)) < (x9.length : Int) then ((some ((x9.set ((Int.tmod x10 (x9.length : Int)) : Int).toNat (⟨(rd_T53 x9 (wrap64 (-(Int.tmod (rd x1 x10) (x9.length : Int))))).f0, (rd_T53 x9 (wrap64 (-(Int.tmod (rd x1 x10) (x9.length : Int))))).f1⟩ : S53)).set ((wrap64 (-(Int.tmod (rd x1 x10) (x9.length : Int)))) : Int).toNat (⟨(rd_T53 x9 (Int.tmod x10 (x9.length : Int))).f0, (rd_T53 x9 (Int.tmod x10 (x9.length : Int))).f1⟩ : S53) : List (S53))).bind fun y639 => ((some (y639.set ((Int.tmod x10 (x9.length : Int)) : Int).toNat (⟨(rd_T53 y639 (Int.tmod x10 (x9.length : Int))).f1, (rd_T53 y639 (Int.tmod x10 (x9.length : Int))).f1⟩ : S53) : List (S53))).bind fun y642 => ((some (y642.set ((Int.tmod x10 (x9.length : Int)) : Int).toNat (⟨(rd_T53 y642 (Int.tmod x10 (x9.length : Int))).f0, (rd_T53 y639 (Int.tmod x10 (x9.length : Int))).f0⟩ : S53) : List (S53))).bind fun y643 => (if y643.length < 8796093022208 then (tangramlaw03_SimpleBack.l0 k x1 x2 (y643 ++ [(⟨(rd_T53 y643 (wrap64 (-(Int.tmod (rd x1 x10) (x9.length : Int))))).f0, (rd_T53 y643 (wrap64 (-(Int.tmod (rd x1 x10) (x9.length : Int))))).f1⟩ : S53)]) (wrap64 (x10 + 1)) x620000 x620001) else (none))))) else (none)) else (none)) else (none)) else (none)) else (if 0 ≤ (Int.tmod (rd x1 x10) (x9.length : Int)) then (if (Int.tmod (rd x1 x10) (x9.length : Int)) < (x9.length : Int) then (if 0 ≤ (Int.tmod x10 (x9.length : Int)) then (if (Int.tmod x10 (x9.length : Int)) < (x9.length : Int) then ((some ((x9.set ((Int.tmod x10 (x9.length : Int)) : Int).toNat (⟨(rd_T53 x9 (Int.tmod (rd x1 x10) (x9.length : Int))).f0, (rd_T53 x9 (Int.tmod (rd x1 x10) (x9.length : Int))).f1⟩ : S53)).set ((Int.tmod (rd x1 x10) (x9.length : Int)) : Int).toNat (⟨(rd_T53 x9 (Int.tmod x10 (x9.length : Int))).f0, (rd_T53 x9 (Int.tmod x10 (x9.length : Int))).f1⟩ : S53) : List (S53))).bind fun y651 => ((some (y651.set ((Int.tmod x10 (x9.length : Int)) : Int).toNat (⟨(rd_T53 y651 (Int.tmod x10 (x9.length : Int))).f1, (rd_T53 y651 (Int.tmod x10 (x9.length : Int))).f1⟩ : S53) : List (S53))).bind fun y654 => ((some (y654.set ((Int.tmod x10 (x9.length : Int)) : Int).toNat (⟨(rd_T53 y654 (Int.tmod x10 (x9.length : Int))).f0, (rd_T53 y651 (Int.tmod x10 (x9.length : Int))).f0⟩ : S53) : List (S53))).bind fun y655 => (if y655.length < 8796093022208 then (tangramlaw03_SimpleBack.l0 k x1 x2 (y655 ++ [(⟨(rd_T53 y655 (Int.tmod (rd x1 x10) (x9.length : Int))).f0, (rd_T53 y655 (Int.tmod (rd x1 x10) (x9.length : Int))).f1⟩ : S53)]) (wrap64 (x10 + 1)) x620000 x620001) else (none))))) else (none)) else (none)) else (none)) else (none)))) else (none)) else (none)) else (tangramlaw03_SimpleBack.l1 k x2 x9 0 x620000 x620001)
def tangramlaw03_SimpleBack.l1 : Nat → List Int → List (S53) → Int → Int → List (S42) → Option (Bool)
 | 0, _, _, _, _, _ => none
 | k + 1, x2, x9, x13, x620000, x620001 => if x13 < (x2.length : Int) then (if 0 ≤ x13 then (if (rd x2 x13) ≥ 0 then (if (rd x2 x13) < x620000 then (if x9.length < 8796093022208 then (tangramlaw03_SimpleBack.l1 k x2 (x9 ++ [(⟨rd x2 x13, rd x2 x13⟩ : S53)]) (wrap64 (x13 + 1)) x620000 x620001) else (none)) else (tangramlaw03_SimpleBack.l1 k x2 x9 (wrap64 (x13 + 1)) x620000 x620001)) else (tangramlaw03_SimpleBack.l1 k x2 x9 (wrap64 (x13 + 1)) x620000 x620001)) else (none)) else ((simple_Make.f k x620000 x9).bind fun bt667 => (if bt667.2.2 = 0 then ((tangramref03_Equal.f k bt667.1 bt667.2.1 x620000 x620001).bind fun t673 => (if t673 = true then ((tangramref03_Copy.f k x620000 x620001).bind fun bt674 => ((simple_Same.f k bt667.1 bt667.2.1 bt674.1 bt674.2).bind fun t678 => (tangramlaw03_SimpleBack.j3 k (!t678) x620000 x620001))) else (tangramlaw03_SimpleBack.j3 k true x620000 x620001))) else (tangramlaw03_SimpleBack.j3 k true x620000 x620001)))
def tangramlaw03_SimpleBack.j3 : Nat → Bool → Int → List (S42) → Option (Bool)
 | 0, _, _, _ => none
 | k + 1, x156, x620000, x620001 => if x156 = true then (some false) else ((tangramref03_Copy.f k x620000 x620001).bind fun bt679 => ((simple_Text.f k bt679.1 bt679.2).bind fun bt683 => (if bt683.2 = 0 then ((nums_scanner_all.f k bt683.1).bind fun bt685 => (if (bt685.2.2.1 == 0 && (bt685.2.2.2 == 0)) = true then ((tangramref03_Equal.f k bt685.1 bt685.2.1 x620000 x620001).bind fun t693 => (some t693)) else (some false))) else ((tangramref03_Text.f k x620000 x620001).bind fun bt694 => (if bt683.2 = 141 then (some (bt694.2 == 141)) else (some false))))))
end
def tangramlaw03_SimpleBack.f (k : Nat) (a0_0 : Int) (l0_1 : List (S42)) (l1 : List Int) (l2 : List Int) : Option (Bool) := (tangramlaw03_wakes.f).bind fun t620 => (if t620 = true then ((tangramref03_Copy.f k a0_0 l0_1).bind fun bt621 => ((simple_Valid.f k bt621.1 bt621.2).bind fun t625 => (if t625 = true then ((tangramref03_Pairs.f k a0_0 l0_1).bind fun t632 => (tangramlaw03_SimpleBack.l0 k l1 l2 t632 0 a0_0 l0_1)) else ((tangramref03_Copy.f k a0_0 l0_1).bind fun bt626 => ((simple_Text.f k bt626.1 bt626.2).bind fun bt630 => (some (bt630.2 == 1))))))) else (some false))
theorem tangramlaw03_SimpleBack.mono_l : ∀ k, (∀ y0 y1 y2 y3 y4 y5, LeO (tangramlaw03_SimpleBack.l0 k y0 y1 y2 y3 y4 y5) (tangramlaw03_SimpleBack.l0 (k + 1) y0 y1 y2 y3 y4 y5)) ∧ (∀ y0 y1 y2 y3 y4 y5 y6, LeO (tangramlaw03_SimpleBack.j1 k y0 y1 y2 y3 y4 y5 y6) (tangramlaw03_SimpleBack.j1 (k + 1) y0 y1 y2 y3 y4 y5 y6)) ∧ (∀ y0 y1 y2 y3 y4, LeO (tangramlaw03_SimpleBack.l1 k y0 y1 y2 y3 y4) (tangramlaw03_SimpleBack.l1 (k + 1) y0 y1 y2 y3 y4)) ∧ (∀ y0 y1 y2, LeO (tangramlaw03_SimpleBack.j3 k y0 y1 y2) (tangramlaw03_SimpleBack.j3 (k + 1) y0 y1 y2))
 | 0 => ⟨fun _ _ _ _ _ _ r h => by simp [tangramlaw03_SimpleBack.l0] at h, fun _ _ _ _ _ _ _ r h => by simp [tangramlaw03_SimpleBack.j1] at h, fun _ _ _ _ _ r h => by simp [tangramlaw03_SimpleBack.l1] at h, fun _ _ _ r h => by simp [tangramlaw03_SimpleBack.j3] at h⟩
 | k + 1 => by
  obtain ⟨ih0, ih1, ih2, ih3⟩ := tangramlaw03_SimpleBack.mono_l k; refine ⟨?_, ?_, ?_, ?_⟩
  ·intro y0 y1 y2 y3 y4 y5
   unfold tangramlaw03_SimpleBack.l0
   repeat' first
   | (with_reducible exact ih0 _ _ _ _ _ _)
   | (with_reducible exact ih1 _ _ _ _ _ _ _)
   | (with_reducible exact ih2 _ _ _ _ _)
   | (with_reducible exact ih3 _ _ _)
   | (with_reducible exact nums_scanner_all.mono _ _)
   | (with_reducible exact simple_Make.mono _ _ _)
   | (with_reducible exact simple_Same.mono _ _ _ _ _)
   | (with_reducible exact simple_Text.mono _ _ _)
   | (with_reducible exact simple_Valid.mono _ _ _)
   | (with_reducible exact tangramref03_Copy.mono _ _ _)
   | (with_reducible exact tangramref03_Equal.mono _ _ _ _ _)
   | (with_reducible exact tangramref03_Pairs.mono _ _ _)
   | (with_reducible exact tangramref03_Text.mono _ _ _)
   | (with_reducible exact LeO.refl _)
   | (with_reducible exact LeO.none _)
   | (with_reducible refine LeO.ite ?_ ?_)
   | (with_reducible refine LeO.bind ?_ (fun _ => ?_))
   | exact ih0 _ _ _ _ _ _
   | exact ih1 _ _ _ _ _ _ _
   | exact ih2 _ _ _ _ _
   | exact ih3 _ _ _
   | exact nums_scanner_all.mono _ _
   | exact simple_Make.mono _ _ _
   | exact simple_Same.mono _ _ _ _ _
   | exact simple_Text.mono _ _ _
   | exact simple_Valid.mono _ _ _
   | exact tangramref03_Copy.mono _ _ _
   | exact tangramref03_Equal.mono _ _ _ _ _
   | exact tangramref03_Pairs.mono _ _ _
   | exact tangramref03_Text.mono _ _ _
   | exact LeO.none _
   | refine LeO.ite ?_ ?_
   | refine LeO.bind ?_ (fun _ => ?_)
  ·intro y0 y1 y2 y3 y4 y5 y6
   unfold tangramlaw03_SimpleBack.j1
   repeat' first
   | (with_reducible exact ih0 _ _ _ _ _ _)
   | (with_reducible exact ih1 _ _ _ _ _ _ _)
   | (with_reducible exact ih2 _ _ _ _ _)
   | (with_reducible exact ih3 _ _ _)
   | (with_reducible exact nums_scanner_all.mono _ _)
   | (with_reducible exact simple_Make.mono _ _ _)
   | (with_reducible exact simple_Same.mono _ _ _ _ _)
   | (with_reducible exact simple_Text.mono _ _ _)
   | (with_reducible exact simple_Valid.mono _ _ _)
   | (with_reducible exact tangramref03_Copy.mono _ _ _)
   | (with_reducible exact tangramref03_Equal.mono _ _ _ _ _)
   | (with_reducible exact tangramref03_Pairs.mono _ _ _)
   | (with_reducible exact tangramref03_Text.mono _ _ _)
   | (with_reducible exact LeO.refl _)
   | (with_reducible exact LeO.none _)
   | (with_reducible refine LeO.ite ?_ ?_)
   | (with_reducible refine LeO.bind ?_ (fun _ => ?_))
   | exact ih0 _ _ _ _ _ _
   | exact ih1 _ _ _ _ _ _ _
   | exact ih2 _ _ _ _ _
   | exact ih3 _ _ _
   | exact nums_scanner_all.mono _ _
   | exact simple_Make.mono _ _ _
   | exact simple_Same.mono _ _ _ _ _
   | exact simple_Text.mono _ _ _
   | exact simple_Valid.mono _ _ _
   | exact tangramref03_Copy.mono _ _ _
   | exact tangramref03_Equal.mono _ _ _ _ _
   | exact tangramref03_Pairs.mono _ _ _
   | exact tangramref03_Text.mono _ _ _
   | exact LeO.none _
   | refine LeO.ite ?_ ?_
   | refine LeO.bind ?_ (fun _ => ?_)
  ·intro y0 y1 y2 y3 y4
   unfold tangramlaw03_SimpleBack.l1
   repeat' first
   | (with_reducible exact ih0 _ _ _ _ _ _)
   | (with_reducible exact ih1 _ _ _ _ _ _ _)
   | (with_reducible exact ih2 _ _ _ _ _)
   | (with_reducible exact ih3 _ _ _)
   | (with_reducible exact nums_scanner_all.mono _ _)
   | (with_reducible exact simple_Make.mono _ _ _)
   | (with_reducible exact simple_Same.mono _ _ _ _ _)
   | (with_reducible exact simple_Text.mono _ _ _)
   | (with_reducible exact simple_Valid.mono _ _ _)
   | (with_reducible exact tangramref03_Copy.mono _ _ _)
   | (with_reducible exact tangramref03_Equal.mono _ _ _ _ _)
   | (with_reducible exact tangramref03_Pairs.mono _ _ _)
   | (with_reducible exact tangramref03_Text.mono _ _ _)
   | (with_reducible exact LeO.refl _)
   | (with_reducible exact LeO.none _)
   | (with_reducible refine LeO.ite ?_ ?_)
   | (with_reducible refine LeO.bind ?_ (fun _ => ?_))
   | exact ih0 _ _ _ _ _ _
   | exact ih1 _ _ _ _ _ _ _
   | exact ih2 _ _ _ _ _
   | exact ih3 _ _ _
   | exact nums_scanner_all.mono _ _
   | exact simple_Make.mono _ _ _
   | exact simple_Same.mono _ _ _ _ _
   | exact simple_Text.mono _ _ _
   | exact simple_Valid.mono _ _ _
   | exact tangramref03_Copy.mono _ _ _
   | exact tangramref03_Equal.mono _ _ _ _ _
   | exact tangramref03_Pairs.mono _ _ _
   | exact tangramref03_Text.mono _ _ _
   | exact LeO.none _
   | refine LeO.ite ?_ ?_
   | refine LeO.bind ?_ (fun _ => ?_)
  ·intro y0 y1 y2
   unfold tangramlaw03_SimpleBack.j3
   repeat' first
   | (with_reducible exact ih0 _ _ _ _ _ _)
   | (with_reducible exact ih1 _ _ _ _ _ _ _)
   | (with_reducible exact ih2 _ _ _ _ _)
   | (with_reducible exact ih3 _ _ _)
   | (with_reducible exact nums_scanner_all.mono _ _)
   | (with_reducible exact simple_Make.mono _ _ _)
   | (with_reducible exact simple_Same.mono _ _ _ _ _)
   | (with_reducible exact simple_Text.mono _ _ _)
   | (with_reducible exact simple_Valid.mono _ _ _)
   | (with_reducible exact tangramref03_Copy.mono _ _ _)
   | (with_reducible exact tangramref03_Equal.mono _ _ _ _ _)
   | (with_reducible exact tangramref03_Pairs.mono _ _ _)
   | (with_reducible exact tangramref03_Text.mono _ _ _)
   | (with_reducible exact LeO.refl _)
   | (with_reducible exact LeO.none _)
   | (with_reducible refine LeO.ite ?_ ?_)
   | (with_reducible refine LeO.bind ?_ (fun _ => ?_))
   | exact ih0 _ _ _ _ _ _
   | exact ih1 _ _ _ _ _ _ _
   | exact ih2 _ _ _ _ _
   | exact ih3 _ _ _
   | exact nums_scanner_all.mono _ _
   | exact simple_Make.mono _ _ _
   | exact simple_Same.mono _ _ _ _ _
   | exact simple_Text.mono _ _ _
   | exact simple_Valid.mono _ _ _
   | exact tangramref03_Copy.mono _ _ _
   | exact tangramref03_Equal.mono _ _ _ _ _
   | exact tangramref03_Pairs.mono _ _ _
   | exact tangramref03_Text.mono _ _ _
   | exact LeO.none _
   | refine LeO.ite ?_ ?_
   | refine LeO.bind ?_ (fun _ => ?_)
theorem tangramlaw03_SimpleBack.mono : ∀ a0 a1 a2 a3 k, LeO (tangramlaw03_SimpleBack.f k a0 a1 a2 a3) (tangramlaw03_SimpleBack.f (k + 1) a0 a1 a2 a3) := by
 intro a0 a1 a2 a3 k; obtain ⟨ih0, ih1, ih2, ih3⟩ := tangramlaw03_SimpleBack.mono_l k
 unfold tangramlaw03_SimpleBack.f
 repeat' first
   | (with_reducible exact ih0 _ _ _ _ _ _)
   | (with_reducible exact ih1 _ _ _ _ _ _ _)
   | (with_reducible exact ih2 _ _ _ _ _)
   | (with_reducible exact ih3 _ _ _)
   | (with_reducible exact nums_scanner_all.mono _ _)
   | (with_reducible exact simple_Make.mono _ _ _)
   | (with_reducible exact simple_Same.mono _ _ _ _ _)
   | (with_reducible exact simple_Text.mono _ _ _)
   | (with_reducible exact simple_Valid.mono _ _ _)
   | (with_reducible exact tangramref03_Copy.mono _ _ _)
   | (with_reducible exact tangramref03_Equal.mono _ _ _ _ _)
   | (with_reducible exact tangramref03_Pairs.mono _ _ _)
   | (with_reducible exact tangramref03_Text.mono _ _ _)
   | (with_reducible exact LeO.refl _)
   | (with_reducible exact LeO.none _)
   | (with_reducible refine LeO.ite ?_ ?_)
   | (with_reducible refine LeO.bind ?_ (fun _ => ?_))
   | exact ih0 _ _ _ _ _ _
   | exact ih1 _ _ _ _ _ _ _
   | exact ih2 _ _ _ _ _
   | exact ih3 _ _ _
   | exact nums_scanner_all.mono _ _
   | exact simple_Make.mono _ _ _
   | exact simple_Same.mono _ _ _ _ _
   | exact simple_Text.mono _ _ _
   | exact simple_Valid.mono _ _ _
   | exact tangramref03_Copy.mono _ _ _
   | exact tangramref03_Equal.mono _ _ _ _ _
   | exact tangramref03_Pairs.mono _ _ _
   | exact tangramref03_Text.mono _ _ _
   | exact LeO.none _
   | refine LeO.ite ?_ ?_
   | refine LeO.bind ?_ (fun _ => ?_)
def tangramlaw03_SimpleBack.T14 : Bool × List (List Nat × List Nat) := (true, [([], []), ([], []), ([], []), ([], []), ([], []), ([], []), ([4, 5], [4, 5]), ([6], [6]), ([], []), ([], []), ([8, 9], [8, 9]), ([10], [10]), ([0, 1, 0, 1, 4, 5, 6, 7, 11], [0, 1]), ([12, 7, 0, 1, 4, 5, 6, 7, 11], [7, 12]), ([2, 3, 0, 1, 2, 3, 4, 5, 6, 7, 8, 9, 10, 11, 12, 13], [2, 3]), ([14, 11, 13, 0, 1, 2, 3, 4, 5, 6, 7, 8, 9, 10, 11, 12, 13], [11, 14])])
def tangramlaw03_SimpleBack.B14 : List Nat := [0, 0, 0, 0, 0, 0, 48, 112, 0, 0, 768, 1792, 4083, 8179, 16383, 32767]
theorem tangramlaw03_SimpleBack.tab14 : rtab .any (opsOf Tryd.f10 14) = tangramlaw03_SimpleBack.T14 := by kernel_rfl
theorem tangramlaw03_SimpleBack.bits14 : waitsOk tangramlaw03_SimpleBack.T14.2 tangramlaw03_SimpleBack.B14 = true := by kernel_rfl
def tangramlaw03_SimpleBack.T15 : Bool × List (List Nat × List Nat) := (true, [([], []), ([], []), ([], []), ([], []), ([], []), ([], []), ([4, 5], [4, 5]), ([6], [6]), ([7], [7]), ([], []), ([], []), ([9, 10], [9, 10]), ([11], [11]), ([12], [12]), ([0, 1], [0, 1]), ([14, 0, 1, 4, 5, 6, 7, 8, 13], [14]), ([15, 8, 0, 1, 4, 5, 6, 7, 8, 13], [8, 15]), ([2, 3], [2, 3]), ([17, 0, 1, 2, 3, 4, 5, 6, 7, 8, 9, 10, 11, 12, 13, 14, 15, 16], [17]), ([18, 13, 16, 0, 1, 2, 3, 4, 5, 6, 7, 8, 9, 10, 11, 12, 13, 14, 15, 16], [13, 18])])
def tangramlaw03_SimpleBack.B15 : List Nat := [0, 0, 0, 0, 0, 0, 48, 112, 240, 0, 0, 1536, 3584, 7680, 3, 32755, 65523, 12, 262143, 524287]
theorem tangramlaw03_SimpleBack.tab15 : rtab .any (opsOf Tryd.f10 15) = tangramlaw03_SimpleBack.T15 := by kernel_rfl
theorem tangramlaw03_SimpleBack.bits15 : waitsOk tangramlaw03_SimpleBack.T15.2 tangramlaw03_SimpleBack.B15 = true := by kernel_rfl
def tangramlaw03_SimpleBack.T20 : Bool × List (List Nat × List Nat) := (true, [([], []), ([], []), ([0, 1], [0, 1]), ([2], [2]), ([3], [3]), ([4], [4]), ([5], [5]), ([5], [5]), ([6, 7, 5], [5, 6, 7]), ([8, 5], [5, 8]), ([5], [5]), ([10, 5], [5, 10]), ([9, 11, 5], [5, 9, 11]), ([5, 12], [5, 12])])
def tangramlaw03_SimpleBack.B20 : List Nat := [0, 0, 3, 7, 15, 31, 63, 63, 255, 511, 63, 1087, 4095, 8191]
theorem tangramlaw03_SimpleBack.tab20 : rtab .any (opsOf Tryd.f10 20) = tangramlaw03_SimpleBack.T20 := by kernel_rfl
theorem tangramlaw03_SimpleBack.bits20 : waitsOk tangramlaw03_SimpleBack.T20.2 tangramlaw03_SimpleBack.B20 = true := by kernel_rfl
def tangramlaw03_SimpleBack.T21 : Bool × List (List Nat × List Nat) := (true, [([], []), ([], []), ([], []), ([1, 2], [1, 2]), ([3], [3]), ([], []), ([], []), ([5, 6], [5, 6]), ([7], [7]), ([4, 8], [4, 8]), ([9], [9]), ([0, 10], [0, 10]), ([11, 11, 0, 1, 2, 3, 4, 5, 6, 7, 8, 9, 10, 11], [0, 11])])
def tangramlaw03_SimpleBack.B21 : List Nat := [0, 0, 0, 6, 14, 0, 0, 96, 224, 510, 1022, 2047, 4095]
theorem tangramlaw03_SimpleBack.tab21 : rtab .any (opsOf Tryd.f10 21) = tangramlaw03_SimpleBack.T21 := by kernel_rfl
theorem tangramlaw03_SimpleBack.bits21 : waitsOk tangramlaw03_SimpleBack.T21.2 tangramlaw03_SimpleBack.B21 = true := by kernel_rfl
def tangramlaw03_SimpleBack.T23 : Bool × List (List Nat × List Nat) := (true, [([], []), ([0], [0]), ([1], [1]), ([2], [2]), ([2], [2]), ([3, 4, 2, 2], [2, 3, 4]), ([5, 2], [2, 5]), ([2, 6], [2, 6]), ([7, 5], [7]), ([8], [8]), ([8], [8]), ([10, 8, 8], [8, 10]), ([9, 11, 11, 8], [8, 9, 11]), ([12, 8], [8, 12]), ([8, 13], [8, 13])])
def tangramlaw03_SimpleBack.B23 : List Nat := [0, 1, 3, 7, 7, 31, 63, 127, 255, 511, 511, 1535, 4095, 8191, 16383]
theorem tangramlaw03_SimpleBack.tab23 : rtab .any (opsOf Tryd.f10 23) = tangramlaw03_SimpleBack.T23 := by kernel_rfl
theorem tangramlaw03_SimpleBack.bits23 : waitsOk tangramlaw03_SimpleBack.T23.2 tangramlaw03_SimpleBack.B23 = true := by kernel_rfl
set_option maxHeartbeats 8000000 in
set_option maxRecDepth 100000 in
theorem tangramlaw03_SimpleBack.calls (k : Nat) (a0_0 : Int) (A0_1 : Option Addr) (c0_1 : Nat) (l0_1 : List (S42)) (A1 : Option Addr) (c1 : Nat) (l1 : List Int) (A2 : Option Addr) (c2 : Nat) (l2 : List Int) (r : Bool) (w : World) (hT : TabW w) (hr0_1 : Kd.C k42 w A0_1 l0_1.length l0_1) (hc0_1 : l0_1.length ≤ c0_1) (hr1 : Kd.C (Kd.int .i64) w A1 l1.length l1) (hc1 : l1.length ≤ c1) (hr2 : Kd.C (Kd.int .i64) w A2 l2.length l2) (hc2 : l2.length ≤ c2) (h : tangramlaw03_SimpleBack.f k a0_0 l0_1 l1 l2 = some r) :
  Calls Tryd.prog 10 #[.agg #[.int .i64 a0_0, .slice A0_1 l0_1.length c0_1], .slice A1 l1.length c1, .slice A2 l2.length c2] w fun e w' => e = .returned (.bool r) ∧ Below w.heap.size w w' := by
 have HT := Aside0.mk hT; clear hT; have hcvs := fun (w : World) (s : ByteArray) => Lib.run_convert_string_bytes (P := Tryd.prog) w 9 56 5 s Tryd.underlying9 Tryd.underlying56 Tryd.underlying5
 have hu26 := Tryd.underlying26; have hu53 := Tryd.underlying53; have hu60 := Tryd.underlying60; have HR0_1 := Aside0.mk hr0_1; have HC0_1 := Aside0.mk hc0_1; clear hr0_1 hc0_1; have HR1 := Aside0.mk hr1; have HC1 := Aside0.mk hc1; clear hr1 hc1; have HR2 := Aside0.mk hr2; have HC2 := Aside0.mk hc2; clear hr2 hc2; have HB := Aside0.mk (Below.refl w.heap.size w); have H : ((tangramlaw03_wakes.f).bind fun t620 => (if t620 = true then ((tangramref03_Copy.f k a0_0 l0_1).bind fun bt621 => ((simple_Valid.f k bt621.1 bt621.2).bind fun t625 => (if t625 = true then ((tangramref03_Pairs.f k a0_0 l0_1).bind fun t632 => (tangramlaw03_SimpleBack.l0 k l1 l2 t632 0 a0_0 l0_1)) else ((tangramref03_Copy.f k a0_0 l0_1).bind fun bt626 => ((simple_Text.f k bt626.1 bt626.2).bind fun bt630 => (some (bt630.2 == 1))))))) else (some false))) = some r := h; clear h; replace H := Option.bind_eq_some_iff.mp H; obtain ⟨t620, A40, H⟩ := H; (try dsimp only at H); have A4 := Aside0.mk A40; clear A40
 by_cases c5 : t620 = true
 ·subst c5; rw [if_pos rfl] at H; replace H := Option.bind_eq_some_iff.mp H; obtain ⟨⟨t621, t622⟩, A60, H⟩ := H; (try dsimp only at H); have A6 := Aside0.mk A60; clear A60; replace H := Option.bind_eq_some_iff.mp H; obtain ⟨t625, A70, H⟩ := H; (try dsimp only at H); have A7 := Aside0.mk A70; clear A70
  by_cases c8 : t625 = true
  ·subst c8; rw [if_pos rfl] at H; replace H := Option.bind_eq_some_iff.mp H; obtain ⟨t632, A90, H⟩ := H; (try dsimp only at H); have A9 := Aside0.mk A90; clear A90; have H' := Aside0.mk H; clear H
   go_enter Tryd.func10, Tryd.ntmps10
   go_wp2_with (first | ((with_reducible refine gate_dst (N := 3) rfl ?_); (try (refine gate_guard (by rfl) ?_; dsimp only)); refine be_ 3 #[.int .i64 a0_0, .slice A0_1 l0_1.length c0_1] 26 ?_; intro gb619 hg w10 hbox hb; have BK619 := Aside0.mk (hbox); have GW619 := wq (hb0 HB) hg; have GE619 := wq (hb0 HB) hg; replace HB := hs (hb0 HB) hb; clear hb hbox hg) | ((with_reducible refine gate_callee (f := 11) rfl ?_); refine gl_ (some 22) Tryd.func11 #[] ?_; (with_reducible refine (tangramlaw03_wakes.calls  true _ ?sideT A4.out).mono ?_); (case sideT => exact tb HT (hb0 HB)); rintro e w11 ⟨rfl, hb⟩; refine ⟨_, rfl, ?_⟩; replace BK619 := kx BK619 hb; replace HB := hs (hb1 HB GE619) hb; (try clear hb); (try clear hb2); (try clear hk); (try clear hi); have hcz12_0 : w11.cell? ⟨gb619, 0, none⟩ = some (.int .i64 a0_0) := bc BK619 0; have hcz12_1 : w11.cell? ⟨gb619, 1, none⟩ = some (.slice A0_1 l0_1.length c0_1) := bc BK619 1; have hfz12_0 := blk_frozen BK619.out 0; have hfz12_1 := blk_frozen BK619.out 1) | ((with_reducible refine gate_callee (f := 18) rfl ?_); refine gl_ (some 25) Tryd.func18 #[.agg #[.int .i64 a0_0, .slice A0_1 l0_1.length c0_1]] ?_; (with_reducible refine (tangramref03_Copy.calls k a0_0 _ _ l0_1 t621 t622 _ ?side1 ?side2 A6.out).mono ?_); (case side1 => repeat (first | exact (Kd.C_below HR0_1.out HB.out) | (with_reducible refine Kd.C_alloc ?_ _) | (with_reducible refine Kd.C_drewN ?_ _) | (with_reducible refine Kd.C_drew ?_))); (case side2 => exact HC0_1.out); rintro e w13 ⟨v623, rfl, ho0, hb⟩; refine ⟨_, rfl, ?_⟩; have HO624 := Aside0.mk (Kd.R_lower ho0 (below_size (hb1 HB GE619))); replace BK619 := kx BK619 hb; replace HB := hs (hb1 HB GE619) hb; (try clear hb); (try clear hb2); (try clear hk); (try clear hi); (try clear ho0); obtain ⟨Ao14, co14, eo14⟩ := Kd.R_slice HO624.out; subst eo14) | ((with_reducible refine gate_callee (f := 24) rfl ?_); refine gl_ (some 26) Tryd.func24 #[.agg #[.int .i64 t621, .slice Ao14 t622.length co14]] ?_; (with_reducible refine (simple_Valid.calls k t621 _ _ t622 true _ ?side1 ?side2 A7.out).mono ?_); (case side1 => exact cr HO624); (case side2 => exact (Kd.R_reads' HO624.out).2.1); rintro e w15 ⟨rfl, hb⟩; refine ⟨_, rfl, ?_⟩; replace HO624 := ry HO624 hb; replace BK619 := kx BK619 hb; replace HB := hs (hb1 HB GE619) hb; (try clear hb); (try clear hb2); (try clear hk); (try clear hi); have hcz16_0 : w15.cell? ⟨gb619, 0, none⟩ = some (.int .i64 a0_0) := bc BK619 0; have hcz16_1 : w15.cell? ⟨gb619, 1, none⟩ = some (.slice A0_1 l0_1.length c0_1) := bc BK619 1; have hfz16_0 := blk_frozen BK619.out 0; have hfz16_1 := blk_frozen BK619.out 1) | ((with_reducible refine gate_callee (f := 34) rfl ?_); refine gl_ (some 37) Tryd.func34 #[.agg #[.int .i64 a0_0, .slice A0_1 l0_1.length c0_1]] ?_; (with_reducible refine (tangramref03_Pairs.calls k a0_0 _ _ l0_1 t632 _ ?side1 ?side2 A9.out).mono ?_); (case side1 => repeat (first | exact (Kd.C_below HR0_1.out HB.out) | (with_reducible refine Kd.C_alloc ?_ _) | (with_reducible refine Kd.C_drewN ?_ _) | (with_reducible refine Kd.C_drew ?_))); (case side2 => exact HC0_1.out); rintro e w17 ⟨v633, rfl, ho0, hb⟩; refine ⟨_, rfl, ?_⟩; replace HO624 := ry HO624 hb; have HO634 := Aside0.mk (Kd.R_lower ho0 (below_size (hb1 HB GE619))); replace BK619 := kx BK619 hb; replace HB := hs (hb1 HB GE619) hb; (try clear hb); (try clear hb2); (try clear hk); (try clear hi); (try clear ho0)))
   go_loopg [9, 10] k (fun kq v9 v10 w' => ∃ (x9_1 : List (S53)) (x10_1 : Int), v10 = .int .i64 x10_1 ∧ Aside0 (tangramlaw03_SimpleBack.l0 kq l1 l2 x9_1 x10_1 a0_0 l0_1 = some r) ∧ Aside0 (kq ≤ k) ∧ Aside0 (Kd.R k53 53 w' w.heap.size (fun _ => True) v9 x9_1) ∧ Aside0 (w'.heap[gb619]? = some (.cells #[.int .i64 a0_0, (.slice A0_1 l0_1.length c0_1)] 26 (0, 0))) ∧ Aside0 (Below w.heap.size w w'))
   case atStart => exact ⟨(t632), (0), (by first | rfl | (simp; done) | (simp [*]; done)), H', ⟨Nat.le_refl _⟩, ⟨rx HO634⟩, ⟨bx BK619⟩, ⟨hb1 HB GE619⟩⟩
   case round =>
    clear H'
    try clear c1
    try clear c2
    try clear p2
    try clear c3
    try clear c5
    try clear c8
    try clear c10
    try clear c11
    try clear hcz12_0
    try clear hcz12_1
    try clear hcz16_0
    try clear hcz16_1
    try clear hfz12_0
    try clear hfz12_1
    try clear hfz16_0
    try clear hfz16_1
    obtain ⟨x9_1, x10_1, rfl, HA, HK1, HO_9, BK619, HB⟩ := hrel
    cases gk with
    | zero => exact absurd HA.out (by simp [tangramlaw03_SimpleBack.l0])
    | succ k1 =>
     have H := HA.out; clear HA; simp only [tangramlaw03_SimpleBack.l0] at H; have HC18 := Aside0.mk H; clear H
     go_upto_region 8 with (fail)
     go_cut [46] (fun v46 wc => ∃ (kq : Nat) (x46_17 : Bool), v46 = .bool x46_17 ∧ Aside0 (tangramlaw03_SimpleBack.j1 kq l1 l2 x9_1 x10_1 x46_17 a0_0 l0_1 = some r) ∧ Aside0 (kq ≤ k1) ∧ Aside0 (Kd.R k53 53 wc w.heap.size (fun _ => True) u9 x9_1) ∧ Aside0 (wc.heap[gb619]? = some (.cells #[.int .i64 a0_0, (.slice A0_1 l0_1.length c0_1)] 26 (0, 0))) ∧ Aside0 (Below w.heap.size w wc))
     case first =>
      have H := HC18.out; clear HC18
      by_cases c19 : x10_1 < (l1.length : Int)
      ·rw [if_pos c19] at H; have c19b0 : decide (x10_1 < (l1.length : Int)) = true := decide_eq_true c19; clear c19
       (first | rw [c19b0] | (simp only [i64_w, i32_w]; rw [c19b0]) | skip)
       have H' := Aside0.mk H; clear H; obtain ⟨Ao20, co20, eo20⟩ := Kd.R_slice HO_9.out; subst eo20
       go_wp2
       go_meet
       case rel => exact ⟨_, (decide ((x9_1.length : Int) > 0)), (by first | rfl | (simp; done) | (simp [*]; done)), H', ⟨by have := HK1.out; first | omega | exact Nat.le_refl _⟩, ⟨rx HO_9⟩, ⟨bx BK619⟩, ⟨hb1 HB GE619⟩⟩
      ·rw [if_neg c19] at H; have c19b0 : decide (x10_1 < (l1.length : Int)) = false := decide_eq_false c19; clear c19
       (first | rw [c19b0] | (simp only [i64_w, i32_w]; rw [c19b0]) | skip)
       have H' := Aside0.mk H; clear H
       go_wp2
       go_meet
       case rel => exact ⟨_, (false), (by first | rfl | (simp; done) | (simp [*]; done)), H', ⟨by have := HK1.out; first | omega | exact Nat.le_refl _⟩, ⟨rx HO_9⟩, ⟨bx BK619⟩, ⟨hb1 HB GE619⟩⟩
     case rest =>
      clear HC18
      try clear c1
      try clear c2
      try clear p2
      try clear c3
      try clear c5
      try clear c8
      try clear c10
      try clear c11
      try clear c18
      try clear c19
      try clear c19b0
      try clear hcz12_0
      try clear hcz12_1
      try clear hcz16_0
      try clear hcz16_1
      try clear hfz12_0
      try clear hfz12_1
      try clear hfz16_0
      try clear hfz16_1
      try clear p2
      obtain ⟨kq, x46_17, rfl, HA, HJ17, HO_9, BK619, HB⟩ := hcut
      cases kq with
      | zero => exact absurd HA.out (by simp [tangramlaw03_SimpleBack.j1])
      | succ kj17 =>
       have H := HA.out; clear HA; simp only [tangramlaw03_SimpleBack.j1] at H
       by_cases c21 : x46_17 = true
       ·subst c21; rw [if_pos rfl] at H
        by_cases c22 : 0 ≤ x10_1
        ·rw [if_pos c22] at H; have c22b0 : decide (0 ≤ x10_1) = true := decide_eq_true c22; clear c22
         by_cases c23 : x10_1 < (l1.length : Int)
         ·rw [if_pos c23] at H; have c23b0 : decide (x10_1 < (l1.length : Int)) = true := decide_eq_true c23; clear c23
          by_cases c24 : (x9_1.length : Int) = 0
          ·rw [if_pos c24] at H; exact absurd H (by simp)
          ·rw [if_neg c24] at H; have c24b0 : ((x9_1.length : Int) == 0) = false := beq_eq_false_iff_ne.mpr c24; have c24b1 : ((x9_1.length : Int) != 0) = true := bne_iff_ne.mpr c24; have c24b2 : ¬ (x9_1 = []) := fun h_ => c24 (by rw [h_]; rfl)
           by_cases c25 : (Int.tmod (rd l1 x10_1) (x9_1.length : Int)) < 0
           ·rw [if_pos c25] at H; have c25b0 : decide ((Int.tmod (rd l1 x10_1) (x9_1.length : Int)) < 0) = true := decide_eq_true c25; clear c25; obtain ⟨ji26, hji26⟩ : ∃ j_ : Int, (wrap64 (-(Int.tmod (rd l1 x10_1) (x9_1.length : Int)))) = j_ := ⟨_, rfl⟩; replace H : (if 0 ≤ (ji26) then (if (ji26) < (x9_1.length : Int) then (if 0 ≤ (Int.tmod x10_1 (x9_1.length : Int)) then (if (Int.tmod x10_1 (x9_1.length : Int)) < (x9_1.length : Int) then ((some ((x9_1.set ((Int.tmod x10_1 (x9_1.length : Int)) : Int).toNat (⟨(rd_T53 x9_1 (ji26)).f0, (rd_T53 x9_1 (ji26)).f1⟩ : S53)).set ((ji26) : Int).toNat (⟨(rd_T53 x9_1 (Int.tmod x10_1 (x9_1.length : Int))).f0, (rd_T53 x9_1 (Int.tmod x10_1 (x9_1.length : Int))).f1⟩ : S53) : List (S53))).bind fun y639 => ((some (y639.set ((Int.tmod x10_1 (x9_1.length : Int)) : Int).toNat (⟨(rd_T53 y639 (Int.tmod x10_1 (x9_1.length : Int))).f1, (rd_T53 y639 (Int.tmod x10_1 (x9_1.length : Int))).f1⟩ : S53) : List (S53))).bind fun y642 => ((some (y642.set ((Int.tmod x10_1 (x9_1.length : Int)) : Int).toNat (⟨(rd_T53 y642 (Int.tmod x10_1 (x9_1.length : Int))).f0, (rd_T53 y639 (Int.tmod x10_1 (x9_1.length : Int))).f0⟩ : S53) : List (S53))).bind fun y643 => (if y643.length < 8796093022208 then (tangramlaw03_SimpleBack.l0 kj17 l1 l2 (y643 ++ [(⟨(rd_T53 y643 (ji26)).f0, (rd_T53 y643 (ji26)).f1⟩ : S53)]) (wrap64 (x10_1 + 1)) a0_0 l0_1) else (none))))) else (none)) else (none)) else (none)) else (none)) = some r := by first | (rw [hji26] at H; exact H) | (simp only [hji26] at H ⊢; exact H)
            have hji26w : (IntKind.i64.wrap (-(Int.tmod (rd l1 x10_1) (x9_1.length : Int)))) = ji26 := (i64_w _).trans hji26
            by_cases c27 : 0 ≤ (ji26)
            ·rw [if_pos c27] at H; have c27b0 : decide (0 ≤ (ji26)) = true := decide_eq_true c27; clear c27
             by_cases c28 : (ji26) < (x9_1.length : Int)
             ·rw [if_pos c28] at H; have c28b0 : decide ((ji26) < (x9_1.length : Int)) = true := decide_eq_true c28; clear c28; obtain ⟨ji29, hji29⟩ : ∃ j_ : Int, (Int.tmod x10_1 (x9_1.length : Int)) = j_ := ⟨_, rfl⟩; replace H : (if 0 ≤ (ji29) then (if (ji29) < (x9_1.length : Int) then ((some ((x9_1.set ((ji29) : Int).toNat (⟨(rd_T53 x9_1 (ji26)).f0, (rd_T53 x9_1 (ji26)).f1⟩ : S53)).set ((ji26) : Int).toNat (⟨(rd_T53 x9_1 (ji29)).f0, (rd_T53 x9_1 (ji29)).f1⟩ : S53) : List (S53))).bind fun y639 => ((some (y639.set ((ji29) : Int).toNat (⟨(rd_T53 y639 (ji29)).f1, (rd_T53 y639 (ji29)).f1⟩ : S53) : List (S53))).bind fun y642 => ((some (y642.set ((ji29) : Int).toNat (⟨(rd_T53 y642 (ji29)).f0, (rd_T53 y639 (ji29)).f0⟩ : S53) : List (S53))).bind fun y643 => (if y643.length < 8796093022208 then (tangramlaw03_SimpleBack.l0 kj17 l1 l2 (y643 ++ [(⟨(rd_T53 y643 (ji26)).f0, (rd_T53 y643 (ji26)).f1⟩ : S53)]) (wrap64 (x10_1 + 1)) a0_0 l0_1) else (none))))) else (none)) else (none)) = some r := by first | (rw [hji29] at H; exact H) | (simp only [hji29] at H ⊢; exact H)
              by_cases c30 : 0 ≤ (ji29)
              ·rw [if_pos c30] at H; have c30b0 : decide (0 ≤ (ji29)) = true := decide_eq_true c30; clear c30
               by_cases c31 : (ji29) < (x9_1.length : Int)
               ·rw [if_pos c31] at H; have c31b0 : decide ((ji29) < (x9_1.length : Int)) = true := decide_eq_true c31; clear c31; obtain ⟨y638, hy638⟩ : ∃ y_ : List (S53), y_ = (x9_1.set ((ji29) : Int).toNat (⟨(rd_T53 x9_1 (ji26)).f0, (rd_T53 x9_1 (ji26)).f1⟩ : S53)) := ⟨_, rfl⟩; replace H : ((some (y638.set ((ji26) : Int).toNat (⟨(rd_T53 x9_1 (ji29)).f0, (rd_T53 x9_1 (ji29)).f1⟩ : S53) : List (S53))).bind fun y639 => ((some (y639.set ((ji29) : Int).toNat (⟨(rd_T53 y639 (ji29)).f1, (rd_T53 y639 (ji29)).f1⟩ : S53) : List (S53))).bind fun y642 => ((some (y642.set ((ji29) : Int).toNat (⟨(rd_T53 y642 (ji29)).f0, (rd_T53 y639 (ji29)).f0⟩ : S53) : List (S53))).bind fun y643 => (if y643.length < 8796093022208 then (tangramlaw03_SimpleBack.l0 kj17 l1 l2 (y643 ++ [(⟨(rd_T53 y643 (ji26)).f0, (rd_T53 y643 (ji26)).f1⟩ : S53)]) (wrap64 (x10_1 + 1)) a0_0 l0_1) else (none))))) = some r := by first | (rw [hy638]; with_reducible exact H) | (have H2_ := (Option.bind_some _ _).symm.trans H; rw [hy638]; with_reducible exact H2_) | (have H2_ := (Option.bind_some _ _).symm.trans H; with_reducible exact H2_) | with_reducible exact H | (rw [hy638]; exact H) | exact H
                have Ny638 := Aside0.mk hy638; clear hy638; obtain ⟨y639, hy639⟩ : ∃ y_ : List (S53), y_ = (y638.set ((ji26) : Int).toNat (⟨(rd_T53 x9_1 (ji29)).f0, (rd_T53 x9_1 (ji29)).f1⟩ : S53)) := ⟨_, rfl⟩; replace H : ((some (y639.set ((ji29) : Int).toNat (⟨(rd_T53 y639 (ji29)).f1, (rd_T53 y639 (ji29)).f1⟩ : S53) : List (S53))).bind fun y642 => ((some (y642.set ((ji29) : Int).toNat (⟨(rd_T53 y642 (ji29)).f0, (rd_T53 y639 (ji29)).f0⟩ : S53) : List (S53))).bind fun y643 => (if y643.length < 8796093022208 then (tangramlaw03_SimpleBack.l0 kj17 l1 l2 (y643 ++ [(⟨(rd_T53 y643 (ji26)).f0, (rd_T53 y643 (ji26)).f1⟩ : S53)]) (wrap64 (x10_1 + 1)) a0_0 l0_1) else (none)))) = some r := by first | (rw [hy639]; with_reducible exact H) | (have H2_ := (Option.bind_some _ _).symm.trans H; rw [hy639]; with_reducible exact H2_) | (have H2_ := (Option.bind_some _ _).symm.trans H; with_reducible exact H2_) | with_reducible exact H | (rw [hy639]; exact H) | exact H
                have Ny639 := Aside0.mk hy639; clear hy639; obtain ⟨y642, hy642⟩ : ∃ y_ : List (S53), y_ = (y639.set ((ji29) : Int).toNat (⟨(rd_T53 y639 (ji29)).f1, (rd_T53 y639 (ji29)).f1⟩ : S53)) := ⟨_, rfl⟩; replace H : ((some (y642.set ((ji29) : Int).toNat (⟨(rd_T53 y642 (ji29)).f0, (rd_T53 y639 (ji29)).f0⟩ : S53) : List (S53))).bind fun y643 => (if y643.length < 8796093022208 then (tangramlaw03_SimpleBack.l0 kj17 l1 l2 (y643 ++ [(⟨(rd_T53 y643 (ji26)).f0, (rd_T53 y643 (ji26)).f1⟩ : S53)]) (wrap64 (x10_1 + 1)) a0_0 l0_1) else (none))) = some r := by first | (rw [hy642]; with_reducible exact H) | (have H2_ := (Option.bind_some _ _).symm.trans H; rw [hy642]; with_reducible exact H2_) | (have H2_ := (Option.bind_some _ _).symm.trans H; with_reducible exact H2_) | with_reducible exact H | (rw [hy642]; exact H) | exact H
                have Ny642 := Aside0.mk hy642; clear hy642; obtain ⟨y643, hy643⟩ : ∃ y_ : List (S53), y_ = (y642.set ((ji29) : Int).toNat (⟨(rd_T53 y642 (ji29)).f0, (rd_T53 y639 (ji29)).f0⟩ : S53)) := ⟨_, rfl⟩; replace H : (if y643.length < 8796093022208 then (tangramlaw03_SimpleBack.l0 kj17 l1 l2 (y643 ++ [(⟨(rd_T53 y643 (ji26)).f0, (rd_T53 y643 (ji26)).f1⟩ : S53)]) (wrap64 (x10_1 + 1)) a0_0 l0_1) else (none)) = some r := by first | (rw [hy643]; with_reducible exact H) | (have H2_ := (Option.bind_some _ _).symm.trans H; rw [hy643]; with_reducible exact H2_) | (have H2_ := (Option.bind_some _ _).symm.trans H; with_reducible exact H2_) | with_reducible exact H | (rw [hy643]; exact H) | exact H
                have Ny643 := Aside0.mk hy643; clear hy643
                by_cases c36 : y643.length < 8796093022208
                ·rw [if_pos c36] at H; have LMc36 := Aside0.mk c36; clear c36; obtain ⟨y645, hy645⟩ : ∃ y_ : List (S53), y_ = (y643 ++ [(⟨(rd_T53 y643 (ji26)).f0, (rd_T53 y643 (ji26)).f1⟩ : S53)]) := ⟨_, rfl⟩; replace H : (tangramlaw03_SimpleBack.l0 kj17 l1 l2 y645 (wrap64 (x10_1 + 1)) a0_0 l0_1) = some r := by first | (rw [hy645]; with_reducible exact H) | (have H2_ := (Option.bind_some _ _).symm.trans H; rw [hy645]; with_reducible exact H2_) | (have H2_ := (Option.bind_some _ _).symm.trans H; with_reducible exact H2_) | with_reducible exact H | (rw [hy645]; exact H) | exact H
                 have Ny645 := Aside0.mk hy645; clear hy645; have H' := Aside0.mk H; clear H; have p635 : 0 ≤ (x10_1 : Int) := of_decide_eq_true (by first | (with_reducible assumption) | assumption); have q635 : x10_1 < (l1.length : Int) := of_decide_eq_true (by first | (with_reducible assumption) | assumption); obtain ⟨ad635, e635, hx635_0⟩ := Kd.at_int HR1.out x10_1 p635 q635
                 cases e635
                 replace hx635_0 := (HB.out.cell (World.block_lt_of_cell? w _ hx635_0)).trans hx635_0; replace p635 := eq_true p635; replace q635 := eq_true q635; obtain ⟨Ao37, co37, eo37⟩ := Kd.R_slice HO_9.out; subst eo37
                 try go_wp2
                 replace HO_9 := rd HO_9; replace BK619 := bd BK619; replace HB := Aside0.mk (below_drew1 HB.out); have p636 : 0 ≤ ((ji26) : Int) := of_decide_eq_true (by first | (with_reducible assumption) | assumption); have q636 : (ji26) < (x9_1.length : Int) := of_decide_eq_true (by first | (with_reducible assumption) | assumption); obtain ⟨ad636, e636, hx636_0, hx636_1⟩ := at_T53 (Kd.R_reads' HO_9.out).2.2 (ji26) p636 q636
                 cases e636
                 replace p636 := eq_true p636; replace q636 := eq_true q636; have p637 : 0 ≤ ((ji29) : Int) := of_decide_eq_true (by first | (with_reducible assumption) | assumption); have q637 : (ji29) < (x9_1.length : Int) := of_decide_eq_true (by first | (with_reducible assumption) | assumption); obtain ⟨ad637, e637, hx637_0, hx637_1⟩ := at_T53 (Kd.R_reads' HO_9.out).2.2 (ji29) p637 q637; obtain rfl : ad636 = ad637 := (by injection e637); replace p637 := eq_true p637; replace q637 := eq_true q637; have p32 : 0 ≤ ((ji29) : Int) := of_decide_eq_true (by first | (with_reducible assumption) | assumption); have q32 : ((ji29) : Int) < ((x9_1.length : Int) : Int) := of_decide_eq_true (by first | (with_reducible assumption) | assumption); obtain ⟨go32, co32, eo32, gb32, gl32, cl32, HG32⟩ := Kd.R_form HO_9.out (by omega)
                 (first | cases eo32 | (injection eo32 with ea_ en_ ec_; (first | subst ea_ | (injection ea_ with ea_; subst ea_)); subst ec_; clear en_))
                 have GB32 := Aside0.mk gb32; have GG32 := Aside0.mk HG32; clear gb32 gl32 HG32
                 (first | simp only [add_plain] at hx636_0 | skip)
                 (first | simp only [add_plain] at hx636_1 | skip)
                 (first | simp only [add_plain] at hx637_0 | skip)
                 (first | simp only [add_plain] at hx637_1 | skip)
                 obtain ⟨ce32, hcl32, hM32, hcc32, hfr32⟩ := Kd.R_elem HO_9.out z53 ((ji29) : Int) p32 q32; obtain rfl := k53_openM hM32; have hx32_0 : World.cell? _ ⟨go32, ((ji29) : Int).toNat * 2, none⟩ = some (.int .i64 ((rd_T53 x9_1 (ji29)).f0)) := hcc32 0 _ rfl; have hx32_1 : World.cell? _ ⟨go32, ((ji29) : Int).toNat * 2 + 1, none⟩ = some (.int .i64 ((rd_T53 x9_1 (ji29)).f1)) := hcc32 1 _ rfl; have hf32_0 : World.frozen? _ ⟨go32, ((ji29) : Int).toNat * 2, none⟩ = false := hfr32 0; have hf32_1 : World.frozen? _ ⟨go32, ((ji29) : Int).toNat * 2 + 1, none⟩ = false := hfr32 1; clear hcl32 hcc32 hfr32 hM32; replace p32 := eq_true p32; replace q32 := eq_true q32; obtain ⟨ce39, hcl39, hM39, hcc39, hfr39⟩ := Kd.R_elem HO_9.out z53 ((ji29) : Int) (of_decide_eq_true (by first | (with_reducible assumption) | assumption)) (by have h_ : ((ji29) : Int) < ((x9_1.length : Int) : Int) := of_decide_eq_true (by first | (with_reducible assumption) | assumption); first | exact h_ | (have e_ := (Kd.R_reads' HO_9.out).1; omega) | simpa using h_); obtain rfl := k53_openM hM39; have HP39 := (Kd.R_seg HO_9.out ((ji29) : Int) (of_decide_eq_true (by first | (with_reducible assumption) | assumption)) (by have h_ : ((ji29) : Int) < ((x9_1.length : Int) : Int) := of_decide_eq_true (by first | (with_reducible assumption) | assumption); first | exact h_ | (have e_ := (Kd.R_reads' HO_9.out).1; omega) | simpa using h_) (seg := [.int .i64 ((rd_T53 x9_1 (ji26)).f0), .int .i64 ((rd_T53 x9_1 (ji26)).f1)]) (j := 0) hcl39 hcc39 (show 2 ≤ 2 from by decide) (x' := (⟨(rd_T53 x9_1 (ji26)).f0, (rd_T53 x9_1 (ji26)).f1⟩ : S53)) (k53_mkM _ _ _ (⟨(rd_T53 x9_1 (ji26)).f0, (rd_T53 x9_1 (ji26)).f1⟩ : S53) ) (fun _ hk => hk)).1
                 rw [← Ny638.out] at HP39; (first | rw [setc2] at HP39 | rw [setc10] at HP39 | rw [setc11] at HP39); have HQ39 : Aside0 (Kd.R k53 53 (World.setCell (World.setCell _ ⟨go32, ((ji29) : Int).toNat * 2, none⟩ _) ⟨go32, ((ji29) : Int).toNat * 2 + 1, none⟩ _) w.heap.size _ _ _) := ⟨HP39⟩; clear hcl39 hcc39 hfr39 hM39 HP39; have p33 : 0 ≤ ((ji26) : Int) := of_decide_eq_true (by first | (with_reducible assumption) | assumption); have q33 : ((ji26) : Int) < ((x9_1.length : Int) : Int) := of_decide_eq_true (by first | (with_reducible assumption) | assumption); obtain ⟨ce33, hcl33, hM33, hcc33, hfr33⟩ := Kd.R_elem HQ39.out z53 ((ji26) : Int) p33 q33; obtain rfl := k53_openM hM33; have hx33_0 : World.cell? _ ⟨go32, ((ji26) : Int).toNat * 2, none⟩ = some (.int .i64 ((rd_T53 y638 (ji26)).f0)) := hcc33 0 _ rfl; have hx33_1 : World.cell? _ ⟨go32, ((ji26) : Int).toNat * 2 + 1, none⟩ = some (.int .i64 ((rd_T53 y638 (ji26)).f1)) := hcc33 1 _ rfl; have hf33_0 : World.frozen? _ ⟨go32, ((ji26) : Int).toNat * 2, none⟩ = false := hfr33 0; have hf33_1 : World.frozen? _ ⟨go32, ((ji26) : Int).toNat * 2 + 1, none⟩ = false := hfr33 1; clear hcl33 hcc33 hfr33 hM33; replace p33 := eq_true p33; replace q33 := eq_true q33; obtain ⟨ce40, hcl40, hM40, hcc40, hfr40⟩ := Kd.R_elem HQ39.out z53 ((ji26) : Int) (of_decide_eq_true (by first | (with_reducible assumption) | assumption)) (by have h_ : ((ji26) : Int) < ((x9_1.length : Int) : Int) := of_decide_eq_true (by first | (with_reducible assumption) | assumption); first | exact h_ | (have e_ := (Kd.R_reads' HO_9.out).1; omega) | simpa using h_); obtain rfl := k53_openM hM40; have HP40 := (Kd.R_seg HQ39.out ((ji26) : Int) (of_decide_eq_true (by first | (with_reducible assumption) | assumption)) (by have h_ : ((ji26) : Int) < ((x9_1.length : Int) : Int) := of_decide_eq_true (by first | (with_reducible assumption) | assumption); first | exact h_ | (have e_ := (Kd.R_reads' HO_9.out).1; omega) | simpa using h_) (seg := [.int .i64 ((rd_T53 x9_1 (ji29)).f0), .int .i64 ((rd_T53 x9_1 (ji29)).f1)]) (j := 0) hcl40 hcc40 (show 2 ≤ 2 from by decide) (x' := (⟨(rd_T53 x9_1 (ji29)).f0, (rd_T53 x9_1 (ji29)).f1⟩ : S53)) (k53_mkM _ _ _ (⟨(rd_T53 x9_1 (ji29)).f0, (rd_T53 x9_1 (ji29)).f1⟩ : S53) ) (fun _ hk => hk)).1
                 rw [← Ny639.out] at HP40; (first | rw [setc2] at HP40 | rw [setc10] at HP40 | rw [setc11] at HP40); have HQ40 : Aside0 (Kd.R k53 53 (World.setCell (World.setCell _ ⟨go32, ((ji26) : Int).toNat * 2, none⟩ _) ⟨go32, ((ji26) : Int).toNat * 2 + 1, none⟩ _) w.heap.size _ _ _) := ⟨HP40⟩; clear hcl40 hcc40 hfr40 hM40 HP40; have hy33_0 := hx33_0; (try simp [go_sem] at hy33_0); have hyf33_0 := hf33_0; (try simp [go_sem] at hyf33_0); have hyf33_1 := hf33_1; (try simp [go_sem] at hyf33_1); refine start_ (n := 16) (S := fun w' => w'.cell? ⟨go32, (((ji26)).toNat * 2), none⟩ = some (.int .i64 ((rd_T53 x9_1 (ji26)).f0)) ∧ w'.cell? ⟨go32, (((ji26)).toNat * 2) + 1, none⟩ = some (.int .i64 ((rd_T53 x9_1 (ji26)).f1)) ∧ w'.cell? ⟨go32, (((ji29)).toNat * 2), none⟩ = some (.int .i64 ((rd_T53 x9_1 (ji29)).f0)) ∧ w'.cell? ⟨go32, (((ji29)).toNat * 2) + 1, none⟩ = some (.int .i64 ((rd_T53 x9_1 (ji29)).f1))) (ds := [13, 15]) (pf 0 16) (by kernel_rfl) rfl rfl ⟨hx636_0, hx636_1, hx637_0, hx637_1⟩ (fun hHeld => ?_); refine with_tabW tangramlaw03_SimpleBack.tab14 tangramlaw03_SimpleBack.bits14 (fun HT_ HW_ => ?_); generalize wc.drew = w38 at HO_9 BK619 HB GG32 HQ39 HQ40 hf32_0 hf32_1 hf33_0 hf33_1 hy33_0 hyf33_0 hyf33_1 hx32_0 hx32_1 hx33_0 hx33_1 hx636_0 hx636_1 hx637_0 hx637_1 hHeld ⊢; refine pu_ 0 (some 64) (pf 1 16) HT_ ?_; refine pu_ 1 (some 65) (pf 2 16) HT_ ?_; refine pu_ 2 (some 66) (pf 3 16) HT_ ?_; refine pu_ 3 (some 67) (pf 4 16) HT_ ?_; refine pu_ 4 (some 68) (pf 5 16) HT_ ?_; refine pu_ 5 (some 69) (pf 6 16) HT_ ?_
                 refine pu_ 6 (some 70) (pf 7 16) HT_ ?_; refine pu_ 8 (some 72) #[T_,T_,T_,T_,T_,T_,T_,F_,T_,F_,F_,F_,F_,F_,F_,F_] HT_ ?_; refine pu_ 9 (some 73) #[T_,T_,T_,T_,T_,T_,T_,F_,T_,T_,F_,F_,F_,F_,F_,F_] HT_ ?_; refine pu_ 10 (some 74) #[T_,T_,T_,T_,T_,T_,T_,F_,T_,T_,T_,F_,F_,F_,F_,F_] HT_ ?_; refine tk4_ 7 (some 71) (pf 11 16) HT_ HW_ hHeld ?_; refine tk4_ 11 (some 75) (pf 12 16) HT_ HW_ hHeld ?_; refine pu_ 12 (some 76) (pf 13 16) HT_ ?_; refine last_ (i := 13) (N := none) (pf 14 16) rfl rfl (one_of HT_.out (by kernel_rfl)) (by decide) (fun K hK => ?_); refine skip_ (w1 := ?_) (by rfl) rfl ?_ ?_; rotate_left
                 ·go_simp; rfl
                 refine hK.out _ _ ?_; clear hK K; refine pu_ 14 (some 77) (pf 15 16) HT_ ?_; refine last_ (i := 15) (N := none) (pf 16 16) rfl rfl (one_of HT_.out (by kernel_rfl)) (by decide) (fun K hK => ?_); refine skip_ (w1 := ?_) (by rfl) rfl ?_ ?_; rotate_left
                 ·go_simp; rfl
                 refine hK.out _ _ ?_; clear hK K; refine done_ (done_of HT_.out (by kernel_rfl)) ?_
                 try go_wp2
                 have n0_ : Aside0 (Kd.R k53 53 ((((w38.setCell ⟨go32, ((ji29) : Int).toNat * 2, none⟩ (.int .i64 ((rd_T53 x9_1 (ji26)).f0))).setCell ⟨go32, ((ji29) : Int).toNat * 2 + 1, none⟩ (.int .i64 ((rd_T53 x9_1 (ji26)).f1))).setCell ⟨go32, ((ji26) : Int).toNat * 2, none⟩ (.int .i64 ((rd_T53 x9_1 (ji29)).f0))).setCell ⟨go32, ((ji26) : Int).toNat * 2 + 1, none⟩ (.int .i64 ((rd_T53 x9_1 (ji29)).f1))) w.heap.size (fun _ => True) (.slice (some ⟨go32, 0, none⟩) x9_1.length co37) y639) := ⟨by first | exact rx HQ40 | exact HQ40.out⟩; have n1_ : Aside0 (((((w38.setCell ⟨go32, ((ji29) : Int).toNat * 2, none⟩ (.int .i64 ((rd_T53 x9_1 (ji26)).f0))).setCell ⟨go32, ((ji29) : Int).toNat * 2 + 1, none⟩ (.int .i64 ((rd_T53 x9_1 (ji26)).f1))).setCell ⟨go32, ((ji26) : Int).toNat * 2, none⟩ (.int .i64 ((rd_T53 x9_1 (ji29)).f0))).setCell ⟨go32, ((ji26) : Int).toNat * 2 + 1, none⟩ (.int .i64 ((rd_T53 x9_1 (ji29)).f1))).heap[gb619]? = some (.cells #[.int .i64 a0_0, .slice A0_1 l0_1.length c0_1] 26 (0, 0))) := ⟨by (with_reducible repeat (first | refine blk_drewN ?_ _ | refine blk_drew ?_ | refine blk_alloc ?_ _)); refine blk_far ?_ (by have h_ := Kd.R_ne HO_9.out BK619.out (by decide); intro e_; exact h_ (by rw [e_]; rfl)) _; (with_reducible repeat (first | refine blk_drewN ?_ _ | refine blk_drew ?_ | refine blk_alloc ?_ _)); refine blk_far ?_ (by have h_ := Kd.R_ne HO_9.out BK619.out (by decide); intro e_; exact h_ (by rw [e_]; rfl)) _; (with_reducible repeat (first | refine blk_drewN ?_ _ | refine blk_drew ?_ | refine blk_alloc ?_ _)); refine blk_far ?_ (by have h_ := Kd.R_ne HO_9.out BK619.out (by decide); intro e_; exact h_ (by rw [e_]; rfl)) _; (with_reducible repeat (first | refine blk_drewN ?_ _ | refine blk_drew ?_ | refine blk_alloc ?_ _)); refine blk_far ?_ (by have h_ := Kd.R_ne HO_9.out BK619.out (by decide); intro e_; exact h_ (by rw [e_]; rfl)) _; (with_reducible repeat (first | refine blk_drewN ?_ _ | refine blk_drew ?_ | refine blk_alloc ?_ _)); exact BK619.out⟩
                 have n2_ : Aside0 (Below w.heap.size w ((((w38.setCell ⟨go32, ((ji29) : Int).toNat * 2, none⟩ (.int .i64 ((rd_T53 x9_1 (ji26)).f0))).setCell ⟨go32, ((ji29) : Int).toNat * 2 + 1, none⟩ (.int .i64 ((rd_T53 x9_1 (ji26)).f1))).setCell ⟨go32, ((ji26) : Int).toNat * 2, none⟩ (.int .i64 ((rd_T53 x9_1 (ji29)).f0))).setCell ⟨go32, ((ji26) : Int).toNat * 2 + 1, none⟩ (.int .i64 ((rd_T53 x9_1 (ji29)).f1)))) := ⟨hb5 HB GB32 GB32 GB32 GB32 GE619⟩
                 (try clear HO_9)
                 (try clear BK619)
                 (try clear HB)
                 generalize ((((w38.setCell ⟨go32, ((ji29) : Int).toNat * 2, none⟩ (.int .i64 ((rd_T53 x9_1 (ji26)).f0))).setCell ⟨go32, ((ji29) : Int).toNat * 2 + 1, none⟩ (.int .i64 ((rd_T53 x9_1 (ji26)).f1))).setCell ⟨go32, ((ji26) : Int).toNat * 2, none⟩ (.int .i64 ((rd_T53 x9_1 (ji29)).f0))).setCell ⟨go32, ((ji26) : Int).toNat * 2 + 1, none⟩ (.int .i64 ((rd_T53 x9_1 (ji29)).f1))) = w41 at n0_ n1_ n2_ ⊢; have HO_9 := n0_; have BK619 := n1_; have HB := n2_; clear n0_ n1_ n2_; replace HO_9 := rd HO_9; replace BK619 := bd BK619; replace HB := Aside0.mk (below_drew1 HB.out); have p640 : 0 ≤ ((ji29) : Int) := of_decide_eq_true (by first | (with_reducible assumption) | assumption); have q640 : (ji29) < (y639.length : Int) := (by have h_ : ((ji29) : Int) < ((x9_1.length : Int) : Int) := of_decide_eq_true (by first | (with_reducible assumption) | assumption); first | (have e_ := (Kd.R_reads' HO_9.out).1; omega) | simpa only [Ny638.out, Ny639.out, List.length_set] using h_); have ql640 : (((ji29) : Int) < ((x9_1.length : Int) : Int)) = True := eq_true (of_decide_eq_true (by first | (with_reducible assumption) | assumption)); obtain ⟨ad640, e640, hx640_0, hx640_1⟩ := at_T53 (Kd.R_reads' HO_9.out).2.2 (ji29) p640 q640; obtain rfl : (⟨go32, 0, none⟩ : Addr) = ad640 := (by injection e640)
                 (first | simp only [add_plain] at hx640_0 | simp only [add_at] at hx640_0 | simp only [Addr.add, Nat.zero_add] at hx640_0 | skip)
                 (first | simp only [add_plain] at hx640_1 | simp only [add_at] at hx640_1 | simp only [Addr.add, Nat.zero_add] at hx640_1 | skip)
                 replace p640 := eq_true p640; replace q640 := eq_true q640; have p641 : 0 ≤ ((ji29) : Int) := of_decide_eq_true (by first | (with_reducible assumption) | assumption); have q641 : (ji29) < (y639.length : Int) := (by have h_ : ((ji29) : Int) < ((x9_1.length : Int) : Int) := of_decide_eq_true (by first | (with_reducible assumption) | assumption); first | (have e_ := (Kd.R_reads' HO_9.out).1; omega) | simpa only [Ny638.out, Ny639.out, List.length_set] using h_); have ql641 : (((ji29) : Int) < ((x9_1.length : Int) : Int)) = True := eq_true (of_decide_eq_true (by first | (with_reducible assumption) | assumption)); obtain ⟨ad641, e641, hx641_0, hx641_1⟩ := at_T53 (Kd.R_reads' HO_9.out).2.2 (ji29) p641 q641; obtain rfl : (⟨go32, 0, none⟩ : Addr) = ad641 := (by injection e641)
                 (first | simp only [add_plain] at hx641_0 | simp only [add_at] at hx641_0 | simp only [Addr.add, Nat.zero_add] at hx641_0 | skip)
                 (first | simp only [add_plain] at hx641_1 | simp only [add_at] at hx641_1 | simp only [Addr.add, Nat.zero_add] at hx641_1 | skip)
                 replace p641 := eq_true p641; replace q641 := eq_true q641; have p34 : 0 ≤ ((ji29) : Int) := of_decide_eq_true (by first | (with_reducible assumption) | assumption); have q34 : ((ji29) : Int) < ((x9_1.length : Int) : Int) := of_decide_eq_true (by first | (with_reducible assumption) | assumption); obtain ⟨ce34, hcl34, hM34, hcc34, hfr34⟩ := Kd.R_elem HO_9.out z53 ((ji29) : Int) p34 q34; obtain rfl := k53_openM hM34; have hx34_0 : World.cell? _ ⟨go32, ((ji29) : Int).toNat * 2, none⟩ = some (.int .i64 ((rd_T53 y639 (ji29)).f0)) := hcc34 0 _ rfl; have hx34_1 : World.cell? _ ⟨go32, ((ji29) : Int).toNat * 2 + 1, none⟩ = some (.int .i64 ((rd_T53 y639 (ji29)).f1)) := hcc34 1 _ rfl; have hf34_0 : World.frozen? _ ⟨go32, ((ji29) : Int).toNat * 2, none⟩ = false := hfr34 0; have hf34_1 : World.frozen? _ ⟨go32, ((ji29) : Int).toNat * 2 + 1, none⟩ = false := hfr34 1; clear hcl34 hcc34 hfr34 hM34; replace p34 := eq_true p34; replace q34 := eq_true q34; obtain ⟨ce43, hcl43, hM43, hcc43, hfr43⟩ := Kd.R_elem HO_9.out z53 ((ji29) : Int) (of_decide_eq_true (by first | (with_reducible assumption) | assumption)) (by have h_ : ((ji29) : Int) < ((x9_1.length : Int) : Int) := of_decide_eq_true (by first | (with_reducible assumption) | assumption); first | exact h_ | (have e_ := (Kd.R_reads' HO_9.out).1; omega) | simpa using h_); obtain rfl := k53_openM hM43; have HP43 := (Kd.R_seg HO_9.out ((ji29) : Int) (of_decide_eq_true (by first | (with_reducible assumption) | assumption)) (by have h_ : ((ji29) : Int) < ((x9_1.length : Int) : Int) := of_decide_eq_true (by first | (with_reducible assumption) | assumption); first | exact h_ | (have e_ := (Kd.R_reads' HO_9.out).1; omega) | simpa using h_) (seg := [.int .i64 ((rd_T53 y639 (ji29)).f1)]) (j := 0) hcl43 hcc43 (show 1 ≤ 2 from by decide) (x' := (⟨(rd_T53 y639 (ji29)).f1, (rd_T53 y639 (ji29)).f1⟩ : S53)) (k53_mkM _ _ _ (⟨(rd_T53 y639 (ji29)).f1, (rd_T53 y639 (ji29)).f1⟩ : S53) ) (fun _ hk => hk)).1
                 rw [← Ny642.out] at HP43; (first | rw [setc2] at HP43 | rw [setc10] at HP43 | rw [setc11] at HP43); have HQ43 : Aside0 (Kd.R k53 53 (World.setCell _ ⟨go32, ((ji29) : Int).toNat * 2, none⟩ _) w.heap.size _ _ _) := ⟨HP43⟩; clear hcl43 hcc43 hfr43 hM43 HP43; have p35 : 0 ≤ ((ji29) : Int) := of_decide_eq_true (by first | (with_reducible assumption) | assumption); have q35 : ((ji29) : Int) < ((x9_1.length : Int) : Int) := of_decide_eq_true (by first | (with_reducible assumption) | assumption); replace p35 := eq_true p35; replace q35 := eq_true q35; obtain ⟨ce44, hcl44, hM44, hcc44, hfr44⟩ := Kd.R_elem HQ43.out z53 ((ji29) : Int) (of_decide_eq_true (by first | (with_reducible assumption) | assumption)) (by have h_ : ((ji29) : Int) < ((x9_1.length : Int) : Int) := of_decide_eq_true (by first | (with_reducible assumption) | assumption); first | exact h_ | (have e_ := (Kd.R_reads' HO_9.out).1; omega) | simpa using h_); obtain rfl := k53_openM hM44; have HP44 := (Kd.R_seg HQ43.out ((ji29) : Int) (of_decide_eq_true (by first | (with_reducible assumption) | assumption)) (by have h_ : ((ji29) : Int) < ((x9_1.length : Int) : Int) := of_decide_eq_true (by first | (with_reducible assumption) | assumption); first | exact h_ | (have e_ := (Kd.R_reads' HO_9.out).1; omega) | simpa using h_) (seg := [.int .i64 ((rd_T53 y639 (ji29)).f0)]) (j := 1) hcl44 hcc44 (show 2 ≤ 2 from by decide) (x' := (⟨(rd_T53 y642 (ji29)).f0, (rd_T53 y639 (ji29)).f0⟩ : S53)) (k53_mkM _ _ _ (⟨(rd_T53 y642 (ji29)).f0, (rd_T53 y639 (ji29)).f0⟩ : S53) ) (fun _ hk => hk)).1; rw [← Ny643.out] at HP44; (first | rw [setc2] at HP44 | rw [setc10] at HP44 | rw [setc11] at HP44); have HQ44 : Aside0 (Kd.R k53 53 (World.setCell _ ⟨go32, ((ji29) : Int).toNat * 2 + 1, none⟩ _) w.heap.size _ _ _) := ⟨HP44⟩; clear hcl44 hcc44 hfr44 hM44 HP44; refine start_ (n := 20) (S := fun w' => w'.cell? ⟨go32, ((ji29)).toNat * 2, none⟩ = some (.int .i64 ((rd_T53 y639 (ji29)).f0)) ∧ w'.cell? ⟨go32, ((ji29)).toNat * 2 + 1, none⟩ = some (.int .i64 ((rd_T53 y639 (ji29)).f1)) ∧ w'.cell? ⟨go32, ((ji29)).toNat * 2, none⟩ = some (.int .i64 ((rd_T53 y639 (ji29)).f0)) ∧ w'.cell? ⟨go32, ((ji29)).toNat * 2 + 1, none⟩ = some (.int .i64 ((rd_T53 y639 (ji29)).f1))) (ds := [16, 19]) (pf 0 20) (by kernel_rfl) rfl rfl ⟨hx640_0, hx640_1, hx641_0, hx641_1⟩ (fun hHeld => ?_); refine with_tabW tangramlaw03_SimpleBack.tab15 tangramlaw03_SimpleBack.bits15 (fun HT_ HW_ => ?_)
                 generalize w41.drew = w42 at HO_9 BK619 HB HQ40 HQ43 HQ44 hf34_0 hf34_1 hx34_0 hx34_1 hx640_0 hx640_1 hx641_0 hx641_1 hHeld ⊢; refine pu_ 0 (some 78) (pf 1 20) HT_ ?_; refine pu_ 1 (some 79) (pf 2 20) HT_ ?_; refine pu_ 2 (some 80) (pf 3 20) HT_ ?_; refine pu_ 3 (some 81) (pf 4 20) HT_ ?_; refine pu_ 4 (some 82) (pf 5 20) HT_ ?_; refine pu_ 5 (some 83) (pf 6 20) HT_ ?_; refine pu_ 6 (some 84) (pf 7 20) HT_ ?_; refine pu_ 7 (some 85) (pf 8 20) HT_ ?_; refine pu_ 9 (some 87) #[T_,T_,T_,T_,T_,T_,T_,T_,F_,T_,F_,F_,F_,F_,F_,F_,F_,F_,F_,F_] HT_ ?_; refine pu_ 10 (some 88) #[T_,T_,T_,T_,T_,T_,T_,T_,F_,T_,T_,F_,F_,F_,F_,F_,F_,F_,F_,F_] HT_ ?_; refine pu_ 11 (some 89) #[T_,T_,T_,T_,T_,T_,T_,T_,F_,T_,T_,T_,F_,F_,F_,F_,F_,F_,F_,F_] HT_ ?_; refine pu_ 12 (some 90) #[T_,T_,T_,T_,T_,T_,T_,T_,F_,T_,T_,T_,T_,F_,F_,F_,F_,F_,F_,F_] HT_ ?_; refine pu_ 14 (some 92) #[T_,T_,T_,T_,T_,T_,T_,T_,F_,T_,T_,T_,T_,F_,T_,F_,F_,F_,F_,F_] HT_ ?_; refine pu_ 17 (some 94) #[T_,T_,T_,T_,T_,T_,T_,T_,F_,T_,T_,T_,T_,F_,T_,F_,F_,T_,F_,F_] HT_ ?_; refine tk4_ 8 (some 86) #[T_,T_,T_,T_,T_,T_,T_,T_,T_,T_,T_,T_,T_,F_,T_,F_,F_,T_,F_,F_] HT_ HW_ hHeld ?_
                 refine tk4_ 13 (some 91) #[T_,T_,T_,T_,T_,T_,T_,T_,T_,T_,T_,T_,T_,T_,T_,F_,F_,T_,F_,F_] HT_ HW_ hHeld ?_; refine pu_ 15 (some 93) #[T_,T_,T_,T_,T_,T_,T_,T_,T_,T_,T_,T_,T_,T_,T_,T_,F_,T_,F_,F_] HT_ ?_; refine last_ (i := 16) (N := none) (pf 18 20) rfl rfl (one_of HT_.out (by kernel_rfl)) (by decide) (fun K hK => ?_); refine skip_ (w1 := ?_) (by rfl) rfl ?_ ?_; rotate_left
                 ·go_simp; rfl
                 refine hK.out _ _ ?_; clear hK K; refine pu_ 18 (some 95) (pf 19 20) HT_ ?_; refine last_ (i := 19) (N := none) (pf 20 20) rfl rfl (one_of HT_.out (by kernel_rfl)) (by decide) (fun K hK => ?_); refine skip_ (w1 := ?_) (by rfl) rfl ?_ ?_; rotate_left
                 ·go_simp; rfl
                 refine hK.out _ _ ?_; clear hK K; refine done_ (done_of HT_.out (by kernel_rfl)) ?_; have p644 : 0 ≤ ((ji26) : Int) := of_decide_eq_true (by first | (with_reducible assumption) | assumption); have q644 : (ji26) < (y643.length : Int) := (by have h_ : ((ji26) : Int) < ((x9_1.length : Int) : Int) := of_decide_eq_true (by first | (with_reducible assumption) | assumption); first | (have e_ := (Kd.R_reads' HO_9.out).1; omega) | simpa only [Ny638.out, Ny639.out, Ny642.out, Ny643.out, List.length_set] using h_); have ql644 : (((ji26) : Int) < ((x9_1.length : Int) : Int)) = True := eq_true (of_decide_eq_true (by first | (with_reducible assumption) | assumption)); obtain ⟨ad644, e644, hx644_0, hx644_1⟩ := at_T53 (Kd.R_reads' HQ44.out).2.2 (ji26) p644 q644; obtain rfl : (⟨go32, 0, none⟩ : Addr) = ad644 := (by injection e644)
                 (first | simp only [add_plain] at hx644_0 | simp only [add_at] at hx644_0 | simp only [Addr.add, Nat.zero_add] at hx644_0 | skip)
                 (first | simp only [add_plain] at hx644_1 | simp only [add_at] at hx644_1 | simp only [Addr.add, Nat.zero_add] at hx644_1 | skip)
                 have hy644_0 := hx644_0; (try simp [go_sem] at hy644_0)
                 replace p644 := eq_true p644; replace q644 := eq_true q644
                 try go_wp2_with (first | ((with_reducible refine gate_builtin (b := .append) (xs := #[.tmp 96, .tmp 101]) rfl ?_); (try (refine gate_guard (by rfl) ?_; dsimp only)); at_builtin; refine Kd.R_append k53 (w0 := w) w.heap.size rfl (.tmp 96) (.tmp 101) 22 53 (.agg #[(.int .i64 0), (.int .i64 0)]) 16 rfl Tryd.underlying22 info53 rfl (by decide) (by omega) (.slice (some ⟨go32, 0, none⟩) x9_1.length co37) y643 (⟨(rd_T53 y643 (ji26)).f0, (rd_T53 y643 (ji26)).f1⟩ : S53) [.int .i64 ((rd_T53 y643 (ji26)).f0), .int .i64 ((rd_T53 y643 (ji26)).f1)] (fun _ => True) (fun _ => False) rfl (by first | (go_simp; done) | (go_simp; rfl)) ?aP (fun _ hk => hk.elim) ?aF ?aO ?aB ?aS ?aL ?_; (case aP => exact k53_mkM _ _ _ (⟨(rd_T53 y643 (ji26)).f0, (rd_T53 y643 (ji26)).f1⟩ : S53)); (case aB => exact (hb3 HB GB32 GB32 GE619)); (case aF => exact (fun _ _ => trivial)); (case aO => exact (rx HQ44)); (case aS => exact (below_size (hb3 HB GB32 GB32 GE619))); (case aL => have := LMc36.out; omega); intro v646 w45 ho hb hg hat; rw [← Ny645.out] at ho; have n0_ := Aside0.mk (blk_grown (g := gb619) (o := .cells #[.int .i64 a0_0, .slice A0_1 l0_1.length c0_1] 26 (0, 0)) (by (with_reducible repeat (first | refine blk_drewN ?_ _ | refine blk_drew ?_ | refine blk_alloc ?_ _)); refine blk_far ?_ (by have h_ := Kd.R_ne HO_9.out BK619.out (by decide); intro e_; exact h_ (by rw [e_]; rfl)) _; (with_reducible repeat (first | refine blk_drewN ?_ _ | refine blk_drew ?_ | refine blk_alloc ?_ _)); refine blk_far ?_ (by have h_ := Kd.R_ne HO_9.out BK619.out (by decide); intro e_; exact h_ (by rw [e_]; rfl)) _; (with_reducible repeat (first | refine blk_drewN ?_ _ | refine blk_drew ?_ | refine blk_alloc ?_ _)); exact BK619.out) hg (Kd.R_ne HO_9.out BK619.out (by decide))); have n1_ := Aside0.mk (hb); have n2_ := Aside0.mk (ho); clear BK619; clear HB; clear HO_9; have BK619 := n0_; have HB := n1_; have HO647 := n2_; clear n0_ n1_ n2_; clear ho hb hg hat))
                 go_roundg kj17
                 case measure => have := HK1.out; have := HJ17.out; omega
                 case rel => exact ⟨(y645), (wrap64 (x10_1 + 1)), (by first | rfl | (simp; done) | (simp [*]; done)), H', ⟨by have := HK1.out; have := HJ17.out; omega⟩, ⟨rx HO647⟩, ⟨bx BK619⟩, ⟨hb1 HB GE619⟩⟩
                ·rw [if_neg c36] at H; exact absurd H (by simp)
               ·rw [if_neg c31] at H; exact absurd H (by simp)
              ·rw [if_neg c30] at H; exact absurd H (by simp)
             ·rw [if_neg c28] at H; exact absurd H (by simp)
            ·rw [if_neg c27] at H; exact absurd H (by simp)
           ·rw [if_neg c25] at H; have c25b0 : decide ((Int.tmod (rd l1 x10_1) (x9_1.length : Int)) < 0) = false := decide_eq_false c25; clear c25; obtain ⟨ji46, hji46⟩ : ∃ j_ : Int, (Int.tmod (rd l1 x10_1) (x9_1.length : Int)) = j_ := ⟨_, rfl⟩; replace H : (if 0 ≤ (ji46) then (if (ji46) < (x9_1.length : Int) then (if 0 ≤ (Int.tmod x10_1 (x9_1.length : Int)) then (if (Int.tmod x10_1 (x9_1.length : Int)) < (x9_1.length : Int) then ((some ((x9_1.set ((Int.tmod x10_1 (x9_1.length : Int)) : Int).toNat (⟨(rd_T53 x9_1 (ji46)).f0, (rd_T53 x9_1 (ji46)).f1⟩ : S53)).set ((ji46) : Int).toNat (⟨(rd_T53 x9_1 (Int.tmod x10_1 (x9_1.length : Int))).f0, (rd_T53 x9_1 (Int.tmod x10_1 (x9_1.length : Int))).f1⟩ : S53) : List (S53))).bind fun y651 => ((some (y651.set ((Int.tmod x10_1 (x9_1.length : Int)) : Int).toNat (⟨(rd_T53 y651 (Int.tmod x10_1 (x9_1.length : Int))).f1, (rd_T53 y651 (Int.tmod x10_1 (x9_1.length : Int))).f1⟩ : S53) : List (S53))).bind fun y654 => ((some (y654.set ((Int.tmod x10_1 (x9_1.length : Int)) : Int).toNat (⟨(rd_T53 y654 (Int.tmod x10_1 (x9_1.length : Int))).f0, (rd_T53 y651 (Int.tmod x10_1 (x9_1.length : Int))).f0⟩ : S53) : List (S53))).bind fun y655 => (if y655.length < 8796093022208 then (tangramlaw03_SimpleBack.l0 kj17 l1 l2 (y655 ++ [(⟨(rd_T53 y655 (ji46)).f0, (rd_T53 y655 (ji46)).f1⟩ : S53)]) (wrap64 (x10_1 + 1)) a0_0 l0_1) else (none))))) else (none)) else (none)) else (none)) else (none)) = some r := by first | (rw [hji46] at H; exact H) | (simp only [hji46] at H ⊢; exact H)
            (try rw [hji46] at c25b0)
            by_cases c47 : 0 ≤ (ji46)
            ·rw [if_pos c47] at H; have c47b0 : decide (0 ≤ (ji46)) = true := decide_eq_true c47; clear c47
             by_cases c48 : (ji46) < (x9_1.length : Int)
             ·rw [if_pos c48] at H; have c48b0 : decide ((ji46) < (x9_1.length : Int)) = true := decide_eq_true c48; clear c48; obtain ⟨ji49, hji49⟩ : ∃ j_ : Int, (Int.tmod x10_1 (x9_1.length : Int)) = j_ := ⟨_, rfl⟩; replace H : (if 0 ≤ (ji49) then (if (ji49) < (x9_1.length : Int) then ((some ((x9_1.set ((ji49) : Int).toNat (⟨(rd_T53 x9_1 (ji46)).f0, (rd_T53 x9_1 (ji46)).f1⟩ : S53)).set ((ji46) : Int).toNat (⟨(rd_T53 x9_1 (ji49)).f0, (rd_T53 x9_1 (ji49)).f1⟩ : S53) : List (S53))).bind fun y651 => ((some (y651.set ((ji49) : Int).toNat (⟨(rd_T53 y651 (ji49)).f1, (rd_T53 y651 (ji49)).f1⟩ : S53) : List (S53))).bind fun y654 => ((some (y654.set ((ji49) : Int).toNat (⟨(rd_T53 y654 (ji49)).f0, (rd_T53 y651 (ji49)).f0⟩ : S53) : List (S53))).bind fun y655 => (if y655.length < 8796093022208 then (tangramlaw03_SimpleBack.l0 kj17 l1 l2 (y655 ++ [(⟨(rd_T53 y655 (ji46)).f0, (rd_T53 y655 (ji46)).f1⟩ : S53)]) (wrap64 (x10_1 + 1)) a0_0 l0_1) else (none))))) else (none)) else (none)) = some r := by first | (rw [hji49] at H; exact H) | (simp only [hji49] at H ⊢; exact H)
              by_cases c50 : 0 ≤ (ji49)
              ·rw [if_pos c50] at H; have c50b0 : decide (0 ≤ (ji49)) = true := decide_eq_true c50; clear c50
               by_cases c51 : (ji49) < (x9_1.length : Int)
               ·rw [if_pos c51] at H; have c51b0 : decide ((ji49) < (x9_1.length : Int)) = true := decide_eq_true c51; clear c51; obtain ⟨y650, hy650⟩ : ∃ y_ : List (S53), y_ = (x9_1.set ((ji49) : Int).toNat (⟨(rd_T53 x9_1 (ji46)).f0, (rd_T53 x9_1 (ji46)).f1⟩ : S53)) := ⟨_, rfl⟩; replace H : ((some (y650.set ((ji46) : Int).toNat (⟨(rd_T53 x9_1 (ji49)).f0, (rd_T53 x9_1 (ji49)).f1⟩ : S53) : List (S53))).bind fun y651 => ((some (y651.set ((ji49) : Int).toNat (⟨(rd_T53 y651 (ji49)).f1, (rd_T53 y651 (ji49)).f1⟩ : S53) : List (S53))).bind fun y654 => ((some (y654.set ((ji49) : Int).toNat (⟨(rd_T53 y654 (ji49)).f0, (rd_T53 y651 (ji49)).f0⟩ : S53) : List (S53))).bind fun y655 => (if y655.length < 8796093022208 then (tangramlaw03_SimpleBack.l0 kj17 l1 l2 (y655 ++ [(⟨(rd_T53 y655 (ji46)).f0, (rd_T53 y655 (ji46)).f1⟩ : S53)]) (wrap64 (x10_1 + 1)) a0_0 l0_1) else (none))))) = some r := by first | (rw [hy650]; with_reducible exact H) | (have H2_ := (Option.bind_some _ _).symm.trans H; rw [hy650]; with_reducible exact H2_) | (have H2_ := (Option.bind_some _ _).symm.trans H; with_reducible exact H2_) | with_reducible exact H | (rw [hy650]; exact H) | exact H
                have Ny650 := Aside0.mk hy650; clear hy650; obtain ⟨y651, hy651⟩ : ∃ y_ : List (S53), y_ = (y650.set ((ji46) : Int).toNat (⟨(rd_T53 x9_1 (ji49)).f0, (rd_T53 x9_1 (ji49)).f1⟩ : S53)) := ⟨_, rfl⟩; replace H : ((some (y651.set ((ji49) : Int).toNat (⟨(rd_T53 y651 (ji49)).f1, (rd_T53 y651 (ji49)).f1⟩ : S53) : List (S53))).bind fun y654 => ((some (y654.set ((ji49) : Int).toNat (⟨(rd_T53 y654 (ji49)).f0, (rd_T53 y651 (ji49)).f0⟩ : S53) : List (S53))).bind fun y655 => (if y655.length < 8796093022208 then (tangramlaw03_SimpleBack.l0 kj17 l1 l2 (y655 ++ [(⟨(rd_T53 y655 (ji46)).f0, (rd_T53 y655 (ji46)).f1⟩ : S53)]) (wrap64 (x10_1 + 1)) a0_0 l0_1) else (none)))) = some r := by first | (rw [hy651]; with_reducible exact H) | (have H2_ := (Option.bind_some _ _).symm.trans H; rw [hy651]; with_reducible exact H2_) | (have H2_ := (Option.bind_some _ _).symm.trans H; with_reducible exact H2_) | with_reducible exact H | (rw [hy651]; exact H) | exact H
                have Ny651 := Aside0.mk hy651; clear hy651; obtain ⟨y654, hy654⟩ : ∃ y_ : List (S53), y_ = (y651.set ((ji49) : Int).toNat (⟨(rd_T53 y651 (ji49)).f1, (rd_T53 y651 (ji49)).f1⟩ : S53)) := ⟨_, rfl⟩; replace H : ((some (y654.set ((ji49) : Int).toNat (⟨(rd_T53 y654 (ji49)).f0, (rd_T53 y651 (ji49)).f0⟩ : S53) : List (S53))).bind fun y655 => (if y655.length < 8796093022208 then (tangramlaw03_SimpleBack.l0 kj17 l1 l2 (y655 ++ [(⟨(rd_T53 y655 (ji46)).f0, (rd_T53 y655 (ji46)).f1⟩ : S53)]) (wrap64 (x10_1 + 1)) a0_0 l0_1) else (none))) = some r := by first | (rw [hy654]; with_reducible exact H) | (have H2_ := (Option.bind_some _ _).symm.trans H; rw [hy654]; with_reducible exact H2_) | (have H2_ := (Option.bind_some _ _).symm.trans H; with_reducible exact H2_) | with_reducible exact H | (rw [hy654]; exact H) | exact H
                have Ny654 := Aside0.mk hy654; clear hy654; obtain ⟨y655, hy655⟩ : ∃ y_ : List (S53), y_ = (y654.set ((ji49) : Int).toNat (⟨(rd_T53 y654 (ji49)).f0, (rd_T53 y651 (ji49)).f0⟩ : S53)) := ⟨_, rfl⟩; replace H : (if y655.length < 8796093022208 then (tangramlaw03_SimpleBack.l0 kj17 l1 l2 (y655 ++ [(⟨(rd_T53 y655 (ji46)).f0, (rd_T53 y655 (ji46)).f1⟩ : S53)]) (wrap64 (x10_1 + 1)) a0_0 l0_1) else (none)) = some r := by first | (rw [hy655]; with_reducible exact H) | (have H2_ := (Option.bind_some _ _).symm.trans H; rw [hy655]; with_reducible exact H2_) | (have H2_ := (Option.bind_some _ _).symm.trans H; with_reducible exact H2_) | with_reducible exact H | (rw [hy655]; exact H) | exact H
                have Ny655 := Aside0.mk hy655; clear hy655
                by_cases c56 : y655.length < 8796093022208
                ·rw [if_pos c56] at H; have LMc56 := Aside0.mk c56; clear c56; obtain ⟨y657, hy657⟩ : ∃ y_ : List (S53), y_ = (y655 ++ [(⟨(rd_T53 y655 (ji46)).f0, (rd_T53 y655 (ji46)).f1⟩ : S53)]) := ⟨_, rfl⟩; replace H : (tangramlaw03_SimpleBack.l0 kj17 l1 l2 y657 (wrap64 (x10_1 + 1)) a0_0 l0_1) = some r := by first | (rw [hy657]; with_reducible exact H) | (have H2_ := (Option.bind_some _ _).symm.trans H; rw [hy657]; with_reducible exact H2_) | (have H2_ := (Option.bind_some _ _).symm.trans H; with_reducible exact H2_) | with_reducible exact H | (rw [hy657]; exact H) | exact H
                 have Ny657 := Aside0.mk hy657; clear hy657; have H' := Aside0.mk H; clear H; have p635 : 0 ≤ (x10_1 : Int) := of_decide_eq_true (by first | (with_reducible assumption) | assumption); have q635 : x10_1 < (l1.length : Int) := of_decide_eq_true (by first | (with_reducible assumption) | assumption); obtain ⟨ad635, e635, hx635_0⟩ := Kd.at_int HR1.out x10_1 p635 q635
                 cases e635
                 replace hx635_0 := (HB.out.cell (World.block_lt_of_cell? w _ hx635_0)).trans hx635_0; replace p635 := eq_true p635; replace q635 := eq_true q635; obtain ⟨Ao57, co57, eo57⟩ := Kd.R_slice HO_9.out; subst eo57
                 try go_wp2
                 replace HO_9 := rd HO_9; replace BK619 := bd BK619; replace HB := Aside0.mk (below_drew1 HB.out); have p648 : 0 ≤ ((ji46) : Int) := of_decide_eq_true (by first | (with_reducible assumption) | assumption); have q648 : (ji46) < (x9_1.length : Int) := of_decide_eq_true (by first | (with_reducible assumption) | assumption); obtain ⟨ad648, e648, hx648_0, hx648_1⟩ := at_T53 (Kd.R_reads' HO_9.out).2.2 (ji46) p648 q648
                 cases e648
                 replace p648 := eq_true p648; replace q648 := eq_true q648; have p649 : 0 ≤ ((ji49) : Int) := of_decide_eq_true (by first | (with_reducible assumption) | assumption); have q649 : (ji49) < (x9_1.length : Int) := of_decide_eq_true (by first | (with_reducible assumption) | assumption); obtain ⟨ad649, e649, hx649_0, hx649_1⟩ := at_T53 (Kd.R_reads' HO_9.out).2.2 (ji49) p649 q649; obtain rfl : ad648 = ad649 := (by injection e649); replace p649 := eq_true p649; replace q649 := eq_true q649; have p52 : 0 ≤ ((ji49) : Int) := of_decide_eq_true (by first | (with_reducible assumption) | assumption); have q52 : ((ji49) : Int) < ((x9_1.length : Int) : Int) := of_decide_eq_true (by first | (with_reducible assumption) | assumption); obtain ⟨go52, co52, eo52, gb52, gl52, cl52, HG52⟩ := Kd.R_form HO_9.out (by omega)
                 (first | cases eo52 | (injection eo52 with ea_ en_ ec_; (first | subst ea_ | (injection ea_ with ea_; subst ea_)); subst ec_; clear en_))
                 have GB52 := Aside0.mk gb52; have GG52 := Aside0.mk HG52; clear gb52 gl52 HG52
                 (first | simp only [add_plain] at hx648_0 | skip)
                 (first | simp only [add_plain] at hx648_1 | skip)
                 (first | simp only [add_plain] at hx649_0 | skip)
                 (first | simp only [add_plain] at hx649_1 | skip)
                 obtain ⟨ce52, hcl52, hM52, hcc52, hfr52⟩ := Kd.R_elem HO_9.out z53 ((ji49) : Int) p52 q52; obtain rfl := k53_openM hM52; have hx52_0 : World.cell? _ ⟨go52, ((ji49) : Int).toNat * 2, none⟩ = some (.int .i64 ((rd_T53 x9_1 (ji49)).f0)) := hcc52 0 _ rfl; have hx52_1 : World.cell? _ ⟨go52, ((ji49) : Int).toNat * 2 + 1, none⟩ = some (.int .i64 ((rd_T53 x9_1 (ji49)).f1)) := hcc52 1 _ rfl; have hf52_0 : World.frozen? _ ⟨go52, ((ji49) : Int).toNat * 2, none⟩ = false := hfr52 0; have hf52_1 : World.frozen? _ ⟨go52, ((ji49) : Int).toNat * 2 + 1, none⟩ = false := hfr52 1; clear hcl52 hcc52 hfr52 hM52; replace p52 := eq_true p52; replace q52 := eq_true q52; obtain ⟨ce59, hcl59, hM59, hcc59, hfr59⟩ := Kd.R_elem HO_9.out z53 ((ji49) : Int) (of_decide_eq_true (by first | (with_reducible assumption) | assumption)) (by have h_ : ((ji49) : Int) < ((x9_1.length : Int) : Int) := of_decide_eq_true (by first | (with_reducible assumption) | assumption); first | exact h_ | (have e_ := (Kd.R_reads' HO_9.out).1; omega) | simpa using h_); obtain rfl := k53_openM hM59; have HP59 := (Kd.R_seg HO_9.out ((ji49) : Int) (of_decide_eq_true (by first | (with_reducible assumption) | assumption)) (by have h_ : ((ji49) : Int) < ((x9_1.length : Int) : Int) := of_decide_eq_true (by first | (with_reducible assumption) | assumption); first | exact h_ | (have e_ := (Kd.R_reads' HO_9.out).1; omega) | simpa using h_) (seg := [.int .i64 ((rd_T53 x9_1 (ji46)).f0), .int .i64 ((rd_T53 x9_1 (ji46)).f1)]) (j := 0) hcl59 hcc59 (show 2 ≤ 2 from by decide) (x' := (⟨(rd_T53 x9_1 (ji46)).f0, (rd_T53 x9_1 (ji46)).f1⟩ : S53)) (k53_mkM _ _ _ (⟨(rd_T53 x9_1 (ji46)).f0, (rd_T53 x9_1 (ji46)).f1⟩ : S53) ) (fun _ hk => hk)).1
                 rw [← Ny650.out] at HP59; (first | rw [setc2] at HP59 | rw [setc10] at HP59 | rw [setc11] at HP59); have HQ59 : Aside0 (Kd.R k53 53 (World.setCell (World.setCell _ ⟨go52, ((ji49) : Int).toNat * 2, none⟩ _) ⟨go52, ((ji49) : Int).toNat * 2 + 1, none⟩ _) w.heap.size _ _ _) := ⟨HP59⟩; clear hcl59 hcc59 hfr59 hM59 HP59; have p53 : 0 ≤ ((ji46) : Int) := of_decide_eq_true (by first | (with_reducible assumption) | assumption); have q53 : ((ji46) : Int) < ((x9_1.length : Int) : Int) := of_decide_eq_true (by first | (with_reducible assumption) | assumption); obtain ⟨ce53, hcl53, hM53, hcc53, hfr53⟩ := Kd.R_elem HQ59.out z53 ((ji46) : Int) p53 q53; obtain rfl := k53_openM hM53; have hx53_0 : World.cell? _ ⟨go52, ((ji46) : Int).toNat * 2, none⟩ = some (.int .i64 ((rd_T53 y650 (ji46)).f0)) := hcc53 0 _ rfl; have hx53_1 : World.cell? _ ⟨go52, ((ji46) : Int).toNat * 2 + 1, none⟩ = some (.int .i64 ((rd_T53 y650 (ji46)).f1)) := hcc53 1 _ rfl; have hf53_0 : World.frozen? _ ⟨go52, ((ji46) : Int).toNat * 2, none⟩ = false := hfr53 0; have hf53_1 : World.frozen? _ ⟨go52, ((ji46) : Int).toNat * 2 + 1, none⟩ = false := hfr53 1; clear hcl53 hcc53 hfr53 hM53; replace p53 := eq_true p53; replace q53 := eq_true q53; obtain ⟨ce60, hcl60, hM60, hcc60, hfr60⟩ := Kd.R_elem HQ59.out z53 ((ji46) : Int) (of_decide_eq_true (by first | (with_reducible assumption) | assumption)) (by have h_ : ((ji46) : Int) < ((x9_1.length : Int) : Int) := of_decide_eq_true (by first | (with_reducible assumption) | assumption); first | exact h_ | (have e_ := (Kd.R_reads' HO_9.out).1; omega) | simpa using h_); obtain rfl := k53_openM hM60; have HP60 := (Kd.R_seg HQ59.out ((ji46) : Int) (of_decide_eq_true (by first | (with_reducible assumption) | assumption)) (by have h_ : ((ji46) : Int) < ((x9_1.length : Int) : Int) := of_decide_eq_true (by first | (with_reducible assumption) | assumption); first | exact h_ | (have e_ := (Kd.R_reads' HO_9.out).1; omega) | simpa using h_) (seg := [.int .i64 ((rd_T53 x9_1 (ji49)).f0), .int .i64 ((rd_T53 x9_1 (ji49)).f1)]) (j := 0) hcl60 hcc60 (show 2 ≤ 2 from by decide) (x' := (⟨(rd_T53 x9_1 (ji49)).f0, (rd_T53 x9_1 (ji49)).f1⟩ : S53)) (k53_mkM _ _ _ (⟨(rd_T53 x9_1 (ji49)).f0, (rd_T53 x9_1 (ji49)).f1⟩ : S53) ) (fun _ hk => hk)).1
                 rw [← Ny651.out] at HP60; (first | rw [setc2] at HP60 | rw [setc10] at HP60 | rw [setc11] at HP60); have HQ60 : Aside0 (Kd.R k53 53 (World.setCell (World.setCell _ ⟨go52, ((ji46) : Int).toNat * 2, none⟩ _) ⟨go52, ((ji46) : Int).toNat * 2 + 1, none⟩ _) w.heap.size _ _ _) := ⟨HP60⟩; clear hcl60 hcc60 hfr60 hM60 HP60; have hy53_0 := hx53_0; (try simp [go_sem] at hy53_0); have hyf53_0 := hf53_0; (try simp [go_sem] at hyf53_0); have hyf53_1 := hf53_1; (try simp [go_sem] at hyf53_1); refine start_ (n := 16) (S := fun w' => w'.cell? ⟨go52, (((ji46)).toNat * 2), none⟩ = some (.int .i64 ((rd_T53 x9_1 (ji46)).f0)) ∧ w'.cell? ⟨go52, (((ji46)).toNat * 2) + 1, none⟩ = some (.int .i64 ((rd_T53 x9_1 (ji46)).f1)) ∧ w'.cell? ⟨go52, (((ji49)).toNat * 2), none⟩ = some (.int .i64 ((rd_T53 x9_1 (ji49)).f0)) ∧ w'.cell? ⟨go52, (((ji49)).toNat * 2) + 1, none⟩ = some (.int .i64 ((rd_T53 x9_1 (ji49)).f1))) (ds := [13, 15]) (pf 0 16) (by kernel_rfl) rfl rfl ⟨hx648_0, hx648_1, hx649_0, hx649_1⟩ (fun hHeld => ?_); refine with_tabW tangramlaw03_SimpleBack.tab14 tangramlaw03_SimpleBack.bits14 (fun HT_ HW_ => ?_); generalize wc.drew = w58 at HO_9 BK619 HB GG52 HQ59 HQ60 hf52_0 hf52_1 hf53_0 hf53_1 hy53_0 hyf53_0 hyf53_1 hx52_0 hx52_1 hx53_0 hx53_1 hx648_0 hx648_1 hx649_0 hx649_1 hHeld ⊢; refine pu_ 0 (some 64) (pf 1 16) HT_ ?_; refine pu_ 1 (some 65) (pf 2 16) HT_ ?_; refine pu_ 2 (some 66) (pf 3 16) HT_ ?_; refine pu_ 3 (some 67) (pf 4 16) HT_ ?_; refine pu_ 4 (some 68) (pf 5 16) HT_ ?_; refine pu_ 5 (some 69) (pf 6 16) HT_ ?_
                 refine pu_ 6 (some 70) (pf 7 16) HT_ ?_; refine pu_ 8 (some 72) #[T_,T_,T_,T_,T_,T_,T_,F_,T_,F_,F_,F_,F_,F_,F_,F_] HT_ ?_; refine pu_ 9 (some 73) #[T_,T_,T_,T_,T_,T_,T_,F_,T_,T_,F_,F_,F_,F_,F_,F_] HT_ ?_; refine pu_ 10 (some 74) #[T_,T_,T_,T_,T_,T_,T_,F_,T_,T_,T_,F_,F_,F_,F_,F_] HT_ ?_; refine tk4_ 7 (some 71) (pf 11 16) HT_ HW_ hHeld ?_; refine tk4_ 11 (some 75) (pf 12 16) HT_ HW_ hHeld ?_; refine pu_ 12 (some 76) (pf 13 16) HT_ ?_; refine last_ (i := 13) (N := none) (pf 14 16) rfl rfl (one_of HT_.out (by kernel_rfl)) (by decide) (fun K hK => ?_); refine skip_ (w1 := ?_) (by rfl) rfl ?_ ?_; rotate_left
                 ·go_simp; rfl
                 refine hK.out _ _ ?_; clear hK K; refine pu_ 14 (some 77) (pf 15 16) HT_ ?_; refine last_ (i := 15) (N := none) (pf 16 16) rfl rfl (one_of HT_.out (by kernel_rfl)) (by decide) (fun K hK => ?_); refine skip_ (w1 := ?_) (by rfl) rfl ?_ ?_; rotate_left
                 ·go_simp; rfl
                 refine hK.out _ _ ?_; clear hK K; refine done_ (done_of HT_.out (by kernel_rfl)) ?_
                 try go_wp2
                 have n0_ : Aside0 (Kd.R k53 53 ((((w58.setCell ⟨go52, ((ji49) : Int).toNat * 2, none⟩ (.int .i64 ((rd_T53 x9_1 (ji46)).f0))).setCell ⟨go52, ((ji49) : Int).toNat * 2 + 1, none⟩ (.int .i64 ((rd_T53 x9_1 (ji46)).f1))).setCell ⟨go52, ((ji46) : Int).toNat * 2, none⟩ (.int .i64 ((rd_T53 x9_1 (ji49)).f0))).setCell ⟨go52, ((ji46) : Int).toNat * 2 + 1, none⟩ (.int .i64 ((rd_T53 x9_1 (ji49)).f1))) w.heap.size (fun _ => True) (.slice (some ⟨go52, 0, none⟩) x9_1.length co57) y651) := ⟨by first | exact rx HQ60 | exact HQ60.out⟩; have n1_ : Aside0 (((((w58.setCell ⟨go52, ((ji49) : Int).toNat * 2, none⟩ (.int .i64 ((rd_T53 x9_1 (ji46)).f0))).setCell ⟨go52, ((ji49) : Int).toNat * 2 + 1, none⟩ (.int .i64 ((rd_T53 x9_1 (ji46)).f1))).setCell ⟨go52, ((ji46) : Int).toNat * 2, none⟩ (.int .i64 ((rd_T53 x9_1 (ji49)).f0))).setCell ⟨go52, ((ji46) : Int).toNat * 2 + 1, none⟩ (.int .i64 ((rd_T53 x9_1 (ji49)).f1))).heap[gb619]? = some (.cells #[.int .i64 a0_0, .slice A0_1 l0_1.length c0_1] 26 (0, 0))) := ⟨by (with_reducible repeat (first | refine blk_drewN ?_ _ | refine blk_drew ?_ | refine blk_alloc ?_ _)); refine blk_far ?_ (by have h_ := Kd.R_ne HO_9.out BK619.out (by decide); intro e_; exact h_ (by rw [e_]; rfl)) _; (with_reducible repeat (first | refine blk_drewN ?_ _ | refine blk_drew ?_ | refine blk_alloc ?_ _)); refine blk_far ?_ (by have h_ := Kd.R_ne HO_9.out BK619.out (by decide); intro e_; exact h_ (by rw [e_]; rfl)) _; (with_reducible repeat (first | refine blk_drewN ?_ _ | refine blk_drew ?_ | refine blk_alloc ?_ _)); refine blk_far ?_ (by have h_ := Kd.R_ne HO_9.out BK619.out (by decide); intro e_; exact h_ (by rw [e_]; rfl)) _; (with_reducible repeat (first | refine blk_drewN ?_ _ | refine blk_drew ?_ | refine blk_alloc ?_ _)); refine blk_far ?_ (by have h_ := Kd.R_ne HO_9.out BK619.out (by decide); intro e_; exact h_ (by rw [e_]; rfl)) _; (with_reducible repeat (first | refine blk_drewN ?_ _ | refine blk_drew ?_ | refine blk_alloc ?_ _)); exact BK619.out⟩
                 have n2_ : Aside0 (Below w.heap.size w ((((w58.setCell ⟨go52, ((ji49) : Int).toNat * 2, none⟩ (.int .i64 ((rd_T53 x9_1 (ji46)).f0))).setCell ⟨go52, ((ji49) : Int).toNat * 2 + 1, none⟩ (.int .i64 ((rd_T53 x9_1 (ji46)).f1))).setCell ⟨go52, ((ji46) : Int).toNat * 2, none⟩ (.int .i64 ((rd_T53 x9_1 (ji49)).f0))).setCell ⟨go52, ((ji46) : Int).toNat * 2 + 1, none⟩ (.int .i64 ((rd_T53 x9_1 (ji49)).f1)))) := ⟨hb5 HB GB52 GB52 GB52 GB52 GE619⟩
                 (try clear HO_9)
                 (try clear BK619)
                 (try clear HB)
                 generalize ((((w58.setCell ⟨go52, ((ji49) : Int).toNat * 2, none⟩ (.int .i64 ((rd_T53 x9_1 (ji46)).f0))).setCell ⟨go52, ((ji49) : Int).toNat * 2 + 1, none⟩ (.int .i64 ((rd_T53 x9_1 (ji46)).f1))).setCell ⟨go52, ((ji46) : Int).toNat * 2, none⟩ (.int .i64 ((rd_T53 x9_1 (ji49)).f0))).setCell ⟨go52, ((ji46) : Int).toNat * 2 + 1, none⟩ (.int .i64 ((rd_T53 x9_1 (ji49)).f1))) = w61 at n0_ n1_ n2_ ⊢; have HO_9 := n0_; have BK619 := n1_; have HB := n2_; clear n0_ n1_ n2_; replace HO_9 := rd HO_9; replace BK619 := bd BK619; replace HB := Aside0.mk (below_drew1 HB.out); have p652 : 0 ≤ ((ji49) : Int) := of_decide_eq_true (by first | (with_reducible assumption) | assumption); have q652 : (ji49) < (y651.length : Int) := (by have h_ : ((ji49) : Int) < ((x9_1.length : Int) : Int) := of_decide_eq_true (by first | (with_reducible assumption) | assumption); first | (have e_ := (Kd.R_reads' HO_9.out).1; omega) | simpa only [Ny650.out, Ny651.out, List.length_set] using h_); have ql652 : (((ji49) : Int) < ((x9_1.length : Int) : Int)) = True := eq_true (of_decide_eq_true (by first | (with_reducible assumption) | assumption)); obtain ⟨ad652, e652, hx652_0, hx652_1⟩ := at_T53 (Kd.R_reads' HO_9.out).2.2 (ji49) p652 q652; obtain rfl : (⟨go52, 0, none⟩ : Addr) = ad652 := (by injection e652)
                 (first | simp only [add_plain] at hx652_0 | simp only [add_at] at hx652_0 | simp only [Addr.add, Nat.zero_add] at hx652_0 | skip)
                 (first | simp only [add_plain] at hx652_1 | simp only [add_at] at hx652_1 | simp only [Addr.add, Nat.zero_add] at hx652_1 | skip)
                 replace p652 := eq_true p652; replace q652 := eq_true q652; have p653 : 0 ≤ ((ji49) : Int) := of_decide_eq_true (by first | (with_reducible assumption) | assumption); have q653 : (ji49) < (y651.length : Int) := (by have h_ : ((ji49) : Int) < ((x9_1.length : Int) : Int) := of_decide_eq_true (by first | (with_reducible assumption) | assumption); first | (have e_ := (Kd.R_reads' HO_9.out).1; omega) | simpa only [Ny650.out, Ny651.out, List.length_set] using h_); have ql653 : (((ji49) : Int) < ((x9_1.length : Int) : Int)) = True := eq_true (of_decide_eq_true (by first | (with_reducible assumption) | assumption)); obtain ⟨ad653, e653, hx653_0, hx653_1⟩ := at_T53 (Kd.R_reads' HO_9.out).2.2 (ji49) p653 q653; obtain rfl : (⟨go52, 0, none⟩ : Addr) = ad653 := (by injection e653)
                 (first | simp only [add_plain] at hx653_0 | simp only [add_at] at hx653_0 | simp only [Addr.add, Nat.zero_add] at hx653_0 | skip)
                 (first | simp only [add_plain] at hx653_1 | simp only [add_at] at hx653_1 | simp only [Addr.add, Nat.zero_add] at hx653_1 | skip)
                 replace p653 := eq_true p653; replace q653 := eq_true q653; have p54 : 0 ≤ ((ji49) : Int) := of_decide_eq_true (by first | (with_reducible assumption) | assumption); have q54 : ((ji49) : Int) < ((x9_1.length : Int) : Int) := of_decide_eq_true (by first | (with_reducible assumption) | assumption); obtain ⟨ce54, hcl54, hM54, hcc54, hfr54⟩ := Kd.R_elem HO_9.out z53 ((ji49) : Int) p54 q54; obtain rfl := k53_openM hM54; have hx54_0 : World.cell? _ ⟨go52, ((ji49) : Int).toNat * 2, none⟩ = some (.int .i64 ((rd_T53 y651 (ji49)).f0)) := hcc54 0 _ rfl; have hx54_1 : World.cell? _ ⟨go52, ((ji49) : Int).toNat * 2 + 1, none⟩ = some (.int .i64 ((rd_T53 y651 (ji49)).f1)) := hcc54 1 _ rfl; have hf54_0 : World.frozen? _ ⟨go52, ((ji49) : Int).toNat * 2, none⟩ = false := hfr54 0; have hf54_1 : World.frozen? _ ⟨go52, ((ji49) : Int).toNat * 2 + 1, none⟩ = false := hfr54 1; clear hcl54 hcc54 hfr54 hM54; replace p54 := eq_true p54; replace q54 := eq_true q54; obtain ⟨ce63, hcl63, hM63, hcc63, hfr63⟩ := Kd.R_elem HO_9.out z53 ((ji49) : Int) (of_decide_eq_true (by first | (with_reducible assumption) | assumption)) (by have h_ : ((ji49) : Int) < ((x9_1.length : Int) : Int) := of_decide_eq_true (by first | (with_reducible assumption) | assumption); first | exact h_ | (have e_ := (Kd.R_reads' HO_9.out).1; omega) | simpa using h_); obtain rfl := k53_openM hM63; have HP63 := (Kd.R_seg HO_9.out ((ji49) : Int) (of_decide_eq_true (by first | (with_reducible assumption) | assumption)) (by have h_ : ((ji49) : Int) < ((x9_1.length : Int) : Int) := of_decide_eq_true (by first | (with_reducible assumption) | assumption); first | exact h_ | (have e_ := (Kd.R_reads' HO_9.out).1; omega) | simpa using h_) (seg := [.int .i64 ((rd_T53 y651 (ji49)).f1)]) (j := 0) hcl63 hcc63 (show 1 ≤ 2 from by decide) (x' := (⟨(rd_T53 y651 (ji49)).f1, (rd_T53 y651 (ji49)).f1⟩ : S53)) (k53_mkM _ _ _ (⟨(rd_T53 y651 (ji49)).f1, (rd_T53 y651 (ji49)).f1⟩ : S53) ) (fun _ hk => hk)).1
                 rw [← Ny654.out] at HP63; (first | rw [setc2] at HP63 | rw [setc10] at HP63 | rw [setc11] at HP63); have HQ63 : Aside0 (Kd.R k53 53 (World.setCell _ ⟨go52, ((ji49) : Int).toNat * 2, none⟩ _) w.heap.size _ _ _) := ⟨HP63⟩; clear hcl63 hcc63 hfr63 hM63 HP63; have p55 : 0 ≤ ((ji49) : Int) := of_decide_eq_true (by first | (with_reducible assumption) | assumption); have q55 : ((ji49) : Int) < ((x9_1.length : Int) : Int) := of_decide_eq_true (by first | (with_reducible assumption) | assumption); replace p55 := eq_true p55; replace q55 := eq_true q55; obtain ⟨ce64, hcl64, hM64, hcc64, hfr64⟩ := Kd.R_elem HQ63.out z53 ((ji49) : Int) (of_decide_eq_true (by first | (with_reducible assumption) | assumption)) (by have h_ : ((ji49) : Int) < ((x9_1.length : Int) : Int) := of_decide_eq_true (by first | (with_reducible assumption) | assumption); first | exact h_ | (have e_ := (Kd.R_reads' HO_9.out).1; omega) | simpa using h_); obtain rfl := k53_openM hM64; have HP64 := (Kd.R_seg HQ63.out ((ji49) : Int) (of_decide_eq_true (by first | (with_reducible assumption) | assumption)) (by have h_ : ((ji49) : Int) < ((x9_1.length : Int) : Int) := of_decide_eq_true (by first | (with_reducible assumption) | assumption); first | exact h_ | (have e_ := (Kd.R_reads' HO_9.out).1; omega) | simpa using h_) (seg := [.int .i64 ((rd_T53 y651 (ji49)).f0)]) (j := 1) hcl64 hcc64 (show 2 ≤ 2 from by decide) (x' := (⟨(rd_T53 y654 (ji49)).f0, (rd_T53 y651 (ji49)).f0⟩ : S53)) (k53_mkM _ _ _ (⟨(rd_T53 y654 (ji49)).f0, (rd_T53 y651 (ji49)).f0⟩ : S53) ) (fun _ hk => hk)).1; rw [← Ny655.out] at HP64; (first | rw [setc2] at HP64 | rw [setc10] at HP64 | rw [setc11] at HP64); have HQ64 : Aside0 (Kd.R k53 53 (World.setCell _ ⟨go52, ((ji49) : Int).toNat * 2 + 1, none⟩ _) w.heap.size _ _ _) := ⟨HP64⟩; clear hcl64 hcc64 hfr64 hM64 HP64; refine start_ (n := 20) (S := fun w' => w'.cell? ⟨go52, ((ji49)).toNat * 2, none⟩ = some (.int .i64 ((rd_T53 y651 (ji49)).f0)) ∧ w'.cell? ⟨go52, ((ji49)).toNat * 2 + 1, none⟩ = some (.int .i64 ((rd_T53 y651 (ji49)).f1)) ∧ w'.cell? ⟨go52, ((ji49)).toNat * 2, none⟩ = some (.int .i64 ((rd_T53 y651 (ji49)).f0)) ∧ w'.cell? ⟨go52, ((ji49)).toNat * 2 + 1, none⟩ = some (.int .i64 ((rd_T53 y651 (ji49)).f1))) (ds := [16, 19]) (pf 0 20) (by kernel_rfl) rfl rfl ⟨hx652_0, hx652_1, hx653_0, hx653_1⟩ (fun hHeld => ?_); refine with_tabW tangramlaw03_SimpleBack.tab15 tangramlaw03_SimpleBack.bits15 (fun HT_ HW_ => ?_)
                 generalize w61.drew = w62 at HO_9 BK619 HB HQ60 HQ63 HQ64 hf54_0 hf54_1 hx54_0 hx54_1 hx652_0 hx652_1 hx653_0 hx653_1 hHeld ⊢; refine pu_ 0 (some 78) (pf 1 20) HT_ ?_; refine pu_ 1 (some 79) (pf 2 20) HT_ ?_; refine pu_ 2 (some 80) (pf 3 20) HT_ ?_; refine pu_ 3 (some 81) (pf 4 20) HT_ ?_; refine pu_ 4 (some 82) (pf 5 20) HT_ ?_; refine pu_ 5 (some 83) (pf 6 20) HT_ ?_; refine pu_ 6 (some 84) (pf 7 20) HT_ ?_; refine pu_ 7 (some 85) (pf 8 20) HT_ ?_; refine pu_ 9 (some 87) #[T_,T_,T_,T_,T_,T_,T_,T_,F_,T_,F_,F_,F_,F_,F_,F_,F_,F_,F_,F_] HT_ ?_; refine pu_ 10 (some 88) #[T_,T_,T_,T_,T_,T_,T_,T_,F_,T_,T_,F_,F_,F_,F_,F_,F_,F_,F_,F_] HT_ ?_; refine pu_ 11 (some 89) #[T_,T_,T_,T_,T_,T_,T_,T_,F_,T_,T_,T_,F_,F_,F_,F_,F_,F_,F_,F_] HT_ ?_; refine pu_ 12 (some 90) #[T_,T_,T_,T_,T_,T_,T_,T_,F_,T_,T_,T_,T_,F_,F_,F_,F_,F_,F_,F_] HT_ ?_; refine pu_ 14 (some 92) #[T_,T_,T_,T_,T_,T_,T_,T_,F_,T_,T_,T_,T_,F_,T_,F_,F_,F_,F_,F_] HT_ ?_; refine pu_ 17 (some 94) #[T_,T_,T_,T_,T_,T_,T_,T_,F_,T_,T_,T_,T_,F_,T_,F_,F_,T_,F_,F_] HT_ ?_; refine tk4_ 8 (some 86) #[T_,T_,T_,T_,T_,T_,T_,T_,T_,T_,T_,T_,T_,F_,T_,F_,F_,T_,F_,F_] HT_ HW_ hHeld ?_
                 refine tk4_ 13 (some 91) #[T_,T_,T_,T_,T_,T_,T_,T_,T_,T_,T_,T_,T_,T_,T_,F_,F_,T_,F_,F_] HT_ HW_ hHeld ?_; refine pu_ 15 (some 93) #[T_,T_,T_,T_,T_,T_,T_,T_,T_,T_,T_,T_,T_,T_,T_,T_,F_,T_,F_,F_] HT_ ?_; refine last_ (i := 16) (N := none) (pf 18 20) rfl rfl (one_of HT_.out (by kernel_rfl)) (by decide) (fun K hK => ?_); refine skip_ (w1 := ?_) (by rfl) rfl ?_ ?_; rotate_left
                 ·go_simp; rfl
                 refine hK.out _ _ ?_; clear hK K; refine pu_ 18 (some 95) (pf 19 20) HT_ ?_; refine last_ (i := 19) (N := none) (pf 20 20) rfl rfl (one_of HT_.out (by kernel_rfl)) (by decide) (fun K hK => ?_); refine skip_ (w1 := ?_) (by rfl) rfl ?_ ?_; rotate_left
                 ·go_simp; rfl
                 refine hK.out _ _ ?_; clear hK K; refine done_ (done_of HT_.out (by kernel_rfl)) ?_; have p656 : 0 ≤ ((ji46) : Int) := of_decide_eq_true (by first | (with_reducible assumption) | assumption); have q656 : (ji46) < (y655.length : Int) := (by have h_ : ((ji46) : Int) < ((x9_1.length : Int) : Int) := of_decide_eq_true (by first | (with_reducible assumption) | assumption); first | (have e_ := (Kd.R_reads' HO_9.out).1; omega) | simpa only [Ny650.out, Ny651.out, Ny654.out, Ny655.out, List.length_set] using h_); have ql656 : (((ji46) : Int) < ((x9_1.length : Int) : Int)) = True := eq_true (of_decide_eq_true (by first | (with_reducible assumption) | assumption)); obtain ⟨ad656, e656, hx656_0, hx656_1⟩ := at_T53 (Kd.R_reads' HQ64.out).2.2 (ji46) p656 q656; obtain rfl : (⟨go52, 0, none⟩ : Addr) = ad656 := (by injection e656)
                 (first | simp only [add_plain] at hx656_0 | simp only [add_at] at hx656_0 | simp only [Addr.add, Nat.zero_add] at hx656_0 | skip)
                 (first | simp only [add_plain] at hx656_1 | simp only [add_at] at hx656_1 | simp only [Addr.add, Nat.zero_add] at hx656_1 | skip)
                 have hy656_0 := hx656_0; (try simp [go_sem] at hy656_0)
                 replace p656 := eq_true p656; replace q656 := eq_true q656
                 try go_wp2_with (first | ((with_reducible refine gate_builtin (b := .append) (xs := #[.tmp 96, .tmp 101]) rfl ?_); (try (refine gate_guard (by rfl) ?_; dsimp only)); at_builtin; refine Kd.R_append k53 (w0 := w) w.heap.size rfl (.tmp 96) (.tmp 101) 22 53 (.agg #[(.int .i64 0), (.int .i64 0)]) 16 rfl Tryd.underlying22 info53 rfl (by decide) (by omega) (.slice (some ⟨go52, 0, none⟩) x9_1.length co57) y655 (⟨(rd_T53 y655 (ji46)).f0, (rd_T53 y655 (ji46)).f1⟩ : S53) [.int .i64 ((rd_T53 y655 (ji46)).f0), .int .i64 ((rd_T53 y655 (ji46)).f1)] (fun _ => True) (fun _ => False) rfl (by first | (go_simp; done) | (go_simp; rfl)) ?aP (fun _ hk => hk.elim) ?aF ?aO ?aB ?aS ?aL ?_; (case aP => exact k53_mkM _ _ _ (⟨(rd_T53 y655 (ji46)).f0, (rd_T53 y655 (ji46)).f1⟩ : S53)); (case aB => exact (hb3 HB GB52 GB52 GE619)); (case aF => exact (fun _ _ => trivial)); (case aO => exact (rx HQ64)); (case aS => exact (below_size (hb3 HB GB52 GB52 GE619))); (case aL => have := LMc56.out; omega); intro v658 w65 ho hb hg hat; rw [← Ny657.out] at ho; have n0_ := Aside0.mk (blk_grown (g := gb619) (o := .cells #[.int .i64 a0_0, .slice A0_1 l0_1.length c0_1] 26 (0, 0)) (by (with_reducible repeat (first | refine blk_drewN ?_ _ | refine blk_drew ?_ | refine blk_alloc ?_ _)); refine blk_far ?_ (by have h_ := Kd.R_ne HO_9.out BK619.out (by decide); intro e_; exact h_ (by rw [e_]; rfl)) _; (with_reducible repeat (first | refine blk_drewN ?_ _ | refine blk_drew ?_ | refine blk_alloc ?_ _)); refine blk_far ?_ (by have h_ := Kd.R_ne HO_9.out BK619.out (by decide); intro e_; exact h_ (by rw [e_]; rfl)) _; (with_reducible repeat (first | refine blk_drewN ?_ _ | refine blk_drew ?_ | refine blk_alloc ?_ _)); exact BK619.out) hg (Kd.R_ne HO_9.out BK619.out (by decide))); have n1_ := Aside0.mk (hb); have n2_ := Aside0.mk (ho); clear BK619; clear HB; clear HO_9; have BK619 := n0_; have HB := n1_; have HO659 := n2_; clear n0_ n1_ n2_; clear ho hb hg hat))
                 go_roundg kj17
                 case measure => have := HK1.out; have := HJ17.out; omega
                 case rel => exact ⟨(y657), (wrap64 (x10_1 + 1)), (by first | rfl | (simp; done) | (simp [*]; done)), H', ⟨by have := HK1.out; have := HJ17.out; omega⟩, ⟨rx HO659⟩, ⟨bx BK619⟩, ⟨hb1 HB GE619⟩⟩
                ·rw [if_neg c56] at H; exact absurd H (by simp)
               ·rw [if_neg c51] at H; exact absurd H (by simp)
              ·rw [if_neg c50] at H; exact absurd H (by simp)
             ·rw [if_neg c48] at H; exact absurd H (by simp)
            ·rw [if_neg c47] at H; exact absurd H (by simp)
         ·rw [if_neg c23] at H; exact absurd H (by simp)
        ·rw [if_neg c22] at H; exact absurd H (by simp)
       ·replace c21 := Bool.eq_false_iff.mpr c21; subst c21; rw [if_neg (show ¬ (false = true) by decide)] at H; have H' := Aside0.mk H; clear H
        go_wp2
        go_loopg [9, 13] kj17 (fun kq v9 v13 w' => ∃ (x9_3 : List (S53)) (x13_3 : Int), v13 = .int .i64 x13_3 ∧ Aside0 (tangramlaw03_SimpleBack.l1 kq l2 x9_3 x13_3 a0_0 l0_1 = some r) ∧ Aside0 (kq ≤ kj17) ∧ Aside0 (Kd.R k53 53 w' w.heap.size (fun _ => True) v9 x9_3) ∧ Aside0 (w'.heap[gb619]? = some (.cells #[.int .i64 a0_0, (.slice A0_1 l0_1.length c0_1)] 26 (0, 0))) ∧ Aside0 (Below w.heap.size w w'))
        case atStart => exact ⟨(x9_1), (0), (by first | rfl | (simp; done) | (simp [*]; done)), H', ⟨Nat.le_refl _⟩, ⟨rx HO_9⟩, ⟨bx BK619⟩, ⟨hb1 HB GE619⟩⟩
        case round =>
         clear H'
         try clear c2
         try clear p2
         try clear c3
         try clear c4
         try clear c5
         try clear p5
         try clear q5
         try clear hx5
         try clear hf5
         try clear c6
         try clear p6
         try clear q6
         try clear hx6
         try clear c21
         try clear c22
         try clear c23
         try clear c25
         try clear c25b0
         try clear c27
         try clear c28
         try clear c30
         try clear c31
         try clear c36
         try clear c47
         try clear c47b0
         try clear c48
         try clear c48b0
         try clear c50
         try clear c50b0
         try clear c51
         try clear c51b0
         try clear c52
         try clear p52
         try clear q52
         try clear hx52
         try clear hf52
         try clear c53
         try clear p53
         try clear q53
         try clear hx53
         try clear hf53
         try clear c54
         try clear p54
         try clear q54
         try clear hx54
         try clear hf54
         try clear p55
         try clear q55
         try clear c56
         try clear c59
         try clear c60
         try clear c63
         try clear p63
         try clear q63
         try clear hx63
         try clear c64
         try clear p64
         try clear q64
         try clear hx64
         try clear p65
         try clear q65
         try clear hx65
         try clear hx52_0
         try clear hx52_1
         try clear hx53_0
         try clear hx53_1
         try clear hx54_0
         try clear hx54_1
         try clear hx635_0
         try clear hx644_0
         try clear hx644_1
         try clear hx648_0
         try clear hx648_1
         try clear hx649_0
         try clear hx649_1
         try clear hx652_0
         try clear hx652_1
         try clear hx653_0
         try clear hx653_1
         try clear hx656_0
         try clear hx656_1
         try clear p52
         try clear p53
         try clear p54
         try clear p55
         try clear p635
         try clear p644
         try clear p648
         try clear p649
         try clear p652
         try clear p653
         try clear p656
         try clear q52
         try clear q53
         try clear q54
         try clear q55
         try clear q635
         try clear q644
         try clear q648
         try clear q649
         try clear q652
         try clear q653
         try clear q656
         obtain ⟨x9_3, x13_3, rfl, HA, HK3, HO_9, BK619, HB⟩ := hrel
         cases gk with
         | zero => exact absurd HA.out (by simp [tangramlaw03_SimpleBack.l1])
         | succ k3 =>
          have H := HA.out; clear HA; simp only [tangramlaw03_SimpleBack.l1] at H
          by_cases c66 : x13_3 < (l2.length : Int)
          ·rw [if_pos c66] at H; have c66b0 : decide (x13_3 < (l2.length : Int)) = true := decide_eq_true c66; clear c66
           by_cases c67 : 0 ≤ x13_3
           ·rw [if_pos c67] at H; have c67b0 : decide (0 ≤ x13_3) = true := decide_eq_true c67; clear c67
            by_cases c68 : (rd l2 x13_3) ≥ 0
            ·rw [if_pos c68] at H; have c68b0 : decide (0 ≤ (rd l2 x13_3)) = true := decide_eq_true c68; clear c68
             by_cases c69 : (rd l2 x13_3) < a0_0
             ·rw [if_pos c69] at H; have c69b0 : decide ((rd l2 x13_3) < a0_0) = true := decide_eq_true c69; clear c69
              by_cases c70 : x9_3.length < 8796093022208
              ·rw [if_pos c70] at H; have LMc70 := Aside0.mk c70; clear c70; obtain ⟨y664, hy664⟩ : ∃ y_ : List (S53), y_ = (x9_3 ++ [(⟨rd l2 x13_3, rd l2 x13_3⟩ : S53)]) := ⟨_, rfl⟩; replace H : (tangramlaw03_SimpleBack.l1 k3 l2 y664 (wrap64 (x13_3 + 1)) a0_0 l0_1) = some r := by first | (rw [hy664]; with_reducible exact H) | (have H2_ := (Option.bind_some _ _).symm.trans H; rw [hy664]; with_reducible exact H2_) | (have H2_ := (Option.bind_some _ _).symm.trans H; with_reducible exact H2_) | with_reducible exact H | (rw [hy664]; exact H) | exact H
               have Ny664 := Aside0.mk hy664; clear hy664; have H' := Aside0.mk H; clear H
               try go_wp2
               replace HO_9 := rd HO_9; replace BK619 := bd BK619; replace HB := Aside0.mk (below_drew1 HB.out); have p660 : 0 ≤ (x13_3 : Int) := of_decide_eq_true (by first | (with_reducible assumption) | assumption); have q660 : x13_3 < (l2.length : Int) := of_decide_eq_true (by first | (with_reducible assumption) | assumption); obtain ⟨ad660, e660, hx660_0⟩ := Kd.at_int HR2.out x13_3 p660 q660; have hw660_0 := hx660_0
               cases e660
               replace hx660_0 := (HB.out.cell (World.block_lt_of_cell? w _ hx660_0)).trans hx660_0; replace p660 := eq_true p660; replace q660 := eq_true q660; have p661 : 0 ≤ (x13_3 : Int) := of_decide_eq_true (by first | (with_reducible assumption) | assumption); have q661 : x13_3 < (l2.length : Int) := of_decide_eq_true (by first | (with_reducible assumption) | assumption); obtain ⟨ad661, e661, hx661_0⟩ := Kd.at_int HR2.out x13_3 p661 q661; have hw661_0 := hx661_0; obtain rfl : ad660 = ad661 := (by injection e661); replace hx661_0 := (HB.out.cell (World.block_lt_of_cell? w _ hx661_0)).trans hx661_0; replace p661 := eq_true p661; replace q661 := eq_true q661; refine start_ (n := 14) (S := fun w' => w'.cell? ⟨gb619, 0, none⟩ = some (.int .i64 a0_0) ∧ w'.cell? ⟨gb619, 1, none⟩ = some (.slice A0_1 l0_1.length c0_1) ∧ w'.cell? (ad660.add (x13_3).toNat) = some (.int .i64 (rd l2 x13_3)) ∧ w'.cell? (ad660.add (x13_3).toNat) = some (.int .i64 (rd l2 x13_3))) (ds := []) (pf 0 14) (by kernel_rfl) rfl rfl ⟨bc BK619 0, bc BK619 1, ((HB.out.cell (World.block_lt_of_cell? w _ hw660_0)).trans hw660_0), ((HB.out.cell (World.block_lt_of_cell? w _ hw661_0)).trans hw661_0)⟩ (fun hHeld => ?_); refine with_tabW tangramlaw03_SimpleBack.tab20 tangramlaw03_SimpleBack.bits20 (fun HT_ HW_ => ?_); generalize wr.drew = w71 at HO_9 BK619 HB hx660_0 hx661_0 hHeld ⊢; refine pu_ 0 (some 109) (pf 1 14) HT_ ?_; refine pu_ 1 (some 110) (pf 2 14) HT_ ?_
               refine pu_ 2 (some 111) (pf 3 14) HT_ ?_; refine tk4_ 3 (some 112) (pf 4 14) HT_ HW_ hHeld ?_; refine pu_ 4 (some 113) (pf 5 14) HT_ ?_; refine pu_ 5 (some 114) (pf 6 14) HT_ ?_; refine pu_ 6 (some 115) (pf 7 14) HT_ ?_; refine pu_ 7 (some 116) (pf 8 14) HT_ ?_; refine pu_ 8 (some 117) (pf 9 14) HT_ ?_; refine pu_ 10 (some 119) #[T_,T_,T_,T_,T_,T_,T_,T_,T_,F_,T_,F_,F_,F_] HT_ ?_; refine tk4_ 9 (some 118) (pf 11 14) HT_ HW_ hHeld ?_; refine tk4_ 11 (some 120) (pf 12 14) HT_ HW_ hHeld ?_; refine pu_ 12 (some 121) (pf 13 14) HT_ ?_; refine pu_ 13 (some 122) (pf 14 14) HT_ ?_; refine done_ (done_of HT_.out (by kernel_rfl)) ?_
               try go_wp2
               replace HO_9 := rd HO_9; replace BK619 := bd BK619; replace HB := Aside0.mk (below_drew1 HB.out); have p662 : 0 ≤ (x13_3 : Int) := of_decide_eq_true (by first | (with_reducible assumption) | assumption); have q662 : x13_3 < (l2.length : Int) := of_decide_eq_true (by first | (with_reducible assumption) | assumption); obtain ⟨ad662, e662, hx662_0⟩ := Kd.at_int HR2.out x13_3 p662 q662; have hw662_0 := hx662_0; obtain rfl : ad660 = ad662 := (by injection e662); replace hx662_0 := (HB.out.cell (World.block_lt_of_cell? w _ hx662_0)).trans hx662_0; replace p662 := eq_true p662; replace q662 := eq_true q662; have p663 : 0 ≤ (x13_3 : Int) := of_decide_eq_true (by first | (with_reducible assumption) | assumption); have q663 : x13_3 < (l2.length : Int) := of_decide_eq_true (by first | (with_reducible assumption) | assumption); obtain ⟨ad663, e663, hx663_0⟩ := Kd.at_int HR2.out x13_3 p663 q663; have hw663_0 := hx663_0; obtain rfl : ad660 = ad663 := (by injection e663); replace hx663_0 := (HB.out.cell (World.block_lt_of_cell? w _ hx663_0)).trans hx663_0; replace p663 := eq_true p663; replace q663 := eq_true q663; refine start_ (n := 13) (S := fun w' => w'.cell? (ad660.add (x13_3).toNat) = some (.int .i64 (rd l2 x13_3)) ∧ w'.cell? (ad660.add (x13_3).toNat) = some (.int .i64 (rd l2 x13_3))) (ds := []) (pf 0 13) (by kernel_rfl) rfl rfl ⟨((HB.out.cell (World.block_lt_of_cell? w _ hw662_0)).trans hw662_0), ((HB.out.cell (World.block_lt_of_cell? w _ hw663_0)).trans hw663_0)⟩ (fun hHeld => ?_); refine with_tabW tangramlaw03_SimpleBack.tab21 tangramlaw03_SimpleBack.bits21 (fun HT_ HW_ => ?_)
               generalize w71.drew = w72 at HO_9 BK619 HB hx662_0 hx663_0 hHeld ⊢; refine pu_ 0 (some 123) (pf 1 13) HT_ ?_; refine pu_ 1 (some 124) (pf 2 13) HT_ ?_; refine pu_ 2 (some 125) (pf 3 13) HT_ ?_; refine pu_ 3 (some 126) (pf 4 13) HT_ ?_; refine pu_ 5 (some 128) #[T_,T_,T_,T_,F_,T_,F_,F_,F_,F_,F_,F_,F_] HT_ ?_; refine pu_ 6 (some 129) #[T_,T_,T_,T_,F_,T_,T_,F_,F_,F_,F_,F_,F_] HT_ ?_; refine pu_ 7 (some 130) #[T_,T_,T_,T_,F_,T_,T_,T_,F_,F_,F_,F_,F_] HT_ ?_; refine tk2_ 4 (some 127) (pf 8 13) HT_ HW_ hHeld ?_; refine tk2_ 8 (some 131) (pf 9 13) HT_ HW_ hHeld ?_; refine pu_ 9 (some 132) (pf 10 13) HT_ ?_; refine on_ 10 (some 133) (pf 11 13) HT_ (fun K hK => ?_); refine value_ (w1 := ?_) (v := ?_) (by rfl) rfl ?_ ?_; rotate_left 2
               ·go_simp
                constructor
                ·rfl
                ·rfl
               refine hK.out _ _ ⟨(World.cell?_alloc_lt _ _ _ (World.block_lt_of_cell? _ _ (((HB.out.cell (World.block_lt_of_cell? w _ hw662_0)).trans hw662_0)))).trans (((HB.out.cell (World.block_lt_of_cell? w _ hw662_0)).trans hw662_0)), (World.cell?_alloc_lt _ _ _ (World.block_lt_of_cell? _ _ (((HB.out.cell (World.block_lt_of_cell? w _ hw663_0)).trans hw663_0)))).trans (((HB.out.cell (World.block_lt_of_cell? w _ hw663_0)).trans hw663_0))⟩ (fun hHeld => ?_); clear hK K; refine nm_ (some 133) ?_; refine on_ 11 (some 134) (pf 12 13) HT_ (fun K hK => ?_); refine Kd.R_append_step k53 (w0 := w) w.heap.size (by rfl) (.tmp 123) (.tmp 133) 22 53 (.agg #[(.int .i64 0), (.int .i64 0)]) 16 rfl Tryd.underlying22 info53 rfl (by decide) (by omega) u9 x9_3 (⟨rd l2 x13_3, rd l2 x13_3⟩ : S53) [.int .i64 (rd l2 x13_3), .int .i64 (rd l2 x13_3)] (fun _ => True) (fun _ => False) rfl rfl ?aP (fun _ hk => hk.elim) ?aF ?aO ?aB ?aS ?aL ?_
               (case aP => exact k53_mkM _ _ _ (⟨rd l2 x13_3, rd l2 x13_3⟩ : S53))
               (case aB => exact (hb1 HB GE619))
               (case aF => exact (fun _ _ => trivial))
               (case aO => exact (rx HO_9))
               (case aS => exact (below_size (hb1 HB GE619)))
               (case aL => have := LMc70.out; omega)
               intro v665 w73 ho hb hg hat; rw [← Ny664.out] at ho; have n0_ := Aside0.mk (blk_grown (bx BK619) hg (Kd.R_ne HO_9.out BK619.out (by decide))); have n1_ := Aside0.mk (hb); have n2_ := Aside0.mk (ho); clear BK619 HB HO_9; have BK619 := n0_; have HB := n1_; have HO666 := n2_; clear n0_ n1_ n2_ ho hb hg hat; refine hK.out _ _ ⟨((HB.out.cell (World.block_lt_of_cell? w _ hw662_0)).trans hw662_0), ((HB.out.cell (World.block_lt_of_cell? w _ hw663_0)).trans hw663_0)⟩ (fun hHeld => ?_); clear hK K; refine nm_ (some 134) ?_; refine pu_ 12 (some 9) (pf 13 13) HT_ ?_; refine done_ (done_of HT_.out (by kernel_rfl)) ?_
               try go_wp2
               go_roundg k3
               case measure => have := HK1.out; have := HJ17.out; have := HK3.out; omega
               case rel => exact ⟨(y664), (wrap64 (x13_3 + 1)), (by first | rfl | (simp; done) | (simp [*]; done)), H', ⟨by have := HK1.out; have := HJ17.out; have := HK3.out; omega⟩, ⟨rx HO666⟩, ⟨bx BK619⟩, ⟨hb1 HB GE619⟩⟩
              ·rw [if_neg c70] at H; exact absurd H (by simp)
             ·rw [if_neg c69] at H; have c69b0 : decide ((rd l2 x13_3) < a0_0) = false := decide_eq_false c69; clear c69; have H' := Aside0.mk H; clear H
              try go_wp2
              replace HO_9 := rd HO_9; replace BK619 := bd BK619; replace HB := Aside0.mk (below_drew1 HB.out); have p660 : 0 ≤ (x13_3 : Int) := of_decide_eq_true (by first | (with_reducible assumption) | assumption); have q660 : x13_3 < (l2.length : Int) := of_decide_eq_true (by first | (with_reducible assumption) | assumption); obtain ⟨ad660, e660, hx660_0⟩ := Kd.at_int HR2.out x13_3 p660 q660; have hw660_0 := hx660_0
              cases e660
              replace hx660_0 := (HB.out.cell (World.block_lt_of_cell? w _ hx660_0)).trans hx660_0; replace p660 := eq_true p660; replace q660 := eq_true q660; have p661 : 0 ≤ (x13_3 : Int) := of_decide_eq_true (by first | (with_reducible assumption) | assumption); have q661 : x13_3 < (l2.length : Int) := of_decide_eq_true (by first | (with_reducible assumption) | assumption); obtain ⟨ad661, e661, hx661_0⟩ := Kd.at_int HR2.out x13_3 p661 q661; have hw661_0 := hx661_0; obtain rfl : ad660 = ad661 := (by injection e661); replace hx661_0 := (HB.out.cell (World.block_lt_of_cell? w _ hx661_0)).trans hx661_0; replace p661 := eq_true p661; replace q661 := eq_true q661; refine start_ (n := 14) (S := fun w' => w'.cell? ⟨gb619, 0, none⟩ = some (.int .i64 a0_0) ∧ w'.cell? ⟨gb619, 1, none⟩ = some (.slice A0_1 l0_1.length c0_1) ∧ w'.cell? (ad660.add (x13_3).toNat) = some (.int .i64 (rd l2 x13_3)) ∧ w'.cell? (ad660.add (x13_3).toNat) = some (.int .i64 (rd l2 x13_3))) (ds := []) (pf 0 14) (by kernel_rfl) rfl rfl ⟨bc BK619 0, bc BK619 1, ((HB.out.cell (World.block_lt_of_cell? w _ hw660_0)).trans hw660_0), ((HB.out.cell (World.block_lt_of_cell? w _ hw661_0)).trans hw661_0)⟩ (fun hHeld => ?_); refine with_tabW tangramlaw03_SimpleBack.tab20 tangramlaw03_SimpleBack.bits20 (fun HT_ HW_ => ?_); generalize wr.drew = w74 at HO_9 BK619 HB hx660_0 hx661_0 hHeld ⊢; refine pu_ 0 (some 109) (pf 1 14) HT_ ?_; refine pu_ 1 (some 110) (pf 2 14) HT_ ?_
              refine pu_ 2 (some 111) (pf 3 14) HT_ ?_; refine tk4_ 3 (some 112) (pf 4 14) HT_ HW_ hHeld ?_; refine pu_ 4 (some 113) (pf 5 14) HT_ ?_; refine pu_ 5 (some 114) (pf 6 14) HT_ ?_; refine pu_ 6 (some 115) (pf 7 14) HT_ ?_; refine pu_ 7 (some 116) (pf 8 14) HT_ ?_; refine pu_ 8 (some 117) (pf 9 14) HT_ ?_; refine pu_ 10 (some 119) #[T_,T_,T_,T_,T_,T_,T_,T_,T_,F_,T_,F_,F_,F_] HT_ ?_; refine tk4_ 9 (some 118) (pf 11 14) HT_ HW_ hHeld ?_; refine tk4_ 11 (some 120) (pf 12 14) HT_ HW_ hHeld ?_; refine pu_ 12 (some 121) (pf 13 14) HT_ ?_; refine pu_ 13 (some 122) (pf 14 14) HT_ ?_; refine done_ (done_of HT_.out (by kernel_rfl)) ?_
              try go_wp2
              go_roundg k3
              case measure => have := HK1.out; have := HJ17.out; have := HK3.out; omega
              case rel => exact ⟨(x9_3), (wrap64 (x13_3 + 1)), (by first | rfl | (simp; done) | (simp [*]; done)), H', ⟨by have := HK1.out; have := HJ17.out; have := HK3.out; omega⟩, ⟨rx HO_9⟩, ⟨bx BK619⟩, ⟨hb1 HB GE619⟩⟩
            ·rw [if_neg c68] at H; have c68b0 : decide (0 ≤ (rd l2 x13_3)) = false := decide_eq_false c68; clear c68; have H' := Aside0.mk H; clear H
             try go_wp2
             replace HO_9 := rd HO_9; replace BK619 := bd BK619; replace HB := Aside0.mk (below_drew1 HB.out); have p660 : 0 ≤ (x13_3 : Int) := of_decide_eq_true (by first | (with_reducible assumption) | assumption); have q660 : x13_3 < (l2.length : Int) := of_decide_eq_true (by first | (with_reducible assumption) | assumption); obtain ⟨ad660, e660, hx660_0⟩ := Kd.at_int HR2.out x13_3 p660 q660; have hw660_0 := hx660_0
             cases e660
             replace hx660_0 := (HB.out.cell (World.block_lt_of_cell? w _ hx660_0)).trans hx660_0; replace p660 := eq_true p660; replace q660 := eq_true q660; refine start_ (n := 14) (S := fun w' => w'.cell? (ad660.add (x13_3).toNat) = some (.int .i64 (rd l2 x13_3))) (ds := []) (pf 0 14) (by kernel_rfl) rfl rfl (((HB.out.cell (World.block_lt_of_cell? w _ hw660_0)).trans hw660_0)) (fun hHeld => ?_); refine with_tabW tangramlaw03_SimpleBack.tab20 tangramlaw03_SimpleBack.bits20 (fun HT_ HW_ => ?_); generalize wr.drew = w75 at HO_9 BK619 HB hx660_0 hHeld ⊢; refine pu_ 0 (some 109) (pf 1 14) HT_ ?_; refine pu_ 1 (some 110) (pf 2 14) HT_ ?_; refine pu_ 2 (some 111) (pf 3 14) HT_ ?_; refine take_ (i := 3) (N := some 112) (v := ?_) (a' := ?_) (pf 4 14) rfl rfl (take_ofW HT_.out HW_.out (by kernel_rfl)) (fun _ _ _ h => h) (Or.inl ⟨by rfl, ?_⟩) hHeld ?_ ?_; rotate_left
             ·intro w' s0; go_simp
              with_reducible rfl
             rotate_left
             ·simp only [Act.put, List.setIfInBounds_toArray, List.set_cons_zero, List.set_cons_succ, i64_w, i32_w]; rfl
             refine pu_ 4 (some 113) (pf 5 14) HT_ ?_; refine pu_ 5 (some 114) (pf 6 14) HT_ ?_; refine pn_ 6 (some 115) (pf 7 14) HT_ ?_; refine pn_ 7 (some 116) (pf 8 14) HT_ ?_; refine pn_ 8 (some 117) (pf 9 14) HT_ ?_; refine pn_ 9 (some 118) (pf 10 14) HT_ ?_; refine pn_ 10 (some 119) (pf 11 14) HT_ ?_; refine pn_ 11 (some 120) (pf 12 14) HT_ ?_; refine pn_ 12 (some 121) (pf 13 14) HT_ ?_; refine pu_ 13 (some 122) (pf 14 14) HT_ ?_; refine done_ (done_of HT_.out (by kernel_rfl)) ?_
             try go_wp2
             go_roundg k3
             case measure => have := HK1.out; have := HJ17.out; have := HK3.out; omega
             case rel => exact ⟨(x9_3), (wrap64 (x13_3 + 1)), (by first | rfl | (simp; done) | (simp [*]; done)), H', ⟨by have := HK1.out; have := HJ17.out; have := HK3.out; omega⟩, ⟨rx HO_9⟩, ⟨bx BK619⟩, ⟨hb1 HB GE619⟩⟩
           ·rw [if_neg c67] at H; exact absurd H (by simp)
          ·rw [if_neg c66] at H; have c66b0 : decide (x13_3 < (l2.length : Int)) = false := decide_eq_false c66; clear c66; replace H := Option.bind_eq_some_iff.mp H; obtain ⟨⟨t667, t668, t671⟩, A760, H⟩ := H; (try dsimp only at H); have A76 := Aside0.mk A760; clear A760; have HC77 := Aside0.mk H; clear H; have hcz78_0 : wr.cell? ⟨gb619, 0, none⟩ = some (.int .i64 a0_0) := bc BK619 0; have hcz78_1 : wr.cell? ⟨gb619, 1, none⟩ = some (.slice A0_1 l0_1.length c0_1) := bc BK619 1; have hfz78_0 := blk_frozen BK619.out 0; have hfz78_1 := blk_frozen BK619.out 1; obtain ⟨Ao79, co79, eo79⟩ := Kd.R_slice HO_9.out; subst eo79
           go_upto_region 23 with (first | ((with_reducible refine gate_callee (f := 13) rfl ?_); refine gl_ (some 139) Tryd.func13 #[.int .i64 a0_0, .slice Ao79 x9_3.length co79] ?_; (with_reducible refine (simple_Make.calls k3 a0_0 _ _ x9_3 t667 t668 t671 _ ?side1 ?side2 A76.out).mono ?_); (case side1 => exact cr HO_9); (case side2 => exact (Kd.R_reads' HO_9.out).2.1); rintro e w80 ⟨v669, rfl, ho0, hb⟩; refine ⟨_, rfl, ?_⟩; replace HO_9 := ry HO_9 hb; have HO670 := Aside0.mk (Kd.R_lower ho0 (below_size (hb1 HB GE619))); replace BK619 := kx BK619 hb; replace HB := hs (hb1 HB GE619) hb; (try clear hb); (try clear hb2); (try clear hk); (try clear hi); (try clear ho0)) | ((with_reducible refine gate_dst (N := 14) rfl ?_); (try (refine gate_guard (by rfl) ?_; dsimp only)); refine be_ 14 #[.int .i64 0, .slice none 0 0] 26 ?_; intro gb672 hg w81 hbox hb; replace HO_9 := ry HO_9 hb; replace HO670 := ry HO670 hb; have BK672 := Aside0.mk (hbox); have GW672 := wq (hb1 HB GE619) hg; have GE672 := wq (hb1 HB GE619) hg; replace HB := hs (hb1 HB GE619) hb; have NB619_672 := lx BK619 hg; have NB672_619 := gx BK619 hg; replace BK619 := kx BK619 hb; clear hb hbox hg; have hnb82 := NB672_619.out; have hnc82 := NB619_672.out; have hcz83_0 : w81.cell? ⟨gb672, 0, none⟩ = some (.int .i64 0) := bc BK672 0; have hcz83_1 : w81.cell? ⟨gb672, 1, none⟩ = some (.slice none 0 0) := bc BK672 1; have hfz83_0 := blk_frozen BK672.out 0; have hfz83_1 := blk_frozen BK672.out 1; obtain ⟨Ao84, co84, eo84⟩ := Kd.R_slice HO670.out; subst eo84))
           (try simp only [Act.put, List.setIfInBounds_toArray, List.set_cons_zero, List.set_cons_succ])
           go_cut [156] (fun v156 wc => ∃ (kq : Nat) (x156_76 : Bool), v156 = .bool x156_76 ∧ Aside0 (tangramlaw03_SimpleBack.j3 kq x156_76 a0_0 l0_1 = some r) ∧ Aside0 (kq ≤ k3) ∧ Aside0 (Kd.R k42 42 wc w.heap.size (fun _ => True) (.slice Ao84 t668.length co84) t668) ∧ Aside0 (wc.heap[gb619]? = some (.cells #[.int .i64 a0_0, (.slice A0_1 l0_1.length c0_1)] 26 (0, 0))) ∧ Aside0 (wc.heap[gb672]? = some (.cells #[.int .i64 t667, (.slice Ao84 t668.length co84)] 26 (0, 0))) ∧ Aside0 (Below w.heap.size w wc))
           case first =>
            have H := HC77.out; clear HC77
            by_cases c85 : t671 = 0
            ·rw [if_pos c85] at H; have c85b0 : (t671 == 0) = true := beq_iff_eq.mpr c85; have c85b1 : (t671 != 0) = false := bne_eq_false_iff_eq.mpr c85; clear c85
             (first | rw [c85b0] | (simp only [i64_w, i32_w]; rw [c85b0]) | skip)
             replace H := Option.bind_eq_some_iff.mp H; obtain ⟨t673, A860, H⟩ := H; (try dsimp only at H); have A86 := Aside0.mk A860; clear A860
             by_cases c87 : t673 = true
             ·subst c87; rw [if_pos rfl] at H; replace H := Option.bind_eq_some_iff.mp H; obtain ⟨⟨t674, t675⟩, A880, H⟩ := H; (try dsimp only at H); have A88 := Aside0.mk A880; clear A880; replace H := Option.bind_eq_some_iff.mp H; obtain ⟨t678, A890, H⟩ := H; (try dsimp only at H); have A89 := Aside0.mk A890; clear A890; have H' := Aside0.mk H; clear H
              try go_wp2
              have n0_ : Aside0 (Kd.R k53 53 ((w81.setCell ⟨gb672, 0, none⟩ (.int .i64 t667)).setCell ⟨gb672, 1, none⟩ (.slice Ao84 t668.length co84)) w.heap.size (fun _ => True) (.slice Ao79 x9_3.length co79) x9_3) := ⟨Kd.R_mono (rf HO_9 BK672) (fun _ hk => trivial)⟩; have n1_ : Aside0 (Kd.R k42 42 ((w81.setCell ⟨gb672, 0, none⟩ (.int .i64 t667)).setCell ⟨gb672, 1, none⟩ (.slice Ao84 t668.length co84)) w.heap.size (fun _ => True) (.slice Ao84 t668.length co84) t668) := ⟨Kd.R_mono (rf HO670 BK672) (fun _ hk => trivial)⟩; have n2_ : Aside0 (((w81.setCell ⟨gb672, 0, none⟩ (.int .i64 t667)).setCell ⟨gb672, 1, none⟩ (.slice Ao84 t668.length co84)).heap[gb619]? = some (.cells #[.int .i64 a0_0, .slice A0_1 l0_1.length c0_1] 26 (0, 0))) := ⟨bx1 BK619 NB619_672⟩; have n3_ : Aside0 (((w81.setCell ⟨gb672, 0, none⟩ (.int .i64 t667)).setCell ⟨gb672, 1, none⟩ (.slice Ao84 t668.length co84)).heap[gb672]? = some (.cells #[.int .i64 t667, .slice Ao84 t668.length co84] 26 (0, 0))) := ⟨bp BK672⟩; have n4_ : Aside0 (Below w.heap.size w ((w81.setCell ⟨gb672, 0, none⟩ (.int .i64 t667)).setCell ⟨gb672, 1, none⟩ (.slice Ao84 t668.length co84))) := ⟨hb2 HB GE619 GE672⟩
              (try clear HO_9)
              (try clear HO670)
              (try clear BK619)
              (try clear BK672)
              (try clear HB)
              generalize ((w81.setCell ⟨gb672, 0, none⟩ (.int .i64 t667)).setCell ⟨gb672, 1, none⟩ (.slice Ao84 t668.length co84)) = w90 at n0_ n1_ n2_ n3_ n4_ ⊢; have HO_9 := n0_; have HO670 := n1_; have BK619 := n2_; have BK672 := n3_; have HB := n4_; clear n0_ n1_ n2_ n3_ n4_; replace HO_9 := rd HO_9; replace HO670 := rd HO670; replace BK619 := bd BK619; replace BK672 := bd BK672; replace HB := Aside0.mk (below_drew1 HB.out); refine start_ (n := 15) (S := fun w' => w'.cell? ⟨gb672, 0, none⟩ = some (.int .i64 t667) ∧ w'.cell? ⟨gb672, 1, none⟩ = some (.slice Ao84 t668.length co84) ∧ w'.cell? ⟨gb619, 0, none⟩ = some (.int .i64 a0_0) ∧ w'.cell? ⟨gb619, 1, none⟩ = some (.slice A0_1 l0_1.length c0_1)) (ds := []) (pf 0 15) (by kernel_rfl) rfl rfl ⟨bc BK672 0, bc BK672 1, bc BK619 0, bc BK619 1⟩ (fun hHeld => ?_); refine with_tabW tangramlaw03_SimpleBack.tab23 tangramlaw03_SimpleBack.bits23 (fun HT_ HW_ => ?_); generalize w90.drew = w91 at HO_9 HO670 BK619 BK672 HB hHeld ⊢; refine pu_ 0 (some 142) (pf 1 15) HT_ ?_; refine pu_ 1 (some 143) (pf 2 15) HT_ ?_; refine pu_ 2 (some 144) (pf 3 15) HT_ ?_; refine tk4_ 3 (some 145) (pf 4 15) HT_ HW_ hHeld ?_; refine tk4_ 4 (some 146) (pf 5 15) HT_ HW_ hHeld ?_; refine on_ 5 (some 147) (pf 6 15) HT_ (fun K hK => ?_)
              refine gs_ Tryd.func15 #[.agg #[.int .i64 t667, .slice Ao84 t668.length co84], .agg #[.int .i64 a0_0, .slice A0_1 l0_1.length c0_1]] ?_
              with_reducible refine (tangramref03_Equal.calls k3 t667 _ _ t668 a0_0 _ _ l0_1 true _ ?side1 ?side2 ?side3 ?side4 A86.out).mono ?_
              (case side1 => exact cr HO670)
              (case side2 => exact (Kd.R_reads' HO670.out).2.1)
              (case side3 => repeat (first | exact (Kd.C_below HR0_1.out HB.out) | (with_reducible refine Kd.C_alloc ?_ _) | (with_reducible refine Kd.C_drewN ?_ _) | (with_reducible refine Kd.C_drew ?_)))
              (case side4 => exact HC0_1.out)
              rintro e w92 ⟨rfl, hb⟩; refine ⟨_, rfl, ?_⟩; replace HO_9 := ry HO_9 hb; replace HO670 := ry HO670 hb; replace BK619 := kx BK619 hb; replace BK672 := kx BK672 hb; replace HB := hs (hb2 HB GE619 GE672) hb
              (try clear hb)
              (try clear hb2)
              (try clear hk)
              (try clear hi)
              refine hK.out _ _ ⟨bc BK672 0, bc BK672 1, bc BK619 0, bc BK619 1⟩ (fun hHeld => ?_); clear hK K; refine nm_ (some 147) ?_; refine pu_ 6 (some 148) (pf 7 15) HT_ ?_; refine pu_ 7 (some 149) (pf 8 15) HT_ ?_; refine pu_ 8 (some 150) (pf 9 15) HT_ ?_; refine tk4_ 9 (some 151) (pf 10 15) HT_ HW_ hHeld ?_; refine tk4_ 10 (some 152) (pf 11 15) HT_ HW_ hHeld ?_; refine on_ 11 (some 153) (pf 12 15) HT_ (fun K hK => ?_); refine gs_ Tryd.func18 #[.agg #[.int .i64 a0_0, .slice A0_1 l0_1.length c0_1]] ?_
              with_reducible refine (tangramref03_Copy.calls k3 a0_0 _ _ l0_1 t674 t675 _ ?side1 ?side2 A88.out).mono ?_
              (case side1 => repeat (first | exact (Kd.C_below HR0_1.out HB.out) | (with_reducible refine Kd.C_alloc ?_ _) | (with_reducible refine Kd.C_drewN ?_ _) | (with_reducible refine Kd.C_drew ?_)))
              (case side2 => exact HC0_1.out)
              rintro e w93 ⟨v676, rfl, ho0, hb⟩; refine ⟨_, rfl, ?_⟩; replace HO_9 := ry HO_9 hb; have HO677 := Aside0.mk (Kd.R_lower (Kd.R_new' ho0 (Kd.R_lt (rx HO670))) (below_size (hb2 HB GE619 GE672))); replace HO670 := el (rx HO670) ho0 hb; replace BK619 := kx BK619 hb; replace BK672 := kx BK672 hb; replace HB := hs (hb2 HB GE619 GE672) hb
              (try clear hb)
              (try clear hb2)
              (try clear hk)
              (try clear hi)
              (try clear ho0)
              obtain ⟨Ao94, co94, eo94⟩ := Kd.R_slice HO677.out
              (first | subst eo94 | obtain ⟨rfl, rfl⟩ := sx eo94)
              refine hK.out _ _ ⟨bc BK672 0, bc BK672 1, bc BK619 0, bc BK619 1⟩ (fun hHeld => ?_); clear hK K; refine nm_ (some 153) ?_; refine on_ 12 (some 154) (pf 13 15) HT_ (fun K hK => ?_); refine gs_ Tryd.func31 #[.agg #[.int .i64 t667, .slice Ao84 t668.length co84], .agg #[.int .i64 t674, .slice Ao94 t675.length co94]] ?_
              with_reducible refine (simple_Same.calls k3 t667 _ _ t668 t674 _ _ t675 t678 _ ?side1 ?side2 ?side3 ?side4 A89.out).mono ?_
              (case side1 => exact cr HO670)
              (case side2 => exact (Kd.R_reads' HO670.out).2.1)
              (case side3 => exact cr HO677)
              (case side4 => exact (Kd.R_reads' HO677.out).2.1)
              rintro e w95 ⟨rfl, hb⟩; refine ⟨_, rfl, ?_⟩; replace HO_9 := ry HO_9 hb; replace HO670 := ry HO670 hb; replace HO677 := ry HO677 hb; replace BK619 := kx BK619 hb; replace BK672 := kx BK672 hb; replace HB := hs (hb2 HB GE619 GE672) hb
              (try clear hb)
              (try clear hb2)
              (try clear hk)
              (try clear hi)
              refine hK.out _ _ ⟨bc BK672 0, bc BK672 1, bc BK619 0, bc BK619 1⟩ (fun hHeld => ?_); clear hK K; refine nm_ (some 154) ?_; refine pu_ 13 (some 155) (pf 14 15) HT_ ?_; refine pu_ 14 (some 156) (pf 15 15) HT_ ?_; refine done_ (done_of HT_.out (by kernel_rfl)) ?_
              try go_wp2
              go_meet
              case rel => exact ⟨_, (!t678), (by first | rfl | (simp; done) | (simp [*]; done)), H', ⟨by have := HK1.out; have := HJ17.out; have := HK3.out; first | omega | exact Nat.le_refl _⟩, ⟨Kd.R_mono (rx HO670) (fun _ hk => trivial)⟩, ⟨bx BK619⟩, ⟨bx BK672⟩, ⟨hb2 HB GE619 GE672⟩⟩
             ·replace c87 := Bool.eq_false_iff.mpr c87; subst c87; rw [if_neg (show ¬ (false = true) by decide)] at H; have H' := Aside0.mk H; clear H
              try go_wp2
              have n0_ : Aside0 (Kd.R k53 53 ((w81.setCell ⟨gb672, 0, none⟩ (.int .i64 t667)).setCell ⟨gb672, 1, none⟩ (.slice Ao84 t668.length co84)) w.heap.size (fun _ => True) (.slice Ao79 x9_3.length co79) x9_3) := ⟨Kd.R_mono (rf HO_9 BK672) (fun _ hk => trivial)⟩; have n1_ : Aside0 (Kd.R k42 42 ((w81.setCell ⟨gb672, 0, none⟩ (.int .i64 t667)).setCell ⟨gb672, 1, none⟩ (.slice Ao84 t668.length co84)) w.heap.size (fun _ => True) (.slice Ao84 t668.length co84) t668) := ⟨Kd.R_mono (rf HO670 BK672) (fun _ hk => trivial)⟩; have n2_ : Aside0 (((w81.setCell ⟨gb672, 0, none⟩ (.int .i64 t667)).setCell ⟨gb672, 1, none⟩ (.slice Ao84 t668.length co84)).heap[gb619]? = some (.cells #[.int .i64 a0_0, .slice A0_1 l0_1.length c0_1] 26 (0, 0))) := ⟨bx1 BK619 NB619_672⟩; have n3_ : Aside0 (((w81.setCell ⟨gb672, 0, none⟩ (.int .i64 t667)).setCell ⟨gb672, 1, none⟩ (.slice Ao84 t668.length co84)).heap[gb672]? = some (.cells #[.int .i64 t667, .slice Ao84 t668.length co84] 26 (0, 0))) := ⟨bp BK672⟩; have n4_ : Aside0 (Below w.heap.size w ((w81.setCell ⟨gb672, 0, none⟩ (.int .i64 t667)).setCell ⟨gb672, 1, none⟩ (.slice Ao84 t668.length co84))) := ⟨hb2 HB GE619 GE672⟩
              (try clear HO_9)
              (try clear HO670)
              (try clear BK619)
              (try clear BK672)
              (try clear HB)
              generalize ((w81.setCell ⟨gb672, 0, none⟩ (.int .i64 t667)).setCell ⟨gb672, 1, none⟩ (.slice Ao84 t668.length co84)) = w96 at n0_ n1_ n2_ n3_ n4_ ⊢; have HO_9 := n0_; have HO670 := n1_; have BK619 := n2_; have BK672 := n3_; have HB := n4_; clear n0_ n1_ n2_ n3_ n4_; replace HO_9 := rd HO_9; replace HO670 := rd HO670; replace BK619 := bd BK619; replace BK672 := bd BK672; replace HB := Aside0.mk (below_drew1 HB.out); refine start_ (n := 15) (S := fun w' => w'.cell? ⟨gb672, 0, none⟩ = some (.int .i64 t667) ∧ w'.cell? ⟨gb672, 1, none⟩ = some (.slice Ao84 t668.length co84) ∧ w'.cell? ⟨gb619, 0, none⟩ = some (.int .i64 a0_0) ∧ w'.cell? ⟨gb619, 1, none⟩ = some (.slice A0_1 l0_1.length c0_1)) (ds := []) (pf 0 15) (by kernel_rfl) rfl rfl ⟨bc BK672 0, bc BK672 1, bc BK619 0, bc BK619 1⟩ (fun hHeld => ?_); refine with_tabW tangramlaw03_SimpleBack.tab23 tangramlaw03_SimpleBack.bits23 (fun HT_ HW_ => ?_); generalize w96.drew = w97 at HO_9 HO670 BK619 BK672 HB hHeld ⊢; refine pu_ 0 (some 142) (pf 1 15) HT_ ?_; refine pu_ 1 (some 143) (pf 2 15) HT_ ?_; refine pu_ 2 (some 144) (pf 3 15) HT_ ?_; refine tk4_ 3 (some 145) (pf 4 15) HT_ HW_ hHeld ?_; refine tk4_ 4 (some 146) (pf 5 15) HT_ HW_ hHeld ?_; refine on_ 5 (some 147) (pf 6 15) HT_ (fun K hK => ?_)
              refine gs_ Tryd.func15 #[.agg #[.int .i64 t667, .slice Ao84 t668.length co84], .agg #[.int .i64 a0_0, .slice A0_1 l0_1.length c0_1]] ?_
              with_reducible refine (tangramref03_Equal.calls k3 t667 _ _ t668 a0_0 _ _ l0_1 false _ ?side1 ?side2 ?side3 ?side4 A86.out).mono ?_
              (case side1 => exact cr HO670)
              (case side2 => exact (Kd.R_reads' HO670.out).2.1)
              (case side3 => repeat (first | exact (Kd.C_below HR0_1.out HB.out) | (with_reducible refine Kd.C_alloc ?_ _) | (with_reducible refine Kd.C_drewN ?_ _) | (with_reducible refine Kd.C_drew ?_)))
              (case side4 => exact HC0_1.out)
              rintro e w98 ⟨rfl, hb⟩; refine ⟨_, rfl, ?_⟩; replace HO_9 := ry HO_9 hb; replace HO670 := ry HO670 hb; replace BK619 := kx BK619 hb; replace BK672 := kx BK672 hb; replace HB := hs (hb2 HB GE619 GE672) hb
              (try clear hb)
              (try clear hb2)
              (try clear hk)
              (try clear hi)
              refine hK.out _ _ ⟨bc BK672 0, bc BK672 1, bc BK619 0, bc BK619 1⟩ (fun hHeld => ?_); clear hK K; refine nm_ (some 147) ?_; refine pu_ 6 (some 148) (pf 7 15) HT_ ?_; refine pu_ 7 (some 149) (pf 8 15) HT_ ?_; refine pu_ 8 (some 150) (pf 9 15) HT_ ?_; refine pn_ 9 (some 151) (pf 10 15) HT_ ?_; refine pn_ 10 (some 152) (pf 11 15) HT_ ?_; refine pn_ 11 (some 153) (pf 12 15) HT_ ?_; refine pn_ 12 (some 154) (pf 13 15) HT_ ?_; refine pn_ 13 (some 155) (pf 14 15) HT_ ?_; refine pu_ 14 (some 156) (pf 15 15) HT_ ?_; refine done_ (done_of HT_.out (by kernel_rfl)) ?_
              try go_wp2
              go_meet
              case rel => exact ⟨_, (true), (by first | rfl | (simp; done) | (simp [*]; done)), H', ⟨by have := HK1.out; have := HJ17.out; have := HK3.out; first | omega | exact Nat.le_refl _⟩, ⟨rx HO670⟩, ⟨bx BK619⟩, ⟨bx BK672⟩, ⟨hb2 HB GE619 GE672⟩⟩
            ·rw [if_neg c85] at H; have c85b0 : (t671 == 0) = false := beq_eq_false_iff_ne.mpr c85; have c85b1 : (t671 != 0) = true := bne_iff_ne.mpr c85
             (first | rw [c85b0] | (simp only [i64_w, i32_w]; rw [c85b0]) | skip)
             have H' := Aside0.mk H; clear H
             try go_wp2
             have n0_ : Aside0 (Kd.R k53 53 ((w81.setCell ⟨gb672, 0, none⟩ (.int .i64 t667)).setCell ⟨gb672, 1, none⟩ (.slice Ao84 t668.length co84)) w.heap.size (fun _ => True) (.slice Ao79 x9_3.length co79) x9_3) := ⟨Kd.R_mono (rf HO_9 BK672) (fun _ hk => trivial)⟩; have n1_ : Aside0 (Kd.R k42 42 ((w81.setCell ⟨gb672, 0, none⟩ (.int .i64 t667)).setCell ⟨gb672, 1, none⟩ (.slice Ao84 t668.length co84)) w.heap.size (fun _ => True) (.slice Ao84 t668.length co84) t668) := ⟨Kd.R_mono (rf HO670 BK672) (fun _ hk => trivial)⟩; have n2_ : Aside0 (((w81.setCell ⟨gb672, 0, none⟩ (.int .i64 t667)).setCell ⟨gb672, 1, none⟩ (.slice Ao84 t668.length co84)).heap[gb619]? = some (.cells #[.int .i64 a0_0, .slice A0_1 l0_1.length c0_1] 26 (0, 0))) := ⟨bx1 BK619 NB619_672⟩; have n3_ : Aside0 (((w81.setCell ⟨gb672, 0, none⟩ (.int .i64 t667)).setCell ⟨gb672, 1, none⟩ (.slice Ao84 t668.length co84)).heap[gb672]? = some (.cells #[.int .i64 t667, .slice Ao84 t668.length co84] 26 (0, 0))) := ⟨bp BK672⟩; have n4_ : Aside0 (Below w.heap.size w ((w81.setCell ⟨gb672, 0, none⟩ (.int .i64 t667)).setCell ⟨gb672, 1, none⟩ (.slice Ao84 t668.length co84))) := ⟨hb2 HB GE619 GE672⟩
             (try clear HO_9)
             (try clear HO670)
             (try clear BK619)
             (try clear BK672)
             (try clear HB)
             generalize ((w81.setCell ⟨gb672, 0, none⟩ (.int .i64 t667)).setCell ⟨gb672, 1, none⟩ (.slice Ao84 t668.length co84)) = w99 at n0_ n1_ n2_ n3_ n4_ ⊢; have HO_9 := n0_; have HO670 := n1_; have BK619 := n2_; have BK672 := n3_; have HB := n4_; clear n0_ n1_ n2_ n3_ n4_; replace HO_9 := rd HO_9; replace HO670 := rd HO670; replace BK619 := bd BK619; replace BK672 := bd BK672; replace HB := Aside0.mk (below_drew1 HB.out); refine start_ (n := 15) (S := fun w' => True) (ds := []) (pf 0 15) (by kernel_rfl) rfl rfl trivial (fun hHeld => ?_); refine with_tabW tangramlaw03_SimpleBack.tab23 tangramlaw03_SimpleBack.bits23 (fun HT_ HW_ => ?_); generalize w99.drew = w100 at HO_9 HO670 BK619 BK672 HB hHeld ⊢; refine pu_ 0 (some 142) (pf 1 15) HT_ ?_; refine pu_ 1 (some 143) (pf 2 15) HT_ ?_; refine pu_ 2 (some 144) (pf 3 15) HT_ ?_; refine pn_ 3 (some 145) (pf 4 15) HT_ ?_; refine pn_ 4 (some 146) (pf 5 15) HT_ ?_; refine pn_ 5 (some 147) (pf 6 15) HT_ ?_; refine pn_ 6 (some 148) (pf 7 15) HT_ ?_; refine pu_ 7 (some 149) (pf 8 15) HT_ ?_; refine pu_ 8 (some 150) (pf 9 15) HT_ ?_; refine pn_ 9 (some 151) (pf 10 15) HT_ ?_
             refine pn_ 10 (some 152) (pf 11 15) HT_ ?_; refine pn_ 11 (some 153) (pf 12 15) HT_ ?_; refine pn_ 12 (some 154) (pf 13 15) HT_ ?_; refine pn_ 13 (some 155) (pf 14 15) HT_ ?_; refine pu_ 14 (some 156) (pf 15 15) HT_ ?_; refine done_ (done_of HT_.out (by kernel_rfl)) ?_
             try go_wp2
             go_meet
             case rel => exact ⟨_, (true), (by first | rfl | (simp; done) | (simp [*]; done)), H', ⟨by have := HK1.out; have := HJ17.out; have := HK3.out; first | omega | exact Nat.le_refl _⟩, ⟨rx HO670⟩, ⟨bx BK619⟩, ⟨bx BK672⟩, ⟨hb2 HB GE619 GE672⟩⟩
           case rest =>
            clear HC77
            try clear c1
            try clear p2
            try clear c3
            try clear c8
            try clear c13
            try clear c15
            try clear c18
            try clear c31
            try clear c82
            try clear c85
            try clear c85b0
            try clear c85b1
            try clear c87
            try clear hcz78_0
            try clear hcz78_1
            try clear hcz83_0
            try clear hcz83_1
            try clear hfz78_0
            try clear hfz78_1
            try clear hfz83_0
            try clear hfz83_1
            obtain ⟨kq, x156_76, rfl, HA, HJ76, HO_673001, BK619, BK672, HB⟩ := hcut
            cases kq with
            | zero => exact absurd HA.out (by simp [tangramlaw03_SimpleBack.j3])
            | succ kj76 =>
             have H := HA.out; clear HA; simp only [tangramlaw03_SimpleBack.j3] at H
             by_cases c101 : x156_76 = true
             ·subst c101; rw [if_pos rfl] at H; obtain rfl := Option.some.inj H
              go_wp2
              go_ret
              exact ⟨by first | rfl | (simp [errW_none, errW_some] <;> rfl) | (simp [*, errW_none, errW_some] <;> rfl), hb2 HB GE619 GE672⟩
             ·replace c101 := Bool.eq_false_iff.mpr c101; subst c101; rw [if_neg (show ¬ (false = true) by decide)] at H; replace H := Option.bind_eq_some_iff.mp H; obtain ⟨⟨t679, t680⟩, A1020, H⟩ := H; (try dsimp only at H); have A102 := Aside0.mk A1020; clear A1020; replace H := Option.bind_eq_some_iff.mp H; obtain ⟨⟨t683, t684⟩, A1030, H⟩ := H; (try dsimp only at H); have A103 := Aside0.mk A1030; clear A1030
              by_cases c104 : t684 = 0
              ·rw [if_pos c104] at H; have c104b0 : (t684 == 0) = true := beq_iff_eq.mpr c104; have c104b1 : (t684 != 0) = false := bne_eq_false_iff_eq.mpr c104; clear c104; replace H := Option.bind_eq_some_iff.mp H; obtain ⟨⟨t685, t686, t689, t690⟩, A1050, H⟩ := H; (try dsimp only at H); have A105 := Aside0.mk A1050; clear A1050
               by_cases c106 : (t689 == 0 && (t690 == 0)) = true
               ·rw [if_pos c106] at H; have c106b0 : (t689 == 0 && (t690 == 0)) = true := c106
                (try (have c106b1 : decide (t689 = 0 && (t690 == 0)) = true := by simpa using c106))
                (try (have c106b2 : (t689 == 0 && (t690 == 0)) = true := by simpa using c106))
                clear c106; replace H := Option.bind_eq_some_iff.mp H; obtain ⟨t693, A1070, H⟩ := H; (try dsimp only at H); have A107 := Aside0.mk A1070; clear A1070; obtain rfl := Option.some.inj H; have hnb108 := NB619_672.out; have hnc108 := NB672_619.out; have hcz109_0 : wc.cell? ⟨gb619, 0, none⟩ = some (.int .i64 a0_0) := bc BK619 0; have hcz109_1 : wc.cell? ⟨gb619, 1, none⟩ = some (.slice A0_1 l0_1.length c0_1) := bc BK619 1; have hfz109_0 := blk_frozen BK619.out 0; have hfz109_1 := blk_frozen BK619.out 1
                go_wp2_with (first | ((with_reducible refine gate_callee (f := 18) rfl ?_); refine gl_ (some 159) Tryd.func18 #[.agg #[.int .i64 a0_0, .slice A0_1 l0_1.length c0_1]] ?_; (with_reducible refine (tangramref03_Copy.calls kj76 a0_0 _ _ l0_1 t679 t680 _ ?side1 ?side2 A102.out).mono ?_); (case side1 => repeat (first | exact (Kd.C_below HR0_1.out HB.out) | (with_reducible refine Kd.C_alloc ?_ _) | (with_reducible refine Kd.C_drewN ?_ _) | (with_reducible refine Kd.C_drew ?_))); (case side2 => exact HC0_1.out); rintro e w110 ⟨v681, rfl, ho0, hb⟩; refine ⟨_, rfl, ?_⟩; have HO682 := Aside0.mk (Kd.R_lower (Kd.R_new' ho0 (Kd.R_lt (rx HO_673001))) (below_size (hb2 HB GE619 GE672))); replace HO_673001 := el (rx HO_673001) ho0 hb; replace BK619 := kx BK619 hb; replace BK672 := kx BK672 hb; replace HB := hs (hb2 HB GE619 GE672) hb; (try clear hb); (try clear hb2); (try clear hk); (try clear hi); (try clear ho0); obtain ⟨Ao111, co111, eo111⟩ := Kd.R_slice HO682.out; subst eo111) | ((with_reducible refine gate_callee (f := 17) rfl ?_); refine gl_ (some 160) Tryd.func17 #[.agg #[.int .i64 t679, .slice Ao111 t680.length co111]] ?_; (with_reducible refine (simple_Text.calls kj76 t679 _ _ t680 t683 t684 _ ?sideT ?side1 ?side2 A103.out).mono ?_); (case sideT => exact tb HT (hb0 HB)); (case side1 => exact cr HO682); (case side2 => exact (Kd.R_reads' HO682.out).2.1); rintro e w112 ⟨rfl, hb⟩; refine ⟨_, rfl, ?_⟩; replace HO_673001 := ry HO_673001 hb; replace HO682 := ry HO682 hb; replace BK619 := kx BK619 hb; replace BK672 := kx BK672 hb; replace HB := hs (hb2 HB GE619 GE672) hb; (try clear hb); (try clear hb2); (try clear hk); (try clear hi)) | (go_at_call 33; (with_reducible refine (nums_scanner_all.calls kj76 t683 t685 t686 t689 t690 _ A105.out).mono ?_); rintro e w113 ⟨v687, rfl, ho0, hb⟩; have HO688 := Aside0.mk (Kd.R_lower (Kd.R_new' (Kd.R_new' ho0 (Kd.R_lt (rx HO_673001))) (Kd.R_lt (rx HO682))) (below_size (hb2 HB GE619 GE672))); replace HO_673001 := el (rx HO_673001) ho0 hb; replace HO682 := el (rx HO682) ho0 hb; replace BK619 := kx BK619 hb; replace BK672 := kx BK672 hb; replace HB := hs (hb2 HB GE619 GE672) hb; (try clear hb); (try clear hb2); (try clear hk); (try clear hi); (try clear ho0)) | ((with_reducible refine gate_dst (N := 20) rfl ?_); (try (refine gate_guard (by rfl) ?_; dsimp only)); refine be_ 20 #[.int .i64 0, .slice none 0 0] 26 ?_; intro gb691 hg w114 hbox hb; replace HO_673001 := ry HO_673001 hb; replace HO682 := ry HO682 hb; replace HO688 := ry HO688 hb; have BK691 := Aside0.mk (hbox); have GW691 := wq (hb2 HB GE619 GE672) hg; have GE691 := wq (hb2 HB GE619 GE672) hg; replace HB := hs (hb2 HB GE619 GE672) hb; have NB619_691 := lx BK619 hg; have NB691_619 := gx BK619 hg; replace BK619 := kx BK619 hb; have NB672_691 := lx BK672 hg; have NB691_672 := gx BK672 hg; replace BK672 := kx BK672 hb; clear hb hbox hg) | ((with_reducible refine gate_dst (N := 21) rfl ?_); (try (refine gate_guard (by rfl) ?_; dsimp only)); refine be_ 21 #[.int .i64 0, .int .i64 0] 60 ?_; intro gb692 hg w115 hbox hb; replace HO_673001 := ry HO_673001 hb; replace HO682 := ry HO682 hb; replace HO688 := ry HO688 hb; have BK692 := Aside0.mk (hbox); have GW692 := wq (hb3 HB GE619 GE672 GE691) hg; have GE692 := wq (hb3 HB GE619 GE672 GE691) hg; replace HB := hs (hb3 HB GE619 GE672 GE691) hb; have NB619_692 := lx BK619 hg; have NB692_619 := gx BK619 hg; replace BK619 := kx BK619 hb; have NB672_692 := lx BK672 hg; have NB692_672 := gx BK672 hg; replace BK672 := kx BK672 hb; have NB691_692 := lx BK691 hg; have NB692_691 := gx BK691 hg; replace BK691 := kx BK691 hb; clear hb hbox hg; have hnb116 := NB691_619.out; have hnc116 := NB619_691.out; have hnb117 := NB691_672.out; have hnc117 := NB672_691.out; have hnb118 := NB691_692.out; have hnc118 := NB692_691.out; have hcz119_0 : w115.cell? ⟨gb691, 0, none⟩ = some (.int .i64 0) := bc BK691 0; have hcz119_1 : w115.cell? ⟨gb691, 1, none⟩ = some (.slice none 0 0) := bc BK691 1; have hfz119_0 := blk_frozen BK691.out 0; have hfz119_1 := blk_frozen BK691.out 1; obtain ⟨Ao120, co120, eo120⟩ := Kd.R_slice HO688.out; subst eo120; have hnb121 := NB692_619.out; have hnc121 := NB619_692.out; have hnb122 := NB692_672.out; have hnc122 := NB672_692.out; have hcz123_0 : w115.cell? ⟨gb692, 0, none⟩ = some (.int .i64 0) := bc BK692 0; have hcz123_1 : w115.cell? ⟨gb692, 1, none⟩ = some (.int .i64 0) := bc BK692 1; have hfz123_0 := blk_frozen BK692.out 0; have hfz123_1 := blk_frozen BK692.out 1; have hcz124_0 : w115.cell? ⟨gb619, 0, none⟩ = some (.int .i64 a0_0) := bc BK619 0; have hcz124_1 : w115.cell? ⟨gb619, 1, none⟩ = some (.slice A0_1 l0_1.length c0_1) := bc BK619 1; have hfz124_0 := blk_frozen BK619.out 0; have hfz124_1 := blk_frozen BK619.out 1) | (go_at_call 15; (with_reducible refine (tangramref03_Equal.calls kj76 t685 _ _ t686 a0_0 _ _ l0_1 t693 _ ?side1 ?side2 ?side3 ?side4 A107.out).mono ?_); (case side1 => refine (Kd.R_reads' (e := 42) (base := w.heap.size) (ok := fun k_ => ((True ∧ some k_ ≠ (.slice Ao84 t668.length co84 : Value).ownBlock) ∧ some k_ ≠ (.slice Ao111 t680.length co111 : Value).ownBlock)) (n := t686.length) (c := co120) ?_).2.2; exact (by (with_reducible repeat (first | apply Kd.R_alloc | apply Kd.R_drewN | apply Kd.R_drew)); exact (Kd.R_mono (Kd.R_mono (Kd.R_far (p := ⟨gb692, 1, none⟩) (Kd.R_far (p := ⟨gb692, 0, none⟩) (Kd.R_far (p := ⟨gb691, 1, none⟩) (Kd.R_far (p := ⟨gb691, 0, none⟩) (Kd.R_types (Kd.R_types HO688.out BK691.out (by decide)) BK692.out (by decide)) (fun _ hk => hk.1.2) (.int .i64 t685)) (fun _ hk => hk.1.2) (.slice Ao120 t686.length co120)) (fun _ hk => hk.2) (.int .i64 t689)) (fun _ hk => hk.2) (.int .i64 t690)) (fun _ h_ => h_.1)) (fun _ h_ => h_.1)))); (case side2 => exact (Kd.R_reads' HO688.out).2.1); (case side3 => exact Kd.C_below HR0_1.out (hb4 HB GE619 GE672 GE691 GE692)); (case side4 => exact HC0_1.out); rintro e w125 ⟨rfl, hb⟩; replace HO_673001 := Aside0.mk (Kd.R_below (by (with_reducible repeat (first | apply Kd.R_alloc | apply Kd.R_drewN | apply Kd.R_drew)); exact (Kd.R_mono (Kd.R_mono (Kd.R_far (p := ⟨gb692, 1, none⟩) (Kd.R_far (p := ⟨gb692, 0, none⟩) (Kd.R_far (p := ⟨gb691, 1, none⟩) (Kd.R_far (p := ⟨gb691, 0, none⟩) (Kd.R_types (Kd.R_types HO_673001.out BK691.out (by decide)) BK692.out (by decide)) (fun _ hk => hk.1.2) (.int .i64 t685)) (fun _ hk => hk.1.2) (.slice Ao120 t686.length co120)) (fun _ hk => hk.2) (.int .i64 t689)) (fun _ hk => hk.2) (.int .i64 t690)) (fun _ h_ => h_.1)) (fun _ h_ => h_.1))) hb); replace HO682 := Aside0.mk (Kd.R_below (by (with_reducible repeat (first | apply Kd.R_alloc | apply Kd.R_drewN | apply Kd.R_drew)); exact (Kd.R_mono (Kd.R_mono (Kd.R_far (p := ⟨gb692, 1, none⟩) (Kd.R_far (p := ⟨gb692, 0, none⟩) (Kd.R_far (p := ⟨gb691, 1, none⟩) (Kd.R_far (p := ⟨gb691, 0, none⟩) (Kd.R_types (Kd.R_types HO682.out BK691.out (by decide)) BK692.out (by decide)) (fun _ hk => hk.1.2) (.int .i64 t685)) (fun _ hk => hk.1.2) (.slice Ao120 t686.length co120)) (fun _ hk => hk.2) (.int .i64 t689)) (fun _ hk => hk.2) (.int .i64 t690)) (fun _ h_ => h_.1)) (fun _ h_ => h_.1))) hb); replace HO688 := Aside0.mk (Kd.R_below (by (with_reducible repeat (first | apply Kd.R_alloc | apply Kd.R_drewN | apply Kd.R_drew)); exact (Kd.R_mono (Kd.R_mono (Kd.R_far (p := ⟨gb692, 1, none⟩) (Kd.R_far (p := ⟨gb692, 0, none⟩) (Kd.R_far (p := ⟨gb691, 1, none⟩) (Kd.R_far (p := ⟨gb691, 0, none⟩) (Kd.R_types (Kd.R_types HO688.out BK691.out (by decide)) BK692.out (by decide)) (fun _ hk => hk.1.2) (.int .i64 t685)) (fun _ hk => hk.1.2) (.slice Ao120 t686.length co120)) (fun _ hk => hk.2) (.int .i64 t689)) (fun _ hk => hk.2) (.int .i64 t690)) (fun _ h_ => h_.1)) (fun _ h_ => h_.1))) hb); replace BK619 := kb (bx2 BK619 NB619_692 NB619_691) hb; replace BK672 := kb (bx2 BK672 NB672_692 NB672_691) hb; replace BK691 := Aside0.mk (blk_below (g := gb691) (o := .cells #[.int .i64 t685, .slice Ao120 t686.length co120] 26 (0, 0)) (by (with_reducible repeat (first | refine blk_drewN ?_ _ | refine blk_drew ?_ | refine blk_alloc ?_ _)); refine blk_far ?_ NB691_692.out _; (with_reducible repeat (first | refine blk_drewN ?_ _ | refine blk_drew ?_ | refine blk_alloc ?_ _)); refine blk_far ?_ NB691_692.out _; (with_reducible repeat (first | refine blk_drewN ?_ _ | refine blk_drew ?_ | refine blk_alloc ?_ _)); refine blk_put (cs := #[.int .i64 t685, .slice none 0 0]) ?_ 1 _ rfl; (with_reducible repeat (first | refine blk_drewN ?_ _ | refine blk_drew ?_ | refine blk_alloc ?_ _)); refine blk_put (cs := #[.int .i64 0, .slice none 0 0]) ?_ 0 _ rfl; (with_reducible repeat (first | refine blk_drewN ?_ _ | refine blk_drew ?_ | refine blk_alloc ?_ _)); exact BK691.out) hb); replace BK692 := Aside0.mk (blk_below (g := gb692) (o := .cells #[.int .i64 t689, .int .i64 t690] 60 (0, 0)) (by (with_reducible repeat (first | refine blk_drewN ?_ _ | refine blk_drew ?_ | refine blk_alloc ?_ _)); refine blk_put (cs := #[.int .i64 t689, .int .i64 0]) ?_ 1 _ rfl; (with_reducible repeat (first | refine blk_drewN ?_ _ | refine blk_drew ?_ | refine blk_alloc ?_ _)); refine blk_put (cs := #[.int .i64 0, .int .i64 0]) ?_ 0 _ rfl; (with_reducible repeat (first | refine blk_drewN ?_ _ | refine blk_drew ?_ | refine blk_alloc ?_ _)); refine blk_far ?_ NB692_691.out _; (with_reducible repeat (first | refine blk_drewN ?_ _ | refine blk_drew ?_ | refine blk_alloc ?_ _)); refine blk_far ?_ NB692_691.out _; (with_reducible repeat (first | refine blk_drewN ?_ _ | refine blk_drew ?_ | refine blk_alloc ?_ _)); exact BK692.out) hb); replace HB := hs (hb4 HB GE619 GE672 GE691 GE692) hb; (try clear hb); (try clear hb2); (try clear hk); (try clear hi)))
                go_ret
                exact ⟨by first | rfl | (simp [errW_none, errW_some] <;> rfl) | (simp [*, errW_none, errW_some] <;> rfl), hb4 HB GE619 GE672 GE691 GE692⟩
               ·rw [if_neg c106] at H; have c106b0 : (t689 == 0 && (t690 == 0)) = false := by simpa using c106
                (try (have c106b1 : decide (t689 = 0 && (t690 == 0)) = false := by simpa using c106))
                (try (have c106b2 : (t689 == 0 && (t690 == 0)) = false := by simpa using c106))
                (try (have c106b3 : ¬ (t689 = 0 && (t690 == 0)) := by simpa using c106))
                clear c106; obtain rfl := Option.some.inj H; have hnb126 := NB619_672.out; have hnc126 := NB672_619.out; have hcz127_0 : wc.cell? ⟨gb619, 0, none⟩ = some (.int .i64 a0_0) := bc BK619 0; have hcz127_1 : wc.cell? ⟨gb619, 1, none⟩ = some (.slice A0_1 l0_1.length c0_1) := bc BK619 1; have hfz127_0 := blk_frozen BK619.out 0; have hfz127_1 := blk_frozen BK619.out 1
                go_wp2_with (first | ((with_reducible refine gate_callee (f := 18) rfl ?_); refine gl_ (some 159) Tryd.func18 #[.agg #[.int .i64 a0_0, .slice A0_1 l0_1.length c0_1]] ?_; (with_reducible refine (tangramref03_Copy.calls kj76 a0_0 _ _ l0_1 t679 t680 _ ?side1 ?side2 A102.out).mono ?_); (case side1 => repeat (first | exact (Kd.C_below HR0_1.out HB.out) | (with_reducible refine Kd.C_alloc ?_ _) | (with_reducible refine Kd.C_drewN ?_ _) | (with_reducible refine Kd.C_drew ?_))); (case side2 => exact HC0_1.out); rintro e w128 ⟨v681, rfl, ho0, hb⟩; refine ⟨_, rfl, ?_⟩; have HO682 := Aside0.mk (Kd.R_lower (Kd.R_new' ho0 (Kd.R_lt (rx HO_673001))) (below_size (hb2 HB GE619 GE672))); replace HO_673001 := el (rx HO_673001) ho0 hb; replace BK619 := kx BK619 hb; replace BK672 := kx BK672 hb; replace HB := hs (hb2 HB GE619 GE672) hb; (try clear hb); (try clear hb2); (try clear hk); (try clear hi); (try clear ho0); obtain ⟨Ao129, co129, eo129⟩ := Kd.R_slice HO682.out; subst eo129) | ((with_reducible refine gate_callee (f := 17) rfl ?_); refine gl_ (some 160) Tryd.func17 #[.agg #[.int .i64 t679, .slice Ao129 t680.length co129]] ?_; (with_reducible refine (simple_Text.calls kj76 t679 _ _ t680 t683 t684 _ ?sideT ?side1 ?side2 A103.out).mono ?_); (case sideT => exact tb HT (hb0 HB)); (case side1 => exact cr HO682); (case side2 => exact (Kd.R_reads' HO682.out).2.1); rintro e w130 ⟨rfl, hb⟩; refine ⟨_, rfl, ?_⟩; replace HO_673001 := ry HO_673001 hb; replace HO682 := ry HO682 hb; replace BK619 := kx BK619 hb; replace BK672 := kx BK672 hb; replace HB := hs (hb2 HB GE619 GE672) hb; (try clear hb); (try clear hb2); (try clear hk); (try clear hi)) | (go_at_call 33; (with_reducible refine (nums_scanner_all.calls kj76 t683 t685 t686 t689 t690 _ A105.out).mono ?_); rintro e w131 ⟨v687, rfl, ho0, hb⟩; have HO688 := Aside0.mk (Kd.R_lower (Kd.R_new' (Kd.R_new' ho0 (Kd.R_lt (rx HO_673001))) (Kd.R_lt (rx HO682))) (below_size (hb2 HB GE619 GE672))); replace HO_673001 := el (rx HO_673001) ho0 hb; replace HO682 := el (rx HO682) ho0 hb; replace BK619 := kx BK619 hb; replace BK672 := kx BK672 hb; replace HB := hs (hb2 HB GE619 GE672) hb; (try clear hb); (try clear hb2); (try clear hk); (try clear hi); (try clear ho0)) | ((with_reducible refine gate_dst (N := 20) rfl ?_); (try (refine gate_guard (by rfl) ?_; dsimp only)); refine be_ 20 #[.int .i64 0, .slice none 0 0] 26 ?_; intro gb691 hg w132 hbox hb; replace HO_673001 := ry HO_673001 hb; replace HO682 := ry HO682 hb; replace HO688 := ry HO688 hb; have BK691 := Aside0.mk (hbox); have GW691 := wq (hb2 HB GE619 GE672) hg; have GE691 := wq (hb2 HB GE619 GE672) hg; replace HB := hs (hb2 HB GE619 GE672) hb; have NB619_691 := lx BK619 hg; have NB691_619 := gx BK619 hg; replace BK619 := kx BK619 hb; have NB672_691 := lx BK672 hg; have NB691_672 := gx BK672 hg; replace BK672 := kx BK672 hb; clear hb hbox hg) | ((with_reducible refine gate_dst (N := 21) rfl ?_); (try (refine gate_guard (by rfl) ?_; dsimp only)); refine be_ 21 #[.int .i64 0, .int .i64 0] 60 ?_; intro gb692 hg w133 hbox hb; replace HO_673001 := ry HO_673001 hb; replace HO682 := ry HO682 hb; replace HO688 := ry HO688 hb; have BK692 := Aside0.mk (hbox); have GW692 := wq (hb3 HB GE619 GE672 GE691) hg; have GE692 := wq (hb3 HB GE619 GE672 GE691) hg; replace HB := hs (hb3 HB GE619 GE672 GE691) hb; have NB619_692 := lx BK619 hg; have NB692_619 := gx BK619 hg; replace BK619 := kx BK619 hb; have NB672_692 := lx BK672 hg; have NB692_672 := gx BK672 hg; replace BK672 := kx BK672 hb; have NB691_692 := lx BK691 hg; have NB692_691 := gx BK691 hg; replace BK691 := kx BK691 hb; clear hb hbox hg; have hnb134 := NB691_619.out; have hnc134 := NB619_691.out; have hnb135 := NB691_672.out; have hnc135 := NB672_691.out; have hnb136 := NB691_692.out; have hnc136 := NB692_691.out; have hcz137_0 : w133.cell? ⟨gb691, 0, none⟩ = some (.int .i64 0) := bc BK691 0; have hcz137_1 : w133.cell? ⟨gb691, 1, none⟩ = some (.slice none 0 0) := bc BK691 1; have hfz137_0 := blk_frozen BK691.out 0; have hfz137_1 := blk_frozen BK691.out 1; obtain ⟨Ao138, co138, eo138⟩ := Kd.R_slice HO688.out; subst eo138; have hnb139 := NB692_619.out; have hnc139 := NB619_692.out; have hnb140 := NB692_672.out; have hnc140 := NB672_692.out; have hcz141_0 : w133.cell? ⟨gb692, 0, none⟩ = some (.int .i64 0) := bc BK692 0; have hcz141_1 : w133.cell? ⟨gb692, 1, none⟩ = some (.int .i64 0) := bc BK692 1; have hfz141_0 := blk_frozen BK692.out 0; have hfz141_1 := blk_frozen BK692.out 1))
                go_ret
                exact ⟨by first | rfl | (simp [errW_none, errW_some] <;> rfl) | (simp [*, errW_none, errW_some] <;> rfl), hb4 HB GE619 GE672 GE691 GE692⟩
              ·rw [if_neg c104] at H; have c104b0 : (t684 == 0) = false := beq_eq_false_iff_ne.mpr c104; have c104b1 : (t684 != 0) = true := bne_iff_ne.mpr c104; replace H := Option.bind_eq_some_iff.mp H; obtain ⟨⟨t694, t695⟩, A1420, H⟩ := H; (try dsimp only at H); have A142 := Aside0.mk A1420; clear A1420
               by_cases c143 : t684 = 141
               ·rw [if_pos c143] at H; have c143b0 : (t684 == 141) = true := beq_iff_eq.mpr c143; have c143b1 : (t684 != 141) = false := bne_eq_false_iff_eq.mpr c143; clear c143; obtain rfl := Option.some.inj H; have hnb144 := NB619_672.out; have hnc144 := NB672_619.out; have hcz145_0 : wc.cell? ⟨gb619, 0, none⟩ = some (.int .i64 a0_0) := bc BK619 0; have hcz145_1 : wc.cell? ⟨gb619, 1, none⟩ = some (.slice A0_1 l0_1.length c0_1) := bc BK619 1; have hfz145_0 := blk_frozen BK619.out 0; have hfz145_1 := blk_frozen BK619.out 1
                go_wp2_with (first | ((with_reducible refine gate_callee (f := 18) rfl ?_); refine gl_ (some 159) Tryd.func18 #[.agg #[.int .i64 a0_0, .slice A0_1 l0_1.length c0_1]] ?_; (with_reducible refine (tangramref03_Copy.calls kj76 a0_0 _ _ l0_1 t679 t680 _ ?side1 ?side2 A102.out).mono ?_); (case side1 => repeat (first | exact (Kd.C_below HR0_1.out HB.out) | (with_reducible refine Kd.C_alloc ?_ _) | (with_reducible refine Kd.C_drewN ?_ _) | (with_reducible refine Kd.C_drew ?_))); (case side2 => exact HC0_1.out); rintro e w146 ⟨v681, rfl, ho0, hb⟩; refine ⟨_, rfl, ?_⟩; have HO682 := Aside0.mk (Kd.R_lower (Kd.R_new' ho0 (Kd.R_lt (rx HO_673001))) (below_size (hb2 HB GE619 GE672))); replace HO_673001 := el (rx HO_673001) ho0 hb; replace BK619 := kx BK619 hb; replace BK672 := kx BK672 hb; replace HB := hs (hb2 HB GE619 GE672) hb; (try clear hb); (try clear hb2); (try clear hk); (try clear hi); (try clear ho0); obtain ⟨Ao147, co147, eo147⟩ := Kd.R_slice HO682.out; subst eo147) | ((with_reducible refine gate_callee (f := 17) rfl ?_); refine gl_ (some 160) Tryd.func17 #[.agg #[.int .i64 t679, .slice Ao147 t680.length co147]] ?_; (with_reducible refine (simple_Text.calls kj76 t679 _ _ t680 t683 t684 _ ?sideT ?side1 ?side2 A103.out).mono ?_); (case sideT => exact tb HT (hb0 HB)); (case side1 => exact cr HO682); (case side2 => exact (Kd.R_reads' HO682.out).2.1); rintro e w148 ⟨rfl, hb⟩; refine ⟨_, rfl, ?_⟩; replace HO_673001 := ry HO_673001 hb; replace HO682 := ry HO682 hb; replace BK619 := kx BK619 hb; replace BK672 := kx BK672 hb; replace HB := hs (hb2 HB GE619 GE672) hb; (try clear hb); (try clear hb2); (try clear hk); (try clear hi); have hcz149_0 : w148.cell? ⟨gb619, 0, none⟩ = some (.int .i64 a0_0) := bc BK619 0; have hcz149_1 : w148.cell? ⟨gb619, 1, none⟩ = some (.slice A0_1 l0_1.length c0_1) := bc BK619 1; have hfz149_0 := blk_frozen BK619.out 0; have hfz149_1 := blk_frozen BK619.out 1) | ((with_reducible refine gate_callee (f := 16) rfl ?_); refine gl_ (some 167) Tryd.func16 #[.agg #[.int .i64 a0_0, .slice A0_1 l0_1.length c0_1]] ?_; (with_reducible refine (tangramref03_Text.calls kj76 a0_0 _ _ l0_1 t694 t695 _ ?sideT ?side1 ?side2 A142.out).mono ?_); (case sideT => exact tb HT (hb0 HB)); (case side1 => repeat (first | exact (Kd.C_below HR0_1.out HB.out) | (with_reducible refine Kd.C_alloc ?_ _) | (with_reducible refine Kd.C_drewN ?_ _) | (with_reducible refine Kd.C_drew ?_))); (case side2 => exact HC0_1.out); rintro e w150 ⟨rfl, hb⟩; refine ⟨_, rfl, ?_⟩; replace HO_673001 := ry HO_673001 hb; replace HO682 := ry HO682 hb; replace BK619 := kx BK619 hb; replace BK672 := kx BK672 hb; replace HB := hs (hb2 HB GE619 GE672) hb; (try clear hb); (try clear hb2); (try clear hk); (try clear hi)))
                go_ret
                exact ⟨by first | rfl | (simp [errW_none, errW_some] <;> rfl) | (simp [*, errW_none, errW_some] <;> rfl), hb2 HB GE619 GE672⟩
               ·rw [if_neg c143] at H; have c143b0 : (t684 == 141) = false := beq_eq_false_iff_ne.mpr c143; have c143b1 : (t684 != 141) = true := bne_iff_ne.mpr c143; obtain rfl := Option.some.inj H; have hnb151 := NB619_672.out; have hnc151 := NB672_619.out; have hcz152_0 : wc.cell? ⟨gb619, 0, none⟩ = some (.int .i64 a0_0) := bc BK619 0; have hcz152_1 : wc.cell? ⟨gb619, 1, none⟩ = some (.slice A0_1 l0_1.length c0_1) := bc BK619 1; have hfz152_0 := blk_frozen BK619.out 0; have hfz152_1 := blk_frozen BK619.out 1
                go_wp2_with (first | ((with_reducible refine gate_callee (f := 18) rfl ?_); refine gl_ (some 159) Tryd.func18 #[.agg #[.int .i64 a0_0, .slice A0_1 l0_1.length c0_1]] ?_; (with_reducible refine (tangramref03_Copy.calls kj76 a0_0 _ _ l0_1 t679 t680 _ ?side1 ?side2 A102.out).mono ?_); (case side1 => repeat (first | exact (Kd.C_below HR0_1.out HB.out) | (with_reducible refine Kd.C_alloc ?_ _) | (with_reducible refine Kd.C_drewN ?_ _) | (with_reducible refine Kd.C_drew ?_))); (case side2 => exact HC0_1.out); rintro e w153 ⟨v681, rfl, ho0, hb⟩; refine ⟨_, rfl, ?_⟩; have HO682 := Aside0.mk (Kd.R_lower (Kd.R_new' ho0 (Kd.R_lt (rx HO_673001))) (below_size (hb2 HB GE619 GE672))); replace HO_673001 := el (rx HO_673001) ho0 hb; replace BK619 := kx BK619 hb; replace BK672 := kx BK672 hb; replace HB := hs (hb2 HB GE619 GE672) hb; (try clear hb); (try clear hb2); (try clear hk); (try clear hi); (try clear ho0); obtain ⟨Ao154, co154, eo154⟩ := Kd.R_slice HO682.out; subst eo154) | ((with_reducible refine gate_callee (f := 17) rfl ?_); refine gl_ (some 160) Tryd.func17 #[.agg #[.int .i64 t679, .slice Ao154 t680.length co154]] ?_; (with_reducible refine (simple_Text.calls kj76 t679 _ _ t680 t683 t684 _ ?sideT ?side1 ?side2 A103.out).mono ?_); (case sideT => exact tb HT (hb0 HB)); (case side1 => exact cr HO682); (case side2 => exact (Kd.R_reads' HO682.out).2.1); rintro e w155 ⟨rfl, hb⟩; refine ⟨_, rfl, ?_⟩; replace HO_673001 := ry HO_673001 hb; replace HO682 := ry HO682 hb; replace BK619 := kx BK619 hb; replace BK672 := kx BK672 hb; replace HB := hs (hb2 HB GE619 GE672) hb; (try clear hb); (try clear hb2); (try clear hk); (try clear hi); have hcz156_0 : w155.cell? ⟨gb619, 0, none⟩ = some (.int .i64 a0_0) := bc BK619 0; have hcz156_1 : w155.cell? ⟨gb619, 1, none⟩ = some (.slice A0_1 l0_1.length c0_1) := bc BK619 1; have hfz156_0 := blk_frozen BK619.out 0; have hfz156_1 := blk_frozen BK619.out 1) | ((with_reducible refine gate_callee (f := 16) rfl ?_); refine gl_ (some 167) Tryd.func16 #[.agg #[.int .i64 a0_0, .slice A0_1 l0_1.length c0_1]] ?_; (with_reducible refine (tangramref03_Text.calls kj76 a0_0 _ _ l0_1 t694 t695 _ ?sideT ?side1 ?side2 A142.out).mono ?_); (case sideT => exact tb HT (hb0 HB)); (case side1 => repeat (first | exact (Kd.C_below HR0_1.out HB.out) | (with_reducible refine Kd.C_alloc ?_ _) | (with_reducible refine Kd.C_drewN ?_ _) | (with_reducible refine Kd.C_drew ?_))); (case side2 => exact HC0_1.out); rintro e w157 ⟨rfl, hb⟩; refine ⟨_, rfl, ?_⟩; replace HO_673001 := ry HO_673001 hb; replace HO682 := ry HO682 hb; replace BK619 := kx BK619 hb; replace BK672 := kx BK672 hb; replace HB := hs (hb2 HB GE619 GE672) hb; (try clear hb); (try clear hb2); (try clear hk); (try clear hi)))
                go_ret
                exact ⟨by first | rfl | (simp [errW_none, errW_some] <;> rfl) | (simp [*, errW_none, errW_some] <;> rfl), hb2 HB GE619 GE672⟩
  ·replace c8 := Bool.eq_false_iff.mpr c8; subst c8; rw [if_neg (show ¬ (false = true) by decide)] at H; replace H := Option.bind_eq_some_iff.mp H; obtain ⟨⟨t626, t627⟩, A1580, H⟩ := H; (try dsimp only at H); have A158 := Aside0.mk A1580; clear A1580; replace H := Option.bind_eq_some_iff.mp H; obtain ⟨⟨t630, t631⟩, A1590, H⟩ := H; (try dsimp only at H); have A159 := Aside0.mk A1590; clear A1590; obtain rfl := Option.some.inj H
   go_enter Tryd.func10, Tryd.ntmps10
   go_wp2_with (first | ((with_reducible refine gate_dst (N := 3) rfl ?_); (try (refine gate_guard (by rfl) ?_; dsimp only)); refine be_ 3 #[.int .i64 a0_0, .slice A0_1 l0_1.length c0_1] 26 ?_; intro gb619 hg w160 hbox hb; have BK619 := Aside0.mk (hbox); have GW619 := wq (hb0 HB) hg; have GE619 := wq (hb0 HB) hg; replace HB := hs (hb0 HB) hb; clear hb hbox hg) | ((with_reducible refine gate_callee (f := 11) rfl ?_); refine gl_ (some 22) Tryd.func11 #[] ?_; (with_reducible refine (tangramlaw03_wakes.calls  true _ ?sideT A4.out).mono ?_); (case sideT => exact tb HT (hb0 HB)); rintro e w161 ⟨rfl, hb⟩; refine ⟨_, rfl, ?_⟩; replace BK619 := kx BK619 hb; replace HB := hs (hb1 HB GE619) hb; (try clear hb); (try clear hb2); (try clear hk); (try clear hi); have hcz162_0 : w161.cell? ⟨gb619, 0, none⟩ = some (.int .i64 a0_0) := bc BK619 0; have hcz162_1 : w161.cell? ⟨gb619, 1, none⟩ = some (.slice A0_1 l0_1.length c0_1) := bc BK619 1; have hfz162_0 := blk_frozen BK619.out 0; have hfz162_1 := blk_frozen BK619.out 1) | ((with_reducible refine gate_callee (f := 18) rfl ?_); refine gl_ (some 25) Tryd.func18 #[.agg #[.int .i64 a0_0, .slice A0_1 l0_1.length c0_1]] ?_; (with_reducible refine (tangramref03_Copy.calls k a0_0 _ _ l0_1 t621 t622 _ ?side1 ?side2 A6.out).mono ?_); (case side1 => repeat (first | exact (Kd.C_below HR0_1.out HB.out) | (with_reducible refine Kd.C_alloc ?_ _) | (with_reducible refine Kd.C_drewN ?_ _) | (with_reducible refine Kd.C_drew ?_))); (case side2 => exact HC0_1.out); rintro e w163 ⟨v623, rfl, ho0, hb⟩; refine ⟨_, rfl, ?_⟩; have HO624 := Aside0.mk (Kd.R_lower ho0 (below_size (hb1 HB GE619))); replace BK619 := kx BK619 hb; replace HB := hs (hb1 HB GE619) hb; (try clear hb); (try clear hb2); (try clear hk); (try clear hi); (try clear ho0); obtain ⟨Ao164, co164, eo164⟩ := Kd.R_slice HO624.out; subst eo164) | ((with_reducible refine gate_callee (f := 24) rfl ?_); refine gl_ (some 26) Tryd.func24 #[.agg #[.int .i64 t621, .slice Ao164 t622.length co164]] ?_; (with_reducible refine (simple_Valid.calls k t621 _ _ t622 false _ ?side1 ?side2 A7.out).mono ?_); (case side1 => exact cr HO624); (case side2 => exact (Kd.R_reads' HO624.out).2.1); rintro e w165 ⟨rfl, hb⟩; refine ⟨_, rfl, ?_⟩; replace HO624 := ry HO624 hb; replace BK619 := kx BK619 hb; replace HB := hs (hb1 HB GE619) hb; (try clear hb); (try clear hb2); (try clear hk); (try clear hi); have hcz166_0 : w165.cell? ⟨gb619, 0, none⟩ = some (.int .i64 a0_0) := bc BK619 0; have hcz166_1 : w165.cell? ⟨gb619, 1, none⟩ = some (.slice A0_1 l0_1.length c0_1) := bc BK619 1; have hfz166_0 := blk_frozen BK619.out 0; have hfz166_1 := blk_frozen BK619.out 1) | ((with_reducible refine gate_callee (f := 18) rfl ?_); refine gl_ (some 30) Tryd.func18 #[.agg #[.int .i64 a0_0, .slice A0_1 l0_1.length c0_1]] ?_; (with_reducible refine (tangramref03_Copy.calls k a0_0 _ _ l0_1 t626 t627 _ ?side1 ?side2 A158.out).mono ?_); (case side1 => repeat (first | exact (Kd.C_below HR0_1.out HB.out) | (with_reducible refine Kd.C_alloc ?_ _) | (with_reducible refine Kd.C_drewN ?_ _) | (with_reducible refine Kd.C_drew ?_))); (case side2 => exact HC0_1.out); rintro e w167 ⟨v628, rfl, ho0, hb⟩; refine ⟨_, rfl, ?_⟩; have HO629 := Aside0.mk (Kd.R_lower (Kd.R_new' ho0 (Kd.R_lt (rx HO624))) (below_size (hb1 HB GE619))); replace HO624 := el (rx HO624) ho0 hb; replace BK619 := kx BK619 hb; replace HB := hs (hb1 HB GE619) hb; (try clear hb); (try clear hb2); (try clear hk); (try clear hi); (try clear ho0); obtain ⟨Ao168, co168, eo168⟩ := Kd.R_slice HO629.out; subst eo168) | ((with_reducible refine gate_callee (f := 17) rfl ?_); refine gl_ (some 31) Tryd.func17 #[.agg #[.int .i64 t626, .slice Ao168 t627.length co168]] ?_; (with_reducible refine (simple_Text.calls k t626 _ _ t627 t630 t631 _ ?sideT ?side1 ?side2 A159.out).mono ?_); (case sideT => exact tb HT (hb0 HB)); (case side1 => exact cr HO629); (case side2 => exact (Kd.R_reads' HO629.out).2.1); rintro e w169 ⟨rfl, hb⟩; refine ⟨_, rfl, ?_⟩; replace HO624 := ry HO624 hb; replace HO629 := ry HO629 hb; replace BK619 := kx BK619 hb; replace HB := hs (hb1 HB GE619) hb; (try clear hb); (try clear hb2); (try clear hk); (try clear hi)))
   go_ret
   exact ⟨by first | rfl | (simp [errW_none, errW_some] <;> rfl) | (simp [*, errW_none, errW_some] <;> rfl), hb1 HB GE619⟩
 ·replace c5 := Bool.eq_false_iff.mpr c5; subst c5; rw [if_neg (show ¬ (false = true) by decide)] at H; obtain rfl := Option.some.inj H
  go_enter Tryd.func10, Tryd.ntmps10
  go_wp2_with (first | ((with_reducible refine gate_dst (N := 3) rfl ?_); (try (refine gate_guard (by rfl) ?_; dsimp only)); refine be_ 3 #[.int .i64 a0_0, .slice A0_1 l0_1.length c0_1] 26 ?_; intro gb619 hg w170 hbox hb; have BK619 := Aside0.mk (hbox); have GW619 := wq (hb0 HB) hg; have GE619 := wq (hb0 HB) hg; replace HB := hs (hb0 HB) hb; clear hb hbox hg) | ((with_reducible refine gate_callee (f := 11) rfl ?_); refine gl_ (some 22) Tryd.func11 #[] ?_; (with_reducible refine (tangramlaw03_wakes.calls  false _ ?sideT A4.out).mono ?_); (case sideT => exact tb HT (hb0 HB)); rintro e w171 ⟨rfl, hb⟩; refine ⟨_, rfl, ?_⟩; replace BK619 := kx BK619 hb; replace HB := hs (hb1 HB GE619) hb; (try clear hb); (try clear hb2); (try clear hk); (try clear hi)))
  go_ret
  exact ⟨by first | rfl | (simp [errW_none, errW_some] <;> rfl) | (simp [*, errW_none, errW_some] <;> rfl), hb1 HB GE619⟩

end Go.Proofs.YthejafdcdcchbaaDoor.PSimA
