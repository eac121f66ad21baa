-- PRINTED by print.py (a twelfth state) out of the translation. Not trusted: Lean checks it.
import Derived.Test.YtdaeaejmikhmcaaZPEditCx0
import Derived.Test.YtdaeaejmikhmcaaZPEditCx1
import Derived.Test.YtdaeaejmikhmcaaZPEditCx6
import Derived.Test.YtdaeaejmikhmcaaZPEditCx14
import Derived.Test.YtdaeaejmikhmcaaZPEditCx17
import Derived.Test.YtdaeaejmikhmcaaZPEditCx18
import Derived.Test.YtdaeaejmikhmcaaZPEditCx19
import Derived.Test.YtdaeaejmikhmcaaZPEditCx20
import Derived.Test.YtdaeaejmikhmcaaZPEditCx26
import Derived.Test.YtdaeaejmikhmcaaZPEditCx35
import Derived.Test.YtdaeaejmikhmcaaZPEditCx40
namespace Go.Proofs.Ytdaeaejmikhmcaa.PEditC
open Go.RowKit Go.Proofs.YtdaeaejmikhmcaaW.PrintWords Go.Proofs.YtdaeaejmikhmcaaW.PrintLast Go.Proofs.YtdaeaejmikhmcaaW.PrintMore
open Go.Proofs.YtdaeaejmikhmcaaX
attribute [local go_sem] max2_int min2_int max_two min_two max_three min_three max_four min_four   -- for this text's walks alone
set_option linter.unusedVariables false
set_option linter.unusedSimpArgs false

attribute [local go_sem high] eqA46
/-! ### tangramlaw14_EditBack: function 8 -/
mutual
def tangramlaw14_EditBack.j0 : Nat → Int → Bool → Int → List (S46) → Int → Int → Option (Bool)
 | 0, _, _, _, _, _, _ => none
 | k + 1, x1, x49, x664000, x664001, x665000, x665001 => if x49 = true then ((edit_Without.f k x664000 x664001 x1).bind fun bt673 => (if 0 ≤ x1 then (if x1 < (x664001.length : Int) then ((edit_With.f k bt673.1 bt673.2.1 ((rd_T46 x664001 x1).f0) ((rd_T46 x664001 x1).f1)).bind fun bt680 => (if bt673.2.2 = 0 then (if bt680.2.2 = 0 then (if (bt673.2.1.length : Int) = (wrap64 ((x664001.length : Int) - 1)) then ((tangramref14_Same.f k bt680.1 bt680.2.1 x664000 x664001).bind fun t686 => (tangramlaw14_EditBack.j1 k x1 (!t686) x664000 x664001 x665000 x665001 bt673.1 bt673.2.1)) else (tangramlaw14_EditBack.j1 k x1 true x664000 x664001 x665000 x665001 bt673.1 bt673.2.1)) else (tangramlaw14_EditBack.j1 k x1 true x664000 x664001 x665000 x665001 bt673.1 bt673.2.1)) else (tangramlaw14_EditBack.j1 k x1 true x664000 x664001 x665000 x665001 bt673.1 bt673.2.1))) else (none)) else (none))) else (tangramlaw14_EditBack.j3 k x664000 x664001 x665000 x665001)
def tangramlaw14_EditBack.j3 : Nat → Int → List (S46) → Int → Int → Option (Bool)
 | 0, _, _, _, _ => none
 | k + 1, x664000, x664001, x665000, x665001 => (edit_With.f k x664000 x664001 x665000 x665001).bind fun bt711 => (if bt711.2.2 = 0 then (tangramlaw14_EditBack.l0 k (-1) (bt711.2.1.length : Int) 0 x664000 x664001 x665000 x665001 bt711.1 bt711.2.1) else (tangramlaw14_EditBack.j5 k x664000 x664001))
def tangramlaw14_EditBack.j5 : Nat → Int → List (S46) → Option (Bool)
 | 0, _, _ => none
 | k + 1, x664000, x664001 => (edit_Apex.f k x664000 x664001).bind fun bt725 => (if bt725.2.2 = 0 then ((tangramlaw14_from.f k 0 x664000).bind fun t731 => ((edit_Induced.f k bt725.1 bt725.2.1 t731).bind fun bt734 => (if bt734.2.2 = 0 then (if bt725.1 = (wrap64 (x664000 + 1)) then (if (bt725.2.1.length : Int) = (wrap64 ((x664001.length : Int) + x664000)) then ((tangramref14_Same.f k bt734.1 bt734.2.1 x664000 x664001).bind fun t740 => (some t740)) else (some false)) else (some false)) else (some false)))) else (if bt725.2.2 = 141 then (if x664000 ≥ 1048576 then (some true) else (some (decide ((wrap64 (x664000 + (x664001.length : Int))) > 4194304)))) else (some false)))
def tangramlaw14_EditBack.l0 : Nat → Int → Int → Int → Int → List (S46) → Int → Int → Int → List (S46) → Option (Bool)
 | 0, _, _, _, _, _, _, _, _, _ => none
 | k + 1, x21, x171, x172, x664000, x664001, x665000, x665001, x717000, x717001 => if x172 < x171 then (if 0 ≤ x172 then (if x172 < (x717001.length : Int) then (if (((rd_T46 x717001 x172).f0) == x665000 && (((rd_T46 x717001 x172).f1) == x665001)) = true then (tangramlaw14_EditBack.l0 k x172 x171 (wrap64 (x172 + 1)) x664000 x664001 x665000 x665001 x717000 x717001) else (tangramlaw14_EditBack.l0 k x21 x171 (wrap64 (x172 + 1)) x664000 x664001 x665000 x665001 x717000 x717001)) else (none)) else (none)) else ((edit_Without.f k x717000 x717001 x21).bind fun bt718 => (if bt718.2.2 = 0 then (if (x717001.length : Int) = (wrap64 ((x664001.length : Int) + 1)) then ((tangramref14_Same.f k bt718.1 bt718.2.1 x664000 x664001).bind fun t724 => (if t724 = true then (tangramlaw14_EditBack.j5 k x664000 x664001) else (some false))) else (some false)) else (some false)))
def tangramlaw14_EditBack.j1 : Nat → Int → Bool → Int → List (S46) → Int → Int → Int → List (S46) → Option (Bool)
 | 0, _, _, _, _, _, _, _, _ => none
 | k + 1, x1, x87, x664000, x664001, x665000, x665001, x679000, x679001 => if x87 = true then (some false) else (if x664000 < 1048576 then (tangramlaw14_EditBack.j2 k x1 (decide ((x664001.length : Int) < 4194304)) x664000 x664001 x665000 x665001 x679000 x679001) else (tangramlaw14_EditBack.j2 k x1 false x664000 x664001 x665000 x665001 x679000 x679001))
def tangramlaw14_EditBack.j2 : Nat → Int → Bool → Int → List (S46) → Int → Int → Int → List (S46) → Option (Bool)
 | 0, _, _, _, _, _, _, _, _ => none
 | k + 1, x1, x96, x664000, x664001, x665000, x665001, x679000, x679001 => if x96 = true then ((edit_Divide.f k x664000 x664001 x1).bind fun bt687 => ((tangramlaw14_from.f k 0 x664000).bind fun t693 => ((edit_Induced.f k bt687.1 bt687.2.1 t693).bind fun bt696 => (if 0 ≤ x1 then (if x1 < (x664001.length : Int) then ((edit_With.f k bt696.1 bt696.2.1 ((rd_T46 x664001 x1).f0) ((rd_T46 x664001 x1).f1)).bind fun bt703 => (if bt687.2.2 = 0 then (if bt696.2.2 = 0 then (if bt703.2.2 = 0 then (if bt687.1 = (wrap64 (x664000 + 1)) then (if (bt687.2.1.length : Int) = (wrap64 ((x664001.length : Int) + 1)) then ((tangramref14_Same.f k bt703.1 bt703.2.1 x664000 x664001).bind fun t709 => (if t709 = true then ((tangramref14_Same.f k bt696.1 bt696.2.1 x679000 x679001).bind fun t710 => (if t710 = true then (tangramlaw14_EditBack.j3 k x664000 x664001 x665000 x665001) else (some false))) else (some false))) else (some false)) else (some false)) else (some false)) else (some false)) else (some false))) else (none)) else (none))))) else (tangramlaw14_EditBack.j3 k x664000 x664001 x665000 x665001)
end
def tangramlaw14_EditBack.f (k : Nat) (a0_0 : Int) (l0_1 : List (S46)) (a1 : Int) (a2_0 : Int) (a2_1 : Int) : Option (Bool) := (tangramlaw14_fixed.f k).bind fun t665 => (if t665 = true then ((tangramref03_Valid.f k a0_0 l0_1).bind fun t666 => (if t666 = true then (if a1 ≥ 0 then (tangramlaw14_EditBack.j0 k a1 (decide (a1 < (l0_1.length : Int))) a0_0 l0_1 a2_0 a2_1) else (tangramlaw14_EditBack.j0 k a1 false a0_0 l0_1 a2_0 a2_1)) else ((edit_Apex.f k a0_0 l0_1).bind fun bt667 => (some (bt667.2.2 == 1))))) else (some false))
theorem tangramlaw14_EditBack.mono_l : ∀ k, (∀ y0 y1 y2 y3 y4 y5, LeO (tangramlaw14_EditBack.j0 k y0 y1 y2 y3 y4 y5) (tangramlaw14_EditBack.j0 (k + 1) y0 y1 y2 y3 y4 y5)) ∧ (∀ y0 y1 y2 y3, LeO (tangramlaw14_EditBack.j3 k y0 y1 y2 y3) (tangramlaw14_EditBack.j3 (k + 1) y0 y1 y2 y3)) ∧ (∀ y0 y1, LeO (tangramlaw14_EditBack.j5 k y0 y1) (tangramlaw14_EditBack.j5 (k + 1) y0 y1)) ∧ (∀ y0 y1 y2 y3 y4 y5 y6 y7 y8, LeO (tangramlaw14_EditBack.l0 k y0 y1 y2 y3 y4 y5 y6 y7 y8) (tangramlaw14_EditBack.l0 (k + 1) y0 y1 y2 y3 y4 y5 y6 y7 y8)) ∧ (∀ y0 y1 y2 y3 y4 y5 y6 y7, LeO (tangramlaw14_EditBack.j1 k y0 y1 y2 y3 y4 y5 y6 y7) (tangramlaw14_EditBack.j1 (k + 1) y0 y1 y2 y3 y4 y5 y6 y7)) ∧ (∀ y0 y1 y2 y3 y4 y5 y6 y7, LeO (tangramlaw14_EditBack.j2 k y0 y1 y2 y3 y4 y5 y6 y7) (tangramlaw14_EditBack.j2 (k + 1) y0 y1 y2 y3 y4 y5 y6 y7))
 | 0 => ⟨fun _ _ _ _ _ _ r h => by simp [tangramlaw14_EditBack.j0] at h, fun _ _ _ _ r h => by simp [tangramlaw14_EditBack.j3] at h, fun _ _ r h => by simp [tangramlaw14_EditBack.j5] at h, fun _ _ _ _ _ _ _ _ _ r h => by simp [tangramlaw14_EditBack.l0] at h, fun _ _ _ _ _ _ _ _ r h => by simp [tangramlaw14_EditBack.j1] at h, fun _ _ _ _ _ _ _ _ r h => by simp [tangramlaw14_EditBack.j2] at h⟩
 | k + 1 => by
  obtain ⟨ih0, ih1, ih2, ih3, ih4, ih5⟩ := tangramlaw14_EditBack.mono_l k; refine ⟨?_, ?_, ?_, ?_, ?_, ?_⟩
  ·intro y0 y1 y2 y3 y4 y5
   unfold tangramlaw14_EditBack.j0
   repeat' first
   | (with_reducible exact ih0 _ _ _ _ _ _)
   | (with_reducible exact ih1 _ _ _ _)
   | (with_reducible exact ih2 _ _)
   | (with_reducible exact ih3 _ _ _ _ _ _ _ _ _)
   | (with_reducible exact ih4 _ _ _ _ _ _ _ _)
   | (with_reducible exact ih5 _ _ _ _ _ _ _ _)
   | (with_reducible exact edit_Apex.mono _ _ _)
   | (with_reducible exact edit_Divide.mono _ _ _ _)
   | (with_reducible exact edit_Induced.mono _ _ _ _)
   | (with_reducible exact edit_With.mono _ _ _ _ _)
   | (with_reducible exact edit_Without.mono _ _ _ _)
   | (with_reducible exact tangramlaw14_fixed.mono _)
   | (with_reducible exact tangramlaw14_from.mono _ _ _)
   | (with_reducible exact tangramref03_Valid.mono _ _ _)
   | (with_reducible exact tangramref14_Same.mono _ _ _ _ _)
   | (with_reducible exact LeO.refl _)
   | (with_reducible exact LeO.none _)
   | (with_reducible refine LeO.ite ?_ ?_)
   | (with_reducible refine LeO.bind ?_ (fun _ => ?_))
   | exact ih0 _ _ _ _ _ _
   | exact ih1 _ _ _ _
   | exact ih2 _ _
   | exact ih3 _ _ _ _ _ _ _ _ _
   | exact ih4 _ _ _ _ _ _ _ _
   | exact ih5 _ _ _ _ _ _ _ _
   | exact edit_Apex.mono _ _ _
   | exact edit_Divide.mono _ _ _ _
   | exact edit_Induced.mono _ _ _ _
   | exact edit_With.mono _ _ _ _ _
   | exact edit_Without.mono _ _ _ _
   | exact tangramlaw14_fixed.mono _
   | exact tangramlaw14_from.mono _ _ _
   | exact tangramref03_Valid.mono _ _ _
   | exact tangramref14_Same.mono _ _ _ _ _
   | exact LeO.none _
   | refine LeO.ite ?_ ?_
   | refine LeO.bind ?_ (fun _ => ?_)
  ·intro y0 y1 y2 y3
   unfold tangramlaw14_EditBack.j3
   repeat' first
   | (with_reducible exact ih0 _ _ _ _ _ _)
   | (with_reducible exact ih1 _ _ _ _)
   | (with_reducible exact ih2 _ _)
   | (with_reducible exact ih3 _ _ _ _ _ _ _ _ _)
   | (with_reducible exact ih4 _ _ _ _ _ _ _ _)
   | (with_reducible exact ih5 _ _ _ _ _ _ _ _)
   | (with_reducible exact edit_Apex.mono _ _ _)
   | (with_reducible exact edit_Divide.mono _ _ _ _)
   | (with_reducible exact edit_Induced.mono _ _ _ _)
   | (with_reducible exact edit_With.mono _ _ _ _ _)
   | (with_reducible exact edit_Without.mono _ _ _ _)
   | (with_reducible exact tangramlaw14_fixed.mono _)
   | (with_reducible exact tangramlaw14_from.mono _ _ _)
   | (with_reducible exact tangramref03_Valid.mono _ _ _)
   | (with_reducible exact tangramref14_Same.mono _ _ _ _ _)
   | (with_reducible exact LeO.refl _)
   | (with_reducible exact LeO.none _)
   | (with_reducible refine LeO.ite ?_ ?_)
   | (with_reducible refine LeO.bind ?_ (fun _ => ?_))
   | exact ih0 _ _ _ _ _ _
   | exact ih1 _ _ _ _
   | exact ih2 _ _
   | exact ih3 _ _ _ _ _ _ _ _ _
   | exact ih4 _ _ _ _ _ _ _ _
   | exact ih5 _ _ _ _ _ _ _ _
   | exact edit_Apex.mono _ _ _
   | exact edit_Divide.mono _ _ _ _
   | exact edit_Induced.mono _ _ _ _
   | exact edit_With.mono _ _ _ _ _
   | exact edit_Without.mono _ _ _ _
   | exact tangramlaw14_fixed.mono _
   | exact tangramlaw14_from.mono _ _ _
   | exact tangramref03_Valid.mono _ _ _
   | exact tangramref14_Same.mono _ _ _ _ _
   | exact LeO.none _
   | refine LeO.ite ?_ ?_
   | refine LeO.bind ?_ (fun _ => ?_)
  ·intro y0 y1
   unfold tangramlaw14_EditBack.j5
   repeat' first
   | (with_reducible exact ih0 _ _ _ _ _ _)
   | (with_reducible exact ih1 _ _ _ _)
   | (with_reducible exact ih2 _ _)
   | (with_reducible exact ih3 _ _ _ _ _ _ _ _ _)
   | (with_reducible exact ih4 _ _ _ _ _ _ _ _)
   | (with_reducible exact ih5 _ _ _ _ _ _ _ _)
   | (with_reducible exact edit_Apex.mono _ _ _)
   | (with_reducible exact edit_Divide.mono _ _ _ _)
   | (with_reducible exact edit_Induced.mono _ _ _ _)
   | (with_reducible exact edit_With.mono _ _ _ _ _)
   | (with_reducible exact edit_Without.mono _ _ _ _)
   | (with_reducible exact tangramlaw14_fixed.mono _)
   | (with_reducible exact tangramlaw14_from.mono _ _ _)
   | (with_reducible exact tangramref03_Valid.mono _ _ _)
   | (with_reducible exact tangramref14_Same.mono _ _ _ _ _)
   | (with_reducible exact LeO.refl _)
   | (with_reducible exact LeO.none _)
   | (with_reducible refine LeO.ite ?_ ?_)
   | (with_reducible refine LeO.bind ?_ (fun _ => ?_))
   | exact ih0 _ _ _ _ _ _
   | exact ih1 _ _ _ _
   | exact ih2 _ _
   | exact ih3 _ _ _ _ _ _ _ _ _
   | exact ih4 _ _ _ _ _ _ _ _
   | exact ih5 _ _ _ _ _ _ _ _
   | exact edit_Apex.mono _ _ _
   | exact edit_Divide.mono _ _ _ _
   | exact edit_Induced.mono _ _ _ _
   | exact edit_With.mono _ _ _ _ _
   | exact edit_Without.mono _ _ _ _
   | exact tangramlaw14_fixed.mono _
   | exact tangramlaw14_from.mono _ _ _
   | exact tangramref03_Valid.mono _ _ _
   | exact tangramref14_Same.mono _ _ _ _ _
   | exact LeO.none _
   | refine LeO.ite ?_ ?_
   | refine LeO.bind ?_ (fun _ => ?_)
  ·intro y0 y1 y2 y3 y4 y5 y6 y7 y8
   unfold tangramlaw14_EditBack.l0
   repeat' first
   | (with_reducible exact ih0 _ _ _ _ _ _)
   | (with_reducible exact ih1 _ _ _ _)
   | (with_reducible exact ih2 _ _)
   | (with_reducible exact ih3 _ _ _ _ _ _ _ _ _)
   | (with_reducible exact ih4 _ _ _ _ _ _ _ _)
   | (with_reducible exact ih5 _ _ _ _ _ _ _ _)
   | (with_reducible exact edit_Apex.mono _ _ _)
   | (with_reducible exact edit_Divide.mono _ _ _ _)
   | (with_reducible exact edit_Induced.mono _ _ _ _)
   | (with_reducible exact edit_With.mono _ _ _ _ _)
   | (with_reducible exact edit_Without.mono _ _ _ _)
   | (with_reducible exact tangramlaw14_fixed.mono _)
   | (with_reducible exact tangramlaw14_from.mono _ _ _)
   | (with_reducible exact tangramref03_Valid.mono _ _ _)
   | (with_reducible exact tangramref14_Same.mono _ _ _ _ _)
   | (with_reducible exact LeO.refl _)
   | (with_reducible exact LeO.none _)
   | (with_reducible refine LeO.ite ?_ ?_)
   | (with_reducible refine LeO.bind ?_ (fun _ => ?_))
   | exact ih0 _ _ _ _ _ _
   | exact ih1 _ _ _ _
   | exact ih2 _ _
   | exact ih3 _ _ _ _ _ _ _ _ _
   | exact ih4 _ _ _ _ _ _ _ _
   | exact ih5 _ _ _ _ _ _ _ _
   | exact edit_Apex.mono _ _ _
   | exact edit_Divide.mono _ _ _ _
   | exact edit_Induced.mono _ _ _ _
   | exact edit_With.mono _ _ _ _ _
   | exact edit_Without.mono _ _ _ _
   | exact tangramlaw14_fixed.mono _
   | exact tangramlaw14_from.mono _ _ _
   | exact tangramref03_Valid.mono _ _ _
   | exact tangramref14_Same.mono _ _ _ _ _
   | exact LeO.none _
   | refine LeO.ite ?_ ?_
   | refine LeO.bind ?_ (fun _ => ?_)
  ·intro y0 y1 y2 y3 y4 y5 y6 y7
   unfold tangramlaw14_EditBack.j1
   repeat' first
   | (with_reducible exact ih0 _ _ _ _ _ _)
   | (with_reducible exact ih1 _ _ _ _)
   | (with_reducible exact ih2 _ _)
   | (with_reducible exact ih3 _ _ _ _ _ _ _ _ _)
   | (with_reducible exact ih4 _ _ _ _ _ _ _ _)
   | (with_reducible exact ih5 _ _ _ _ _ _ _ _)
   | (with_reducible exact edit_Apex.mono _ _ _)
   | (with_reducible exact edit_Divide.mono _ _ _ _)
   | (with_reducible exact edit_Induced.mono _ _ _ _)
   | (with_reducible exact edit_With.mono _ _ _ _ _)
   | (with_reducible exact edit_Without.mono _ _ _ _)
   | (with_reducible exact tangramlaw14_fixed.mono _)
   | (with_reducible exact tangramlaw14_from.mono _ _ _)
   | (with_reducible exact tangramref03_Valid.mono _ _ _)
   | (with_reducible exact tangramref14_Same.mono _ _ _ _ _)
   | (with_reducible exact LeO.refl _)
   | (with_reducible exact LeO.none _)
   | (with_reducible refine LeO.ite ?_ ?_)
   | (with_reducible refine LeO.bind ?_ (fun _ => ?_))
   | exact ih0 _ _ _ _ _ _
   | exact ih1 _ _ _ _
   | exact ih2 _ _
   | exact ih3 _ _ _ _ _ _ _ _ _
   | exact ih4 _ _ _ _ _ _ _ _
   | exact ih5 _ _ _ _ _ _ _ _
   | exact edit_Apex.mono _ _ _
   | exact edit_Divide.mono _ _ _ _
   | exact edit_Induced.mono _ _ _ _
   | exact edit_With.mono _ _ _ _ _
   | exact edit_Without.mono _ _ _ _
   | exact tangramlaw14_fixed.mono _
   | exact tangramlaw14_from.mono _ _ _
   | exact tangramref03_Valid.mono _ _ _
   | exact tangramref14_Same.mono _ _ _ _ _
   | exact LeO.none _
   | refine LeO.ite ?_ ?_
   | refine LeO.bind ?_ (fun _ => ?_)
  ·intro y0 y1 y2 y3 y4 y5 y6 y7
   unfold tangramlaw14_EditBack.j2
   repeat' first
   | (with_reducible exact ih0 _ _ _ _ _ _)
   | (with_reducible exact ih1 _ _ _ _)
   | (with_reducible exact ih2 _ _)
   | (with_reducible exact ih3 _ _ _ _ _ _ _ _ _)
   | (with_reducible exact ih4 _ _ _ _ _ _ _ _)
   | (with_reducible exact ih5 _ _ _ _ _ _ _ _)
   | (with_reducible exact edit_Apex.mono _ _ _)
   | (with_reducible exact edit_Divide.mono _ _ _ _)
   | (with_reducible exact edit_Induced.mono _ _ _ _)
   | (with_reducible exact edit_With.mono _ _ _ _ _)
   | (with_reducible exact edit_Without.mono _ _ _ _)
   | (with_reducible exact tangramlaw14_fixed.mono _)
   | (with_reducible exact tangramlaw14_from.mono _ _ _)
   | (with_reducible exact tangramref03_Valid.mono _ _ _)
   | (with_reducible exact tangramref14_Same.mono _ _ _ _ _)
   | (with_reducible exact LeO.refl _)
   | (with_reducible exact LeO.none _)
   | (with_reducible refine LeO.ite ?_ ?_)
   | (with_reducible refine LeO.bind ?_ (fun _ => ?_))
   | exact ih0 _ _ _ _ _ _
   | exact ih1 _ _ _ _
   | exact ih2 _ _
   | exact ih3 _ _ _ _ _ _ _ _ _
   | exact ih4 _ _ _ _ _ _ _ _
   | exact ih5 _ _ _ _ _ _ _ _
   | exact edit_Apex.mono _ _ _
   | exact edit_Divide.mono _ _ _ _
   | exact edit_Induced.mono _ _ _ _
   | exact edit_With.mono _ _ _ _ _
   | exact edit_Without.mono _ _ _ _
   | exact tangramlaw14_fixed.mono _
   | exact tangramlaw14_from.mono _ _ _
   | exact tangramref03_Valid.mono _ _ _
   | exact tangramref14_Same.mono _ _ _ _ _
   | exact LeO.none _
   | refine LeO.ite ?_ ?_
   | refine LeO.bind ?_ (fun _ => ?_)
theorem tangramlaw14_EditBack.mono : ∀ a0 a1 a2 a3 a4 k, LeO (tangramlaw14_EditBack.f k a0 a1 a2 a3 a4) (tangramlaw14_EditBack.f (k + 1) a0 a1 a2 a3 a4) := by
 intro a0 a1 a2 a3 a4 k; obtain ⟨ih0, ih1, ih2, ih3, ih4, ih5⟩ := tangramlaw14_EditBack.mono_l k
 unfold tangramlaw14_EditBack.f
 repeat' first
   | (with_reducible exact ih0 _ _ _ _ _ _)
   | (with_reducible exact ih1 _ _ _ _)
   | (with_reducible exact ih2 _ _)
   | (with_reducible exact ih3 _ _ _ _ _ _ _ _ _)
   | (with_reducible exact ih4 _ _ _ _ _ _ _ _)
   | (with_reducible exact ih5 _ _ _ _ _ _ _ _)
   | (with_reducible exact edit_Apex.mono _ _ _)
   | (with_reducible exact edit_Divide.mono _ _ _ _)
   | (with_reducible exact edit_Induced.mono _ _ _ _)
   | (with_reducible exact edit_With.mono _ _ _ _ _)
   | (with_reducible exact edit_Without.mono _ _ _ _)
   | (with_reducible exact tangramlaw14_fixed.mono _)
   | (with_reducible exact tangramlaw14_from.mono _ _ _)
   | (with_reducible exact tangramref03_Valid.mono _ _ _)
   | (with_reducible exact tangramref14_Same.mono _ _ _ _ _)
   | (with_reducible exact LeO.refl _)
   | (with_reducible exact LeO.none _)
   | (with_reducible refine LeO.ite ?_ ?_)
   | (with_reducible refine LeO.bind ?_ (fun _ => ?_))
   | exact ih0 _ _ _ _ _ _
   | exact ih1 _ _ _ _
   | exact ih2 _ _
   | exact ih3 _ _ _ _ _ _ _ _ _
   | exact ih4 _ _ _ _ _ _ _ _
   | exact ih5 _ _ _ _ _ _ _ _
   | exact edit_Apex.mono _ _ _
   | exact edit_Divide.mono _ _ _ _
   | exact edit_Induced.mono _ _ _ _
   | exact edit_With.mono _ _ _ _ _
   | exact edit_Without.mono _ _ _ _
   | exact tangramlaw14_fixed.mono _
   | exact tangramlaw14_from.mono _ _ _
   | exact tangramref03_Valid.mono _ _ _
   | exact tangramref14_Same.mono _ _ _ _ _
   | exact LeO.none _
   | refine LeO.ite ?_ ?_
   | refine LeO.bind ?_ (fun _ => ?_)
def tangramlaw14_EditBack.T8 : Bool × List (List Nat × List Nat) := (true, [([], []), ([], []), ([1], [1]), ([], []), ([2, 3], [2, 3]), ([4], [4]), ([0, 5], [0, 5]), ([6], [6]), ([7], [7]), ([7], [7]), ([], []), ([10, 8, 6, 0, 1, 2, 3, 4, 5, 6, 7, 8, 10], [8, 10]), ([9, 11, 0, 1, 2, 3, 4, 5, 6, 7, 8, 9, 10, 11], [9])])
def tangramlaw14_EditBack.B8 : List Nat := [0, 0, 2, 0, 14, 30, 63, 127, 255, 255, 0, 1535, 4095]
theorem tangramlaw14_EditBack.tab8 : rtab .any (opsOf Try.f8 8) = tangramlaw14_EditBack.T8 := by kernel_rfl
theorem tangramlaw14_EditBack.bits8 : waitsOk tangramlaw14_EditBack.T8.2 tangramlaw14_EditBack.B8 = true := by kernel_rfl
def tangramlaw14_EditBack.T13 : Bool × List (List Nat × List Nat) := (true, [([], []), ([], []), ([1], [1]), ([2], [2]), ([0, 3, 3], [0, 3]), ([4], [4]), ([5], [5]), ([5], [5]), ([], []), ([8, 6, 4, 0, 1, 2, 3, 4, 5, 6, 8], [6, 8]), ([7, 9, 0, 1, 2, 3, 4, 5, 6, 7, 8, 9], [7])])
def tangramlaw14_EditBack.B13 : List Nat := [0, 0, 2, 6, 15, 31, 63, 63, 0, 383, 1023]
theorem tangramlaw14_EditBack.tab13 : rtab .any (opsOf Try.f8 13) = tangramlaw14_EditBack.T13 := by kernel_rfl
theorem tangramlaw14_EditBack.bits13 : waitsOk tangramlaw14_EditBack.T13.2 tangramlaw14_EditBack.B13 = true := by kernel_rfl
def tangramlaw14_EditBack.T14 : Bool × List (List Nat × List Nat) := (true, [([], []), ([], []), ([1], [1]), ([], []), ([2, 3], [2, 3]), ([4], [4]), ([0, 5], [0, 5]), ([6], [6]), ([7], [7]), ([7], [7]), ([], []), ([10, 8, 6, 0, 1, 2, 3, 4, 5, 6, 7, 8, 10], [8, 10]), ([9, 11, 0, 1, 2, 3, 4, 5, 6, 7, 8, 9, 10, 11], [9])])
def tangramlaw14_EditBack.B14 : List Nat := [0, 0, 2, 0, 14, 30, 63, 127, 255, 255, 0, 1535, 4095]
theorem tangramlaw14_EditBack.tab14 : rtab .any (opsOf Try.f8 14) = tangramlaw14_EditBack.T14 := by kernel_rfl
theorem tangramlaw14_EditBack.bits14 : waitsOk tangramlaw14_EditBack.T14.2 tangramlaw14_EditBack.B14 = true := by kernel_rfl
def tangramlaw14_EditBack.T32 : Bool × List (List Nat × List Nat) := (true, [([], []), ([], []), ([1], [1]), ([2], [2]), ([0, 3, 3], [0, 3]), ([4], [4]), ([5], [5]), ([5], [5]), ([], []), ([8, 6, 4, 0, 1, 2, 3, 4, 5, 6, 8], [6, 8]), ([7, 9, 0, 1, 2, 3, 4, 5, 6, 7, 8, 9], [7])])
def tangramlaw14_EditBack.B32 : List Nat := [0, 0, 2, 6, 15, 31, 63, 63, 0, 383, 1023]
theorem tangramlaw14_EditBack.tab32 : rtab .any (opsOf Try.f8 32) = tangramlaw14_EditBack.T32 := by kernel_rfl
theorem tangramlaw14_EditBack.bits32 : waitsOk tangramlaw14_EditBack.T32.2 tangramlaw14_EditBack.B32 = true := by kernel_rfl
set_option maxHeartbeats 8000000 in
set_option maxRecDepth 100000 in
theorem tangramlaw14_EditBack.calls (k : Nat) (a0_0 : Int) (A0_1 : Option Addr) (c0_1 : Nat) (l0_1 : List (S46)) (a1 : Int) (a2_0 : Int) (a2_1 : Int) (r : Bool) (w : World) (hr0_1 : Kd.C k46 w A0_1 l0_1.length l0_1) (hc0_1 : l0_1.length ≤ c0_1) (h : tangramlaw14_EditBack.f k a0_0 l0_1 a1 a2_0 a2_1 = some r) :
  Calls Try.prog 8 #[.agg #[.int .i64 a0_0, .slice A0_1 l0_1.length c0_1], .int .i64 a1, .agg #[.int .i64 a2_0, .int .i64 a2_1]] w fun e w' => e = .returned (.bool r) ∧ Below w.heap.size w w' := by
 have hu25 := Try.underlying25; have hu46 := Try.underlying46; have HR0_1 := Aside0.mk hr0_1; have HC0_1 := Aside0.mk hc0_1; clear hr0_1 hc0_1; have HB := Aside0.mk (Below.refl w.heap.size w); have H : ((tangramlaw14_fixed.f k).bind fun t665 => (if t665 = true then ((tangramref03_Valid.f k a0_0 l0_1).bind fun t666 => (if t666 = true then (if a1 ≥ 0 then (tangramlaw14_EditBack.j0 k a1 (decide (a1 < (l0_1.length : Int))) a0_0 l0_1 a2_0 a2_1) else (tangramlaw14_EditBack.j0 k a1 false a0_0 l0_1 a2_0 a2_1)) else ((edit_Apex.f k a0_0 l0_1).bind fun bt667 => (some (bt667.2.2 == 1))))) else (some false))) = some r := h; clear h; replace H := Option.bind_eq_some_iff.mp H; obtain ⟨t665, A40, H⟩ := H; (try dsimp only at H); have A4 := Aside0.mk A40; clear A40
 by_cases c5 : t665 = true
 ·subst c5; rw [if_pos rfl] at H; replace H := Option.bind_eq_some_iff.mp H; obtain ⟨t666, A60, H⟩ := H; (try dsimp only at H); have A6 := Aside0.mk A60; clear A60
  by_cases c7 : t666 = true
  ·subst c7; rw [if_pos rfl] at H; have HC8 := Aside0.mk H; clear H
   go_enter Try.func8, Try.ntmps8
   go_upto_region 6 with (first | ((with_reducible refine gate_dst (N := 3) rfl ?_); (try (refine gate_guard (by rfl) ?_; dsimp only)); refine be_ 3 #[.int .i64 a0_0, .slice A0_1 l0_1.length c0_1] 25 ?_; intro gb663 hg w9 hbox hb; have BK663 := Aside0.mk (hbox); have GW663 := wq (hb0 HB) hg; have GE663 := wq (hb0 HB) hg; replace HB := hs (hb0 HB) hb; clear hb hbox hg) | ((with_reducible refine gate_dst (N := 5) rfl ?_); (try (refine gate_guard (by rfl) ?_; dsimp only)); refine be_ 5 #[.int .i64 a2_0, .int .i64 a2_1] 46 ?_; intro gb664 hg w10 hbox hb; have BK664 := Aside0.mk (hbox); have GW664 := wq (hb1 HB GE663) hg; have GE664 := wq (hb1 HB GE663) hg; replace HB := hs (hb1 HB GE663) hb; have NB663_664 := lx BK663 hg; have NB664_663 := gx BK663 hg; replace BK663 := kx BK663 hb; clear hb hbox hg) | ((with_reducible refine gate_callee (f := 10) rfl ?_); refine gl_ (some 29) Try.func10 #[] ?_; (with_reducible refine (tangramlaw14_fixed.calls k  true _ A4.out).mono ?_); rintro e w11 ⟨rfl, hb⟩; refine ⟨_, rfl, ?_⟩; replace BK663 := kx BK663 hb; replace BK664 := kx BK664 hb; replace HB := hs (hb2 HB GE663 GE664) hb; (try clear hb); (try clear hb2); (try clear hk); (try clear hi); have hnb12 := NB663_664.out; have hnc12 := NB664_663.out; have hcz13_0 : w11.cell? ⟨gb663, 0, none⟩ = some (.int .i64 a0_0) := bc BK663 0; have hcz13_1 : w11.cell? ⟨gb663, 1, none⟩ = some (.slice A0_1 l0_1.length c0_1) := bc BK663 1; have hfz13_0 := blk_frozen BK663.out 0; have hfz13_1 := blk_frozen BK663.out 1) | ((with_reducible refine gate_callee (f := 11) rfl ?_); refine gl_ (some 32) Try.func11 #[.agg #[.int .i64 a0_0, .slice A0_1 l0_1.length c0_1]] ?_; (with_reducible refine (tangramref03_Valid.calls k a0_0 _ _ l0_1 true _ ?side1 ?side2 A6.out).mono ?_); (case side1 => repeat (first | exact (Kd.C_below HR0_1.out HB.out) | (with_reducible refine Kd.C_alloc ?_ _) | (with_reducible refine Kd.C_drewN ?_ _) | (with_reducible refine Kd.C_drew ?_))); (case side2 => exact HC0_1.out); rintro e w14 ⟨rfl, hb⟩; refine ⟨_, rfl, ?_⟩; replace BK663 := kx BK663 hb; replace BK664 := kx BK664 hb; replace HB := hs (hb2 HB GE663 GE664) hb; (try clear hb); (try clear hb2); (try clear hk); (try clear hi)))
   (try simp only [Act.put, List.setIfInBounds_toArray, List.set_cons_zero, List.set_cons_succ])
   go_cut [49] (fun v49 wc => ∃ (kq : Nat) (x49_7 : Bool), v49 = .bool x49_7 ∧ Aside0 (tangramlaw14_EditBack.j0 kq a1 x49_7 a0_0 l0_1 a2_0 a2_1 = some r) ∧ Aside0 (kq ≤ k) ∧ Aside0 (wc.heap[gb663]? = some (.cells #[.int .i64 a0_0, (.slice A0_1 l0_1.length c0_1)] 25 (0, 0))) ∧ Aside0 (wc.heap[gb664]? = some (.cells #[.int .i64 a2_0, .int .i64 a2_1] 46 (0, 0))) ∧ Aside0 (Below w.heap.size w wc))
   case first => as_aux_lemma =>
    have H := HC8.out; clear HC8
    by_cases c15 : a1 ≥ 0
    ·rw [if_pos c15] at H; have c15b0 : decide (0 ≤ a1) = true := decide_eq_true c15; clear c15
     (first | rw [c15b0] | (simp only [i64_w, i32_w]; rw [c15b0]) | skip)
     have H' := Aside0.mk H; clear H; have hnb16 := NB663_664.out; have hnc16 := NB664_663.out; have hcz17_0 : w14.cell? ⟨gb663, 0, none⟩ = some (.int .i64 a0_0) := bc BK663 0; have hcz17_1 : w14.cell? ⟨gb663, 1, none⟩ = some (.slice A0_1 l0_1.length c0_1) := bc BK663 1; have hfz17_0 := blk_frozen BK663.out 0; have hfz17_1 := blk_frozen BK663.out 1
     go_wp2
     go_meet
     case rel => exact ⟨_, (decide (a1 < (l0_1.length : Int))), (by first | rfl | (simp; done) | (simp [*]; done)), H', ⟨by first | omega | exact Nat.le_refl _⟩, ⟨bx BK663⟩, ⟨bx BK664⟩, ⟨hb2 HB GE663 GE664⟩⟩
    ·rw [if_neg c15] at H; have c15b0 : decide (0 ≤ a1) = false := decide_eq_false c15; clear c15
     (first | rw [c15b0] | (simp only [i64_w, i32_w]; rw [c15b0]) | skip)
     have H' := Aside0.mk H; clear H
     go_wp2
     go_meet
     case rel => exact ⟨_, (false), (by first | rfl | (simp; done) | (simp [*]; done)), H', ⟨by first | omega | exact Nat.le_refl _⟩, ⟨bx BK663⟩, ⟨bx BK664⟩, ⟨hb2 HB GE663 GE664⟩⟩
   case rest => as_aux_lemma =>
    clear HC8
    try clear c1
    try clear p2
    try clear c5
    try clear c7
    try clear c8
    try clear c10
    try clear c11
    try clear c12
    try clear c15
    try clear c15b0
    try clear c16
    try clear hcz13_0
    try clear hcz13_1
    try clear hcz17_0
    try clear hcz17_1
    try clear hfz13_0
    try clear hfz13_1
    try clear hfz17_0
    try clear hfz17_1
    obtain ⟨kq, x49_7, rfl, HA, HJ7, BK663, BK664, HB⟩ := hcut
    cases kq with
    | zero => exact absurd HA.out (by simp [tangramlaw14_EditBack.j0])
    | succ kj7 =>
     have H := HA.out; clear HA; simp only [tangramlaw14_EditBack.j0] at H; have HC18 := Aside0.mk H; clear H
     go_upto_if 49 with (fail)
     go_cut [] (fun wc => ∃ (kq : Nat), Aside0 (tangramlaw14_EditBack.j3 kq a0_0 l0_1 a2_0 a2_1 = some r) ∧ Aside0 (kq ≤ kj7) ∧ Aside0 (wc.heap[gb663]? = some (.cells #[.int .i64 a0_0, (.slice A0_1 l0_1.length c0_1)] 25 (0, 0))) ∧ Aside0 (wc.heap[gb664]? = some (.cells #[.int .i64 a2_0, .int .i64 a2_1] 46 (0, 0))) ∧ Aside0 (Below w.heap.size w wc))
     case first => as_aux_lemma =>
      have H := HC18.out; clear HC18
      by_cases c19 : x49_7 = true
      ·subst c19; rw [if_pos rfl] at H; replace H := Option.bind_eq_some_iff.mp H; obtain ⟨⟨t673, t674, t677⟩, A200, H⟩ := H; (try dsimp only at H); have A20 := Aside0.mk A200; clear A200
       by_cases c21 : 0 ≤ a1
       ·rw [if_pos c21] at H; have c21b0 : decide (0 ≤ a1) = true := decide_eq_true c21; clear c21
        (first | rw [c21b0] | (simp only [i64_w, i32_w]; rw [c21b0]) | skip)
        by_cases c22 : a1 < (l0_1.length : Int)
        ·rw [if_pos c22] at H; have c22b0 : decide (a1 < (l0_1.length : Int)) = true := decide_eq_true c22; clear c22; replace H := Option.bind_eq_some_iff.mp H; obtain ⟨⟨t680, t681, t684⟩, A230, H⟩ := H; (try dsimp only at H); have A23 := Aside0.mk A230; clear A230; have HC24 := Aside0.mk H; clear H; have hnb25 := NB663_664.out; have hnc25 := NB664_663.out; have hcz26_0 : wc.cell? ⟨gb663, 0, none⟩ = some (.int .i64 a0_0) := bc BK663 0; have hcz26_1 : wc.cell? ⟨gb663, 1, none⟩ = some (.slice A0_1 l0_1.length c0_1) := bc BK663 1; have hfz26_0 := blk_frozen BK663.out 0; have hfz26_1 := blk_frozen BK663.out 1
         try go_wp2_with (first | ((with_reducible refine gate_callee (f := 27) rfl ?_); refine gl_ (some 53) Try.func27 #[.agg #[.int .i64 a0_0, .slice A0_1 l0_1.length c0_1], .int .i64 a1] ?_; (with_reducible refine (edit_Without.calls kj7 a0_0 _ _ l0_1 a1 t673 t674 t677 _ ?side1 ?side2 A20.out).mono ?_); (case side1 => repeat (first | exact (Kd.C_below HR0_1.out HB.out) | (with_reducible refine Kd.C_alloc ?_ _) | (with_reducible refine Kd.C_drewN ?_ _) | (with_reducible refine Kd.C_drew ?_))); (case side2 => exact HC0_1.out); rintro e w27 ⟨v675, rfl, ho0, hb⟩; refine ⟨_, rfl, ?_⟩; have HO676 := Aside0.mk (Kd.R_lower (Kd.R_newB ho0 (bx BK664)) (below_size (hb2 HB GE663 GE664))); replace BK663 := kx BK663 hb; replace BK664 := kx BK664 hb; replace HB := hs (hb2 HB GE663 GE664) hb; (try clear hb); (try clear hb2); (try clear hk); (try clear hi); (try clear ho0)) | ((with_reducible refine gate_dst (N := 9) rfl ?_); (try (refine gate_guard (by rfl) ?_; dsimp only)); refine be_ 9 #[.int .i64 0, .slice none 0 0] 25 ?_; intro gb678 hg w28 hbox hb; replace HO676 := ry HO676 hb; have BK678 := Aside0.mk (hbox); have GW678 := wq (hb2 HB GE663 GE664) hg; have GE678 := wq (hb2 HB GE663 GE664) hg; replace HB := hs (hb2 HB GE663 GE664) hb; have NB663_678 := lx BK663 hg; have NB678_663 := gx BK663 hg; replace BK663 := kx BK663 hb; have NB664_678 := lx BK664 hg; have NB678_664 := gx BK664 hg; replace BK664 := kx BK664 hb; clear hb hbox hg; have hnb29 := NB678_663.out; have hnc29 := NB663_678.out; have hnb30 := NB678_664.out; have hnc30 := NB664_678.out; have hcz31_0 : w28.cell? ⟨gb678, 0, none⟩ = some (.int .i64 0) := bc BK678 0; have hcz31_1 : w28.cell? ⟨gb678, 1, none⟩ = some (.slice none 0 0) := bc BK678 1; have hfz31_0 := blk_frozen BK678.out 0; have hfz31_1 := blk_frozen BK678.out 1; obtain ⟨Ao32, co32, eo32⟩ := Kd.R_slice HO676.out; subst eo32))
         have n0_ : Aside0 (Kd.R k46 46 ((w28.setCell ⟨gb678, 0, none⟩ (.int .i64 t673)).setCell ⟨gb678, 1, none⟩ (.slice Ao32 t674.length co32)) w.heap.size (fun k_ => k_ ≠ gb664) (.slice Ao32 t674.length co32) t674) := ⟨Kd.R_mono (rf HO676 BK678) (fun _ hk => hk.2)⟩; have n1_ : Aside0 (((w28.setCell ⟨gb678, 0, none⟩ (.int .i64 t673)).setCell ⟨gb678, 1, none⟩ (.slice Ao32 t674.length co32)).heap[gb663]? = some (.cells #[.int .i64 a0_0, .slice A0_1 l0_1.length c0_1] 25 (0, 0))) := ⟨bx1 BK663 NB663_678⟩; have n2_ : Aside0 (((w28.setCell ⟨gb678, 0, none⟩ (.int .i64 t673)).setCell ⟨gb678, 1, none⟩ (.slice Ao32 t674.length co32)).heap[gb664]? = some (.cells #[.int .i64 a2_0, .int .i64 a2_1] 46 (0, 0))) := ⟨bx1 BK664 NB664_678⟩; have n3_ : Aside0 (((w28.setCell ⟨gb678, 0, none⟩ (.int .i64 t673)).setCell ⟨gb678, 1, none⟩ (.slice Ao32 t674.length co32)).heap[gb678]? = some (.cells #[.int .i64 t673, .slice Ao32 t674.length co32] 25 (0, 0))) := ⟨bp BK678⟩; have n4_ : Aside0 (Below w.heap.size w ((w28.setCell ⟨gb678, 0, none⟩ (.int .i64 t673)).setCell ⟨gb678, 1, none⟩ (.slice Ao32 t674.length co32))) := ⟨hb3 HB GE663 GE664 GE678⟩
         (try clear HO676)
         (try clear BK663)
         (try clear BK664)
         (try clear BK678)
         (try clear HB)
         generalize ((w28.setCell ⟨gb678, 0, none⟩ (.int .i64 t673)).setCell ⟨gb678, 1, none⟩ (.slice Ao32 t674.length co32)) = w33 at n0_ n1_ n2_ n3_ n4_ ⊢; have HO676 := n0_; have BK663 := n1_; have BK664 := n2_; have BK678 := n3_; have HB := n4_; clear n0_ n1_ n2_ n3_ n4_; replace HO676 := rd HO676; replace BK663 := bd BK663; replace BK664 := bd BK664; replace BK678 := bd BK678; replace HB := Aside0.mk (below_drew1 HB.out); have p679 : 0 ≤ (a1 : Int) := of_decide_eq_true (by first | (with_reducible assumption) | assumption); have q679 : a1 < (l0_1.length : Int) := of_decide_eq_true (by first | (with_reducible assumption) | assumption); obtain ⟨ad679, e679, hx679_0, hx679_1⟩ := at_T46 HR0_1.out a1 p679 q679; have hw679_1 := hx679_1; have hw679_0 := hx679_0
         cases e679
         replace hx679_0 := (HB.out.cell (World.block_lt_of_cell? w _ hx679_0)).trans hx679_0; replace hx679_1 := (HB.out.cell (World.block_lt_of_cell? w _ hx679_1)).trans hx679_1; replace p679 := eq_true p679; replace q679 := eq_true q679; refine start_ (n := 13) (S := fun w' => w'.cell? ⟨gb678, 0, none⟩ = some (.int .i64 t673) ∧ w'.cell? ⟨gb678, 1, none⟩ = some (.slice Ao32 t674.length co32) ∧ w'.cell? ⟨gb663, 0, none⟩ = some (.int .i64 a0_0) ∧ w'.cell? ⟨gb663, 1, none⟩ = some (.slice (some ad679) l0_1.length c0_1) ∧ w'.cell? (ad679.add ((a1).toNat * 2)) = some (.int .i64 ((rd_T46 l0_1 a1).f0)) ∧ w'.cell? ⟨(ad679.add ((a1).toNat * 2)).block, (ad679.add ((a1).toNat * 2)).off + 1, none⟩ = some (.int .i64 ((rd_T46 l0_1 a1).f1))) (ds := []) (pf 0 13) (by kernel_rfl) rfl rfl ⟨bc BK678 0, bc BK678 1, bc BK663 0, bc BK663 1, ((HB.out.cell (World.block_lt_of_cell? w _ hw679_0)).trans hw679_0), ((HB.out.cell (World.block_lt_of_cell? w _ hw679_1)).trans hw679_1)⟩ (fun hHeld => ?_); refine with_tabW tangramlaw14_EditBack.tab8 tangramlaw14_EditBack.bits8 (fun HT_ HW_ => ?_); generalize w33.drew = w34 at HO676 BK663 BK664 BK678 HB hx679_0 hx679_1 hHeld ⊢; refine pu_ 1 (some 58) #[F_,T_,F_,F_,F_,F_,F_,F_,F_,F_,F_,F_,F_] HT_ ?_; refine pu_ 3 (some 60) #[F_,T_,F_,T_,F_,F_,F_,F_,F_,F_,F_,F_,F_] HT_ ?_; refine tk6_ 0 (some 57) #[T_,T_,F_,T_,F_,F_,F_,F_,F_,F_,F_,F_,F_] HT_ HW_ hHeld ?_; refine tk6_ 2 (some 59) (pf 4 13) HT_ HW_ hHeld ?_
         refine pu_ 4 (some 61) (pf 5 13) HT_ ?_; refine tk6_ 5 (some 62) (pf 6 13) HT_ HW_ hHeld ?_; refine join_ (σ := Value × Nat) 2 (pf 11 13) (fun s_ => [(63, .tuple #[.agg #[.int .i64 t680, s_.1], .int .i64 t684]), (11, .pointer (some ⟨s_.2, 0, none⟩)), (56, .tuple #[.agg #[.int .i64 t680, s_.1], .int .i64 t684]), (64, .agg #[.int .i64 t680, s_.1]), (65, .int .i64 t684)]) (fun s_ w' => (w'.cell? ⟨gb678, 0, none⟩ = some (.int .i64 t673) ∧ w'.cell? ⟨gb678, 1, none⟩ = some (.slice Ao32 t674.length co32) ∧ w'.cell? ⟨gb663, 0, none⟩ = some (.int .i64 a0_0) ∧ w'.cell? ⟨gb663, 1, none⟩ = some (.slice (some ad679) l0_1.length c0_1) ∧ w'.cell? (ad679.add ((a1).toNat * 2)) = some (.int .i64 ((rd_T46 l0_1 a1).f0)) ∧ w'.cell? ⟨(ad679.add ((a1).toNat * 2)).block, (ad679.add ((a1).toNat * 2)).off + 1, none⟩ = some (.int .i64 ((rd_T46 l0_1 a1).f1))) ∧ (Kd.R k46 46 w' w.heap.size (fun k_ => some k_ ≠ (s_.1 : Value).ownBlock ∧ k_ ≠ gb664) (.slice Ao32 t674.length co32) t674) ∧ (Kd.R k46 46 w' w.heap.size (fun k_ => some k_ ≠ (.slice Ao32 t674.length co32 : Value).ownBlock ∧ k_ ≠ gb664) s_.1 t681) ∧ (w'.heap[gb663]? = some (.cells #[.int .i64 a0_0, .slice (some ad679) l0_1.length c0_1] 25 (0, 0))) ∧ (w'.heap[gb664]? = some (.cells #[.int .i64 a2_0, .int .i64 a2_1] 46 (0, 0))) ∧ (w'.heap[gb678]? = some (.cells #[.int .i64 t673, .slice Ao32 t674.length co32] 25 (0, 0))) ∧ (w'.heap[s_.2]? = some (.cells #[.int .i64 0, .slice none 0 0] 25 (0, 0))) ∧ (w.heap.size ≤ s_.2) ∧ (w.heap.size ≤ s_.2) ∧ (gb663 ≠ s_.2) ∧ (s_.2 ≠ gb663) ∧ (gb664 ≠ s_.2) ∧ (s_.2 ≠ gb664) ∧ (gb678 ≠ s_.2) ∧ (s_.2 ≠ gb678) ∧ (Below w.heap.size w w')) ?_ ?_
         rotate_left
         ·intro hCont; refine two_ (i := 6) (j := 10) (Ni := some 63) (Nj := some 11) (pf 7 13) #[T_,T_,T_,T_,T_,T_,F_,F_,F_,F_,T_,F_,F_] rfl rfl rfl rfl (two_of HT_.out (by kernel_rfl)) (by decide) (by decide) (fun K hK => ?_) (fun K hK => ?_)
          ·skip
           refine gs_ Try.func29 #[.agg #[.int .i64 t673, .slice Ao32 t674.length co32], .agg #[.int .i64 ((rd_T46 l0_1 a1).f0), .int .i64 ((rd_T46 l0_1 a1).f1)]] ?_
           with_reducible refine (edit_With.calls kj7 t673 _ _ t674 ((rd_T46 l0_1 a1).f0) ((rd_T46 l0_1 a1).f1) t680 t681 t684 _ ?side1 ?side2 A23.out).mono ?_
           (case side1 => exact cr HO676)
           (case side2 => exact (Kd.R_reads' HO676.out).2.1)
           rintro e w35 ⟨v682, rfl, ho0, hb⟩; refine ⟨_, rfl, ?_⟩; have HO683 := Aside0.mk (Kd.R_lower (Kd.R_newB (Kd.R_new' ho0 (Kd.R_lt (rx HO676))) (bx BK664)) (below_size (hb3 HB GE663 GE664 GE678))); replace HO676 := el (rx HO676) ho0 hb; replace BK663 := kx BK663 hb; replace BK664 := kx BK664 hb; replace BK678 := kx BK678 hb; replace HB := hs (hb3 HB GE663 GE664 GE678) hb
           (try clear hb)
           (try clear hb2)
           (try clear hk)
           (try clear hi)
           (try clear ho0)
           refine hK.out _ _ ⟨bc BK678 0, bc BK678 1, bc BK663 0, bc BK663 1, ((HB.out.cell (World.block_lt_of_cell? w _ hw679_0)).trans hw679_0), ((HB.out.cell (World.block_lt_of_cell? w _ hw679_1)).trans hw679_1)⟩ (fun hHeld => ?_); clear hK K; refine nm_ (some 63) ?_; refine pu_ 7 (some 56) (pf 8 13) HT_ ?_; refine pu_ 8 (some 64) (pf 9 13) HT_ ?_; refine pu_ 9 (some 65) (pf 10 13) HT_ ?_; refine on_ 10 (some 11) (pf 11 13) HT_ (fun K hK => ?_); refine bs_ 11 #[.int .i64 0, .slice none 0 0] 25 ?_; intro gb685 hg w36 hbox hb; replace HO676 := ry HO676 hb; replace HO683 := ry HO683 hb; have BK685 := Aside0.mk (hbox); have GW685 := wq (hb3 HB GE663 GE664 GE678) hg; have GE685 := wq (hb3 HB GE663 GE664 GE678) hg; replace HB := hs (hb3 HB GE663 GE664 GE678) hb; have NB663_685 := lx BK663 hg; have NB685_663 := gx BK663 hg; replace BK663 := kx BK663 hb; have NB664_685 := lx BK664 hg; have NB685_664 := gx BK664 hg; replace BK664 := kx BK664 hb; have NB678_685 := lx BK678 hg; have NB685_678 := gx BK678 hg; replace BK678 := kx BK678 hb; clear hb hbox hg; refine hK.out _ _ ⟨bc BK678 0, bc BK678 1, bc BK663 0, bc BK663 1, ((HB.out.cell (World.block_lt_of_cell? w _ hw679_0)).trans hw679_0), ((HB.out.cell (World.block_lt_of_cell? w _ hw679_1)).trans hw679_1)⟩ (fun hHeld => ?_); clear hK K; refine nm_ (some 11) ?_; exact norm_ (by simp only [putAll, Act.put, List.setIfInBounds_toArray, List.set_cons_zero, List.set_cons_succ]) (hCont (v682, gb685) _ ⟨hHeld, (Kd.R_mono (rx HO676) (fun _ hk => ⟨hk.2, hk.1⟩)), (Kd.R_mono (rx HO683) (fun _ hk => ⟨hk.1.2, hk.2⟩)), (bx BK663), (bx BK664), (bx BK678), (bx BK685), GW685.out, GE685.out, NB663_685.out, NB685_663.out, NB664_685.out, NB685_664.out, NB678_685.out, NB685_678.out, (hb4 HB GE663 GE664 GE678 GE685)⟩)
          ·skip
           refine bs_ 11 #[.int .i64 0, .slice none 0 0] 25 ?_; intro gb685 hg w35 hbox hb; replace HO676 := ry HO676 hb; have BK685 := Aside0.mk (hbox); have GW685 := wq (hb3 HB GE663 GE664 GE678) hg; have GE685 := wq (hb3 HB GE663 GE664 GE678) hg; replace HB := hs (hb3 HB GE663 GE664 GE678) hb; have NB663_685 := lx BK663 hg; have NB685_663 := gx BK663 hg; replace BK663 := kx BK663 hb; have NB664_685 := lx BK664 hg; have NB685_664 := gx BK664 hg; replace BK664 := kx BK664 hb; have NB678_685 := lx BK678 hg; have NB685_678 := gx BK678 hg; replace BK678 := kx BK678 hb; clear hb hbox hg; refine hK.out _ _ ⟨bc BK678 0, bc BK678 1, bc BK663 0, bc BK663 1, ((HB.out.cell (World.block_lt_of_cell? w _ hw679_0)).trans hw679_0), ((HB.out.cell (World.block_lt_of_cell? w _ hw679_1)).trans hw679_1)⟩ (fun hHeld => ?_); clear hK K; refine nm_ (some 11) ?_; refine on_ 6 (some 63) #[T_,T_,T_,T_,T_,T_,T_,F_,F_,F_,T_,F_,F_] HT_ (fun K hK => ?_); refine gs_ Try.func29 #[.agg #[.int .i64 t673, .slice Ao32 t674.length co32], .agg #[.int .i64 ((rd_T46 l0_1 a1).f0), .int .i64 ((rd_T46 l0_1 a1).f1)]] ?_
           with_reducible refine (edit_With.calls kj7 t673 _ _ t674 ((rd_T46 l0_1 a1).f0) ((rd_T46 l0_1 a1).f1) t680 t681 t684 _ ?side1 ?side2 A23.out).mono ?_
           (case side1 => exact cr HO676)
           (case side2 => exact (Kd.R_reads' HO676.out).2.1)
           rintro e w36 ⟨v682, rfl, ho0, hb⟩; refine ⟨_, rfl, ?_⟩; have HO683 := Aside0.mk (Kd.R_lower (Kd.R_newB (Kd.R_new' ho0 (Kd.R_lt (rx HO676))) (bx BK664)) (below_size (hb4 HB GE663 GE664 GE678 GE685))); replace HO676 := el (rx HO676) ho0 hb; replace BK663 := kx BK663 hb; replace BK664 := kx BK664 hb; replace BK678 := kx BK678 hb; replace BK685 := kx BK685 hb; replace HB := hs (hb4 HB GE663 GE664 GE678 GE685) hb
           (try clear hb)
           (try clear hb2)
           (try clear hk)
           (try clear hi)
           (try clear ho0)
           refine hK.out _ _ ⟨bc BK678 0, bc BK678 1, bc BK663 0, bc BK663 1, ((HB.out.cell (World.block_lt_of_cell? w _ hw679_0)).trans hw679_0), ((HB.out.cell (World.block_lt_of_cell? w _ hw679_1)).trans hw679_1)⟩ (fun hHeld => ?_); clear hK K; refine nm_ (some 63) ?_; refine pu_ 7 (some 56) #[T_,T_,T_,T_,T_,T_,T_,T_,F_,F_,T_,F_,F_] HT_ ?_; refine pu_ 8 (some 64) #[T_,T_,T_,T_,T_,T_,T_,T_,T_,F_,T_,F_,F_] HT_ ?_; refine pu_ 9 (some 65) (pf 11 13) HT_ ?_; exact norm_ (by simp only [putAll, Act.put, List.setIfInBounds_toArray, List.set_cons_zero, List.set_cons_succ]) (hCont (v682, gb685) _ ⟨hHeld, (Kd.R_mono (rx HO676) (fun _ hk => ⟨hk.2, hk.1⟩)), (Kd.R_mono (rx HO683) (fun _ hk => ⟨hk.1.2, hk.2⟩)), (bx BK663), (bx BK664), (bx BK678), (bx BK685), GW685.out, GE685.out, NB663_685.out, NB685_663.out, NB664_685.out, NB685_664.out, NB678_685.out, NB685_678.out, (hb4 HB GE663 GE664 GE678 GE685)⟩)
         rintro ⟨v682, gb685⟩ w37 ⟨hS_, h0_, h1_, h2_, h3_, h4_, h5_, h6_, h7_, h8_, h9_, h10_, h11_, h12_, h13_, h14_⟩; have n0_ : Aside0 (Kd.R k46 46 w37 w.heap.size (fun k_ => some k_ ≠ (v682 : Value).ownBlock ∧ k_ ≠ gb664) (.slice Ao32 t674.length co32) t674) := ⟨h0_⟩; have n1_ : Aside0 (Kd.R k46 46 w37 w.heap.size (fun k_ => some k_ ≠ (.slice Ao32 t674.length co32 : Value).ownBlock ∧ k_ ≠ gb664) v682 t681) := ⟨h1_⟩; have n2_ : Aside0 (w37.heap[gb663]? = some (.cells #[.int .i64 a0_0, .slice (some ad679) l0_1.length c0_1] 25 (0, 0))) := ⟨h2_⟩; have n3_ : Aside0 (w37.heap[gb664]? = some (.cells #[.int .i64 a2_0, .int .i64 a2_1] 46 (0, 0))) := ⟨h3_⟩; have n4_ : Aside0 (w37.heap[gb678]? = some (.cells #[.int .i64 t673, .slice Ao32 t674.length co32] 25 (0, 0))) := ⟨h4_⟩; have n5_ : Aside0 (w37.heap[gb685]? = some (.cells #[.int .i64 0, .slice none 0 0] 25 (0, 0))) := ⟨h5_⟩; have n6_ : Aside0 (w.heap.size ≤ gb685) := ⟨h6_⟩; have n7_ : Aside0 (w.heap.size ≤ gb685) := ⟨h7_⟩; have n8_ : Aside0 (gb663 ≠ gb685) := ⟨h8_⟩; have n9_ : Aside0 (gb685 ≠ gb663) := ⟨h9_⟩; have n10_ : Aside0 (gb664 ≠ gb685) := ⟨h10_⟩; have n11_ : Aside0 (gb685 ≠ gb664) := ⟨h11_⟩; have n12_ : Aside0 (gb678 ≠ gb685) := ⟨h12_⟩; have n13_ : Aside0 (gb685 ≠ gb678) := ⟨h13_⟩; have n14_ : Aside0 (Below w.heap.size w w37) := ⟨h14_⟩; clear HO676 BK663 BK664 BK678 HB h0_ h1_ h2_ h3_ h4_ h5_ h6_ h7_ h8_ h9_ h10_ h11_ h12_ h13_ h14_; have HO676 := n0_; have HO683 := n1_; have BK663 := n2_; have BK664 := n3_; have BK678 := n4_
         have BK685 := n5_; have GW685 := n6_; have GE685 := n7_; have NB663_685 := n8_; have NB685_663 := n9_; have NB664_685 := n10_; have NB685_664 := n11_; have NB678_685 := n12_; have NB685_678 := n13_; have HB := n14_; clear n0_ n1_ n2_ n3_ n4_ n5_ n6_ n7_ n8_ n9_ n10_ n11_ n12_ n13_ n14_; have hHeld : w37.cell? ⟨gb678, 0, none⟩ = some (.int .i64 t673) ∧ w37.cell? ⟨gb678, 1, none⟩ = some (.slice Ao32 t674.length co32) ∧ w37.cell? ⟨gb663, 0, none⟩ = some (.int .i64 a0_0) ∧ w37.cell? ⟨gb663, 1, none⟩ = some (.slice (some ad679) l0_1.length c0_1) ∧ w37.cell? (ad679.add ((a1).toNat * 2)) = some (.int .i64 ((rd_T46 l0_1 a1).f0)) ∧ w37.cell? ⟨(ad679.add ((a1).toNat * 2)).block, (ad679.add ((a1).toNat * 2)).off + 1, none⟩ = some (.int .i64 ((rd_T46 l0_1 a1).f1)) := hS_; obtain ⟨Ao39, co39, eo39⟩ := Kd.R_slice HO683.out
         (first | subst eo39 | obtain ⟨rfl, rfl⟩ := sx eo39)
         refine norm_ (a' := ?_) ?_ ?_; rotate_left
         ·simp only [putAll, Act.put, List.setIfInBounds_toArray, List.set_cons_zero, List.set_cons_succ]; rfl
         refine on_ 11 none (pf 12 13) HT_ (fun K hK => ?_); have hs38 : w37.cell? ⟨gb685, 0, none⟩ = some (.int .i64 0) := bc BK685 0; have hfs38 := blk_frozen BK685.out 0; have hns38_0 := NB663_685.out; have hns38_1 := NB664_685.out; have hns38_2 := NB678_685.out; have hms38_0 := NB685_663.out; have hms38_1 := NB685_664.out; have hms38_2 := NB685_678.out; have hs40 : w37.cell? ⟨gb685, 1, none⟩ = some (.slice none 0 0) := bc BK685 1; have hfs40 := blk_frozen BK685.out 1; have hns40_0 := NB663_685.out; have hns40_1 := NB664_685.out; have hns40_2 := NB678_685.out; have hms40_0 := NB685_663.out; have hms40_1 := NB685_664.out; have hms40_2 := NB685_678.out; refine skip_ (w1 := ?_) (by rfl) rfl ?_ ?_; rotate_left
         ·go_simp; rfl
         refine hK.out _ _ ⟨((cell_far (p := ⟨gb685, _, none⟩) NB678_685.out _).trans (((cell_far (p := ⟨gb685, _, none⟩) NB678_685.out _).trans (hHeld.1)))), ((cell_far (p := ⟨gb685, _, none⟩) NB678_685.out _).trans (((cell_far (p := ⟨gb685, _, none⟩) NB678_685.out _).trans (hHeld.2.1)))), ((cell_far (p := ⟨gb685, _, none⟩) NB663_685.out _).trans (((cell_far (p := ⟨gb685, _, none⟩) NB663_685.out _).trans (hHeld.2.2.1)))), ((cell_far (p := ⟨gb685, _, none⟩) NB663_685.out _).trans (((cell_far (p := ⟨gb685, _, none⟩) NB663_685.out _).trans (hHeld.2.2.2.1)))), ((cell_far (p := ⟨gb685, _, none⟩) (by first | exact Nat.ne_of_lt (Nat.lt_of_lt_of_le (by have := World.block_lt_of_cell? _ _ hw679_0; first | rwa [add_block] at this | exact this) GW685.out) | (rw [add_block]; exact Nat.ne_of_lt (Nat.lt_of_lt_of_le (by have := World.block_lt_of_cell? _ _ hw679_0; first | rwa [add_block] at this | exact this) GW685.out)) | (show (Addr.add _ _).block ≠ _; rw [add_block]; exact Nat.ne_of_lt (Nat.lt_of_lt_of_le (by have := World.block_lt_of_cell? _ _ hw679_0; first | rwa [add_block] at this | exact this) GW685.out)) | (dsimp only; exact Nat.ne_of_lt (Nat.lt_of_lt_of_le (by have := World.block_lt_of_cell? _ _ hw679_0; first | rwa [add_block] at this | exact this) GW685.out))) _).trans (((cell_far (p := ⟨gb685, _, none⟩) (by first | exact Nat.ne_of_lt (Nat.lt_of_lt_of_le (by have := World.block_lt_of_cell? _ _ hw679_0; first | rwa [add_block] at this | exact this) GW685.out) | (rw [add_block]; exact Nat.ne_of_lt (Nat.lt_of_lt_of_le (by have := World.block_lt_of_cell? _ _ hw679_0; first | rwa [add_block] at this | exact this) GW685.out)) | (show (Addr.add _ _).block ≠ _; rw [add_block]; exact Nat.ne_of_lt (Nat.lt_of_lt_of_le (by have := World.block_lt_of_cell? _ _ hw679_0; first | rwa [add_block] at this | exact this) GW685.out)) | (dsimp only; exact Nat.ne_of_lt (Nat.lt_of_lt_of_le (by have := World.block_lt_of_cell? _ _ hw679_0; first | rwa [add_block] at this | exact this) GW685.out))) _).trans (hHeld.2.2.2.2.1)))), ((cell_far (p := ⟨gb685, _, none⟩) (by first | exact Nat.ne_of_lt (Nat.lt_of_lt_of_le (by have := World.block_lt_of_cell? _ _ hw679_1; first | rwa [add_block] at this | exact this) GW685.out) | (rw [add_block]; exact Nat.ne_of_lt (Nat.lt_of_lt_of_le (by have := World.block_lt_of_cell? _ _ hw679_1; first | rwa [add_block] at this | exact this) GW685.out)) | (show (Addr.add _ _).block ≠ _; rw [add_block]; exact Nat.ne_of_lt (Nat.lt_of_lt_of_le (by have := World.block_lt_of_cell? _ _ hw679_1; first | rwa [add_block] at this | exact this) GW685.out)) | (dsimp only; exact Nat.ne_of_lt (Nat.lt_of_lt_of_le (by have := World.block_lt_of_cell? _ _ hw679_1; first | rwa [add_block] at this | exact this) GW685.out))) _).trans (((cell_far (p := ⟨gb685, _, none⟩) (by first | exact Nat.ne_of_lt (Nat.lt_of_lt_of_le (by have := World.block_lt_of_cell? _ _ hw679_1; first | rwa [add_block] at this | exact this) GW685.out) | (rw [add_block]; exact Nat.ne_of_lt (Nat.lt_of_lt_of_le (by have := World.block_lt_of_cell? _ _ hw679_1; first | rwa [add_block] at this | exact this) GW685.out)) | (show (Addr.add _ _).block ≠ _; rw [add_block]; exact Nat.ne_of_lt (Nat.lt_of_lt_of_le (by have := World.block_lt_of_cell? _ _ hw679_1; first | rwa [add_block] at this | exact this) GW685.out)) | (dsimp only; exact Nat.ne_of_lt (Nat.lt_of_lt_of_le (by have := World.block_lt_of_cell? _ _ hw679_1; first | rwa [add_block] at this | exact this) GW685.out))) _).trans (hHeld.2.2.2.2.2))))⟩ (fun hHeld => ?_)
         clear hK K; refine pu_ 12 (some 12) (pf 13 13) HT_ ?_; refine done_ (done_of HT_.out (by kernel_rfl)) ?_
         go_upto_region 9 with (fail)
         go_cut [87] (fun v87 wc => ∃ (kq : Nat) (x87_23 : Bool), v87 = .bool x87_23 ∧ Aside0 (tangramlaw14_EditBack.j1 kq a1 x87_23 a0_0 l0_1 a2_0 a2_1 t673 t674 = some r) ∧ Aside0 (kq ≤ kj7) ∧ Aside0 (Kd.R k46 46 wc w.heap.size (fun k_ => some k_ ≠ ((.slice Ao39 t681.length co39) : Value).ownBlock ∧ k_ ≠ gb664) (.slice Ao32 t674.length co32) t674) ∧ Aside0 (Kd.R k46 46 wc w.heap.size (fun k_ => some k_ ≠ ((.slice Ao32 t674.length co32) : Value).ownBlock ∧ k_ ≠ gb664) (.slice Ao39 t681.length co39) t681) ∧ Aside0 (wc.heap[gb663]? = some (.cells #[.int .i64 a0_0, (.slice (some ad679) l0_1.length c0_1)] 25 (0, 0))) ∧ Aside0 (wc.heap[gb664]? = some (.cells #[.int .i64 a2_0, .int .i64 a2_1] 46 (0, 0))) ∧ Aside0 (wc.heap[gb678]? = some (.cells #[.int .i64 t673, (.slice Ao32 t674.length co32)] 25 (0, 0))) ∧ Aside0 (wc.heap[gb685]? = some (.cells #[.int .i64 t680, (.slice Ao39 t681.length co39)] 25 (0, 0))) ∧ Aside0 (Below w.heap.size w wc))
         case first => as_aux_lemma =>
          have H := HC24.out; clear HC24
          by_cases c41 : t677 = 0
          ·rw [if_pos c41] at H; have c41b0 : (t677 == 0) = true := beq_iff_eq.mpr c41; have c41b1 : (t677 != 0) = false := bne_eq_false_iff_eq.mpr c41; clear c41
           (first | rw [c41b0] | (simp only [i64_w, i32_w]; rw [c41b0]) | skip)
           by_cases c42 : t684 = 0
           ·rw [if_pos c42] at H; have c42b0 : (t684 == 0) = true := beq_iff_eq.mpr c42; have c42b1 : (t684 != 0) = false := bne_eq_false_iff_eq.mpr c42; clear c42
            by_cases c43 : (t674.length : Int) = (wrap64 ((l0_1.length : Int) - 1))
            ·rw [if_pos c43] at H; have c43b0 : ((t674.length : Int) == (wrap64 ((l0_1.length : Int) - 1))) = true := beq_iff_eq.mpr c43; have c43b1 : ((t674.length : Int) != (wrap64 ((l0_1.length : Int) - 1))) = false := bne_eq_false_iff_eq.mpr c43; clear c43; replace H := Option.bind_eq_some_iff.mp H; obtain ⟨t686, A440, H⟩ := H; (try dsimp only at H); have A44 := Aside0.mk A440; clear A440; have H' := Aside0.mk H; clear H; have hnb45 := NB678_663.out; have hnc45 := NB663_678.out; have hnb46 := NB678_664.out; have hnc46 := NB664_678.out; have hnb47 := NB678_685.out; have hnc47 := NB685_678.out; have hcz48_0 : w37.cell? ⟨gb678, 0, none⟩ = some (.int .i64 t673) := bc BK678 0; have hcz48_1 : w37.cell? ⟨gb678, 1, none⟩ = some (.slice Ao32 t674.length co32) := bc BK678 1; have hfz48_0 := blk_frozen BK678.out 0; have hfz48_1 := blk_frozen BK678.out 1; have hnb49 := NB663_664.out; have hnc49 := NB664_663.out; have hnb50 := NB663_685.out; have hnc50 := NB685_663.out; have hcz51_0 : w37.cell? ⟨gb663, 0, none⟩ = some (.int .i64 a0_0) := bc BK663 0; have hcz51_1 : w37.cell? ⟨gb663, 1, none⟩ = some (.slice (some ad679) l0_1.length c0_1) := bc BK663 1; have hfz51_0 := blk_frozen BK663.out 0; have hfz51_1 := blk_frozen BK663.out 1; have hnb52 := NB685_664.out; have hnc52 := NB664_685.out; have hcz53_0 : w37.cell? ⟨gb685, 0, none⟩ = some (.int .i64 0) := bc BK685 0; have hcz53_1 : w37.cell? ⟨gb685, 1, none⟩ = some (.slice none 0 0) := bc BK685 1
             have hfz53_0 := blk_frozen BK685.out 0; have hfz53_1 := blk_frozen BK685.out 1
             go_wp2_with (first | (go_at_call 15; (with_reducible refine (tangramref14_Same.calls kj7 t680 _ _ t681 a0_0 _ _ l0_1 t686 _ ?side1 ?side2 ?side3 ?side4 A44.out).mono ?_); (case side1 => refine (Kd.R_reads' (e := 46) (base := w.heap.size) (ok := fun k_ => (some k_ ≠ (.slice Ao32 t674.length co32 : Value).ownBlock ∧ k_ ≠ gb664)) (n := t681.length) (c := co39) ?_).2.2; exact (rf HO683 BK685)); (case side2 => exact (Kd.R_reads' HO683.out).2.1); (case side3 => exact Kd.C_below HR0_1.out (hb4 HB GE663 GE664 GE678 GE685)); (case side4 => exact HC0_1.out); rintro e w54 ⟨rfl, hb⟩; replace HO676 := Aside0.mk (Kd.R_below (rf HO676 BK685) hb); replace HO683 := Aside0.mk (Kd.R_below (rf HO683 BK685) hb); replace BK663 := kb (bx1 BK663 NB663_685) hb; replace BK664 := kb (bx1 BK664 NB664_685) hb; replace BK678 := kb (bx1 BK678 NB678_685) hb; replace BK685 := Aside0.mk (blk_below (g := gb685) (o := .cells #[.int .i64 t680, .slice Ao39 t681.length co39] 25 (0, 0)) (bp BK685) hb); replace HB := hs (hb4 HB GE663 GE664 GE678 GE685) hb; (try clear hb); (try clear hb2); (try clear hk); (try clear hi)))
             go_meet
             case rel => exact ⟨_, (!t686), (by first | rfl | (simp; done) | (simp [*]; done)), H', ⟨by have := HJ7.out; first | omega | exact Nat.le_refl _⟩, ⟨rx HO676⟩, ⟨rx HO683⟩, ⟨bx BK663⟩, ⟨bx BK664⟩, ⟨bx BK678⟩, ⟨bx BK685⟩, ⟨hb4 HB GE663 GE664 GE678 GE685⟩⟩
            ·rw [if_neg c43] at H; have c43b0 : ((t674.length : Int) == (wrap64 ((l0_1.length : Int) - 1))) = false := beq_eq_false_iff_ne.mpr c43; have c43b1 : ((t674.length : Int) != (wrap64 ((l0_1.length : Int) - 1))) = true := bne_iff_ne.mpr c43; have H' := Aside0.mk H; clear H; have hnb55 := NB678_663.out; have hnc55 := NB663_678.out; have hnb56 := NB678_664.out; have hnc56 := NB664_678.out; have hnb57 := NB678_685.out; have hnc57 := NB685_678.out; have hcz58_0 : w37.cell? ⟨gb678, 0, none⟩ = some (.int .i64 t673) := bc BK678 0; have hcz58_1 : w37.cell? ⟨gb678, 1, none⟩ = some (.slice Ao32 t674.length co32) := bc BK678 1; have hfz58_0 := blk_frozen BK678.out 0; have hfz58_1 := blk_frozen BK678.out 1; have hnb59 := NB663_664.out; have hnc59 := NB664_663.out; have hnb60 := NB663_685.out; have hnc60 := NB685_663.out; have hcz61_0 : w37.cell? ⟨gb663, 0, none⟩ = some (.int .i64 a0_0) := bc BK663 0; have hcz61_1 : w37.cell? ⟨gb663, 1, none⟩ = some (.slice (some ad679) l0_1.length c0_1) := bc BK663 1; have hfz61_0 := blk_frozen BK663.out 0; have hfz61_1 := blk_frozen BK663.out 1
             go_wp2
             go_meet
             case rel => exact ⟨_, (true), (by first | rfl | (simp; done) | (simp [*]; done)), H', ⟨by have := HJ7.out; first | omega | exact Nat.le_refl _⟩, ⟨Kd.R_mono (rf HO676 BK685) (fun _ hk => ⟨hk.1, hk.2⟩)⟩, ⟨Kd.R_mono (rf HO683 BK685) (fun _ hk => ⟨hk.1, hk.2⟩)⟩, ⟨bx1 BK663 NB663_685⟩, ⟨bx1 BK664 NB664_685⟩, ⟨bx1 BK678 NB678_685⟩, ⟨bp BK685⟩, ⟨hb4 HB GE663 GE664 GE678 GE685⟩⟩
           ·rw [if_neg c42] at H; have c42b0 : (t684 == 0) = false := beq_eq_false_iff_ne.mpr c42; have c42b1 : (t684 != 0) = true := bne_iff_ne.mpr c42; have H' := Aside0.mk H; clear H
            go_wp2
            go_meet
            case rel => exact ⟨_, (true), (by first | rfl | (simp; done) | (simp [*]; done)), H', ⟨by have := HJ7.out; first | omega | exact Nat.le_refl _⟩, ⟨Kd.R_mono (rf HO676 BK685) (fun _ hk => ⟨hk.1, hk.2⟩)⟩, ⟨Kd.R_mono (rf HO683 BK685) (fun _ hk => ⟨hk.1, hk.2⟩)⟩, ⟨bx1 BK663 NB663_685⟩, ⟨bx1 BK664 NB664_685⟩, ⟨bx1 BK678 NB678_685⟩, ⟨bp BK685⟩, ⟨hb4 HB GE663 GE664 GE678 GE685⟩⟩
          ·rw [if_neg c41] at H; have c41b0 : (t677 == 0) = false := beq_eq_false_iff_ne.mpr c41; have c41b1 : (t677 != 0) = true := bne_iff_ne.mpr c41
           (first | rw [c41b0] | (simp only [i64_w, i32_w]; rw [c41b0]) | skip)
           have H' := Aside0.mk H; clear H
           go_wp2
           go_meet
           case rel => exact ⟨_, (true), (by first | rfl | (simp; done) | (simp [*]; done)), H', ⟨by have := HJ7.out; first | omega | exact Nat.le_refl _⟩, ⟨Kd.R_mono (rf HO676 BK685) (fun _ hk => ⟨hk.1, hk.2⟩)⟩, ⟨Kd.R_mono (rf HO683 BK685) (fun _ hk => ⟨hk.1, hk.2⟩)⟩, ⟨bx1 BK663 NB663_685⟩, ⟨bx1 BK664 NB664_685⟩, ⟨bx1 BK678 NB678_685⟩, ⟨bp BK685⟩, ⟨hb4 HB GE663 GE664 GE678 GE685⟩⟩
         case rest => as_aux_lemma =>
          clear HC24
          try clear c1
          try clear c2
          try clear p2
          try clear c3
          try clear c4
          try clear c5
          try clear c6
          try clear p6
          try clear q6
          try clear hx6
          try clear c7
          try clear c8
          try clear c10
          try clear c11
          try clear c12
          try clear c15
          try clear c15b0
          try clear c16
          try clear c19
          try clear c21
          try clear c21b0
          try clear c22
          try clear c22b0
          try clear c25
          try clear c27
          try clear c29
          try clear c30
          try clear c41
          try clear c41b0
          try clear c41b1
          try clear c42
          try clear c42b0
          try clear c42b1
          try clear c43
          try clear c43b0
          try clear c43b1
          try clear c45
          try clear c46
          try clear c47
          try clear c49
          try clear c50
          try clear c52
          try clear c55
          try clear c56
          try clear c57
          try clear c59
          try clear c60
          try clear hcz13_0
          try clear hcz13_1
          try clear hcz17_0
          try clear hcz17_1
          try clear hcz26_0
          try clear hcz26_1
          try clear hcz31_0
          try clear hcz31_1
          try clear hcz48_0
          try clear hcz48_1
          try clear hcz51_0
          try clear hcz51_1
          try clear hcz53_0
          try clear hcz53_1
          try clear hcz58_0
          try clear hcz58_1
          try clear hcz61_0
          try clear hcz61_1
          try clear hfz13_0
          try clear hfz13_1
          try clear hfz17_0
          try clear hfz17_1
          try clear hfz26_0
          try clear hfz26_1
          try clear hfz31_0
          try clear hfz31_1
          try clear hfz48_0
          try clear hfz48_1
          try clear hfz51_0
          try clear hfz51_1
          try clear hfz53_0
          try clear hfz53_1
          try clear hfz58_0
          try clear hfz58_1
          try clear hfz61_0
          try clear hfz61_1
          try clear hx679_0
          try clear hx679_1
          try clear p2
          try clear p679
          try clear q679
          obtain ⟨kq, x87_23, rfl, HA, HJ23, HO_679001, HO_686001, BK663, BK664, BK678, BK685, HB⟩ := hcut
          cases kq with
          | zero => exact absurd HA.out (by simp [tangramlaw14_EditBack.j1])
          | succ kj23 =>
           have H := HA.out; clear HA; simp only [tangramlaw14_EditBack.j1] at H
           by_cases c62 : x87_23 = true
           ·subst c62; rw [if_pos rfl] at H; obtain rfl := Option.some.inj H
            go_wp2
            go_ret
            exact ⟨by first | rfl | (simp [errW_none, errW_some] <;> rfl) | (simp [*, errW_none, errW_some] <;> rfl), hb4 HB GE663 GE664 GE678 GE685⟩
           ·replace c62 := Bool.eq_false_iff.mpr c62; subst c62; rw [if_neg (show ¬ (false = true) by decide)] at H; have HC63 := Aside0.mk H; clear H
            go_upto_region 11 with (fail)
            go_cut [96] (fun v96 wc => ∃ (kq : Nat) (x96_62 : Bool), v96 = .bool x96_62 ∧ Aside0 (tangramlaw14_EditBack.j2 kq a1 x96_62 a0_0 l0_1 a2_0 a2_1 t673 t674 = some r) ∧ Aside0 (kq ≤ kj23) ∧ Aside0 (Kd.R k46 46 wc w.heap.size (fun k_ => some k_ ≠ ((.slice Ao39 t681.length co39) : Value).ownBlock ∧ k_ ≠ gb664) (.slice Ao32 t674.length co32) t674) ∧ Aside0 (Kd.R k46 46 wc w.heap.size (fun k_ => some k_ ≠ ((.slice Ao32 t674.length co32) : Value).ownBlock ∧ k_ ≠ gb664) (.slice Ao39 t681.length co39) t681) ∧ Aside0 (wc.heap[gb663]? = some (.cells #[.int .i64 a0_0, (.slice (some ad679) l0_1.length c0_1)] 25 (0, 0))) ∧ Aside0 (wc.heap[gb664]? = some (.cells #[.int .i64 a2_0, .int .i64 a2_1] 46 (0, 0))) ∧ Aside0 (wc.heap[gb678]? = some (.cells #[.int .i64 t673, (.slice Ao32 t674.length co32)] 25 (0, 0))) ∧ Aside0 (wc.heap[gb685]? = some (.cells #[.int .i64 t680, (.slice Ao39 t681.length co39)] 25 (0, 0))) ∧ Aside0 (Below w.heap.size w wc))
            case first => as_aux_lemma =>
             have H := HC63.out; clear HC63
             by_cases c64 : a0_0 < 1048576
             ·rw [if_pos c64] at H; have c64b0 : decide (a0_0 < 1048576) = true := decide_eq_true c64; clear c64
              (first | rw [c64b0] | (simp only [i64_w, i32_w]; rw [c64b0]) | skip)
              have H' := Aside0.mk H; clear H; have hnb65 := NB663_664.out; have hnc65 := NB664_663.out; have hnb66 := NB663_678.out; have hnc66 := NB678_663.out; have hnb67 := NB663_685.out; have hnc67 := NB685_663.out; have hcz68_0 : wc.cell? ⟨gb663, 0, none⟩ = some (.int .i64 a0_0) := bc BK663 0; have hcz68_1 : wc.cell? ⟨gb663, 1, none⟩ = some (.slice (some ad679) l0_1.length c0_1) := bc BK663 1; have hfz68_0 := blk_frozen BK663.out 0; have hfz68_1 := blk_frozen BK663.out 1
              go_wp2
              go_meet
              case rel => exact ⟨_, (decide ((l0_1.length : Int) < 4194304)), (by first | rfl | (simp; done) | (simp [*]; done)), H', ⟨by have := HJ7.out; have := HJ23.out; first | omega | exact Nat.le_refl _⟩, ⟨rx HO_679001⟩, ⟨rx HO_686001⟩, ⟨bx BK663⟩, ⟨bx BK664⟩, ⟨bx BK678⟩, ⟨bx BK685⟩, ⟨hb4 HB GE663 GE664 GE678 GE685⟩⟩
             ·rw [if_neg c64] at H; have c64b0 : decide (a0_0 < 1048576) = false := decide_eq_false c64; clear c64
              (first | rw [c64b0] | (simp only [i64_w, i32_w]; rw [c64b0]) | skip)
              have H' := Aside0.mk H; clear H; have hnb69 := NB663_664.out; have hnc69 := NB664_663.out; have hnb70 := NB663_678.out; have hnc70 := NB678_663.out; have hnb71 := NB663_685.out; have hnc71 := NB685_663.out; have hcz72_0 : wc.cell? ⟨gb663, 0, none⟩ = some (.int .i64 a0_0) := bc BK663 0; have hcz72_1 : wc.cell? ⟨gb663, 1, none⟩ = some (.slice (some ad679) l0_1.length c0_1) := bc BK663 1; have hfz72_0 := blk_frozen BK663.out 0; have hfz72_1 := blk_frozen BK663.out 1
              go_wp2
              go_meet
              case rel => exact ⟨_, (false), (by first | rfl | (simp; done) | (simp [*]; done)), H', ⟨by have := HJ7.out; have := HJ23.out; first | omega | exact Nat.le_refl _⟩, ⟨rx HO_679001⟩, ⟨rx HO_686001⟩, ⟨bx BK663⟩, ⟨bx BK664⟩, ⟨bx BK678⟩, ⟨bx BK685⟩, ⟨hb4 HB GE663 GE664 GE678 GE685⟩⟩
            case rest => as_aux_lemma =>
             clear HC63
             try clear c1
             try clear c2
             try clear p2
             try clear c3
             try clear c4
             try clear c5
             try clear c6
             try clear p6
             try clear q6
             try clear hx6
             try clear c7
             try clear c8
             try clear c10
             try clear c11
             try clear c12
             try clear c15
             try clear c15b0
             try clear c16
             try clear c19
             try clear c21
             try clear c21b0
             try clear c22
             try clear c22b0
             try clear c25
             try clear c27
             try clear c29
             try clear c30
             try clear c41
             try clear c41b0
             try clear c41b1
             try clear c42
             try clear c42b0
             try clear c42b1
             try clear c43
             try clear c43b0
             try clear c43b1
             try clear c45
             try clear c46
             try clear c47
             try clear c49
             try clear c50
             try clear c52
             try clear c55
             try clear c56
             try clear c57
             try clear c59
             try clear c60
             try clear c62
             try clear c64
             try clear c64b0
             try clear p64
             try clear c65
             try clear c66
             try clear c67
             try clear p67
             try clear q67
             try clear hx67
             try clear c69
             try clear c70
             try clear c71
             try clear hcz13_0
             try clear hcz13_1
             try clear hcz17_0
             try clear hcz17_1
             try clear hcz26_0
             try clear hcz26_1
             try clear hcz31_0
             try clear hcz31_1
             try clear hcz48_0
             try clear hcz48_1
             try clear hcz51_0
             try clear hcz51_1
             try clear hcz53_0
             try clear hcz53_1
             try clear hcz58_0
             try clear hcz58_1
             try clear hcz61_0
             try clear hcz61_1
             try clear hcz68_0
             try clear hcz68_1
             try clear hcz72_0
             try clear hcz72_1
             try clear hfz13_0
             try clear hfz13_1
             try clear hfz17_0
             try clear hfz17_1
             try clear hfz26_0
             try clear hfz26_1
             try clear hfz31_0
             try clear hfz31_1
             try clear hfz48_0
             try clear hfz48_1
             try clear hfz51_0
             try clear hfz51_1
             try clear hfz53_0
             try clear hfz53_1
             try clear hfz58_0
             try clear hfz58_1
             try clear hfz61_0
             try clear hfz61_1
             try clear hfz68_0
             try clear hfz68_1
             try clear hfz72_0
             try clear hfz72_1
             try clear hx679_0
             try clear hx679_1
             try clear p2
             try clear p6
             try clear p679
             try clear q6
             try clear q679
             obtain ⟨kq, x96_62, rfl, HA, HJ62, HO_679001, HO_686001, BK663, BK664, BK678, BK685, HB⟩ := hcut
             cases kq with
             | zero => exact absurd HA.out (by simp [tangramlaw14_EditBack.j2])
             | succ kj62 =>
              have H := HA.out; clear HA; simp only [tangramlaw14_EditBack.j2] at H
              by_cases c73 : x96_62 = true
              ·subst c73; rw [if_pos rfl] at H; replace H := Option.bind_eq_some_iff.mp H; obtain ⟨⟨t687, t688, t691⟩, A740, H⟩ := H; (try dsimp only at H); have A74 := Aside0.mk A740; clear A740; replace H := Option.bind_eq_some_iff.mp H; obtain ⟨t693, A750, H⟩ := H; (try dsimp only at H)
               have A75 := Aside0.mk A750; clear A750; replace H := Option.bind_eq_some_iff.mp H; obtain ⟨⟨t696, t697, t700⟩, A760, H⟩ := H; (try dsimp only at H); have A76 := Aside0.mk A760; clear A760
               by_cases c77 : 0 ≤ a1
               ·rw [if_pos c77] at H; have c77b0 : decide (0 ≤ a1) = true := decide_eq_true c77; clear c77
                by_cases c78 : a1 < (l0_1.length : Int)
                ·rw [if_pos c78] at H; have c78b0 : decide (a1 < (l0_1.length : Int)) = true := decide_eq_true c78; clear c78; replace H := Option.bind_eq_some_iff.mp H; obtain ⟨⟨t703, t704, t707⟩, A790, H⟩ := H; (try dsimp only at H); have A79 := Aside0.mk A790; clear A790; have HH_ := Aside0.mk H; clear H; have hnb89 := NB663_664.out; have hnc89 := NB664_663.out; have hnb90 := NB663_678.out; have hnc90 := NB678_663.out; have hnb91 := NB663_685.out; have hnc91 := NB685_663.out; have hcz92_0 : wc.cell? ⟨gb663, 0, none⟩ = some (.int .i64 a0_0) := bc BK663 0; have hcz92_1 : wc.cell? ⟨gb663, 1, none⟩ = some (.slice (some ad679) l0_1.length c0_1) := bc BK663 1; have hfz92_0 := blk_frozen BK663.out 0; have hfz92_1 := blk_frozen BK663.out 1
                 try go_wp2_with (first | ((with_reducible refine gate_callee (f := 31) rfl ?_); refine gl_ (some 100) Try.func31 #[.agg #[.int .i64 a0_0, .slice (some ad679) l0_1.length c0_1], .int .i64 a1] ?_; (with_reducible refine (edit_Divide.calls kj62 a0_0 _ _ l0_1 a1 t687 t688 t691 _ ?side1 ?side2 A74.out).mono ?_); (case side1 => repeat (first | exact (Kd.C_below HR0_1.out HB.out) | (with_reducible refine Kd.C_alloc ?_ _) | (with_reducible refine Kd.C_drewN ?_ _) | (with_reducible refine Kd.C_drew ?_))); (case side2 => exact HC0_1.out); rintro e w93 ⟨v689, rfl, ho0, hb⟩; refine ⟨_, rfl, ?_⟩; have HO690 := Aside0.mk (Kd.R_lower (Kd.R_newB (Kd.R_new' (Kd.R_new' ho0 (Kd.R_lt (rx HO_679001))) (Kd.R_lt (rx HO_686001))) (bx BK664)) (below_size (hb4 HB GE663 GE664 GE678 GE685))); replace HO_679001 := el (rx HO_679001) ho0 hb; replace HO_686001 := el (rx HO_686001) ho0 hb; replace BK663 := kx BK663 hb; replace BK664 := kx BK664 hb; replace BK678 := kx BK678 hb; replace BK685 := kx BK685 hb; replace HB := hs (hb4 HB GE663 GE664 GE678 GE685) hb; (try clear hb); (try clear hb2); (try clear hk); (try clear hi); (try clear ho0)) | ((with_reducible refine gate_dst (N := 13) rfl ?_); (try (refine gate_guard (by rfl) ?_; dsimp only)); refine be_ 13 #[.int .i64 0, .slice none 0 0] 25 ?_; intro gb692 hg w94 hbox hb; replace HO_679001 := ry HO_679001 hb; replace HO_686001 := ry HO_686001 hb; replace HO690 := ry HO690 hb; have BK692 := Aside0.mk (hbox); have GW692 := wq (hb4 HB GE663 GE664 GE678 GE685) hg; have GE692 := wq (hb4 HB GE663 GE664 GE678 GE685) hg; replace HB := hs (hb4 HB GE663 GE664 GE678 GE685) hb; have NB663_692 := lx BK663 hg; have NB692_663 := gx BK663 hg; replace BK663 := kx BK663 hb; have NB664_692 := lx BK664 hg; have NB692_664 := gx BK664 hg; replace BK664 := kx BK664 hb; have NB678_692 := lx BK678 hg; have NB692_678 := gx BK678 hg; replace BK678 := kx BK678 hb; have NB685_692 := lx BK685 hg; have NB692_685 := gx BK685 hg; replace BK685 := kx BK685 hb; clear hb hbox hg; have hnb95 := NB692_663.out; have hnc95 := NB663_692.out; have hnb96 := NB692_664.out; have hnc96 := NB664_692.out; have hnb97 := NB692_678.out; have hnc97 := NB678_692.out; have hnb98 := NB692_685.out; have hnc98 := NB685_692.out; have hcz99_0 : w94.cell? ⟨gb692, 0, none⟩ = some (.int .i64 0) := bc BK692 0; have hcz99_1 : w94.cell? ⟨gb692, 1, none⟩ = some (.slice none 0 0) := bc BK692 1; have hfz99_0 := blk_frozen BK692.out 0; have hfz99_1 := blk_frozen BK692.out 1; obtain ⟨Ao100, co100, eo100⟩ := Kd.R_slice HO690.out; subst eo100))
                 have n0_ : Aside0 (Kd.R k46 46 ((w94.setCell ⟨gb692, 0, none⟩ (.int .i64 t687)).setCell ⟨gb692, 1, none⟩ (.slice Ao100 t688.length co100)) w.heap.size (fun k_ => some k_ ≠ (.slice Ao39 t681.length co39 : Value).ownBlock ∧ some k_ ≠ (.slice Ao100 t688.length co100 : Value).ownBlock ∧ k_ ≠ gb664) (.slice Ao32 t674.length co32) t674) := ⟨Kd.R_mono (rf HO_679001 BK692) (fun _ hk => ⟨hk.1.1, ⟨hk.2, hk.1.2⟩⟩)⟩; have n1_ : Aside0 (Kd.R k46 46 ((w94.setCell ⟨gb692, 0, none⟩ (.int .i64 t687)).setCell ⟨gb692, 1, none⟩ (.slice Ao100 t688.length co100)) w.heap.size (fun k_ => some k_ ≠ (.slice Ao32 t674.length co32 : Value).ownBlock ∧ some k_ ≠ (.slice Ao100 t688.length co100 : Value).ownBlock ∧ k_ ≠ gb664) (.slice Ao39 t681.length co39) t681) := ⟨Kd.R_mono (rf HO_686001 BK692) (fun _ hk => ⟨hk.1.1, ⟨hk.2, hk.1.2⟩⟩)⟩; have n2_ : Aside0 (Kd.R k46 46 ((w94.setCell ⟨gb692, 0, none⟩ (.int .i64 t687)).setCell ⟨gb692, 1, none⟩ (.slice Ao100 t688.length co100)) w.heap.size (fun k_ => some k_ ≠ (.slice Ao32 t674.length co32 : Value).ownBlock ∧ some k_ ≠ (.slice Ao39 t681.length co39 : Value).ownBlock ∧ k_ ≠ gb664) (.slice Ao100 t688.length co100) t688) := ⟨Kd.R_mono (rf HO690 BK692) (fun _ hk => ⟨hk.1.1.2, ⟨hk.1.2, hk.2⟩⟩)⟩; have n3_ : Aside0 (((w94.setCell ⟨gb692, 0, none⟩ (.int .i64 t687)).setCell ⟨gb692, 1, none⟩ (.slice Ao100 t688.length co100)).heap[gb663]? = some (.cells #[.int .i64 a0_0, .slice (some ad679) l0_1.length c0_1] 25 (0, 0))) := ⟨bx1 BK663 NB663_692⟩; have n4_ : Aside0 (((w94.setCell ⟨gb692, 0, none⟩ (.int .i64 t687)).setCell ⟨gb692, 1, none⟩ (.slice Ao100 t688.length co100)).heap[gb664]? = some (.cells #[.int .i64 a2_0, .int .i64 a2_1] 46 (0, 0))) := ⟨bx1 BK664 NB664_692⟩
                 have n5_ : Aside0 (((w94.setCell ⟨gb692, 0, none⟩ (.int .i64 t687)).setCell ⟨gb692, 1, none⟩ (.slice Ao100 t688.length co100)).heap[gb678]? = some (.cells #[.int .i64 t673, .slice Ao32 t674.length co32] 25 (0, 0))) := ⟨bx1 BK678 NB678_692⟩; have n6_ : Aside0 (((w94.setCell ⟨gb692, 0, none⟩ (.int .i64 t687)).setCell ⟨gb692, 1, none⟩ (.slice Ao100 t688.length co100)).heap[gb685]? = some (.cells #[.int .i64 t680, .slice Ao39 t681.length co39] 25 (0, 0))) := ⟨bx1 BK685 NB685_692⟩; have n7_ : Aside0 (((w94.setCell ⟨gb692, 0, none⟩ (.int .i64 t687)).setCell ⟨gb692, 1, none⟩ (.slice Ao100 t688.length co100)).heap[gb692]? = some (.cells #[.int .i64 t687, .slice Ao100 t688.length co100] 25 (0, 0))) := ⟨bp BK692⟩; have n8_ : Aside0 (Below w.heap.size w ((w94.setCell ⟨gb692, 0, none⟩ (.int .i64 t687)).setCell ⟨gb692, 1, none⟩ (.slice Ao100 t688.length co100))) := ⟨hb5 HB GE663 GE664 GE678 GE685 GE692⟩
                 (try clear HO_679001)
                 (try clear HO_686001)
                 (try clear HO690)
                 (try clear BK663)
                 (try clear BK664)
                 (try clear BK678)
                 (try clear BK685)
                 (try clear BK692)
                 (try clear HB)
                 generalize ((w94.setCell ⟨gb692, 0, none⟩ (.int .i64 t687)).setCell ⟨gb692, 1, none⟩ (.slice Ao100 t688.length co100)) = w101 at n0_ n1_ n2_ n3_ n4_ n5_ n6_ n7_ n8_ ⊢; have HO_679001 := n0_; have HO_686001 := n1_; have HO690 := n2_; have BK663 := n3_; have BK664 := n4_; have BK678 := n5_; have BK685 := n6_; have BK692 := n7_; have HB := n8_; clear n0_ n1_ n2_ n3_ n4_ n5_ n6_ n7_ n8_; replace HO_679001 := rd HO_679001; replace HO_686001 := rd HO_686001; replace HO690 := rd HO690; replace BK663 := bd BK663; replace BK664 := bd BK664; replace BK678 := bd BK678; replace BK685 := bd BK685; replace BK692 := bd BK692; replace HB := Aside0.mk (below_drew1 HB.out); refine start_ (n := 11) (S := fun w' => w'.cell? ⟨gb692, 0, none⟩ = some (.int .i64 t687) ∧ w'.cell? ⟨gb692, 1, none⟩ = some (.slice Ao100 t688.length co100) ∧ w'.cell? ⟨gb663, 0, none⟩ = some (.int .i64 a0_0) ∧ w'.cell? ⟨gb663, 1, none⟩ = some (.slice (some ad679) l0_1.length c0_1)) (ds := []) (pf 0 11) (by kernel_rfl) rfl rfl ⟨bc BK692 0, bc BK692 1, bc BK663 0, bc BK663 1⟩ (fun hHeld => ?_); refine with_tabW tangramlaw14_EditBack.tab13 tangramlaw14_EditBack.bits13 (fun HT_ HW_ => ?_); generalize w101.drew = w102 at HO_679001 HO_686001 HO690 BK663 BK664 BK678 BK685 BK692 HB hHeld ⊢; refine pu_ 1 (some 105) #[F_,T_,F_,F_,F_,F_,F_,F_,F_,F_,F_] HT_ ?_; refine tk4_ 0 (some 104) (pf 2 11) HT_ HW_ hHeld ?_; refine tk4_ 2 (some 106) (pf 3 11) HT_ HW_ hHeld ?_
                 refine join_ (σ := Value × Value × Nat) 2 (pf 9 11) (fun s_ => [(107, s_.1), (108, .tuple #[.agg #[.int .i64 t696, s_.2.1], .int .i64 t700]), (15, .pointer (some ⟨s_.2.2, 0, none⟩)), (103, .tuple #[.agg #[.int .i64 t696, s_.2.1], .int .i64 t700]), (109, .agg #[.int .i64 t696, s_.2.1]), (110, .int .i64 t700)]) (fun s_ w' => (w'.cell? ⟨gb692, 0, none⟩ = some (.int .i64 t687) ∧ w'.cell? ⟨gb692, 1, none⟩ = some (.slice Ao100 t688.length co100) ∧ w'.cell? ⟨gb663, 0, none⟩ = some (.int .i64 a0_0) ∧ w'.cell? ⟨gb663, 1, none⟩ = some (.slice (some ad679) l0_1.length c0_1)) ∧ (Kd.R k46 46 w' w.heap.size (fun k_ => some k_ ≠ (s_.2.1 : Value).ownBlock ∧ some k_ ≠ (.slice Ao32 t674.length co32 : Value).ownBlock ∧ some k_ ≠ (.slice Ao39 t681.length co39 : Value).ownBlock ∧ k_ ≠ gb664) (.slice Ao100 t688.length co100) t688) ∧ (Kd.R (Kd.int .i64) 3 w' w.heap.size (fun _ => True) s_.1 t693) ∧ (Kd.R k46 46 w' w.heap.size (fun k_ => some k_ ≠ (.slice Ao100 t688.length co100 : Value).ownBlock ∧ some k_ ≠ (.slice Ao32 t674.length co32 : Value).ownBlock ∧ some k_ ≠ (.slice Ao39 t681.length co39 : Value).ownBlock ∧ k_ ≠ gb664) s_.2.1 t697) ∧ (Kd.R k46 46 w' w.heap.size (fun k_ => some k_ ≠ (.slice Ao100 t688.length co100 : Value).ownBlock ∧ some k_ ≠ (s_.2.1 : Value).ownBlock ∧ some k_ ≠ (.slice Ao39 t681.length co39 : Value).ownBlock ∧ k_ ≠ gb664) (.slice Ao32 t674.length co32) t674) ∧ (Kd.R k46 46 w' w.heap.size (fun k_ => some k_ ≠ (.slice Ao100 t688.length co100 : Value).ownBlock ∧ some k_ ≠ (s_.2.1 : Value).ownBlock ∧ some k_ ≠ (.slice Ao32 t674.length co32 : Value).ownBlock ∧ k_ ≠ gb664) (.slice Ao39 t681.length co39) t681) ∧ (w'.heap[gb663]? = some (.cells #[.int .i64 a0_0, .slice (some ad679) l0_1.length c0_1] 25 (0, 0))) ∧ (w'.heap[gb664]? = some (.cells #[.int .i64 a2_0, .int .i64 a2_1] 46 (0, 0))) ∧ (w'.heap[gb678]? = some (.cells #[.int .i64 t673, .slice Ao32 t674.length co32] 25 (0, 0))) ∧ (w'.heap[gb685]? = some (.cells #[.int .i64 t680, .slice Ao39 t681.length co39] 25 (0, 0))) ∧ (w'.heap[gb692]? = some (.cells #[.int .i64 t687, .slice Ao100 t688.length co100] 25 (0, 0))) ∧ (w'.heap[s_.2.2]? = some (.cells #[.int .i64 0, .slice none 0 0] 25 (0, 0))) ∧ (w.heap.size ≤ s_.2.2) ∧ (w.heap.size ≤ s_.2.2) ∧ (gb663 ≠ s_.2.2) ∧ (s_.2.2 ≠ gb663) ∧ (gb664 ≠ s_.2.2) ∧ (s_.2.2 ≠ gb664) ∧ (gb678 ≠ s_.2.2) ∧ (s_.2.2 ≠ gb678) ∧ (gb685 ≠ s_.2.2) ∧ (s_.2.2 ≠ gb685) ∧ (gb692 ≠ s_.2.2) ∧ (s_.2.2 ≠ gb692) ∧ (Below w.heap.size w w')) ?_ ?_
                 rotate_left
                 ·intro hCont; refine two_ (i := 3) (j := 8) (Ni := some 107) (Nj := some 15) (pf 4 11) #[T_,T_,T_,F_,F_,F_,F_,F_,T_,F_,F_] rfl rfl rfl rfl (two_of HT_.out (by kernel_rfl)) (by decide) (by decide) (fun K hK => ?_) (fun K hK => ?_)
                  ·skip
                   refine gs_ Try.func17 #[.int .i64 0, .int .i64 a0_0] ?_
                   with_reducible refine (tangramlaw14_from.calls kj62 0 a0_0 t693 _ A75.out).mono ?_
                   rintro e w103 ⟨v694, rfl, ho0, hb⟩; refine ⟨_, rfl, ?_⟩; replace HO_679001 := ry HO_679001 hb; replace HO_686001 := ry HO_686001 hb; replace HO690 := ry HO690 hb; have HO695 := Aside0.mk (Kd.R_lower ho0 (below_size (hb5 HB GE663 GE664 GE678 GE685 GE692))); replace BK663 := kx BK663 hb; replace BK664 := kx BK664 hb; replace BK678 := kx BK678 hb; replace BK685 := kx BK685 hb; replace BK692 := kx BK692 hb; replace HB := hs (hb5 HB GE663 GE664 GE678 GE685 GE692) hb
                   (try clear hb)
                   (try clear hb2)
                   (try clear hk)
                   (try clear hi)
                   (try clear ho0)
                   obtain ⟨Ao104, co104, eo104⟩ := Kd.R_slice HO695.out
                   (first | subst eo104 | obtain ⟨rfl, rfl⟩ := sx eo104)
                   refine hK.out _ _ ⟨bc BK692 0, bc BK692 1, bc BK663 0, bc BK663 1⟩ (fun hHeld => ?_); clear hK K; refine nm_ (some 107) ?_; refine two_ (i := 4) (j := 8) (Ni := some 108) (Nj := some 15) (pf 5 11) #[T_,T_,T_,T_,F_,F_,F_,F_,T_,F_,F_] rfl rfl rfl rfl (two_of HT_.out (by kernel_rfl)) (by decide) (by decide) (fun K hK => ?_) (fun K hK => ?_)
                   ·skip
                    refine gs_ Try.func14 #[.agg #[.int .i64 t687, .slice Ao100 t688.length co100], .slice Ao104 t693.length co104] ?_
                    with_reducible refine (edit_Induced.calls kj62 t687 _ _ t688 _ _ t693 t696 t697 t700 _ ?side1 ?side2 ?side3 ?side4 A76.out).mono ?_
                    (case side1 => exact cr HO690)
                    (case side2 => exact (Kd.R_reads' HO690.out).2.1)
                    (case side3 => exact cr HO695)
                    (case side4 => exact (Kd.R_reads' HO695.out).2.1)
                    rintro e w105 ⟨v698, rfl, ho0, hb⟩; refine ⟨_, rfl, ?_⟩; replace HO695 := ry HO695 hb; have HO699 := Aside0.mk (Kd.R_lower (Kd.R_newB (Kd.R_new' (Kd.R_new' (Kd.R_new' ho0 (Kd.R_lt (rx HO_679001))) (Kd.R_lt (rx HO_686001))) (Kd.R_lt (rx HO690))) (bx BK664)) (below_size (hb5 HB GE663 GE664 GE678 GE685 GE692))); replace HO_679001 := el (rx HO_679001) ho0 hb; replace HO_686001 := el (rx HO_686001) ho0 hb; replace HO690 := el (rx HO690) ho0 hb; replace BK663 := kx BK663 hb; replace BK664 := kx BK664 hb; replace BK678 := kx BK678 hb; replace BK685 := kx BK685 hb; replace BK692 := kx BK692 hb; replace HB := hs (hb5 HB GE663 GE664 GE678 GE685 GE692) hb
                    (try clear hb)
                    (try clear hb2)
                    (try clear hk)
                    (try clear hi)
                    (try clear ho0)
                    refine hK.out _ _ ⟨bc BK692 0, bc BK692 1, bc BK663 0, bc BK663 1⟩ (fun hHeld => ?_); clear hK K; refine nm_ (some 108) ?_; refine pu_ 5 (some 103) (pf 6 11) HT_ ?_; refine pu_ 6 (some 109) (pf 7 11) HT_ ?_; refine pu_ 7 (some 110) (pf 8 11) HT_ ?_; refine on_ 8 (some 15) (pf 9 11) HT_ (fun K hK => ?_); refine bs_ 15 #[.int .i64 0, .slice none 0 0] 25 ?_; intro gb701 hg w106 hbox hb; replace HO_679001 := ry HO_679001 hb; replace HO_686001 := ry HO_686001 hb; replace HO690 := ry HO690 hb; replace HO695 := ry HO695 hb; replace HO699 := ry HO699 hb; have BK701 := Aside0.mk (hbox); have GW701 := wq (hb5 HB GE663 GE664 GE678 GE685 GE692) hg; have GE701 := wq (hb5 HB GE663 GE664 GE678 GE685 GE692) hg; replace HB := hs (hb5 HB GE663 GE664 GE678 GE685 GE692) hb; have NB663_701 := lx BK663 hg; have NB701_663 := gx BK663 hg; replace BK663 := kx BK663 hb; have NB664_701 := lx BK664 hg; have NB701_664 := gx BK664 hg; replace BK664 := kx BK664 hb; have NB678_701 := lx BK678 hg; have NB701_678 := gx BK678 hg; replace BK678 := kx BK678 hb; have NB685_701 := lx BK685 hg; have NB701_685 := gx BK685 hg; replace BK685 := kx BK685 hb; have NB692_701 := lx BK692 hg; have NB701_692 := gx BK692 hg; replace BK692 := kx BK692 hb; clear hb hbox hg; refine hK.out _ _ ⟨bc BK692 0, bc BK692 1, bc BK663 0, bc BK663 1⟩ (fun hHeld => ?_); clear hK K; refine nm_ (some 15) ?_; exact norm_ (by simp only [putAll, Act.put, List.setIfInBounds_toArray, List.set_cons_zero, List.set_cons_succ]) (hCont (.slice Ao104 t693.length co104, v698, gb701) _ ⟨hHeld, (Kd.R_mono (rx HO690) (fun _ hk => ⟨hk.2, ⟨hk.1.1, ⟨hk.1.2.1, hk.1.2.2⟩⟩⟩)), (rx HO695), (Kd.R_mono (rx HO699) (fun _ hk => ⟨hk.1.2, ⟨hk.1.1.1.2, ⟨hk.1.1.2, hk.2⟩⟩⟩)), (Kd.R_mono (rx HO_679001) (fun _ hk => ⟨hk.1.2.1, ⟨hk.2, ⟨hk.1.1, hk.1.2.2⟩⟩⟩)), (Kd.R_mono (rx HO_686001) (fun _ hk => ⟨hk.1.2.1, ⟨hk.2, ⟨hk.1.1, hk.1.2.2⟩⟩⟩)), (bx BK663), (bx BK664), (bx BK678), (bx BK685), (bx BK692), (bx BK701), GW701.out, GE701.out, NB663_701.out, NB701_663.out, NB664_701.out, NB701_664.out, NB678_701.out, NB701_678.out, NB685_701.out, NB701_685.out, NB692_701.out, NB701_692.out, (hb6 HB GE663 GE664 GE678 GE685 GE692 GE701)⟩)
                   ·skip
                    refine bs_ 15 #[.int .i64 0, .slice none 0 0] 25 ?_; intro gb701 hg w104 hbox hb; replace HO_679001 := ry HO_679001 hb; replace HO_686001 := ry HO_686001 hb; replace HO690 := ry HO690 hb; replace HO695 := ry HO695 hb; have BK701 := Aside0.mk (hbox); have GW701 := wq (hb5 HB GE663 GE664 GE678 GE685 GE692) hg; have GE701 := wq (hb5 HB GE663 GE664 GE678 GE685 GE692) hg; replace HB := hs (hb5 HB GE663 GE664 GE678 GE685 GE692) hb; have NB663_701 := lx BK663 hg; have NB701_663 := gx BK663 hg; replace BK663 := kx BK663 hb; have NB664_701 := lx BK664 hg; have NB701_664 := gx BK664 hg; replace BK664 := kx BK664 hb; have NB678_701 := lx BK678 hg; have NB701_678 := gx BK678 hg; replace BK678 := kx BK678 hb; have NB685_701 := lx BK685 hg; have NB701_685 := gx BK685 hg; replace BK685 := kx BK685 hb; have NB692_701 := lx BK692 hg; have NB701_692 := gx BK692 hg; replace BK692 := kx BK692 hb; clear hb hbox hg; obtain ⟨Ao105, co105, eo105⟩ := Kd.R_slice HO695.out
                    (first | subst eo105 | obtain ⟨rfl, rfl⟩ := sx eo105)
                    refine hK.out _ _ ⟨bc BK692 0, bc BK692 1, bc BK663 0, bc BK663 1⟩ (fun hHeld => ?_); clear hK K; refine nm_ (some 15) ?_; refine on_ 4 (some 108) #[T_,T_,T_,T_,T_,F_,F_,F_,T_,F_,F_] HT_ (fun K hK => ?_); refine gs_ Try.func14 #[.agg #[.int .i64 t687, .slice Ao100 t688.length co100], .slice Ao105 t693.length co105] ?_
                    with_reducible refine (edit_Induced.calls kj62 t687 _ _ t688 _ _ t693 t696 t697 t700 _ ?side1 ?side2 ?side3 ?side4 A76.out).mono ?_
                    (case side1 => exact cr HO690)
                    (case side2 => exact (Kd.R_reads' HO690.out).2.1)
                    (case side3 => exact cr HO695)
                    (case side4 => exact (Kd.R_reads' HO695.out).2.1)
                    rintro e w106 ⟨v698, rfl, ho0, hb⟩; refine ⟨_, rfl, ?_⟩; replace HO695 := ry HO695 hb; have HO699 := Aside0.mk (Kd.R_lower (Kd.R_newB (Kd.R_new' (Kd.R_new' (Kd.R_new' ho0 (Kd.R_lt (rx HO_679001))) (Kd.R_lt (rx HO_686001))) (Kd.R_lt (rx HO690))) (bx BK664)) (below_size (hb6 HB GE663 GE664 GE678 GE685 GE692 GE701))); replace HO_679001 := el (rx HO_679001) ho0 hb; replace HO_686001 := el (rx HO_686001) ho0 hb; replace HO690 := el (rx HO690) ho0 hb; replace BK663 := kx BK663 hb; replace BK664 := kx BK664 hb; replace BK678 := kx BK678 hb; replace BK685 := kx BK685 hb; replace BK692 := kx BK692 hb; replace BK701 := kx BK701 hb; replace HB := hs (hb6 HB GE663 GE664 GE678 GE685 GE692 GE701) hb
                    (try clear hb)
                    (try clear hb2)
                    (try clear hk)
                    (try clear hi)
                    (try clear ho0)
                    refine hK.out _ _ ⟨bc BK692 0, bc BK692 1, bc BK663 0, bc BK663 1⟩ (fun hHeld => ?_); clear hK K; refine nm_ (some 108) ?_; refine pu_ 5 (some 103) #[T_,T_,T_,T_,T_,T_,F_,F_,T_,F_,F_] HT_ ?_; refine pu_ 6 (some 109) #[T_,T_,T_,T_,T_,T_,T_,F_,T_,F_,F_] HT_ ?_; refine pu_ 7 (some 110) (pf 9 11) HT_ ?_; exact norm_ (by simp only [putAll, Act.put, List.setIfInBounds_toArray, List.set_cons_zero, List.set_cons_succ]) (hCont (.slice Ao105 t693.length co105, v698, gb701) _ ⟨hHeld, (Kd.R_mono (rx HO690) (fun _ hk => ⟨hk.2, ⟨hk.1.1, ⟨hk.1.2.1, hk.1.2.2⟩⟩⟩)), (rx HO695), (Kd.R_mono (rx HO699) (fun _ hk => ⟨hk.1.2, ⟨hk.1.1.1.2, ⟨hk.1.1.2, hk.2⟩⟩⟩)), (Kd.R_mono (rx HO_679001) (fun _ hk => ⟨hk.1.2.1, ⟨hk.2, ⟨hk.1.1, hk.1.2.2⟩⟩⟩)), (Kd.R_mono (rx HO_686001) (fun _ hk => ⟨hk.1.2.1, ⟨hk.2, ⟨hk.1.1, hk.1.2.2⟩⟩⟩)), (bx BK663), (bx BK664), (bx BK678), (bx BK685), (bx BK692), (bx BK701), GW701.out, GE701.out, NB663_701.out, NB701_663.out, NB664_701.out, NB701_664.out, NB678_701.out, NB701_678.out, NB685_701.out, NB701_685.out, NB692_701.out, NB701_692.out, (hb6 HB GE663 GE664 GE678 GE685 GE692 GE701)⟩)
                  ·skip
                   refine bs_ 15 #[.int .i64 0, .slice none 0 0] 25 ?_; intro gb701 hg w103 hbox hb; replace HO_679001 := ry HO_679001 hb; replace HO_686001 := ry HO_686001 hb; replace HO690 := ry HO690 hb; have BK701 := Aside0.mk (hbox); have GW701 := wq (hb5 HB GE663 GE664 GE678 GE685 GE692) hg; have GE701 := wq (hb5 HB GE663 GE664 GE678 GE685 GE692) hg; replace HB := hs (hb5 HB GE663 GE664 GE678 GE685 GE692) hb; have NB663_701 := lx BK663 hg; have NB701_663 := gx BK663 hg; replace BK663 := kx BK663 hb; have NB664_701 := lx BK664 hg; have NB701_664 := gx BK664 hg; replace BK664 := kx BK664 hb; have NB678_701 := lx BK678 hg; have NB701_678 := gx BK678 hg; replace BK678 := kx BK678 hb; have NB685_701 := lx BK685 hg; have NB701_685 := gx BK685 hg; replace BK685 := kx BK685 hb; have NB692_701 := lx BK692 hg; have NB701_692 := gx BK692 hg; replace BK692 := kx BK692 hb; clear hb hbox hg; refine hK.out _ _ ⟨bc BK692 0, bc BK692 1, bc BK663 0, bc BK663 1⟩ (fun hHeld => ?_); clear hK K; refine nm_ (some 15) ?_; refine on_ 3 (some 107) #[T_,T_,T_,T_,F_,F_,F_,F_,T_,F_,F_] HT_ (fun K hK => ?_); refine gs_ Try.func17 #[.int .i64 0, .int .i64 a0_0] ?_
                   with_reducible refine (tangramlaw14_from.calls kj62 0 a0_0 t693 _ A75.out).mono ?_
                   rintro e w104 ⟨v694, rfl, ho0, hb⟩; refine ⟨_, rfl, ?_⟩; replace HO_679001 := ry HO_679001 hb; replace HO_686001 := ry HO_686001 hb; replace HO690 := ry HO690 hb; have HO695 := Aside0.mk (Kd.R_lower ho0 (below_size (hb6 HB GE663 GE664 GE678 GE685 GE692 GE701))); replace BK663 := kx BK663 hb; replace BK664 := kx BK664 hb; replace BK678 := kx BK678 hb; replace BK685 := kx BK685 hb; replace BK692 := kx BK692 hb; replace BK701 := kx BK701 hb; replace HB := hs (hb6 HB GE663 GE664 GE678 GE685 GE692 GE701) hb
                   (try clear hb)
                   (try clear hb2)
                   (try clear hk)
                   (try clear hi)
                   (try clear ho0)
                   obtain ⟨Ao105, co105, eo105⟩ := Kd.R_slice HO695.out
                   (first | subst eo105 | obtain ⟨rfl, rfl⟩ := sx eo105)
                   refine hK.out _ _ ⟨bc BK692 0, bc BK692 1, bc BK663 0, bc BK663 1⟩ (fun hHeld => ?_); clear hK K; refine nm_ (some 107) ?_; refine on_ 4 (some 108) #[T_,T_,T_,T_,T_,F_,F_,F_,T_,F_,F_] HT_ (fun K hK => ?_); refine gs_ Try.func14 #[.agg #[.int .i64 t687, .slice Ao100 t688.length co100], .slice Ao105 t693.length co105] ?_
                   with_reducible refine (edit_Induced.calls kj62 t687 _ _ t688 _ _ t693 t696 t697 t700 _ ?side1 ?side2 ?side3 ?side4 A76.out).mono ?_
                   (case side1 => exact cr HO690)
                   (case side2 => exact (Kd.R_reads' HO690.out).2.1)
                   (case side3 => exact cr HO695)
                   (case side4 => exact (Kd.R_reads' HO695.out).2.1)
                   rintro e w106 ⟨v698, rfl, ho0, hb⟩; refine ⟨_, rfl, ?_⟩; replace HO695 := ry HO695 hb; have HO699 := Aside0.mk (Kd.R_lower (Kd.R_newB (Kd.R_new' (Kd.R_new' (Kd.R_new' ho0 (Kd.R_lt (rx HO_679001))) (Kd.R_lt (rx HO_686001))) (Kd.R_lt (rx HO690))) (bx BK664)) (below_size (hb6 HB GE663 GE664 GE678 GE685 GE692 GE701))); replace HO_679001 := el (rx HO_679001) ho0 hb; replace HO_686001 := el (rx HO_686001) ho0 hb; replace HO690 := el (rx HO690) ho0 hb; replace BK663 := kx BK663 hb; replace BK664 := kx BK664 hb; replace BK678 := kx BK678 hb; replace BK685 := kx BK685 hb; replace BK692 := kx BK692 hb; replace BK701 := kx BK701 hb; replace HB := hs (hb6 HB GE663 GE664 GE678 GE685 GE692 GE701) hb
                   (try clear hb)
                   (try clear hb2)
                   (try clear hk)
                   (try clear hi)
                   (try clear ho0)
                   refine hK.out _ _ ⟨bc BK692 0, bc BK692 1, bc BK663 0, bc BK663 1⟩ (fun hHeld => ?_); clear hK K; refine nm_ (some 108) ?_; refine pu_ 5 (some 103) #[T_,T_,T_,T_,T_,T_,F_,F_,T_,F_,F_] HT_ ?_; refine pu_ 6 (some 109) #[T_,T_,T_,T_,T_,T_,T_,F_,T_,F_,F_] HT_ ?_; refine pu_ 7 (some 110) (pf 9 11) HT_ ?_; exact norm_ (by simp only [putAll, Act.put, List.setIfInBounds_toArray, List.set_cons_zero, List.set_cons_succ]) (hCont (.slice Ao105 t693.length co105, v698, gb701) _ ⟨hHeld, (Kd.R_mono (rx HO690) (fun _ hk => ⟨hk.2, ⟨hk.1.1, ⟨hk.1.2.1, hk.1.2.2⟩⟩⟩)), (rx HO695), (Kd.R_mono (rx HO699) (fun _ hk => ⟨hk.1.2, ⟨hk.1.1.1.2, ⟨hk.1.1.2, hk.2⟩⟩⟩)), (Kd.R_mono (rx HO_679001) (fun _ hk => ⟨hk.1.2.1, ⟨hk.2, ⟨hk.1.1, hk.1.2.2⟩⟩⟩)), (Kd.R_mono (rx HO_686001) (fun _ hk => ⟨hk.1.2.1, ⟨hk.2, ⟨hk.1.1, hk.1.2.2⟩⟩⟩)), (bx BK663), (bx BK664), (bx BK678), (bx BK685), (bx BK692), (bx BK701), GW701.out, GE701.out, NB663_701.out, NB701_663.out, NB664_701.out, NB701_664.out, NB678_701.out, NB701_678.out, NB685_701.out, NB701_685.out, NB692_701.out, NB701_692.out, (hb6 HB GE663 GE664 GE678 GE685 GE692 GE701)⟩)
                 rintro ⟨v694, v698, gb701⟩ w107 ⟨hS_, h0_, h1_, h2_, h3_, h4_, h5_, h6_, h7_, h8_, h9_, h10_, h11_, h12_, h13_, h14_, h15_, h16_, h17_, h18_, h19_, h20_, h21_, h22_, h23_⟩; have n0_ : Aside0 (Kd.R k46 46 w107 w.heap.size (fun k_ => some k_ ≠ (v698 : Value).ownBlock ∧ some k_ ≠ (.slice Ao32 t674.length co32 : Value).ownBlock ∧ some k_ ≠ (.slice Ao39 t681.length co39 : Value).ownBlock ∧ k_ ≠ gb664) (.slice Ao100 t688.length co100) t688) := ⟨h0_⟩; have n1_ : Aside0 (Kd.R (Kd.int .i64) 3 w107 w.heap.size (fun _ => True) v694 t693) := ⟨h1_⟩; have n2_ : Aside0 (Kd.R k46 46 w107 w.heap.size (fun k_ => some k_ ≠ (.slice Ao100 t688.length co100 : Value).ownBlock ∧ some k_ ≠ (.slice Ao32 t674.length co32 : Value).ownBlock ∧ some k_ ≠ (.slice Ao39 t681.length co39 : Value).ownBlock ∧ k_ ≠ gb664) v698 t697) := ⟨h2_⟩; have n3_ : Aside0 (Kd.R k46 46 w107 w.heap.size (fun k_ => some k_ ≠ (.slice Ao100 t688.length co100 : Value).ownBlock ∧ some k_ ≠ (v698 : Value).ownBlock ∧ some k_ ≠ (.slice Ao39 t681.length co39 : Value).ownBlock ∧ k_ ≠ gb664) (.slice Ao32 t674.length co32) t674) := ⟨h3_⟩; have n4_ : Aside0 (Kd.R k46 46 w107 w.heap.size (fun k_ => some k_ ≠ (.slice Ao100 t688.length co100 : Value).ownBlock ∧ some k_ ≠ (v698 : Value).ownBlock ∧ some k_ ≠ (.slice Ao32 t674.length co32 : Value).ownBlock ∧ k_ ≠ gb664) (.slice Ao39 t681.length co39) t681) := ⟨h4_⟩; have n5_ : Aside0 (w107.heap[gb663]? = some (.cells #[.int .i64 a0_0, .slice (some ad679) l0_1.length c0_1] 25 (0, 0))) := ⟨h5_⟩
                 have n6_ : Aside0 (w107.heap[gb664]? = some (.cells #[.int .i64 a2_0, .int .i64 a2_1] 46 (0, 0))) := ⟨h6_⟩; have n7_ : Aside0 (w107.heap[gb678]? = some (.cells #[.int .i64 t673, .slice Ao32 t674.length co32] 25 (0, 0))) := ⟨h7_⟩; have n8_ : Aside0 (w107.heap[gb685]? = some (.cells #[.int .i64 t680, .slice Ao39 t681.length co39] 25 (0, 0))) := ⟨h8_⟩; have n9_ : Aside0 (w107.heap[gb692]? = some (.cells #[.int .i64 t687, .slice Ao100 t688.length co100] 25 (0, 0))) := ⟨h9_⟩; have n10_ : Aside0 (w107.heap[gb701]? = some (.cells #[.int .i64 0, .slice none 0 0] 25 (0, 0))) := ⟨h10_⟩; have n11_ : Aside0 (w.heap.size ≤ gb701) := ⟨h11_⟩; have n12_ : Aside0 (w.heap.size ≤ gb701) := ⟨h12_⟩; have n13_ : Aside0 (gb663 ≠ gb701) := ⟨h13_⟩; have n14_ : Aside0 (gb701 ≠ gb663) := ⟨h14_⟩; have n15_ : Aside0 (gb664 ≠ gb701) := ⟨h15_⟩; have n16_ : Aside0 (gb701 ≠ gb664) := ⟨h16_⟩; have n17_ : Aside0 (gb678 ≠ gb701) := ⟨h17_⟩; have n18_ : Aside0 (gb701 ≠ gb678) := ⟨h18_⟩; have n19_ : Aside0 (gb685 ≠ gb701) := ⟨h19_⟩; have n20_ : Aside0 (gb701 ≠ gb685) := ⟨h20_⟩; have n21_ : Aside0 (gb692 ≠ gb701) := ⟨h21_⟩; have n22_ : Aside0 (gb701 ≠ gb692) := ⟨h22_⟩; have n23_ : Aside0 (Below w.heap.size w w107) := ⟨h23_⟩; clear HO_679001 HO_686001 HO690 BK663 BK664 BK678 BK685 BK692 HB h0_ h1_ h2_ h3_ h4_ h5_ h6_ h7_ h8_ h9_ h10_ h11_ h12_ h13_ h14_ h15_ h16_ h17_ h18_ h19_ h20_ h21_ h22_ h23_; have HO690 := n0_; have HO695 := n1_; have HO699 := n2_; have HO_679001 := n3_; have HO_686001 := n4_; have BK663 := n5_
                 have BK664 := n6_; have BK678 := n7_; have BK685 := n8_; have BK692 := n9_; have BK701 := n10_; have GW701 := n11_; have GE701 := n12_; have NB663_701 := n13_; have NB701_663 := n14_; have NB664_701 := n15_; have NB701_664 := n16_; have NB678_701 := n17_; have NB701_678 := n18_; have NB685_701 := n19_; have NB701_685 := n20_; have NB692_701 := n21_; have NB701_692 := n22_; have HB := n23_; clear n0_ n1_ n2_ n3_ n4_ n5_ n6_ n7_ n8_ n9_ n10_ n11_ n12_ n13_ n14_ n15_ n16_ n17_ n18_ n19_ n20_ n21_ n22_ n23_; have hHeld : w107.cell? ⟨gb692, 0, none⟩ = some (.int .i64 t687) ∧ w107.cell? ⟨gb692, 1, none⟩ = some (.slice Ao100 t688.length co100) ∧ w107.cell? ⟨gb663, 0, none⟩ = some (.int .i64 a0_0) ∧ w107.cell? ⟨gb663, 1, none⟩ = some (.slice (some ad679) l0_1.length c0_1) := hS_; obtain ⟨Ao109, co109, eo109⟩ := Kd.R_slice HO699.out
                 (first | subst eo109 | obtain ⟨rfl, rfl⟩ := sx eo109)
                 refine norm_ (a' := ?_) ?_ ?_; rotate_left
                 ·simp only [putAll, Act.put, List.setIfInBounds_toArray, List.set_cons_zero, List.set_cons_succ]; rfl
                 refine on_ 9 none (pf 10 11) HT_ (fun K hK => ?_); have hs108 : w107.cell? ⟨gb701, 0, none⟩ = some (.int .i64 0) := bc BK701 0; have hfs108 := blk_frozen BK701.out 0; have hns108_0 := NB663_701.out; have hns108_1 := NB664_701.out; have hns108_2 := NB678_701.out; have hns108_3 := NB685_701.out; have hns108_4 := NB692_701.out; have hms108_0 := NB701_663.out; have hms108_1 := NB701_664.out; have hms108_2 := NB701_678.out; have hms108_3 := NB701_685.out; have hms108_4 := NB701_692.out; have hs110 : w107.cell? ⟨gb701, 1, none⟩ = some (.slice none 0 0) := bc BK701 1; have hfs110 := blk_frozen BK701.out 1; have hns110_0 := NB663_701.out; have hns110_1 := NB664_701.out; have hns110_2 := NB678_701.out; have hns110_3 := NB685_701.out; have hns110_4 := NB692_701.out; have hms110_0 := NB701_663.out; have hms110_1 := NB701_664.out; have hms110_2 := NB701_678.out; have hms110_3 := NB701_685.out; have hms110_4 := NB701_692.out; refine skip_ (w1 := ?_) (by rfl) rfl ?_ ?_; rotate_left
                 ·go_simp; rfl
                 refine hK.out _ _ ⟨((cell_far (p := ⟨gb701, _, none⟩) NB692_701.out _).trans (((cell_far (p := ⟨gb701, _, none⟩) NB692_701.out _).trans (hHeld.1)))), ((cell_far (p := ⟨gb701, _, none⟩) NB692_701.out _).trans (((cell_far (p := ⟨gb701, _, none⟩) NB692_701.out _).trans (hHeld.2.1)))), ((cell_far (p := ⟨gb701, _, none⟩) NB663_701.out _).trans (((cell_far (p := ⟨gb701, _, none⟩) NB663_701.out _).trans (hHeld.2.2.1)))), ((cell_far (p := ⟨gb701, _, none⟩) NB663_701.out _).trans (((cell_far (p := ⟨gb701, _, none⟩) NB663_701.out _).trans (hHeld.2.2.2))))⟩ (fun hHeld => ?_); clear hK K; refine pu_ 10 (some 16) (pf 11 11) HT_ ?_; refine done_ (done_of HT_.out (by kernel_rfl)) ?_
                 try go_wp2
                 have n0_ : Aside0 (Kd.R k46 46 ((w107.setCell ⟨gb701, 0, none⟩ (.int .i64 t696)).setCell ⟨gb701, 1, none⟩ (.slice Ao109 t697.length co109)) w.heap.size (fun k_ => some k_ ≠ (.slice Ao39 t681.length co39 : Value).ownBlock ∧ some k_ ≠ (.slice Ao100 t688.length co100 : Value).ownBlock ∧ some k_ ≠ (.slice Ao109 t697.length co109 : Value).ownBlock ∧ k_ ≠ gb664) (.slice Ao32 t674.length co32) t674) := ⟨Kd.R_mono (rf HO_679001 BK701) (fun _ hk => ⟨hk.2.2.1, ⟨hk.1, ⟨hk.2.1, hk.2.2.2⟩⟩⟩)⟩; have n1_ : Aside0 (Kd.R k46 46 ((w107.setCell ⟨gb701, 0, none⟩ (.int .i64 t696)).setCell ⟨gb701, 1, none⟩ (.slice Ao109 t697.length co109)) w.heap.size (fun k_ => some k_ ≠ (.slice Ao32 t674.length co32 : Value).ownBlock ∧ some k_ ≠ (.slice Ao100 t688.length co100 : Value).ownBlock ∧ some k_ ≠ (.slice Ao109 t697.length co109 : Value).ownBlock ∧ k_ ≠ gb664) (.slice Ao39 t681.length co39) t681) := ⟨Kd.R_mono (rf HO_686001 BK701) (fun _ hk => ⟨hk.2.2.1, ⟨hk.1, ⟨hk.2.1, hk.2.2.2⟩⟩⟩)⟩; have n2_ : Aside0 (Kd.R k46 46 ((w107.setCell ⟨gb701, 0, none⟩ (.int .i64 t696)).setCell ⟨gb701, 1, none⟩ (.slice Ao109 t697.length co109)) w.heap.size (fun k_ => some k_ ≠ (.slice Ao32 t674.length co32 : Value).ownBlock ∧ some k_ ≠ (.slice Ao39 t681.length co39 : Value).ownBlock ∧ some k_ ≠ (.slice Ao109 t697.length co109 : Value).ownBlock ∧ k_ ≠ gb664) (.slice Ao100 t688.length co100) t688) := ⟨Kd.R_mono (rf HO690 BK701) (fun _ hk => ⟨hk.2.1, ⟨hk.2.2.1, ⟨hk.1, hk.2.2.2⟩⟩⟩)⟩; have n3_ : Aside0 (Kd.R (Kd.int .i64) 3 ((w107.setCell ⟨gb701, 0, none⟩ (.int .i64 t696)).setCell ⟨gb701, 1, none⟩ (.slice Ao109 t697.length co109)) w.heap.size (fun _ => True) v694 t693) := ⟨Kd.R_mono (rf HO695 BK701) (fun _ hk => trivial)⟩
                 have n4_ : Aside0 (Kd.R k46 46 ((w107.setCell ⟨gb701, 0, none⟩ (.int .i64 t696)).setCell ⟨gb701, 1, none⟩ (.slice Ao109 t697.length co109)) w.heap.size (fun k_ => some k_ ≠ (.slice Ao32 t674.length co32 : Value).ownBlock ∧ some k_ ≠ (.slice Ao39 t681.length co39 : Value).ownBlock ∧ some k_ ≠ (.slice Ao100 t688.length co100 : Value).ownBlock ∧ k_ ≠ gb664) (.slice Ao109 t697.length co109) t697) := ⟨Kd.R_mono (rf HO699 BK701) (fun _ hk => ⟨hk.2.1, ⟨hk.2.2.1, ⟨hk.1, hk.2.2.2⟩⟩⟩)⟩; have n5_ : Aside0 (((w107.setCell ⟨gb701, 0, none⟩ (.int .i64 t696)).setCell ⟨gb701, 1, none⟩ (.slice Ao109 t697.length co109)).heap[gb663]? = some (.cells #[.int .i64 a0_0, .slice (some ad679) l0_1.length c0_1] 25 (0, 0))) := ⟨bx1 BK663 NB663_701⟩; have n6_ : Aside0 (((w107.setCell ⟨gb701, 0, none⟩ (.int .i64 t696)).setCell ⟨gb701, 1, none⟩ (.slice Ao109 t697.length co109)).heap[gb664]? = some (.cells #[.int .i64 a2_0, .int .i64 a2_1] 46 (0, 0))) := ⟨bx1 BK664 NB664_701⟩; have n7_ : Aside0 (((w107.setCell ⟨gb701, 0, none⟩ (.int .i64 t696)).setCell ⟨gb701, 1, none⟩ (.slice Ao109 t697.length co109)).heap[gb678]? = some (.cells #[.int .i64 t673, .slice Ao32 t674.length co32] 25 (0, 0))) := ⟨bx1 BK678 NB678_701⟩; have n8_ : Aside0 (((w107.setCell ⟨gb701, 0, none⟩ (.int .i64 t696)).setCell ⟨gb701, 1, none⟩ (.slice Ao109 t697.length co109)).heap[gb685]? = some (.cells #[.int .i64 t680, .slice Ao39 t681.length co39] 25 (0, 0))) := ⟨bx1 BK685 NB685_701⟩; have n9_ : Aside0 (((w107.setCell ⟨gb701, 0, none⟩ (.int .i64 t696)).setCell ⟨gb701, 1, none⟩ (.slice Ao109 t697.length co109)).heap[gb692]? = some (.cells #[.int .i64 t687, .slice Ao100 t688.length co100] 25 (0, 0))) := ⟨bx1 BK692 NB692_701⟩
                 have n10_ : Aside0 (((w107.setCell ⟨gb701, 0, none⟩ (.int .i64 t696)).setCell ⟨gb701, 1, none⟩ (.slice Ao109 t697.length co109)).heap[gb701]? = some (.cells #[.int .i64 t696, .slice Ao109 t697.length co109] 25 (0, 0))) := ⟨bp BK701⟩; have n11_ : Aside0 (Below w.heap.size w ((w107.setCell ⟨gb701, 0, none⟩ (.int .i64 t696)).setCell ⟨gb701, 1, none⟩ (.slice Ao109 t697.length co109))) := ⟨hb6 HB GE663 GE664 GE678 GE685 GE692 GE701⟩
                 (try clear HO_679001)
                 (try clear HO_686001)
                 (try clear HO690)
                 (try clear HO695)
                 (try clear HO699)
                 (try clear BK663)
                 (try clear BK664)
                 (try clear BK678)
                 (try clear BK685)
                 (try clear BK692)
                 (try clear BK701)
                 (try clear HB)
                 generalize ((w107.setCell ⟨gb701, 0, none⟩ (.int .i64 t696)).setCell ⟨gb701, 1, none⟩ (.slice Ao109 t697.length co109)) = w111 at n0_ n1_ n2_ n3_ n4_ n5_ n6_ n7_ n8_ n9_ n10_ n11_ ⊢; have HO_679001 := n0_; have HO_686001 := n1_; have HO690 := n2_; have HO695 := n3_; have HO699 := n4_; have BK663 := n5_; have BK664 := n6_; have BK678 := n7_; have BK685 := n8_; have BK692 := n9_; have BK701 := n10_; have HB := n11_; clear n0_ n1_ n2_ n3_ n4_ n5_ n6_ n7_ n8_ n9_ n10_ n11_; replace HO_679001 := rd HO_679001; replace HO_686001 := rd HO_686001; replace HO690 := rd HO690; replace HO695 := rd HO695; replace HO699 := rd HO699; replace BK663 := bd BK663; replace BK664 := bd BK664; replace BK678 := bd BK678; replace BK685 := bd BK685; replace BK692 := bd BK692; replace BK701 := bd BK701; replace HB := Aside0.mk (below_drew1 HB.out); have p702 : 0 ≤ (a1 : Int) := of_decide_eq_true (by first | (with_reducible assumption) | assumption); have q702 : a1 < (l0_1.length : Int) := of_decide_eq_true (by first | (with_reducible assumption) | assumption); obtain ⟨ad702, e702, hx702_0, hx702_1⟩ := at_T46 HR0_1.out a1 p702 q702; have hw702_1 := hx702_1; have hw702_0 := hx702_0; obtain rfl : ad679 = ad702 := (by injection e702); replace hx702_0 := (HB.out.cell (World.block_lt_of_cell? w _ hx702_0)).trans hx702_0; replace hx702_1 := (HB.out.cell (World.block_lt_of_cell? w _ hx702_1)).trans hx702_1; replace p702 := eq_true p702; replace q702 := eq_true q702; refine start_ (n := 13) (S := fun w' => w'.cell? ⟨gb701, 0, none⟩ = some (.int .i64 t696) ∧ w'.cell? ⟨gb701, 1, none⟩ = some (.slice Ao109 t697.length co109) ∧ w'.cell? ⟨gb663, 0, none⟩ = some (.int .i64 a0_0) ∧ w'.cell? ⟨gb663, 1, none⟩ = some (.slice (some ad679) l0_1.length c0_1) ∧ w'.cell? (ad679.add ((a1).toNat * 2)) = some (.int .i64 ((rd_T46 l0_1 a1).f0)) ∧ w'.cell? ⟨(ad679.add ((a1).toNat * 2)).block, (ad679.add ((a1).toNat * 2)).off + 1, none⟩ = some (.int .i64 ((rd_T46 l0_1 a1).f1))) (ds := []) (pf 0 13) (by kernel_rfl) rfl rfl ⟨bc BK701 0, bc BK701 1, bc BK663 0, bc BK663 1, ((HB.out.cell (World.block_lt_of_cell? w _ hw702_0)).trans hw702_0), ((HB.out.cell (World.block_lt_of_cell? w _ hw702_1)).trans hw702_1)⟩ (fun hHeld => ?_); refine with_tabW tangramlaw14_EditBack.tab14 tangramlaw14_EditBack.bits14 (fun HT_ HW_ => ?_)
                 generalize w111.drew = w112 at HO_679001 HO_686001 HO690 HO695 HO699 BK663 BK664 BK678 BK685 BK692 BK701 HB hx702_0 hx702_1 hHeld ⊢; refine pu_ 1 (some 113) #[F_,T_,F_,F_,F_,F_,F_,F_,F_,F_,F_,F_,F_] HT_ ?_; refine pu_ 3 (some 115) #[F_,T_,F_,T_,F_,F_,F_,F_,F_,F_,F_,F_,F_] HT_ ?_; refine tk6_ 0 (some 112) #[T_,T_,F_,T_,F_,F_,F_,F_,F_,F_,F_,F_,F_] HT_ HW_ hHeld ?_; refine tk6_ 2 (some 114) (pf 4 13) HT_ HW_ hHeld ?_; refine pu_ 4 (some 116) (pf 5 13) HT_ ?_; refine tk6_ 5 (some 117) (pf 6 13) HT_ HW_ hHeld ?_; refine join_ (σ := Value × Nat) 2 (pf 11 13) (fun s_ => [(118, .tuple #[.agg #[.int .i64 t703, s_.1], .int .i64 t707]), (17, .pointer (some ⟨s_.2, 0, none⟩)), (111, .tuple #[.agg #[.int .i64 t703, s_.1], .int .i64 t707]), (119, .agg #[.int .i64 t703, s_.1]), (120, .int .i64 t707)]) (fun s_ w' => (w'.cell? ⟨gb701, 0, none⟩ = some (.int .i64 t696) ∧ w'.cell? ⟨gb701, 1, none⟩ = some (.slice Ao109 t697.length co109) ∧ w'.cell? ⟨gb663, 0, none⟩ = some (.int .i64 a0_0) ∧ w'.cell? ⟨gb663, 1, none⟩ = some (.slice (some ad679) l0_1.length c0_1) ∧ w'.cell? (ad679.add ((a1).toNat * 2)) = some (.int .i64 ((rd_T46 l0_1 a1).f0)) ∧ w'.cell? ⟨(ad679.add ((a1).toNat * 2)).block, (ad679.add ((a1).toNat * 2)).off + 1, none⟩ = some (.int .i64 ((rd_T46 l0_1 a1).f1))) ∧ (Kd.R k46 46 w' w.heap.size (fun k_ => some k_ ≠ (.slice Ao109 t697.length co109 : Value).ownBlock ∧ some k_ ≠ (s_.1 : Value).ownBlock ∧ some k_ ≠ (.slice Ao32 t674.length co32 : Value).ownBlock ∧ some k_ ≠ (.slice Ao39 t681.length co39 : Value).ownBlock ∧ k_ ≠ gb664) (.slice Ao100 t688.length co100) t688) ∧ (Kd.R (Kd.int .i64) 3 w' w.heap.size (fun _ => True) v694 t693) ∧ (Kd.R k46 46 w' w.heap.size (fun k_ => some k_ ≠ (.slice Ao100 t688.length co100 : Value).ownBlock ∧ some k_ ≠ (s_.1 : Value).ownBlock ∧ some k_ ≠ (.slice Ao32 t674.length co32 : Value).ownBlock ∧ some k_ ≠ (.slice Ao39 t681.length co39 : Value).ownBlock ∧ k_ ≠ gb664) (.slice Ao109 t697.length co109) t697) ∧ (Kd.R k46 46 w' w.heap.size (fun k_ => some k_ ≠ (.slice Ao100 t688.length co100 : Value).ownBlock ∧ some k_ ≠ (.slice Ao109 t697.length co109 : Value).ownBlock ∧ some k_ ≠ (.slice Ao32 t674.length co32 : Value).ownBlock ∧ some k_ ≠ (.slice Ao39 t681.length co39 : Value).ownBlock ∧ k_ ≠ gb664) s_.1 t704) ∧ (Kd.R k46 46 w' w.heap.size (fun k_ => some k_ ≠ (.slice Ao100 t688.length co100 : Value).ownBlock ∧ some k_ ≠ (.slice Ao109 t697.length co109 : Value).ownBlock ∧ some k_ ≠ (s_.1 : Value).ownBlock ∧ some k_ ≠ (.slice Ao39 t681.length co39 : Value).ownBlock ∧ k_ ≠ gb664) (.slice Ao32 t674.length co32) t674) ∧ (Kd.R k46 46 w' w.heap.size (fun k_ => some k_ ≠ (.slice Ao100 t688.length co100 : Value).ownBlock ∧ some k_ ≠ (.slice Ao109 t697.length co109 : Value).ownBlock ∧ some k_ ≠ (s_.1 : Value).ownBlock ∧ some k_ ≠ (.slice Ao32 t674.length co32 : Value).ownBlock ∧ k_ ≠ gb664) (.slice Ao39 t681.length co39) t681) ∧ (w'.heap[gb663]? = some (.cells #[.int .i64 a0_0, .slice (some ad679) l0_1.length c0_1] 25 (0, 0))) ∧ (w'.heap[gb664]? = some (.cells #[.int .i64 a2_0, .int .i64 a2_1] 46 (0, 0))) ∧ (w'.heap[gb678]? = some (.cells #[.int .i64 t673, .slice Ao32 t674.length co32] 25 (0, 0))) ∧ (w'.heap[gb685]? = some (.cells #[.int .i64 t680, .slice Ao39 t681.length co39] 25 (0, 0))) ∧ (w'.heap[gb692]? = some (.cells #[.int .i64 t687, .slice Ao100 t688.length co100] 25 (0, 0))) ∧ (w'.heap[gb701]? = some (.cells #[.int .i64 t696, .slice Ao109 t697.length co109] 25 (0, 0))) ∧ (w'.heap[s_.2]? = some (.cells #[.int .i64 0, .slice none 0 0] 25 (0, 0))) ∧ (w.heap.size ≤ s_.2) ∧ (w.heap.size ≤ s_.2) ∧ (gb663 ≠ s_.2) ∧ (s_.2 ≠ gb663) ∧ (gb664 ≠ s_.2) ∧ (s_.2 ≠ gb664) ∧ (gb678 ≠ s_.2) ∧ (s_.2 ≠ gb678) ∧ (gb685 ≠ s_.2) ∧ (s_.2 ≠ gb685) ∧ (gb692 ≠ s_.2) ∧ (s_.2 ≠ gb692) ∧ (gb701 ≠ s_.2) ∧ (s_.2 ≠ gb701) ∧ (Below w.heap.size w w')) ?_ ?_
                 rotate_left
                 ·intro hCont; refine two_ (i := 6) (j := 10) (Ni := some 118) (Nj := some 17) (pf 7 13) #[T_,T_,T_,T_,T_,T_,F_,F_,F_,F_,T_,F_,F_] rfl rfl rfl rfl (two_of HT_.out (by kernel_rfl)) (by decide) (by decide) (fun K hK => ?_) (fun K hK => ?_)
                  ·skip
                   refine gs_ Try.func29 #[.agg #[.int .i64 t696, .slice Ao109 t697.length co109], .agg #[.int .i64 ((rd_T46 l0_1 a1).f0), .int .i64 ((rd_T46 l0_1 a1).f1)]] ?_
                   with_reducible refine (edit_With.calls kj62 t696 _ _ t697 ((rd_T46 l0_1 a1).f0) ((rd_T46 l0_1 a1).f1) t703 t704 t707 _ ?side1 ?side2 A79.out).mono ?_
                   (case side1 => exact cr HO699)
                   (case side2 => exact (Kd.R_reads' HO699.out).2.1)
                   rintro e w113 ⟨v705, rfl, ho0, hb⟩; refine ⟨_, rfl, ?_⟩; replace HO695 := ry HO695 hb; have HO706 := Aside0.mk (Kd.R_lower (Kd.R_newB (Kd.R_new' (Kd.R_new' (Kd.R_new' (Kd.R_new' ho0 (Kd.R_lt (rx HO_679001))) (Kd.R_lt (rx HO_686001))) (Kd.R_lt (rx HO690))) (Kd.R_lt (rx HO699))) (bx BK664)) (below_size (hb6 HB GE663 GE664 GE678 GE685 GE692 GE701))); replace HO_679001 := el (rx HO_679001) ho0 hb; replace HO_686001 := el (rx HO_686001) ho0 hb; replace HO690 := el (rx HO690) ho0 hb; replace HO699 := el (rx HO699) ho0 hb; replace BK663 := kx BK663 hb; replace BK664 := kx BK664 hb; replace BK678 := kx BK678 hb; replace BK685 := kx BK685 hb; replace BK692 := kx BK692 hb; replace BK701 := kx BK701 hb; replace HB := hs (hb6 HB GE663 GE664 GE678 GE685 GE692 GE701) hb
                   (try clear hb)
                   (try clear hb2)
                   (try clear hk)
                   (try clear hi)
                   (try clear ho0)
                   refine hK.out _ _ ⟨bc BK701 0, bc BK701 1, bc BK663 0, bc BK663 1, ((HB.out.cell (World.block_lt_of_cell? w _ hw702_0)).trans hw702_0), ((HB.out.cell (World.block_lt_of_cell? w _ hw702_1)).trans hw702_1)⟩ (fun hHeld => ?_); clear hK K; refine nm_ (some 118) ?_; refine pu_ 7 (some 111) (pf 8 13) HT_ ?_; refine pu_ 8 (some 119) (pf 9 13) HT_ ?_; refine pu_ 9 (some 120) (pf 10 13) HT_ ?_; refine on_ 10 (some 17) (pf 11 13) HT_ (fun K hK => ?_); refine bs_ 17 #[.int .i64 0, .slice none 0 0] 25 ?_; intro gb708 hg w114 hbox hb; replace HO_679001 := ry HO_679001 hb; replace HO_686001 := ry HO_686001 hb; replace HO690 := ry HO690 hb; replace HO695 := ry HO695 hb; replace HO699 := ry HO699 hb; replace HO706 := ry HO706 hb; have BK708 := Aside0.mk (hbox); have GW708 := wq (hb6 HB GE663 GE664 GE678 GE685 GE692 GE701) hg; have GE708 := wq (hb6 HB GE663 GE664 GE678 GE685 GE692 GE701) hg; replace HB := hs (hb6 HB GE663 GE664 GE678 GE685 GE692 GE701) hb; have NB663_708 := lx BK663 hg; have NB708_663 := gx BK663 hg; replace BK663 := kx BK663 hb; have NB664_708 := lx BK664 hg; have NB708_664 := gx BK664 hg; replace BK664 := kx BK664 hb; have NB678_708 := lx BK678 hg; have NB708_678 := gx BK678 hg; replace BK678 := kx BK678 hb; have NB685_708 := lx BK685 hg; have NB708_685 := gx BK685 hg; replace BK685 := kx BK685 hb; have NB692_708 := lx BK692 hg; have NB708_692 := gx BK692 hg
                   replace BK692 := kx BK692 hb; have NB701_708 := lx BK701 hg; have NB708_701 := gx BK701 hg; replace BK701 := kx BK701 hb; clear hb hbox hg; refine hK.out _ _ ⟨bc BK701 0, bc BK701 1, bc BK663 0, bc BK663 1, ((HB.out.cell (World.block_lt_of_cell? w _ hw702_0)).trans hw702_0), ((HB.out.cell (World.block_lt_of_cell? w _ hw702_1)).trans hw702_1)⟩ (fun hHeld => ?_); clear hK K; refine nm_ (some 17) ?_; exact norm_ (by simp only [putAll, Act.put, List.setIfInBounds_toArray, List.set_cons_zero, List.set_cons_succ]) (hCont (v705, gb708) _ ⟨hHeld, (Kd.R_mono (rx HO690) (fun _ hk => ⟨hk.1.2.2.1, ⟨hk.2, ⟨hk.1.1, ⟨hk.1.2.1, hk.1.2.2.2⟩⟩⟩⟩)), (rx HO695), (Kd.R_mono (rx HO699) (fun _ hk => ⟨hk.1.2.2.1, ⟨hk.2, ⟨hk.1.1, ⟨hk.1.2.1, hk.1.2.2.2⟩⟩⟩⟩)), (Kd.R_mono (rx HO706) (fun _ hk => ⟨hk.1.1.2, ⟨hk.1.2, ⟨hk.1.1.1.1.2, ⟨hk.1.1.1.2, hk.2⟩⟩⟩⟩)), (Kd.R_mono (rx HO_679001) (fun _ hk => ⟨hk.1.2.1, ⟨hk.1.2.2.1, ⟨hk.2, ⟨hk.1.1, hk.1.2.2.2⟩⟩⟩⟩)), (Kd.R_mono (rx HO_686001) (fun _ hk => ⟨hk.1.2.1, ⟨hk.1.2.2.1, ⟨hk.2, ⟨hk.1.1, hk.1.2.2.2⟩⟩⟩⟩)), (bx BK663), (bx BK664), (bx BK678), (bx BK685), (bx BK692), (bx BK701), (bx BK708), GW708.out, GE708.out, NB663_708.out, NB708_663.out, NB664_708.out, NB708_664.out, NB678_708.out, NB708_678.out, NB685_708.out, NB708_685.out, NB692_708.out, NB708_692.out, NB701_708.out, NB708_701.out, (hb7 HB GE663 GE664 GE678 GE685 GE692 GE701 GE708)⟩)
                  ·skip
                   refine bs_ 17 #[.int .i64 0, .slice none 0 0] 25 ?_; intro gb708 hg w113 hbox hb; replace HO_679001 := ry HO_679001 hb; replace HO_686001 := ry HO_686001 hb; replace HO690 := ry HO690 hb; replace HO695 := ry HO695 hb; replace HO699 := ry HO699 hb; have BK708 := Aside0.mk (hbox); have GW708 := wq (hb6 HB GE663 GE664 GE678 GE685 GE692 GE701) hg; have GE708 := wq (hb6 HB GE663 GE664 GE678 GE685 GE692 GE701) hg; replace HB := hs (hb6 HB GE663 GE664 GE678 GE685 GE692 GE701) hb; have NB663_708 := lx BK663 hg; have NB708_663 := gx BK663 hg; replace BK663 := kx BK663 hb; have NB664_708 := lx BK664 hg; have NB708_664 := gx BK664 hg; replace BK664 := kx BK664 hb; have NB678_708 := lx BK678 hg; have NB708_678 := gx BK678 hg; replace BK678 := kx BK678 hb; have NB685_708 := lx BK685 hg; have NB708_685 := gx BK685 hg; replace BK685 := kx BK685 hb; have NB692_708 := lx BK692 hg; have NB708_692 := gx BK692 hg; replace BK692 := kx BK692 hb; have NB701_708 := lx BK701 hg; have NB708_701 := gx BK701 hg; replace BK701 := kx BK701 hb; clear hb hbox hg; refine hK.out _ _ ⟨bc BK701 0, bc BK701 1, bc BK663 0, bc BK663 1, ((HB.out.cell (World.block_lt_of_cell? w _ hw702_0)).trans hw702_0), ((HB.out.cell (World.block_lt_of_cell? w _ hw702_1)).trans hw702_1)⟩ (fun hHeld => ?_); clear hK K; refine nm_ (some 17) ?_; refine on_ 6 (some 118) #[T_,T_,T_,T_,T_,T_,T_,F_,F_,F_,T_,F_,F_] HT_ (fun K hK => ?_); refine gs_ Try.func29 #[.agg #[.int .i64 t696, .slice Ao109 t697.length co109], .agg #[.int .i64 ((rd_T46 l0_1 a1).f0), .int .i64 ((rd_T46 l0_1 a1).f1)]] ?_
                   with_reducible refine (edit_With.calls kj62 t696 _ _ t697 ((rd_T46 l0_1 a1).f0) ((rd_T46 l0_1 a1).f1) t703 t704 t707 _ ?side1 ?side2 A79.out).mono ?_
                   (case side1 => exact cr HO699)
                   (case side2 => exact (Kd.R_reads' HO699.out).2.1)
                   rintro e w114 ⟨v705, rfl, ho0, hb⟩; refine ⟨_, rfl, ?_⟩; replace HO695 := ry HO695 hb; have HO706 := Aside0.mk (Kd.R_lower (Kd.R_newB (Kd.R_new' (Kd.R_new' (Kd.R_new' (Kd.R_new' ho0 (Kd.R_lt (rx HO_679001))) (Kd.R_lt (rx HO_686001))) (Kd.R_lt (rx HO690))) (Kd.R_lt (rx HO699))) (bx BK664)) (below_size (hb7 HB GE663 GE664 GE678 GE685 GE692 GE701 GE708))); replace HO_679001 := el (rx HO_679001) ho0 hb; replace HO_686001 := el (rx HO_686001) ho0 hb; replace HO690 := el (rx HO690) ho0 hb; replace HO699 := el (rx HO699) ho0 hb; replace BK663 := kx BK663 hb; replace BK664 := kx BK664 hb; replace BK678 := kx BK678 hb; replace BK685 := kx BK685 hb; replace BK692 := kx BK692 hb; replace BK701 := kx BK701 hb; replace BK708 := kx BK708 hb; replace HB := hs (hb7 HB GE663 GE664 GE678 GE685 GE692 GE701 GE708) hb
                   (try clear hb)
                   (try clear hb2)
                   (try clear hk)
                   (try clear hi)
                   (try clear ho0)
                   refine hK.out _ _ ⟨bc BK701 0, bc BK701 1, bc BK663 0, bc BK663 1, ((HB.out.cell (World.block_lt_of_cell? w _ hw702_0)).trans hw702_0), ((HB.out.cell (World.block_lt_of_cell? w _ hw702_1)).trans hw702_1)⟩ (fun hHeld => ?_); clear hK K; refine nm_ (some 118) ?_; refine pu_ 7 (some 111) #[T_,T_,T_,T_,T_,T_,T_,T_,F_,F_,T_,F_,F_] HT_ ?_; refine pu_ 8 (some 119) #[T_,T_,T_,T_,T_,T_,T_,T_,T_,F_,T_,F_,F_] HT_ ?_; refine pu_ 9 (some 120) (pf 11 13) HT_ ?_; exact norm_ (by simp only [putAll, Act.put, List.setIfInBounds_toArray, List.set_cons_zero, List.set_cons_succ]) (hCont (v705, gb708) _ ⟨hHeld, (Kd.R_mono (rx HO690) (fun _ hk => ⟨hk.1.2.2.1, ⟨hk.2, ⟨hk.1.1, ⟨hk.1.2.1, hk.1.2.2.2⟩⟩⟩⟩)), (rx HO695), (Kd.R_mono (rx HO699) (fun _ hk => ⟨hk.1.2.2.1, ⟨hk.2, ⟨hk.1.1, ⟨hk.1.2.1, hk.1.2.2.2⟩⟩⟩⟩)), (Kd.R_mono (rx HO706) (fun _ hk => ⟨hk.1.1.2, ⟨hk.1.2, ⟨hk.1.1.1.1.2, ⟨hk.1.1.1.2, hk.2⟩⟩⟩⟩)), (Kd.R_mono (rx HO_679001) (fun _ hk => ⟨hk.1.2.1, ⟨hk.1.2.2.1, ⟨hk.2, ⟨hk.1.1, hk.1.2.2.2⟩⟩⟩⟩)), (Kd.R_mono (rx HO_686001) (fun _ hk => ⟨hk.1.2.1, ⟨hk.1.2.2.1, ⟨hk.2, ⟨hk.1.1, hk.1.2.2.2⟩⟩⟩⟩)), (bx BK663), (bx BK664), (bx BK678), (bx BK685), (bx BK692), (bx BK701), (bx BK708), GW708.out, GE708.out, NB663_708.out, NB708_663.out, NB664_708.out, NB708_664.out, NB678_708.out, NB708_678.out, NB685_708.out, NB708_685.out, NB692_708.out, NB708_692.out, NB701_708.out, NB708_701.out, (hb7 HB GE663 GE664 GE678 GE685 GE692 GE701 GE708)⟩)
                 rintro ⟨v705, gb708⟩ w115 ⟨hS_, h0_, h1_, h2_, h3_, h4_, h5_, h6_, h7_, h8_, h9_, h10_, h11_, h12_, h13_, h14_, h15_, h16_, h17_, h18_, h19_, h20_, h21_, h22_, h23_, h24_, h25_, h26_, h27_⟩; have n0_ : Aside0 (Kd.R k46 46 w115 w.heap.size (fun k_ => some k_ ≠ (.slice Ao109 t697.length co109 : Value).ownBlock ∧ some k_ ≠ (v705 : Value).ownBlock ∧ some k_ ≠ (.slice Ao32 t674.length co32 : Value).ownBlock ∧ some k_ ≠ (.slice Ao39 t681.length co39 : Value).ownBlock ∧ k_ ≠ gb664) (.slice Ao100 t688.length co100) t688) := ⟨h0_⟩; have n1_ : Aside0 (Kd.R (Kd.int .i64) 3 w115 w.heap.size (fun _ => True) v694 t693) := ⟨h1_⟩; have n2_ : Aside0 (Kd.R k46 46 w115 w.heap.size (fun k_ => some k_ ≠ (.slice Ao100 t688.length co100 : Value).ownBlock ∧ some k_ ≠ (v705 : Value).ownBlock ∧ some k_ ≠ (.slice Ao32 t674.length co32 : Value).ownBlock ∧ some k_ ≠ (.slice Ao39 t681.length co39 : Value).ownBlock ∧ k_ ≠ gb664) (.slice Ao109 t697.length co109) t697) := ⟨h2_⟩; have n3_ : Aside0 (Kd.R k46 46 w115 w.heap.size (fun k_ => some k_ ≠ (.slice Ao100 t688.length co100 : Value).ownBlock ∧ some k_ ≠ (.slice Ao109 t697.length co109 : Value).ownBlock ∧ some k_ ≠ (.slice Ao32 t674.length co32 : Value).ownBlock ∧ some k_ ≠ (.slice Ao39 t681.length co39 : Value).ownBlock ∧ k_ ≠ gb664) v705 t704) := ⟨h3_⟩; have n4_ : Aside0 (Kd.R k46 46 w115 w.heap.size (fun k_ => some k_ ≠ (.slice Ao100 t688.length co100 : Value).ownBlock ∧ some k_ ≠ (.slice Ao109 t697.length co109 : Value).ownBlock ∧ some k_ ≠ (v705 : Value).ownBlock ∧ some k_ ≠ (.slice Ao39 t681.length co39 : Value).ownBlock ∧ k_ ≠ gb664) (.slice Ao32 t674.length co32) t674) := ⟨h4_⟩
                 have n5_ : Aside0 (Kd.R k46 46 w115 w.heap.size (fun k_ => some k_ ≠ (.slice Ao100 t688.length co100 : Value).ownBlock ∧ some k_ ≠ (.slice Ao109 t697.length co109 : Value).ownBlock ∧ some k_ ≠ (v705 : Value).ownBlock ∧ some k_ ≠ (.slice Ao32 t674.length co32 : Value).ownBlock ∧ k_ ≠ gb664) (.slice Ao39 t681.length co39) t681) := ⟨h5_⟩; have n6_ : Aside0 (w115.heap[gb663]? = some (.cells #[.int .i64 a0_0, .slice (some ad679) l0_1.length c0_1] 25 (0, 0))) := ⟨h6_⟩; have n7_ : Aside0 (w115.heap[gb664]? = some (.cells #[.int .i64 a2_0, .int .i64 a2_1] 46 (0, 0))) := ⟨h7_⟩; have n8_ : Aside0 (w115.heap[gb678]? = some (.cells #[.int .i64 t673, .slice Ao32 t674.length co32] 25 (0, 0))) := ⟨h8_⟩; have n9_ : Aside0 (w115.heap[gb685]? = some (.cells #[.int .i64 t680, .slice Ao39 t681.length co39] 25 (0, 0))) := ⟨h9_⟩; have n10_ : Aside0 (w115.heap[gb692]? = some (.cells #[.int .i64 t687, .slice Ao100 t688.length co100] 25 (0, 0))) := ⟨h10_⟩; have n11_ : Aside0 (w115.heap[gb701]? = some (.cells #[.int .i64 t696, .slice Ao109 t697.length co109] 25 (0, 0))) := ⟨h11_⟩; have n12_ : Aside0 (w115.heap[gb708]? = some (.cells #[.int .i64 0, .slice none 0 0] 25 (0, 0))) := ⟨h12_⟩; have n13_ : Aside0 (w.heap.size ≤ gb708) := ⟨h13_⟩; have n14_ : Aside0 (w.heap.size ≤ gb708) := ⟨h14_⟩; have n15_ : Aside0 (gb663 ≠ gb708) := ⟨h15_⟩; have n16_ : Aside0 (gb708 ≠ gb663) := ⟨h16_⟩; have n17_ : Aside0 (gb664 ≠ gb708) := ⟨h17_⟩; have n18_ : Aside0 (gb708 ≠ gb664) := ⟨h18_⟩; have n19_ : Aside0 (gb678 ≠ gb708) := ⟨h19_⟩
                 have n20_ : Aside0 (gb708 ≠ gb678) := ⟨h20_⟩; have n21_ : Aside0 (gb685 ≠ gb708) := ⟨h21_⟩; have n22_ : Aside0 (gb708 ≠ gb685) := ⟨h22_⟩; have n23_ : Aside0 (gb692 ≠ gb708) := ⟨h23_⟩; have n24_ : Aside0 (gb708 ≠ gb692) := ⟨h24_⟩; have n25_ : Aside0 (gb701 ≠ gb708) := ⟨h25_⟩; have n26_ : Aside0 (gb708 ≠ gb701) := ⟨h26_⟩; have n27_ : Aside0 (Below w.heap.size w w115) := ⟨h27_⟩; clear HO_679001 HO_686001 HO690 HO695 HO699 BK663 BK664 BK678 BK685 BK692 BK701 HB h0_ h1_ h2_ h3_ h4_ h5_ h6_ h7_ h8_ h9_ h10_ h11_ h12_ h13_ h14_ h15_ h16_ h17_ h18_ h19_ h20_ h21_ h22_ h23_ h24_ h25_ h26_ h27_; have HO690 := n0_; have HO695 := n1_; have HO699 := n2_; have HO706 := n3_; have HO_679001 := n4_; have HO_686001 := n5_; have BK663 := n6_; have BK664 := n7_; have BK678 := n8_; have BK685 := n9_; have BK692 := n10_; have BK701 := n11_; have BK708 := n12_; have GW708 := n13_; have GE708 := n14_; have NB663_708 := n15_; have NB708_663 := n16_; have NB664_708 := n17_; have NB708_664 := n18_; have NB678_708 := n19_; have NB708_678 := n20_; have NB685_708 := n21_; have NB708_685 := n22_; have NB692_708 := n23_; have NB708_692 := n24_; have NB701_708 := n25_; have NB708_701 := n26_; have HB := n27_; clear n0_ n1_ n2_ n3_ n4_ n5_ n6_ n7_ n8_ n9_ n10_ n11_ n12_ n13_ n14_ n15_ n16_ n17_ n18_ n19_ n20_ n21_ n22_ n23_ n24_ n25_ n26_ n27_; have hHeld : w115.cell? ⟨gb701, 0, none⟩ = some (.int .i64 t696) ∧ w115.cell? ⟨gb701, 1, none⟩ = some (.slice Ao109 t697.length co109) ∧ w115.cell? ⟨gb663, 0, none⟩ = some (.int .i64 a0_0) ∧ w115.cell? ⟨gb663, 1, none⟩ = some (.slice (some ad679) l0_1.length c0_1) ∧ w115.cell? (ad679.add ((a1).toNat * 2)) = some (.int .i64 ((rd_T46 l0_1 a1).f0)) ∧ w115.cell? ⟨(ad679.add ((a1).toNat * 2)).block, (ad679.add ((a1).toNat * 2)).off + 1, none⟩ = some (.int .i64 ((rd_T46 l0_1 a1).f1)) := hS_
                 obtain ⟨Ao117, co117, eo117⟩ := Kd.R_slice HO706.out
                 (first | subst eo117 | obtain ⟨rfl, rfl⟩ := sx eo117)
                 refine norm_ (a' := ?_) ?_ ?_; rotate_left
                 ·simp only [putAll, Act.put, List.setIfInBounds_toArray, List.set_cons_zero, List.set_cons_succ]; rfl
                 refine on_ 11 none (pf 12 13) HT_ (fun K hK => ?_); have hs116 : w115.cell? ⟨gb708, 0, none⟩ = some (.int .i64 0) := bc BK708 0; have hfs116 := blk_frozen BK708.out 0; have hns116_0 := NB663_708.out; have hns116_1 := NB664_708.out; have hns116_2 := NB678_708.out; have hns116_3 := NB685_708.out; have hns116_4 := NB692_708.out; have hns116_5 := NB701_708.out; have hms116_0 := NB708_663.out; have hms116_1 := NB708_664.out; have hms116_2 := NB708_678.out; have hms116_3 := NB708_685.out; have hms116_4 := NB708_692.out; have hms116_5 := NB708_701.out; have hs118 : w115.cell? ⟨gb708, 1, none⟩ = some (.slice none 0 0) := bc BK708 1; have hfs118 := blk_frozen BK708.out 1; have hns118_0 := NB663_708.out; have hns118_1 := NB664_708.out; have hns118_2 := NB678_708.out; have hns118_3 := NB685_708.out; have hns118_4 := NB692_708.out; have hns118_5 := NB701_708.out; have hms118_0 := NB708_663.out; have hms118_1 := NB708_664.out; have hms118_2 := NB708_678.out; have hms118_3 := NB708_685.out; have hms118_4 := NB708_692.out; have hms118_5 := NB708_701.out; refine skip_ (w1 := ?_) (by rfl) rfl ?_ ?_; rotate_left
                 ·go_simp; rfl
                 refine hK.out _ _ ⟨((cell_far (p := ⟨gb708, _, none⟩) NB701_708.out _).trans (((cell_far (p := ⟨gb708, _, none⟩) NB701_708.out _).trans (hHeld.1)))), ((cell_far (p := ⟨gb708, _, none⟩) NB701_708.out _).trans (((cell_far (p := ⟨gb708, _, none⟩) NB701_708.out _).trans (hHeld.2.1)))), ((cell_far (p := ⟨gb708, _, none⟩) NB663_708.out _).trans (((cell_far (p := ⟨gb708, _, none⟩) NB663_708.out _).trans (hHeld.2.2.1)))), ((cell_far (p := ⟨gb708, _, none⟩) NB663_708.out _).trans (((cell_far (p := ⟨gb708, _, none⟩) NB663_708.out _).trans (hHeld.2.2.2.1)))), ((cell_far (p := ⟨gb708, _, none⟩) (by first | exact Nat.ne_of_lt (Nat.lt_of_lt_of_le (by have := World.block_lt_of_cell? _ _ hw702_0; first | rwa [add_block] at this | exact this) GW708.out) | (rw [add_block]; exact Nat.ne_of_lt (Nat.lt_of_lt_of_le (by have := World.block_lt_of_cell? _ _ hw702_0; first | rwa [add_block] at this | exact this) GW708.out)) | (show (Addr.add _ _).block ≠ _; rw [add_block]; exact Nat.ne_of_lt (Nat.lt_of_lt_of_le (by have := World.block_lt_of_cell? _ _ hw702_0; first | rwa [add_block] at this | exact this) GW708.out)) | (dsimp only; exact Nat.ne_of_lt (Nat.lt_of_lt_of_le (by have := World.block_lt_of_cell? _ _ hw702_0; first | rwa [add_block] at this | exact this) GW708.out))) _).trans (((cell_far (p := ⟨gb708, _, none⟩) (by first | exact Nat.ne_of_lt (Nat.lt_of_lt_of_le (by have := World.block_lt_of_cell? _ _ hw702_0; first | rwa [add_block] at this | exact this) GW708.out) | (rw [add_block]; exact Nat.ne_of_lt (Nat.lt_of_lt_of_le (by have := World.block_lt_of_cell? _ _ hw702_0; first | rwa [add_block] at this | exact this) GW708.out)) | (show (Addr.add _ _).block ≠ _; rw [add_block]; exact Nat.ne_of_lt (Nat.lt_of_lt_of_le (by have := World.block_lt_of_cell? _ _ hw702_0; first | rwa [add_block] at this | exact this) GW708.out)) | (dsimp only; exact Nat.ne_of_lt (Nat.lt_of_lt_of_le (by have := World.block_lt_of_cell? _ _ hw702_0; first | rwa [add_block] at this | exact this) GW708.out))) _).trans (hHeld.2.2.2.2.1)))), ((cell_far (p := ⟨gb708, _, none⟩) (by first | exact Nat.ne_of_lt (Nat.lt_of_lt_of_le (by have := World.block_lt_of_cell? _ _ hw702_1; first | rwa [add_block] at this | exact this) GW708.out) | (rw [add_block]; exact Nat.ne_of_lt (Nat.lt_of_lt_of_le (by have := World.block_lt_of_cell? _ _ hw702_1; first | rwa [add_block] at this | exact this) GW708.out)) | (show (Addr.add _ _).block ≠ _; rw [add_block]; exact Nat.ne_of_lt (Nat.lt_of_lt_of_le (by have := World.block_lt_of_cell? _ _ hw702_1; first | rwa [add_block] at this | exact this) GW708.out)) | (dsimp only; exact Nat.ne_of_lt (Nat.lt_of_lt_of_le (by have := World.block_lt_of_cell? _ _ hw702_1; first | rwa [add_block] at this | exact this) GW708.out))) _).trans (((cell_far (p := ⟨gb708, _, none⟩) (by first | exact Nat.ne_of_lt (Nat.lt_of_lt_of_le (by have := World.block_lt_of_cell? _ _ hw702_1; first | rwa [add_block] at this | exact this) GW708.out) | (rw [add_block]; exact Nat.ne_of_lt (Nat.lt_of_lt_of_le (by have := World.block_lt_of_cell? _ _ hw702_1; first | rwa [add_block] at this | exact this) GW708.out)) | (show (Addr.add _ _).block ≠ _; rw [add_block]; exact Nat.ne_of_lt (Nat.lt_of_lt_of_le (by have := World.block_lt_of_cell? _ _ hw702_1; first | rwa [add_block] at this | exact this) GW708.out)) | (dsimp only; exact Nat.ne_of_lt (Nat.lt_of_lt_of_le (by have := World.block_lt_of_cell? _ _ hw702_1; first | rwa [add_block] at this | exact this) GW708.out))) _).trans (hHeld.2.2.2.2.2))))⟩ (fun hHeld => ?_)
                 clear hK K; refine pu_ 12 (some 18) (pf 13 13) HT_ ?_; refine done_ (done_of HT_.out (by kernel_rfl)) ?_; have H := HH_.out; clear HH_
                 by_cases c80 : t691 = 0
                 ·rw [if_pos c80] at H; have c80b0 : (t691 == 0) = true := beq_iff_eq.mpr c80; have c80b1 : (t691 != 0) = false := bne_eq_false_iff_eq.mpr c80; clear c80
                  by_cases c81 : t700 = 0
                  ·rw [if_pos c81] at H; have c81b0 : (t700 == 0) = true := beq_iff_eq.mpr c81; have c81b1 : (t700 != 0) = false := bne_eq_false_iff_eq.mpr c81; clear c81
                   by_cases c82 : t707 = 0
                   ·rw [if_pos c82] at H; have c82b0 : (t707 == 0) = true := beq_iff_eq.mpr c82; have c82b1 : (t707 != 0) = false := bne_eq_false_iff_eq.mpr c82; clear c82; have HH_ := Aside0.mk H; clear H; have hnb119 := NB692_701.out; have hnc119 := NB701_692.out; have hnb120 := NB692_708.out; have hnc120 := NB708_692.out; have hcz121_0 : w115.cell? ⟨gb692, 0, none⟩ = some (.int .i64 t687) := bc BK692 0; have hcz121_1 : w115.cell? ⟨gb692, 1, none⟩ = some (.slice Ao100 t688.length co100) := bc BK692 1; have hfz121_0 := blk_frozen BK692.out 0; have hfz121_1 := blk_frozen BK692.out 1; have hnb122 := NB663_701.out; have hnc122 := NB701_663.out; have hnb123 := NB663_708.out; have hnc123 := NB708_663.out; have hcz124_0 : w115.cell? ⟨gb663, 0, none⟩ = some (.int .i64 a0_0) := bc BK663 0; have hcz124_1 : w115.cell? ⟨gb663, 1, none⟩ = some (.slice (some ad679) l0_1.length c0_1) := bc BK663 1; have hfz124_0 := blk_frozen BK663.out 0; have hfz124_1 := blk_frozen BK663.out 1; have H := HH_.out; clear HH_
                    by_cases c83 : t687 = (wrap64 (a0_0 + 1))
                    ·rw [if_pos c83] at H; have c83b0 : (t687 == (wrap64 (a0_0 + 1))) = true := beq_iff_eq.mpr c83; have c83b1 : (t687 != (wrap64 (a0_0 + 1))) = false := bne_eq_false_iff_eq.mpr c83; clear c83
                     by_cases c84 : (t688.length : Int) = (wrap64 ((l0_1.length : Int) + 1))
                     ·rw [if_pos c84] at H; have c84b0 : ((t688.length : Int) == (wrap64 ((l0_1.length : Int) + 1))) = true := beq_iff_eq.mpr c84; have c84b1 : ((t688.length : Int) != (wrap64 ((l0_1.length : Int) + 1))) = false := bne_eq_false_iff_eq.mpr c84; clear c84; replace H := Option.bind_eq_some_iff.mp H; obtain ⟨t709, A850, H⟩ := H; (try dsimp only at H); have A85 := Aside0.mk A850; clear A850
                      by_cases c86 : t709 = true
                      ·subst c86; rw [if_pos rfl] at H; replace H := Option.bind_eq_some_iff.mp H; obtain ⟨t710, A870, H⟩ := H; (try dsimp only at H); have A87 := Aside0.mk A870; clear A870
                       by_cases c88 : t710 = true
                       ·subst c88; rw [if_pos rfl] at H; have H' := Aside0.mk H; clear H; have hnb125 := NB708_664.out; have hnc125 := NB664_708.out; have hnb126 := NB708_678.out; have hnc126 := NB678_708.out; have hnb127 := NB708_685.out; have hnc127 := NB685_708.out; have hnb128 := NB708_701.out; have hnc128 := NB701_708.out; have hcz129_0 : w115.cell? ⟨gb708, 0, none⟩ = some (.int .i64 0) := bc BK708 0; have hcz129_1 : w115.cell? ⟨gb708, 1, none⟩ = some (.slice none 0 0) := bc BK708 1; have hfz129_0 := blk_frozen BK708.out 0; have hfz129_1 := blk_frozen BK708.out 1
                        try go_wp2_with (first | (go_at_call 15; (with_reducible refine (tangramref14_Same.calls kj62 t703 _ _ t704 a0_0 _ _ l0_1 true _ ?side1 ?side2 ?side3 ?side4 A85.out).mono ?_); (case side1 => refine (Kd.R_reads' (e := 46) (base := w.heap.size) (ok := fun k_ => (some k_ ≠ (.slice Ao100 t688.length co100 : Value).ownBlock ∧ (some k_ ≠ (.slice Ao109 t697.length co109 : Value).ownBlock ∧ (some k_ ≠ (.slice Ao32 t674.length co32 : Value).ownBlock ∧ (some k_ ≠ (.slice Ao39 t681.length co39 : Value).ownBlock ∧ k_ ≠ gb664))))) (n := t704.length) (c := co117) ?_).2.2; exact (rf HO706 BK708)); (case side2 => exact (Kd.R_reads' HO706.out).2.1); (case side3 => exact Kd.C_below HR0_1.out (hb7 HB GE663 GE664 GE678 GE685 GE692 GE701 GE708)); (case side4 => exact HC0_1.out); rintro e w130 ⟨rfl, hb⟩; replace HO_679001 := Aside0.mk (Kd.R_below (rf HO_679001 BK708) hb); replace HO_686001 := Aside0.mk (Kd.R_below (rf HO_686001 BK708) hb); replace HO690 := Aside0.mk (Kd.R_below (rf HO690 BK708) hb); replace HO695 := Aside0.mk (Kd.R_below (rf HO695 BK708) hb); replace HO699 := Aside0.mk (Kd.R_below (rf HO699 BK708) hb); replace HO706 := Aside0.mk (Kd.R_below (rf HO706 BK708) hb); replace BK663 := kb (bx1 BK663 NB663_708) hb; replace BK664 := kb (bx1 BK664 NB664_708) hb; replace BK678 := kb (bx1 BK678 NB678_708) hb; replace BK685 := kb (bx1 BK685 NB685_708) hb; replace BK692 := kb (bx1 BK692 NB692_708) hb; replace BK701 := kb (bx1 BK701 NB701_708) hb; replace BK708 := Aside0.mk (blk_below (g := gb708) (o := .cells #[.int .i64 t703, .slice Ao117 t704.length co117] 25 (0, 0)) (bp BK708) hb); replace HB := hs (hb7 HB GE663 GE664 GE678 GE685 GE692 GE701 GE708) hb; (try clear hb); (try clear hb2); (try clear hk); (try clear hi); have hnb131 := NB701_664.out; have hnc131 := NB664_701.out; have hnb132 := NB701_678.out; have hnc132 := NB678_701.out; have hnb133 := NB701_685.out; have hnc133 := NB685_701.out; have hcz134_0 : w130.cell? ⟨gb701, 0, none⟩ = some (.int .i64 t696) := bc BK701 0; have hcz134_1 : w130.cell? ⟨gb701, 1, none⟩ = some (.slice Ao109 t697.length co109) := bc BK701 1; have hfz134_0 := blk_frozen BK701.out 0; have hfz134_1 := blk_frozen BK701.out 1; have hnb135 := NB678_664.out; have hnc135 := NB664_678.out; have hnb136 := NB678_685.out; have hnc136 := NB685_678.out; have hcz137_0 : w130.cell? ⟨gb678, 0, none⟩ = some (.int .i64 t673) := bc BK678 0; have hcz137_1 : w130.cell? ⟨gb678, 1, none⟩ = some (.slice Ao32 t674.length co32) := bc BK678 1; have hfz137_0 := blk_frozen BK678.out 0; have hfz137_1 := blk_frozen BK678.out 1) | (go_at_call 15; (with_reducible refine (tangramref14_Same.calls kj62 t696 _ _ t697 t673 _ _ t674 true _ ?side1 ?side2 ?side3 ?side4 A87.out).mono ?_); (case side1 => exact cr HO699); (case side2 => exact (Kd.R_reads' HO699.out).2.1); (case side3 => exact cr HO_679001); (case side4 => exact (Kd.R_reads' HO_679001.out).2.1); rintro e w138 ⟨rfl, hb⟩; replace HO_679001 := ry HO_679001 hb; replace HO_686001 := ry HO_686001 hb; replace HO690 := ry HO690 hb; replace HO695 := ry HO695 hb; replace HO699 := ry HO699 hb; replace HO706 := ry HO706 hb; replace BK663 := kx BK663 hb; replace BK664 := kx BK664 hb; replace BK678 := kx BK678 hb; replace BK685 := kx BK685 hb; replace BK692 := kx BK692 hb; replace BK701 := kx BK701 hb; replace BK708 := kx BK708 hb; replace HB := hs (hb7 HB GE663 GE664 GE678 GE685 GE692 GE701 GE708) hb; (try clear hb); (try clear hb2); (try clear hk); (try clear hi)))
                        go_meet
                        case rel => exact ⟨_, H', ⟨by have := HJ7.out; have := HJ23.out; have := HJ62.out; first | omega | exact Nat.le_refl _⟩, ⟨bx BK663⟩, ⟨bx BK664⟩, ⟨hb7 HB GE663 GE664 GE678 GE685 GE692 GE701 GE708⟩⟩
                       ·replace c88 := Bool.eq_false_iff.mpr c88; subst c88; rw [if_neg (show ¬ (false = true) by decide)] at H; obtain rfl := Option.some.inj H; have hnb175 := NB708_664.out; have hnc175 := NB664_708.out; have hnb176 := NB708_678.out; have hnc176 := NB678_708.out; have hnb177 := NB708_685.out; have hnc177 := NB685_708.out; have hnb178 := NB708_701.out; have hnc178 := NB701_708.out; have hcz179_0 : w115.cell? ⟨gb708, 0, none⟩ = some (.int .i64 0) := bc BK708 0; have hcz179_1 : w115.cell? ⟨gb708, 1, none⟩ = some (.slice none 0 0) := bc BK708 1; have hfz179_0 := blk_frozen BK708.out 0; have hfz179_1 := blk_frozen BK708.out 1
                        try go_wp2_with (first | (go_at_call 15; (with_reducible refine (tangramref14_Same.calls kj62 t703 _ _ t704 a0_0 _ _ l0_1 true _ ?side1 ?side2 ?side3 ?side4 A85.out).mono ?_); (case side1 => refine (Kd.R_reads' (e := 46) (base := w.heap.size) (ok := fun k_ => (some k_ ≠ (.slice Ao100 t688.length co100 : Value).ownBlock ∧ (some k_ ≠ (.slice Ao109 t697.length co109 : Value).ownBlock ∧ (some k_ ≠ (.slice Ao32 t674.length co32 : Value).ownBlock ∧ (some k_ ≠ (.slice Ao39 t681.length co39 : Value).ownBlock ∧ k_ ≠ gb664))))) (n := t704.length) (c := co117) ?_).2.2; exact (rf HO706 BK708)); (case side2 => exact (Kd.R_reads' HO706.out).2.1); (case side3 => exact Kd.C_below HR0_1.out (hb7 HB GE663 GE664 GE678 GE685 GE692 GE701 GE708)); (case side4 => exact HC0_1.out); rintro e w180 ⟨rfl, hb⟩; replace HO_679001 := Aside0.mk (Kd.R_below (rf HO_679001 BK708) hb); replace HO_686001 := Aside0.mk (Kd.R_below (rf HO_686001 BK708) hb); replace HO690 := Aside0.mk (Kd.R_below (rf HO690 BK708) hb); replace HO695 := Aside0.mk (Kd.R_below (rf HO695 BK708) hb); replace HO699 := Aside0.mk (Kd.R_below (rf HO699 BK708) hb); replace HO706 := Aside0.mk (Kd.R_below (rf HO706 BK708) hb); replace BK663 := kb (bx1 BK663 NB663_708) hb; replace BK664 := kb (bx1 BK664 NB664_708) hb; replace BK678 := kb (bx1 BK678 NB678_708) hb; replace BK685 := kb (bx1 BK685 NB685_708) hb; replace BK692 := kb (bx1 BK692 NB692_708) hb; replace BK701 := kb (bx1 BK701 NB701_708) hb; replace BK708 := Aside0.mk (blk_below (g := gb708) (o := .cells #[.int .i64 t703, .slice Ao117 t704.length co117] 25 (0, 0)) (bp BK708) hb); replace HB := hs (hb7 HB GE663 GE664 GE678 GE685 GE692 GE701 GE708) hb; (try clear hb); (try clear hb2); (try clear hk); (try clear hi); have hnb181 := NB701_664.out; have hnc181 := NB664_701.out; have hnb182 := NB701_678.out; have hnc182 := NB678_701.out; have hnb183 := NB701_685.out; have hnc183 := NB685_701.out; have hcz184_0 : w180.cell? ⟨gb701, 0, none⟩ = some (.int .i64 t696) := bc BK701 0; have hcz184_1 : w180.cell? ⟨gb701, 1, none⟩ = some (.slice Ao109 t697.length co109) := bc BK701 1; have hfz184_0 := blk_frozen BK701.out 0; have hfz184_1 := blk_frozen BK701.out 1; have hnb185 := NB678_664.out; have hnc185 := NB664_678.out; have hnb186 := NB678_685.out; have hnc186 := NB685_678.out; have hcz187_0 : w180.cell? ⟨gb678, 0, none⟩ = some (.int .i64 t673) := bc BK678 0; have hcz187_1 : w180.cell? ⟨gb678, 1, none⟩ = some (.slice Ao32 t674.length co32) := bc BK678 1; have hfz187_0 := blk_frozen BK678.out 0; have hfz187_1 := blk_frozen BK678.out 1) | (go_at_call 15; (with_reducible refine (tangramref14_Same.calls kj62 t696 _ _ t697 t673 _ _ t674 false _ ?side1 ?side2 ?side3 ?side4 A87.out).mono ?_); (case side1 => exact cr HO699); (case side2 => exact (Kd.R_reads' HO699.out).2.1); (case side3 => exact cr HO_679001); (case side4 => exact (Kd.R_reads' HO_679001.out).2.1); rintro e w188 ⟨rfl, hb⟩; replace HO_679001 := ry HO_679001 hb; replace HO_686001 := ry HO_686001 hb; replace HO690 := ry HO690 hb; replace HO695 := ry HO695 hb; replace HO699 := ry HO699 hb; replace HO706 := ry HO706 hb; replace BK663 := kx BK663 hb; replace BK664 := kx BK664 hb; replace BK678 := kx BK678 hb; replace BK685 := kx BK685 hb; replace BK692 := kx BK692 hb; replace BK701 := kx BK701 hb; replace BK708 := kx BK708 hb; replace HB := hs (hb7 HB GE663 GE664 GE678 GE685 GE692 GE701 GE708) hb; (try clear hb); (try clear hb2); (try clear hk); (try clear hi)))
                        go_ret
                        exact ⟨by first | rfl | (simp [errW_none, errW_some] <;> rfl) | (simp [*, errW_none, errW_some] <;> rfl), hb7 HB GE663 GE664 GE678 GE685 GE692 GE701 GE708⟩
                      ·replace c86 := Bool.eq_false_iff.mpr c86; subst c86; rw [if_neg (show ¬ (false = true) by decide)] at H; obtain rfl := Option.some.inj H; have hnb225 := NB708_664.out; have hnc225 := NB664_708.out; have hnb226 := NB708_678.out; have hnc226 := NB678_708.out; have hnb227 := NB708_685.out; have hnc227 := NB685_708.out; have hnb228 := NB708_701.out; have hnc228 := NB701_708.out; have hcz229_0 : w115.cell? ⟨gb708, 0, none⟩ = some (.int .i64 0) := bc BK708 0; have hcz229_1 : w115.cell? ⟨gb708, 1, none⟩ = some (.slice none 0 0) := bc BK708 1; have hfz229_0 := blk_frozen BK708.out 0; have hfz229_1 := blk_frozen BK708.out 1
                       try go_wp2_with (first | (go_at_call 15; (with_reducible refine (tangramref14_Same.calls kj62 t703 _ _ t704 a0_0 _ _ l0_1 false _ ?side1 ?side2 ?side3 ?side4 A85.out).mono ?_); (case side1 => refine (Kd.R_reads' (e := 46) (base := w.heap.size) (ok := fun k_ => (some k_ ≠ (.slice Ao100 t688.length co100 : Value).ownBlock ∧ (some k_ ≠ (.slice Ao109 t697.length co109 : Value).ownBlock ∧ (some k_ ≠ (.slice Ao32 t674.length co32 : Value).ownBlock ∧ (some k_ ≠ (.slice Ao39 t681.length co39 : Value).ownBlock ∧ k_ ≠ gb664))))) (n := t704.length) (c := co117) ?_).2.2; exact (rf HO706 BK708)); (case side2 => exact (Kd.R_reads' HO706.out).2.1); (case side3 => exact Kd.C_below HR0_1.out (hb7 HB GE663 GE664 GE678 GE685 GE692 GE701 GE708)); (case side4 => exact HC0_1.out); rintro e w230 ⟨rfl, hb⟩; replace HO_679001 := Aside0.mk (Kd.R_below (rf HO_679001 BK708) hb); replace HO_686001 := Aside0.mk (Kd.R_below (rf HO_686001 BK708) hb); replace HO690 := Aside0.mk (Kd.R_below (rf HO690 BK708) hb); replace HO695 := Aside0.mk (Kd.R_below (rf HO695 BK708) hb); replace HO699 := Aside0.mk (Kd.R_below (rf HO699 BK708) hb); replace HO706 := Aside0.mk (Kd.R_below (rf HO706 BK708) hb); replace BK663 := kb (bx1 BK663 NB663_708) hb; replace BK664 := kb (bx1 BK664 NB664_708) hb; replace BK678 := kb (bx1 BK678 NB678_708) hb; replace BK685 := kb (bx1 BK685 NB685_708) hb; replace BK692 := kb (bx1 BK692 NB692_708) hb; replace BK701 := kb (bx1 BK701 NB701_708) hb; replace BK708 := Aside0.mk (blk_below (g := gb708) (o := .cells #[.int .i64 t703, .slice Ao117 t704.length co117] 25 (0, 0)) (bp BK708) hb); replace HB := hs (hb7 HB GE663 GE664 GE678 GE685 GE692 GE701 GE708) hb; (try clear hb); (try clear hb2); (try clear hk); (try clear hi)))
                       go_ret
                       exact ⟨by first | rfl | (simp [errW_none, errW_some] <;> rfl) | (simp [*, errW_none, errW_some] <;> rfl), hb7 HB GE663 GE664 GE678 GE685 GE692 GE701 GE708⟩
                     ·rw [if_neg c84] at H; have c84b0 : ((t688.length : Int) == (wrap64 ((l0_1.length : Int) + 1))) = false := beq_eq_false_iff_ne.mpr c84; have c84b1 : ((t688.length : Int) != (wrap64 ((l0_1.length : Int) + 1))) = true := bne_iff_ne.mpr c84; obtain rfl := Option.some.inj H
                      try go_wp2
                      go_ret
                      exact ⟨by first | rfl | (simp [errW_none, errW_some] <;> rfl) | (simp [*, errW_none, errW_some] <;> rfl), hb7 HB GE663 GE664 GE678 GE685 GE692 GE701 GE708⟩
                    ·rw [if_neg c83] at H; have c83b0 : (t687 == (wrap64 (a0_0 + 1))) = false := beq_eq_false_iff_ne.mpr c83; have c83b1 : (t687 != (wrap64 (a0_0 + 1))) = true := bne_iff_ne.mpr c83; obtain rfl := Option.some.inj H
                     try go_wp2
                     go_ret
                     exact ⟨by first | rfl | (simp [errW_none, errW_some] <;> rfl) | (simp [*, errW_none, errW_some] <;> rfl), hb7 HB GE663 GE664 GE678 GE685 GE692 GE701 GE708⟩
                   ·rw [if_neg c82] at H; have c82b0 : (t707 == 0) = false := beq_eq_false_iff_ne.mpr c82; have c82b1 : (t707 != 0) = true := bne_iff_ne.mpr c82; obtain rfl := Option.some.inj H
                    try go_wp2
                    go_ret
                    exact ⟨by first | rfl | (simp [errW_none, errW_some] <;> rfl) | (simp [*, errW_none, errW_some] <;> rfl), hb7 HB GE663 GE664 GE678 GE685 GE692 GE701 GE708⟩
                  ·rw [if_neg c81] at H; have c81b0 : (t700 == 0) = false := beq_eq_false_iff_ne.mpr c81; have c81b1 : (t700 != 0) = true := bne_iff_ne.mpr c81; obtain rfl := Option.some.inj H
                   try go_wp2
                   go_ret
                   exact ⟨by first | rfl | (simp [errW_none, errW_some] <;> rfl) | (simp [*, errW_none, errW_some] <;> rfl), hb7 HB GE663 GE664 GE678 GE685 GE692 GE701 GE708⟩
                 ·rw [if_neg c80] at H; have c80b0 : (t691 == 0) = false := beq_eq_false_iff_ne.mpr c80; have c80b1 : (t691 != 0) = true := bne_iff_ne.mpr c80; obtain rfl := Option.some.inj H
                  try go_wp2
                  go_ret
                  exact ⟨by first | rfl | (simp [errW_none, errW_some] <;> rfl) | (simp [*, errW_none, errW_some] <;> rfl), hb7 HB GE663 GE664 GE678 GE685 GE692 GE701 GE708⟩
                ·rw [if_neg c78] at H; exact absurd H (by simp)
               ·rw [if_neg c77] at H; exact absurd H (by simp)
              ·replace c73 := Bool.eq_false_iff.mpr c73; subst c73; rw [if_neg (show ¬ (false = true) by decide)] at H; have H' := Aside0.mk H; clear H
               go_wp2
               go_meet
               case rel => exact ⟨_, H', ⟨by have := HJ7.out; have := HJ23.out; have := HJ62.out; first | omega | exact Nat.le_refl _⟩, ⟨bx BK663⟩, ⟨bx BK664⟩, ⟨hb4 HB GE663 GE664 GE678 GE685⟩⟩
        ·rw [if_neg c22] at H; exact absurd H (by simp)
       ·rw [if_neg c21] at H; exact absurd H (by simp)
      ·replace c19 := Bool.eq_false_iff.mpr c19; subst c19; rw [if_neg (show ¬ (false = true) by decide)] at H; have H' := Aside0.mk H; clear H
       go_wp2
       go_meet
       case rel => exact ⟨_, H', ⟨by have := HJ7.out; first | omega | exact Nat.le_refl _⟩, ⟨bx BK663⟩, ⟨bx BK664⟩, ⟨hb2 HB GE663 GE664⟩⟩
     case rest => as_aux_lemma =>
      clear HC18
      try clear c1
      try clear c2
      try clear p2
      try clear c7
      try clear p7
      try clear q7
      try clear hx7
      try clear c19
      try clear c21
      try clear c22
      try clear c29
      try clear p70
      try clear q70
      try clear hx70
      try clear c73
      try clear c77
      try clear c78
      try clear hx702_0
      try clear hx702_1
      try clear p702
      try clear q702
      obtain ⟨kq, HA, HJ17, BK663, BK664, HB⟩ := hcut
      cases kq with
      | zero => exact absurd HA.out (by simp [tangramlaw14_EditBack.j3])
      | succ kj17 =>
       have H := HA.out; clear HA; simp only [tangramlaw14_EditBack.j3] at H; replace H := Option.bind_eq_some_iff.mp H; obtain ⟨⟨t711, t712, t715⟩, A3930, H⟩ := H; (try dsimp only at H); have A393 := Aside0.mk A3930; clear A3930; have HC394 := Aside0.mk H; clear H; have hnb395 := NB663_664.out; have hnc395 := NB664_663.out; have hcz396_0 : wc.cell? ⟨gb663, 0, none⟩ = some (.int .i64 a0_0) := bc BK663 0; have hcz396_1 : wc.cell? ⟨gb663, 1, none⟩ = some (.slice A0_1 l0_1.length c0_1) := bc BK663 1; have hfz396_0 := blk_frozen BK663.out 0; have hfz396_1 := blk_frozen BK663.out 1; have hcz397_0 : wc.cell? ⟨gb664, 0, none⟩ = some (.int .i64 a2_0) := bc BK664 0; have hcz397_1 : wc.cell? ⟨gb664, 1, none⟩ = some (.int .i64 a2_1) := bc BK664 1; have hfz397_0 := blk_frozen BK664.out 0; have hfz397_1 := blk_frozen BK664.out 1
       go_upto_if 168 with (first | ((with_reducible refine gate_callee (f := 29) rfl ?_); refine gl_ (some 164) Try.func29 #[.agg #[.int .i64 a0_0, .slice A0_1 l0_1.length c0_1], .agg #[.int .i64 a2_0, .int .i64 a2_1]] ?_; (with_reducible refine (edit_With.calls kj17 a0_0 _ _ l0_1 a2_0 a2_1 t711 t712 t715 _ ?side1 ?side2 A393.out).mono ?_); (case side1 => repeat (first | exact (Kd.C_below HR0_1.out HB.out) | (with_reducible refine Kd.C_alloc ?_ _) | (with_reducible refine Kd.C_drewN ?_ _) | (with_reducible refine Kd.C_drew ?_))); (case side2 => exact HC0_1.out); rintro e w398 ⟨v713, rfl, ho0, hb⟩; refine ⟨_, rfl, ?_⟩; have HO714 := Aside0.mk (Kd.R_lower (Kd.R_newB ho0 (bx BK664)) (below_size (hb2 HB GE663 GE664))); replace BK663 := kx BK663 hb; replace BK664 := kx BK664 hb; replace HB := hs (hb2 HB GE663 GE664) hb; (try clear hb); (try clear hb2); (try clear hk); (try clear hi); (try clear ho0)) | ((with_reducible refine gate_dst (N := 19) rfl ?_); (try (refine gate_guard (by rfl) ?_; dsimp only)); refine be_ 19 #[.int .i64 0, .slice none 0 0] 25 ?_; intro gb716 hg w399 hbox hb; replace HO714 := ry HO714 hb; have BK716 := Aside0.mk (hbox); have GW716 := wq (hb2 HB GE663 GE664) hg; have GE716 := wq (hb2 HB GE663 GE664) hg; replace HB := hs (hb2 HB GE663 GE664) hb; have NB663_716 := lx BK663 hg; have NB716_663 := gx BK663 hg; replace BK663 := kx BK663 hb; have NB664_716 := lx BK664 hg; have NB716_664 := gx BK664 hg; replace BK664 := kx BK664 hb; clear hb hbox hg; have hnb400 := NB716_663.out; have hnc400 := NB663_716.out; have hnb401 := NB716_664.out; have hnc401 := NB664_716.out; have hcz402_0 : w399.cell? ⟨gb716, 0, none⟩ = some (.int .i64 0) := bc BK716 0; have hcz402_1 : w399.cell? ⟨gb716, 1, none⟩ = some (.slice none 0 0) := bc BK716 1; have hfz402_0 := blk_frozen BK716.out 0; have hfz402_1 := blk_frozen BK716.out 1; obtain ⟨Ao403, co403, eo403⟩ := Kd.R_slice HO714.out; subst eo403))
       (try simp only [Act.put, List.setIfInBounds_toArray, List.set_cons_zero, List.set_cons_succ])
       go_cut [] (fun wc => ∃ (kq : Nat), Aside0 (tangramlaw14_EditBack.j5 kq a0_0 l0_1 = some r) ∧ Aside0 (kq ≤ kj17) ∧ Aside0 (Kd.R k46 46 wc w.heap.size (fun k_ => k_ ≠ gb664) (.slice Ao403 t712.length co403) t712) ∧ Aside0 (wc.heap[gb663]? = some (.cells #[.int .i64 a0_0, (.slice A0_1 l0_1.length c0_1)] 25 (0, 0))) ∧ Aside0 (wc.heap[gb664]? = some (.cells #[.int .i64 a2_0, .int .i64 a2_1] 46 (0, 0))) ∧ Aside0 (wc.heap[gb716]? = some (.cells #[.int .i64 t711, (.slice Ao403 t712.length co403)] 25 (0, 0))) ∧ Aside0 (Below w.heap.size w wc))
       case first => as_aux_lemma =>
        have H := HC394.out; clear HC394
        by_cases c404 : t715 = 0
        ·rw [if_pos c404] at H; have c404b0 : (t715 == 0) = true := beq_iff_eq.mpr c404; have c404b1 : (t715 != 0) = false := bne_eq_false_iff_eq.mpr c404; clear c404
         (first | rw [c404b0] | (simp only [i64_w, i32_w]; rw [c404b0]) | skip)
         have H' := Aside0.mk H; clear H; have hnb405 := NB716_663.out; have hnc405 := NB663_716.out; have hnb406 := NB716_664.out; have hnc406 := NB664_716.out; have hcz407_0 : w399.cell? ⟨gb716, 0, none⟩ = some (.int .i64 0) := bc BK716 0; have hcz407_1 : w399.cell? ⟨gb716, 1, none⟩ = some (.slice none 0 0) := bc BK716 1; have hfz407_0 := blk_frozen BK716.out 0; have hfz407_1 := blk_frozen BK716.out 1
         go_wp2
         go_loopg [21, 172] kj17 (fun kq v21 v172 w' => ∃ (x21_3 : Int) (x172_3 : Int), v21 = .int .i64 x21_3 ∧ v172 = .int .i64 x172_3 ∧ Aside0 (tangramlaw14_EditBack.l0 kq x21_3 (t712.length : Int) x172_3 a0_0 l0_1 a2_0 a2_1 t711 t712 = some r) ∧ Aside0 (kq ≤ kj17) ∧ Aside0 (Kd.R k46 46 w' w.heap.size (fun k_ => k_ ≠ gb664) (.slice Ao403 t712.length co403) t712) ∧ Aside0 (w'.heap[gb663]? = some (.cells #[.int .i64 a0_0, (.slice A0_1 l0_1.length c0_1)] 25 (0, 0))) ∧ Aside0 (w'.heap[gb664]? = some (.cells #[.int .i64 a2_0, .int .i64 a2_1] 46 (0, 0))) ∧ Aside0 (w'.heap[gb716]? = some (.cells #[.int .i64 t711, (.slice Ao403 t712.length co403)] 25 (0, 0))) ∧ Aside0 (Below w.heap.size w w'))
         case atStart => exact ⟨((-1)), (0), (by first | rfl | (simp; done) | (simp [*]; done)), (by first | rfl | (simp; done) | (simp [*]; done)), H', ⟨Nat.le_refl _⟩, ⟨Kd.R_mono (rf HO714 BK716) (fun _ hk => hk.2)⟩, ⟨bx1 BK663 NB663_716⟩, ⟨bx1 BK664 NB664_716⟩, ⟨bp BK716⟩, ⟨hb3 HB GE663 GE664 GE716⟩⟩
         case round =>
          clear H'
          try clear c1
          try clear c2
          try clear p2
          try clear c3
          try clear c4
          try clear c7
          try clear p7
          try clear q7
          try clear hx7
          try clear c19
          try clear c21
          try clear c22
          try clear c29
          try clear c39
          try clear c40
          try clear p70
          try clear q70
          try clear hx70
          try clear c73
          try clear c77
          try clear c78
          try clear c395
          try clear c400
          try clear c401
          try clear c404
          try clear c404b0
          try clear c404b1
          try clear c405
          try clear c406
          try clear hcz396_0
          try clear hcz396_1
          try clear hcz397_0
          try clear hcz397_1
          try clear hcz402_0
          try clear hcz402_1
          try clear hcz407_0
          try clear hcz407_1
          try clear hfz396_0
          try clear hfz396_1
          try clear hfz397_0
          try clear hfz397_1
          try clear hfz402_0
          try clear hfz402_1
          try clear hfz407_0
          try clear hfz407_1
          try clear hx702_0
          try clear hx702_1
          try clear p2
          try clear p7
          try clear p70
          try clear p702
          try clear q7
          try clear q70
          try clear q702
          obtain ⟨x21_3, x172_3, rfl, rfl, HA, HK3, HO_717001, BK663, BK664, BK716, HB⟩ := hrel
          cases gk with
          | zero => exact absurd HA.out (by simp [tangramlaw14_EditBack.l0])
          | succ k3 =>
           have H := HA.out; clear HA; simp only [tangramlaw14_EditBack.l0] at H
           by_cases c408 : x172_3 < (t712.length : Int)
           ·rw [if_pos c408] at H; have c408b0 : decide (x172_3 < (t712.length : Int)) = true := decide_eq_true c408; clear c408
            by_cases c409 : 0 ≤ x172_3
            ·rw [if_pos c409] at H; have c409b0 : decide (0 ≤ x172_3) = true := decide_eq_true c409; clear c409
             by_cases c410 : x172_3 < (t712.length : Int)
             ·rw [if_pos c410] at H; have c410b0 : decide (x172_3 < (t712.length : Int)) = true := decide_eq_true c410; clear c410
              by_cases c411 : (((rd_T46 t712 x172_3).f0) == a2_0 && (((rd_T46 t712 x172_3).f1) == a2_1)) = true
              ·rw [if_pos c411] at H; have c411b0 : (((rd_T46 t712 x172_3).f0) == a2_0 && (((rd_T46 t712 x172_3).f1) == a2_1)) = true := c411
               (try (have c411b1 : decide (((rd_T46 t712 x172_3).f0) = a2_0 && (((rd_T46 t712 x172_3).f1) == a2_1)) = true := by simpa using c411))
               (try (have c411b2 : (((rd_T46 t712 x172_3).f0) == a2_0 && (((rd_T46 t712 x172_3).f1) == a2_1)) = true := by simpa using c411))
               clear c411; have H' := Aside0.mk H; clear H
               try go_wp2
               replace HO_717001 := rd HO_717001; replace BK663 := bd BK663; replace BK664 := bd BK664; replace BK716 := bd BK716; replace HB := Aside0.mk (below_drew1 HB.out); have p717 : 0 ≤ (x172_3 : Int) := of_decide_eq_true (by first | (with_reducible assumption) | assumption); have q717 : x172_3 < (t712.length : Int) := of_decide_eq_true (by first | (with_reducible assumption) | assumption); obtain ⟨ad717, e717, hx717_0, hx717_1⟩ := at_T46 (Kd.R_reads' HO_717001.out).2.2 x172_3 p717 q717
               cases e717
               replace p717 := eq_true p717; replace q717 := eq_true q717; refine start_ (n := 7) (S := fun w' => w'.cell? ⟨gb716, 0, none⟩ = some (.int .i64 t711) ∧ w'.cell? ⟨gb716, 1, none⟩ = some (.slice (some ad717) t712.length co403) ∧ w'.cell? ⟨gb664, 0, none⟩ = some (.int .i64 a2_0) ∧ w'.cell? ⟨gb664, 1, none⟩ = some (.int .i64 a2_1) ∧ w'.cell? (ad717.add ((x172_3).toNat * 2)) = some (.int .i64 ((rd_T46 t712 x172_3).f0)) ∧ w'.cell? ⟨(ad717.add ((x172_3).toNat * 2)).block, (ad717.add ((x172_3).toNat * 2)).off + 1, none⟩ = some (.int .i64 ((rd_T46 t712 x172_3).f1))) (ds := []) (pf 0 7) (by kernel_rfl) rfl rfl ⟨bc BK716 0, bc BK716 1, bc BK664 0, bc BK664 1, hx717_0, hx717_1⟩ (fun hHeld => ?_); generalize wr.drew = w412 at HO_717001 BK663 BK664 BK716 HB hx717_0 hx717_1 hHeld ⊢; refine pure_ (i := 0) (N := some 175) (v := ?_) (a' := ?_) (pf 1 7) rfl rfl (by kernel_rfl) (fun _ _ _ h => h) (Or.inl ⟨by rfl, ?_⟩) ?_ ?_; rotate_left
               ·intro w'; go_simp
                with_reducible rfl
               rotate_left
               ·simp only [Act.put, List.setIfInBounds_toArray, List.set_cons_zero, List.set_cons_succ, i64_w, i32_w]; rfl
               refine pure_ (i := 2) (N := some 177) (v := ?_) (a' := ?_) #[T_,F_,T_,F_,F_,F_,F_] rfl rfl (by kernel_rfl) (fun _ _ _ h => h) (Or.inl ⟨by rfl, ?_⟩) ?_ ?_; rotate_left
               ·intro w'; go_simp
                with_reducible rfl
               rotate_left
               ·simp only [Act.put, List.setIfInBounds_toArray, List.set_cons_zero, List.set_cons_succ, i64_w, i32_w]; rfl
               refine take_ (i := 1) (N := some 176) (v := ?_) (a' := ?_) (pf 3 7) rfl rfl (by kernel_rfl) (fun _ _ _ h => h) (Or.inl ⟨by rfl, ?_⟩) hHeld ?_ ?_; rotate_left
               ·rintro w' ⟨s0, s1, s2, s3, s4, s5⟩; go_simp
                with_reducible rfl
               rotate_left
               ·simp only [Act.put, List.setIfInBounds_toArray, List.set_cons_zero, List.set_cons_succ, i64_w, i32_w]; rfl
               refine pure_ (i := 3) (N := some 178) (v := ?_) (a' := ?_) (pf 4 7) rfl rfl (by kernel_rfl) (fun _ _ _ h => h) (Or.inl ⟨by rfl, ?_⟩) ?_ ?_; rotate_left
               ·intro w'; go_simp
                with_reducible rfl
               rotate_left
               ·simp only [Act.put, List.setIfInBounds_toArray, List.set_cons_zero, List.set_cons_succ, i64_w, i32_w]; rfl
               refine take_ (i := 4) (N := some 179) (v := ?_) (a' := ?_) (pf 5 7) rfl rfl (by kernel_rfl) (fun _ _ _ h => h) (Or.inl ⟨by rfl, ?_⟩) hHeld ?_ ?_; rotate_left
               ·rintro w' ⟨s0, s1, s2, s3, s4, s5⟩; go_simp
                with_reducible rfl
               rotate_left
               ·simp only [Act.put, List.setIfInBounds_toArray, List.set_cons_zero, List.set_cons_succ, i64_w, i32_w]; rfl
               refine take_ (i := 5) (N := some 180) (v := ?_) (a' := ?_) (pf 6 7) rfl rfl (by kernel_rfl) (fun _ _ _ h => h) (Or.inl ⟨by rfl, ?_⟩) hHeld ?_ ?_; rotate_left
               ·rintro w' ⟨s0, s1, s2, s3, s4, s5⟩; go_simp
                with_reducible rfl
               rotate_left
               ·simp only [Act.put, List.setIfInBounds_toArray, List.set_cons_zero, List.set_cons_succ, i64_w, i32_w]; rfl
               refine pure_ (i := 6) (N := some 181) (v := ?_) (a' := ?_) (pf 7 7) rfl rfl (by kernel_rfl) (fun _ _ _ h => h) (Or.inl ⟨by rfl, ?_⟩) ?_ ?_; rotate_left
               ·intro w'; go_simp
                with_reducible rfl
               rotate_left
               ·simp only [Act.put, List.setIfInBounds_toArray, List.set_cons_zero, List.set_cons_succ, i64_w, i32_w]; rfl
               refine done_ (by kernel_rfl) ?_
               try go_wp2
               go_roundg k3
               case measure => have := HJ7.out; have := HJ17.out; have := HK3.out; omega
               case rel => exact ⟨(x172_3), (wrap64 (x172_3 + 1)), (by first | rfl | (simp; done) | (simp [*]; done)), (by first | rfl | (simp; done) | (simp [*]; done)), H', ⟨by have := HJ7.out; have := HJ17.out; have := HK3.out; omega⟩, ⟨rx HO_717001⟩, ⟨bx BK663⟩, ⟨bx BK664⟩, ⟨bx BK716⟩, ⟨hb3 HB GE663 GE664 GE716⟩⟩
              ·rw [if_neg c411] at H; have c411b0 : (((rd_T46 t712 x172_3).f0) == a2_0 && (((rd_T46 t712 x172_3).f1) == a2_1)) = false := by simpa using c411
               (try (have c411b1 : decide (((rd_T46 t712 x172_3).f0) = a2_0 && (((rd_T46 t712 x172_3).f1) == a2_1)) = false := by simpa using c411))
               (try (have c411b2 : (((rd_T46 t712 x172_3).f0) == a2_0 && (((rd_T46 t712 x172_3).f1) == a2_1)) = false := by simpa using c411))
               (try (have c411b3 : ¬ (((rd_T46 t712 x172_3).f0) = a2_0 && (((rd_T46 t712 x172_3).f1) == a2_1)) := by simpa using c411))
               clear c411; have H' := Aside0.mk H; clear H
               try go_wp2
               replace HO_717001 := rd HO_717001; replace BK663 := bd BK663; replace BK664 := bd BK664; replace BK716 := bd BK716; replace HB := Aside0.mk (below_drew1 HB.out); have p717 : 0 ≤ (x172_3 : Int) := of_decide_eq_true (by first | (with_reducible assumption) | assumption); have q717 : x172_3 < (t712.length : Int) := of_decide_eq_true (by first | (with_reducible assumption) | assumption); obtain ⟨ad717, e717, hx717_0, hx717_1⟩ := at_T46 (Kd.R_reads' HO_717001.out).2.2 x172_3 p717 q717
               cases e717
               replace p717 := eq_true p717; replace q717 := eq_true q717; refine start_ (n := 7) (S := fun w' => w'.cell? ⟨gb716, 0, none⟩ = some (.int .i64 t711) ∧ w'.cell? ⟨gb716, 1, none⟩ = some (.slice (some ad717) t712.length co403) ∧ w'.cell? ⟨gb664, 0, none⟩ = some (.int .i64 a2_0) ∧ w'.cell? ⟨gb664, 1, none⟩ = some (.int .i64 a2_1) ∧ w'.cell? (ad717.add ((x172_3).toNat * 2)) = some (.int .i64 ((rd_T46 t712 x172_3).f0)) ∧ w'.cell? ⟨(ad717.add ((x172_3).toNat * 2)).block, (ad717.add ((x172_3).toNat * 2)).off + 1, none⟩ = some (.int .i64 ((rd_T46 t712 x172_3).f1))) (ds := []) (pf 0 7) (by kernel_rfl) rfl rfl ⟨bc BK716 0, bc BK716 1, bc BK664 0, bc BK664 1, hx717_0, hx717_1⟩ (fun hHeld => ?_); generalize wr.drew = w413 at HO_717001 BK663 BK664 BK716 HB hx717_0 hx717_1 hHeld ⊢; refine pure_ (i := 0) (N := some 175) (v := ?_) (a' := ?_) (pf 1 7) rfl rfl (by kernel_rfl) (fun _ _ _ h => h) (Or.inl ⟨by rfl, ?_⟩) ?_ ?_; rotate_left
               ·intro w'; go_simp
                with_reducible rfl
               rotate_left
               ·simp only [Act.put, List.setIfInBounds_toArray, List.set_cons_zero, List.set_cons_succ, i64_w, i32_w]; rfl
               refine pure_ (i := 2) (N := some 177) (v := ?_) (a' := ?_) #[T_,F_,T_,F_,F_,F_,F_] rfl rfl (by kernel_rfl) (fun _ _ _ h => h) (Or.inl ⟨by rfl, ?_⟩) ?_ ?_; rotate_left
               ·intro w'; go_simp
                with_reducible rfl
               rotate_left
               ·simp only [Act.put, List.setIfInBounds_toArray, List.set_cons_zero, List.set_cons_succ, i64_w, i32_w]; rfl
               refine take_ (i := 1) (N := some 176) (v := ?_) (a' := ?_) (pf 3 7) rfl rfl (by kernel_rfl) (fun _ _ _ h => h) (Or.inl ⟨by rfl, ?_⟩) hHeld ?_ ?_; rotate_left
               ·rintro w' ⟨s0, s1, s2, s3, s4, s5⟩; go_simp
                with_reducible rfl
               rotate_left
               ·simp only [Act.put, List.setIfInBounds_toArray, List.set_cons_zero, List.set_cons_succ, i64_w, i32_w]; rfl
               refine pure_ (i := 3) (N := some 178) (v := ?_) (a' := ?_) (pf 4 7) rfl rfl (by kernel_rfl) (fun _ _ _ h => h) (Or.inl ⟨by rfl, ?_⟩) ?_ ?_; rotate_left
               ·intro w'; go_simp
                with_reducible rfl
               rotate_left
               ·simp only [Act.put, List.setIfInBounds_toArray, List.set_cons_zero, List.set_cons_succ, i64_w, i32_w]; rfl
               refine take_ (i := 4) (N := some 179) (v := ?_) (a' := ?_) (pf 5 7) rfl rfl (by kernel_rfl) (fun _ _ _ h => h) (Or.inl ⟨by rfl, ?_⟩) hHeld ?_ ?_; rotate_left
               ·rintro w' ⟨s0, s1, s2, s3, s4, s5⟩; go_simp
                with_reducible rfl
               rotate_left
               ·simp only [Act.put, List.setIfInBounds_toArray, List.set_cons_zero, List.set_cons_succ, i64_w, i32_w]; rfl
               refine take_ (i := 5) (N := some 180) (v := ?_) (a' := ?_) (pf 6 7) rfl rfl (by kernel_rfl) (fun _ _ _ h => h) (Or.inl ⟨by rfl, ?_⟩) hHeld ?_ ?_; rotate_left
               ·rintro w' ⟨s0, s1, s2, s3, s4, s5⟩; go_simp
                with_reducible rfl
               rotate_left
               ·simp only [Act.put, List.setIfInBounds_toArray, List.set_cons_zero, List.set_cons_succ, i64_w, i32_w]; rfl
               refine pure_ (i := 6) (N := some 181) (v := ?_) (a' := ?_) (pf 7 7) rfl rfl (by kernel_rfl) (fun _ _ _ h => h) (Or.inl ⟨by rfl, ?_⟩) ?_ ?_; rotate_left
               ·intro w'; go_simp
                with_reducible rfl
               rotate_left
               ·simp only [Act.put, List.setIfInBounds_toArray, List.set_cons_zero, List.set_cons_succ, i64_w, i32_w]; rfl
               refine done_ (by kernel_rfl) ?_
               try go_wp2
               go_roundg k3
               case measure => have := HJ7.out; have := HJ17.out; have := HK3.out; omega
               case rel => exact ⟨(x21_3), (wrap64 (x172_3 + 1)), (by first | rfl | (simp; done) | (simp [*]; done)), (by first | rfl | (simp; done) | (simp [*]; done)), H', ⟨by have := HJ7.out; have := HJ17.out; have := HK3.out; omega⟩, ⟨rx HO_717001⟩, ⟨bx BK663⟩, ⟨bx BK664⟩, ⟨bx BK716⟩, ⟨hb3 HB GE663 GE664 GE716⟩⟩
             ·rw [if_neg c410] at H; exact absurd H (by simp)
            ·rw [if_neg c409] at H; exact absurd H (by simp)
           ·rw [if_neg c408] at H; have c408b0 : decide (x172_3 < (t712.length : Int)) = false := decide_eq_false c408; clear c408; replace H := Option.bind_eq_some_iff.mp H; obtain ⟨⟨t718, t719, t722⟩, A4140, H⟩ := H; (try dsimp only at H); have A414 := Aside0.mk A4140; clear A4140
            by_cases c415 : t722 = 0
            ·rw [if_pos c415] at H; have c415b0 : (t722 == 0) = true := beq_iff_eq.mpr c415; have c415b1 : (t722 != 0) = false := bne_eq_false_iff_eq.mpr c415; clear c415
             by_cases c416 : (t712.length : Int) = (wrap64 ((l0_1.length : Int) + 1))
             ·rw [if_pos c416] at H; have c416b0 : ((t712.length : Int) == (wrap64 ((l0_1.length : Int) + 1))) = true := beq_iff_eq.mpr c416; have c416b1 : ((t712.length : Int) != (wrap64 ((l0_1.length : Int) + 1))) = false := bne_eq_false_iff_eq.mpr c416; clear c416; replace H := Option.bind_eq_some_iff.mp H; obtain ⟨t724, A4170, H⟩ := H; (try dsimp only at H); have A417 := Aside0.mk A4170; clear A4170
              by_cases c418 : t724 = true
              ·subst c418; rw [if_pos rfl] at H; have H' := Aside0.mk H; clear H; have hnb419 := NB716_663.out; have hnc419 := NB663_716.out; have hnb420 := NB716_664.out; have hnc420 := NB664_716.out; have hcz421_0 : wr.cell? ⟨gb716, 0, none⟩ = some (.int .i64 t711) := bc BK716 0; have hcz421_1 : wr.cell? ⟨gb716, 1, none⟩ = some (.slice Ao403 t712.length co403) := bc BK716 1; have hfz421_0 := blk_frozen BK716.out 0; have hfz421_1 := blk_frozen BK716.out 1
               go_wp2_with (first | ((with_reducible refine gate_callee (f := 27) rfl ?_); refine gl_ (some 187) Try.func27 #[.agg #[.int .i64 t711, .slice Ao403 t712.length co403], .int .i64 x21_3] ?_; (with_reducible refine (edit_Without.calls k3 t711 _ _ t712 x21_3 t718 t719 t722 _ ?side1 ?side2 A414.out).mono ?_); (case side1 => exact cr HO_717001); (case side2 => exact (Kd.R_reads' HO_717001.out).2.1); rintro e w422 ⟨v720, rfl, ho0, hb⟩; refine ⟨_, rfl, ?_⟩; have HO721 := Aside0.mk (Kd.R_lower (Kd.R_newB (Kd.R_new' ho0 (Kd.R_lt (rx HO_717001))) (bx BK664)) (below_size (hb3 HB GE663 GE664 GE716))); replace HO_717001 := el (rx HO_717001) ho0 hb; replace BK663 := kx BK663 hb; replace BK664 := kx BK664 hb; replace BK716 := kx BK716 hb; replace HB := hs (hb3 HB GE663 GE664 GE716) hb; (try clear hb); (try clear hb2); (try clear hk); (try clear hi); (try clear ho0)) | ((with_reducible refine gate_dst (N := 23) rfl ?_); (try (refine gate_guard (by rfl) ?_; dsimp only)); refine be_ 23 #[.int .i64 0, .slice none 0 0] 25 ?_; intro gb723 hg w423 hbox hb; replace HO_717001 := ry HO_717001 hb; replace HO721 := ry HO721 hb; have BK723 := Aside0.mk (hbox); have GW723 := wq (hb3 HB GE663 GE664 GE716) hg; have GE723 := wq (hb3 HB GE663 GE664 GE716) hg; replace HB := hs (hb3 HB GE663 GE664 GE716) hb; have NB663_723 := lx BK663 hg; have NB723_663 := gx BK663 hg; replace BK663 := kx BK663 hb; have NB664_723 := lx BK664 hg; have NB723_664 := gx BK664 hg; replace BK664 := kx BK664 hb; have NB716_723 := lx BK716 hg; have NB723_716 := gx BK716 hg; replace BK716 := kx BK716 hb; clear hb hbox hg; have hnb424 := NB723_663.out; have hnc424 := NB663_723.out; have hnb425 := NB723_664.out; have hnc425 := NB664_723.out; have hnb426 := NB723_716.out; have hnc426 := NB716_723.out; have hcz427_0 : w423.cell? ⟨gb723, 0, none⟩ = some (.int .i64 0) := bc BK723 0; have hcz427_1 : w423.cell? ⟨gb723, 1, none⟩ = some (.slice none 0 0) := bc BK723 1; have hfz427_0 := blk_frozen BK723.out 0; have hfz427_1 := blk_frozen BK723.out 1; obtain ⟨Ao428, co428, eo428⟩ := Kd.R_slice HO721.out; subst eo428; have hcz429_0 : w423.cell? ⟨gb716, 0, none⟩ = some (.int .i64 t711) := bc BK716 0; have hcz429_1 : w423.cell? ⟨gb716, 1, none⟩ = some (.slice Ao403 t712.length co403) := bc BK716 1; have hfz429_0 := blk_frozen BK716.out 0; have hfz429_1 := blk_frozen BK716.out 1; have hnb430 := NB663_664.out; have hnc430 := NB664_663.out; have hcz431_0 : w423.cell? ⟨gb663, 0, none⟩ = some (.int .i64 a0_0) := bc BK663 0; have hcz431_1 : w423.cell? ⟨gb663, 1, none⟩ = some (.slice A0_1 l0_1.length c0_1) := bc BK663 1; have hfz431_0 := blk_frozen BK663.out 0; have hfz431_1 := blk_frozen BK663.out 1) | (go_at_call 15; (with_reducible refine (tangramref14_Same.calls k3 t718 _ _ t719 a0_0 _ _ l0_1 true _ ?side1 ?side2 ?side3 ?side4 A417.out).mono ?_); (case side1 => refine (Kd.R_reads' (e := 46) (base := w.heap.size) (ok := fun k_ => ((True ∧ some k_ ≠ (.slice Ao403 t712.length co403 : Value).ownBlock) ∧ k_ ≠ gb664)) (n := t719.length) (c := co428) ?_).2.2; exact (rf HO721 BK723)); (case side2 => exact (Kd.R_reads' HO721.out).2.1); (case side3 => exact Kd.C_below HR0_1.out (hb4 HB GE663 GE664 GE716 GE723)); (case side4 => exact HC0_1.out); rintro e w432 ⟨rfl, hb⟩; replace HO_717001 := Aside0.mk (Kd.R_below (rf HO_717001 BK723) hb); replace HO721 := Aside0.mk (Kd.R_below (rf HO721 BK723) hb); replace BK663 := kb (bx1 BK663 NB663_723) hb; replace BK664 := kb (bx1 BK664 NB664_723) hb; replace BK716 := kb (bx1 BK716 NB716_723) hb; replace BK723 := Aside0.mk (blk_below (g := gb723) (o := .cells #[.int .i64 t718, .slice Ao428 t719.length co428] 25 (0, 0)) (bp BK723) hb); replace HB := hs (hb4 HB GE663 GE664 GE716 GE723) hb; (try clear hb); (try clear hb2); (try clear hk); (try clear hi)))
               go_meet
               case rel => exact ⟨_, H', ⟨by have := HJ7.out; have := HJ17.out; have := HK3.out; first | omega | exact Nat.le_refl _⟩, ⟨Kd.R_mono (rx HO_717001) (fun _ hk => hk.1)⟩, ⟨bx BK663⟩, ⟨bx BK664⟩, ⟨bx BK716⟩, ⟨hb4 HB GE663 GE664 GE716 GE723⟩⟩
              ·replace c418 := Bool.eq_false_iff.mpr c418; subst c418; rw [if_neg (show ¬ (false = true) by decide)] at H; obtain rfl := Option.some.inj H; have hnb433 := NB716_663.out; have hnc433 := NB663_716.out; have hnb434 := NB716_664.out; have hnc434 := NB664_716.out; have hcz435_0 : wr.cell? ⟨gb716, 0, none⟩ = some (.int .i64 t711) := bc BK716 0; have hcz435_1 : wr.cell? ⟨gb716, 1, none⟩ = some (.slice Ao403 t712.length co403) := bc BK716 1; have hfz435_0 := blk_frozen BK716.out 0; have hfz435_1 := blk_frozen BK716.out 1
               go_wp2_with (first | ((with_reducible refine gate_callee (f := 27) rfl ?_); refine gl_ (some 187) Try.func27 #[.agg #[.int .i64 t711, .slice Ao403 t712.length co403], .int .i64 x21_3] ?_; (with_reducible refine (edit_Without.calls k3 t711 _ _ t712 x21_3 t718 t719 t722 _ ?side1 ?side2 A414.out).mono ?_); (case side1 => exact cr HO_717001); (case side2 => exact (Kd.R_reads' HO_717001.out).2.1); rintro e w436 ⟨v720, rfl, ho0, hb⟩; refine ⟨_, rfl, ?_⟩; have HO721 := Aside0.mk (Kd.R_lower (Kd.R_newB (Kd.R_new' ho0 (Kd.R_lt (rx HO_717001))) (bx BK664)) (below_size (hb3 HB GE663 GE664 GE716))); replace HO_717001 := el (rx HO_717001) ho0 hb; replace BK663 := kx BK663 hb; replace BK664 := kx BK664 hb; replace BK716 := kx BK716 hb; replace HB := hs (hb3 HB GE663 GE664 GE716) hb; (try clear hb); (try clear hb2); (try clear hk); (try clear hi); (try clear ho0)) | ((with_reducible refine gate_dst (N := 23) rfl ?_); (try (refine gate_guard (by rfl) ?_; dsimp only)); refine be_ 23 #[.int .i64 0, .slice none 0 0] 25 ?_; intro gb723 hg w437 hbox hb; replace HO_717001 := ry HO_717001 hb; replace HO721 := ry HO721 hb; have BK723 := Aside0.mk (hbox); have GW723 := wq (hb3 HB GE663 GE664 GE716) hg; have GE723 := wq (hb3 HB GE663 GE664 GE716) hg; replace HB := hs (hb3 HB GE663 GE664 GE716) hb; have NB663_723 := lx BK663 hg; have NB723_663 := gx BK663 hg; replace BK663 := kx BK663 hb; have NB664_723 := lx BK664 hg; have NB723_664 := gx BK664 hg; replace BK664 := kx BK664 hb; have NB716_723 := lx BK716 hg; have NB723_716 := gx BK716 hg; replace BK716 := kx BK716 hb; clear hb hbox hg; have hnb438 := NB723_663.out; have hnc438 := NB663_723.out; have hnb439 := NB723_664.out; have hnc439 := NB664_723.out; have hnb440 := NB723_716.out; have hnc440 := NB716_723.out; have hcz441_0 : w437.cell? ⟨gb723, 0, none⟩ = some (.int .i64 0) := bc BK723 0; have hcz441_1 : w437.cell? ⟨gb723, 1, none⟩ = some (.slice none 0 0) := bc BK723 1; have hfz441_0 := blk_frozen BK723.out 0; have hfz441_1 := blk_frozen BK723.out 1; obtain ⟨Ao442, co442, eo442⟩ := Kd.R_slice HO721.out; subst eo442; have hcz443_0 : w437.cell? ⟨gb716, 0, none⟩ = some (.int .i64 t711) := bc BK716 0; have hcz443_1 : w437.cell? ⟨gb716, 1, none⟩ = some (.slice Ao403 t712.length co403) := bc BK716 1; have hfz443_0 := blk_frozen BK716.out 0; have hfz443_1 := blk_frozen BK716.out 1; have hnb444 := NB663_664.out; have hnc444 := NB664_663.out; have hcz445_0 : w437.cell? ⟨gb663, 0, none⟩ = some (.int .i64 a0_0) := bc BK663 0; have hcz445_1 : w437.cell? ⟨gb663, 1, none⟩ = some (.slice A0_1 l0_1.length c0_1) := bc BK663 1; have hfz445_0 := blk_frozen BK663.out 0; have hfz445_1 := blk_frozen BK663.out 1) | (go_at_call 15; (with_reducible refine (tangramref14_Same.calls k3 t718 _ _ t719 a0_0 _ _ l0_1 false _ ?side1 ?side2 ?side3 ?side4 A417.out).mono ?_); (case side1 => refine (Kd.R_reads' (e := 46) (base := w.heap.size) (ok := fun k_ => ((True ∧ some k_ ≠ (.slice Ao403 t712.length co403 : Value).ownBlock) ∧ k_ ≠ gb664)) (n := t719.length) (c := co442) ?_).2.2; exact (rf HO721 BK723)); (case side2 => exact (Kd.R_reads' HO721.out).2.1); (case side3 => exact Kd.C_below HR0_1.out (hb4 HB GE663 GE664 GE716 GE723)); (case side4 => exact HC0_1.out); rintro e w446 ⟨rfl, hb⟩; replace HO_717001 := Aside0.mk (Kd.R_below (rf HO_717001 BK723) hb); replace HO721 := Aside0.mk (Kd.R_below (rf HO721 BK723) hb); replace BK663 := kb (bx1 BK663 NB663_723) hb; replace BK664 := kb (bx1 BK664 NB664_723) hb; replace BK716 := kb (bx1 BK716 NB716_723) hb; replace BK723 := Aside0.mk (blk_below (g := gb723) (o := .cells #[.int .i64 t718, .slice Ao442 t719.length co442] 25 (0, 0)) (bp BK723) hb); replace HB := hs (hb4 HB GE663 GE664 GE716 GE723) hb; (try clear hb); (try clear hb2); (try clear hk); (try clear hi)))
               go_ret
               exact ⟨by first | rfl | (simp [errW_none, errW_some] <;> rfl) | (simp [*, errW_none, errW_some] <;> rfl), hb4 HB GE663 GE664 GE716 GE723⟩
             ·rw [if_neg c416] at H; have c416b0 : ((t712.length : Int) == (wrap64 ((l0_1.length : Int) + 1))) = false := beq_eq_false_iff_ne.mpr c416; have c416b1 : ((t712.length : Int) != (wrap64 ((l0_1.length : Int) + 1))) = true := bne_iff_ne.mpr c416; obtain rfl := Option.some.inj H; have hnb447 := NB716_663.out; have hnc447 := NB663_716.out; have hnb448 := NB716_664.out; have hnc448 := NB664_716.out; have hcz449_0 : wr.cell? ⟨gb716, 0, none⟩ = some (.int .i64 t711) := bc BK716 0; have hcz449_1 : wr.cell? ⟨gb716, 1, none⟩ = some (.slice Ao403 t712.length co403) := bc BK716 1; have hfz449_0 := blk_frozen BK716.out 0; have hfz449_1 := blk_frozen BK716.out 1
              go_wp2_with (first | ((with_reducible refine gate_callee (f := 27) rfl ?_); refine gl_ (some 187) Try.func27 #[.agg #[.int .i64 t711, .slice Ao403 t712.length co403], .int .i64 x21_3] ?_; (with_reducible refine (edit_Without.calls k3 t711 _ _ t712 x21_3 t718 t719 t722 _ ?side1 ?side2 A414.out).mono ?_); (case side1 => exact cr HO_717001); (case side2 => exact (Kd.R_reads' HO_717001.out).2.1); rintro e w450 ⟨v720, rfl, ho0, hb⟩; refine ⟨_, rfl, ?_⟩; have HO721 := Aside0.mk (Kd.R_lower (Kd.R_newB (Kd.R_new' ho0 (Kd.R_lt (rx HO_717001))) (bx BK664)) (below_size (hb3 HB GE663 GE664 GE716))); replace HO_717001 := el (rx HO_717001) ho0 hb; replace BK663 := kx BK663 hb; replace BK664 := kx BK664 hb; replace BK716 := kx BK716 hb; replace HB := hs (hb3 HB GE663 GE664 GE716) hb; (try clear hb); (try clear hb2); (try clear hk); (try clear hi); (try clear ho0)) | ((with_reducible refine gate_dst (N := 23) rfl ?_); (try (refine gate_guard (by rfl) ?_; dsimp only)); refine be_ 23 #[.int .i64 0, .slice none 0 0] 25 ?_; intro gb723 hg w451 hbox hb; replace HO_717001 := ry HO_717001 hb; replace HO721 := ry HO721 hb; have BK723 := Aside0.mk (hbox); have GW723 := wq (hb3 HB GE663 GE664 GE716) hg; have GE723 := wq (hb3 HB GE663 GE664 GE716) hg; replace HB := hs (hb3 HB GE663 GE664 GE716) hb; have NB663_723 := lx BK663 hg; have NB723_663 := gx BK663 hg; replace BK663 := kx BK663 hb; have NB664_723 := lx BK664 hg; have NB723_664 := gx BK664 hg; replace BK664 := kx BK664 hb; have NB716_723 := lx BK716 hg; have NB723_716 := gx BK716 hg; replace BK716 := kx BK716 hb; clear hb hbox hg; have hnb452 := NB723_663.out; have hnc452 := NB663_723.out; have hnb453 := NB723_664.out; have hnc453 := NB664_723.out; have hnb454 := NB723_716.out; have hnc454 := NB716_723.out; have hcz455_0 : w451.cell? ⟨gb723, 0, none⟩ = some (.int .i64 0) := bc BK723 0; have hcz455_1 : w451.cell? ⟨gb723, 1, none⟩ = some (.slice none 0 0) := bc BK723 1; have hfz455_0 := blk_frozen BK723.out 0; have hfz455_1 := blk_frozen BK723.out 1; obtain ⟨Ao456, co456, eo456⟩ := Kd.R_slice HO721.out; subst eo456; have hcz457_0 : w451.cell? ⟨gb716, 0, none⟩ = some (.int .i64 t711) := bc BK716 0; have hcz457_1 : w451.cell? ⟨gb716, 1, none⟩ = some (.slice Ao403 t712.length co403) := bc BK716 1; have hfz457_0 := blk_frozen BK716.out 0; have hfz457_1 := blk_frozen BK716.out 1; have hnb458 := NB663_664.out; have hnc458 := NB664_663.out; have hcz459_0 : w451.cell? ⟨gb663, 0, none⟩ = some (.int .i64 a0_0) := bc BK663 0; have hcz459_1 : w451.cell? ⟨gb663, 1, none⟩ = some (.slice A0_1 l0_1.length c0_1) := bc BK663 1; have hfz459_0 := blk_frozen BK663.out 0; have hfz459_1 := blk_frozen BK663.out 1))
              go_ret
              exact ⟨by first | rfl | (simp [errW_none, errW_some] <;> rfl) | (simp [*, errW_none, errW_some] <;> rfl), hb4 HB GE663 GE664 GE716 GE723⟩
            ·rw [if_neg c415] at H; have c415b0 : (t722 == 0) = false := beq_eq_false_iff_ne.mpr c415; have c415b1 : (t722 != 0) = true := bne_iff_ne.mpr c415; obtain rfl := Option.some.inj H; have hnb460 := NB716_663.out; have hnc460 := NB663_716.out; have hnb461 := NB716_664.out; have hnc461 := NB664_716.out; have hcz462_0 : wr.cell? ⟨gb716, 0, none⟩ = some (.int .i64 t711) := bc BK716 0; have hcz462_1 : wr.cell? ⟨gb716, 1, none⟩ = some (.slice Ao403 t712.length co403) := bc BK716 1; have hfz462_0 := blk_frozen BK716.out 0; have hfz462_1 := blk_frozen BK716.out 1
             go_wp2_with (first | ((with_reducible refine gate_callee (f := 27) rfl ?_); refine gl_ (some 187) Try.func27 #[.agg #[.int .i64 t711, .slice Ao403 t712.length co403], .int .i64 x21_3] ?_; (with_reducible refine (edit_Without.calls k3 t711 _ _ t712 x21_3 t718 t719 t722 _ ?side1 ?side2 A414.out).mono ?_); (case side1 => exact cr HO_717001); (case side2 => exact (Kd.R_reads' HO_717001.out).2.1); rintro e w463 ⟨v720, rfl, ho0, hb⟩; refine ⟨_, rfl, ?_⟩; have HO721 := Aside0.mk (Kd.R_lower (Kd.R_newB (Kd.R_new' ho0 (Kd.R_lt (rx HO_717001))) (bx BK664)) (below_size (hb3 HB GE663 GE664 GE716))); replace HO_717001 := el (rx HO_717001) ho0 hb; replace BK663 := kx BK663 hb; replace BK664 := kx BK664 hb; replace BK716 := kx BK716 hb; replace HB := hs (hb3 HB GE663 GE664 GE716) hb; (try clear hb); (try clear hb2); (try clear hk); (try clear hi); (try clear ho0)) | ((with_reducible refine gate_dst (N := 23) rfl ?_); (try (refine gate_guard (by rfl) ?_; dsimp only)); refine be_ 23 #[.int .i64 0, .slice none 0 0] 25 ?_; intro gb723 hg w464 hbox hb; replace HO_717001 := ry HO_717001 hb; replace HO721 := ry HO721 hb; have BK723 := Aside0.mk (hbox); have GW723 := wq (hb3 HB GE663 GE664 GE716) hg; have GE723 := wq (hb3 HB GE663 GE664 GE716) hg; replace HB := hs (hb3 HB GE663 GE664 GE716) hb; have NB663_723 := lx BK663 hg; have NB723_663 := gx BK663 hg; replace BK663 := kx BK663 hb; have NB664_723 := lx BK664 hg; have NB723_664 := gx BK664 hg; replace BK664 := kx BK664 hb; have NB716_723 := lx BK716 hg; have NB723_716 := gx BK716 hg; replace BK716 := kx BK716 hb; clear hb hbox hg; have hnb465 := NB723_663.out; have hnc465 := NB663_723.out; have hnb466 := NB723_664.out; have hnc466 := NB664_723.out; have hnb467 := NB723_716.out; have hnc467 := NB716_723.out; have hcz468_0 : w464.cell? ⟨gb723, 0, none⟩ = some (.int .i64 0) := bc BK723 0; have hcz468_1 : w464.cell? ⟨gb723, 1, none⟩ = some (.slice none 0 0) := bc BK723 1; have hfz468_0 := blk_frozen BK723.out 0; have hfz468_1 := blk_frozen BK723.out 1; obtain ⟨Ao469, co469, eo469⟩ := Kd.R_slice HO721.out; subst eo469))
             go_ret
             exact ⟨by first | rfl | (simp [errW_none, errW_some] <;> rfl) | (simp [*, errW_none, errW_some] <;> rfl), hb4 HB GE663 GE664 GE716 GE723⟩
        ·rw [if_neg c404] at H; have c404b0 : (t715 == 0) = false := beq_eq_false_iff_ne.mpr c404; have c404b1 : (t715 != 0) = true := bne_iff_ne.mpr c404
         (first | rw [c404b0] | (simp only [i64_w, i32_w]; rw [c404b0]) | skip)
         have H' := Aside0.mk H; clear H
         go_wp2
         go_meet
         case rel => exact ⟨_, H', ⟨by have := HJ7.out; have := HJ17.out; first | omega | exact Nat.le_refl _⟩, ⟨Kd.R_mono (rf HO714 BK716) (fun _ hk => hk.2)⟩, ⟨bx1 BK663 NB663_716⟩, ⟨bx1 BK664 NB664_716⟩, ⟨bp BK716⟩, ⟨hb3 HB GE663 GE664 GE716⟩⟩
       case rest => as_aux_lemma =>
        clear HC394
        try clear c1
        try clear c2
        try clear p2
        try clear c3
        try clear c4
        try clear p6
        try clear c7
        try clear p7
        try clear q7
        try clear hx7
        try clear c19
        try clear c21
        try clear c22
        try clear c27
        try clear c29
        try clear c39
        try clear c40
        try clear c41
        try clear c42
        try clear c43
        try clear c44
        try clear c45
        try clear c46
        try clear p64
        try clear p70
        try clear q70
        try clear hx70
        try clear p71
        try clear q71
        try clear hx71
        try clear c73
        try clear c77
        try clear c78
        try clear c395
        try clear c400
        try clear c401
        try clear c404
        try clear c404b0
        try clear c404b1
        try clear c405
        try clear c406
        try clear c408
        try clear c408b0
        try clear c409
        try clear c409b0
        try clear c410
        try clear c410b0
        try clear c411
        try clear c411b0
        try clear c411b1
        try clear c411b2
        try clear c415
        try clear c415b0
        try clear c415b1
        try clear c416
        try clear c416b0
        try clear c416b1
        try clear c418
        try clear c419
        try clear c420
        try clear c424
        try clear c425
        try clear c426
        try clear c430
        try clear c433
        try clear c434
        try clear c438
        try clear c439
        try clear c440
        try clear c444
        try clear c447
        try clear c448
        try clear c452
        try clear c453
        try clear c454
        try clear c458
        try clear c460
        try clear c461
        try clear c465
        try clear c466
        try clear c467
        try clear hcz396_0
        try clear hcz396_1
        try clear hcz397_0
        try clear hcz397_1
        try clear hcz402_0
        try clear hcz402_1
        try clear hcz407_0
        try clear hcz407_1
        try clear hcz421_0
        try clear hcz421_1
        try clear hcz427_0
        try clear hcz427_1
        try clear hcz429_0
        try clear hcz429_1
        try clear hcz431_0
        try clear hcz431_1
        try clear hcz435_0
        try clear hcz435_1
        try clear hcz441_0
        try clear hcz441_1
        try clear hcz443_0
        try clear hcz443_1
        try clear hcz445_0
        try clear hcz445_1
        try clear hcz449_0
        try clear hcz449_1
        try clear hcz455_0
        try clear hcz455_1
        try clear hcz457_0
        try clear hcz457_1
        try clear hcz459_0
        try clear hcz459_1
        try clear hcz462_0
        try clear hcz462_1
        try clear hcz468_0
        try clear hcz468_1
        try clear hfz396_0
        try clear hfz396_1
        try clear hfz397_0
        try clear hfz397_1
        try clear hfz402_0
        try clear hfz402_1
        try clear hfz407_0
        try clear hfz407_1
        try clear hfz421_0
        try clear hfz421_1
        try clear hfz427_0
        try clear hfz427_1
        try clear hfz429_0
        try clear hfz429_1
        try clear hfz431_0
        try clear hfz431_1
        try clear hfz435_0
        try clear hfz435_1
        try clear hfz441_0
        try clear hfz441_1
        try clear hfz443_0
        try clear hfz443_1
        try clear hfz445_0
        try clear hfz445_1
        try clear hfz449_0
        try clear hfz449_1
        try clear hfz455_0
        try clear hfz455_1
        try clear hfz457_0
        try clear hfz457_1
        try clear hfz459_0
        try clear hfz459_1
        try clear hfz462_0
        try clear hfz462_1
        try clear hfz468_0
        try clear hfz468_1
        try clear hx702_0
        try clear hx702_1
        try clear hx717_0
        try clear hx717_1
        try clear p2
        try clear p7
        try clear p70
        try clear p702
        try clear p717
        try clear q7
        try clear q70
        try clear q702
        try clear q717
        obtain ⟨kq, HA, HJ393, HO_717001, BK663, BK664, BK716, HB⟩ := hcut
        cases kq with
        | zero => exact absurd HA.out (by simp [tangramlaw14_EditBack.j5])
        | succ kj393 =>
         have H := HA.out; clear HA; simp only [tangramlaw14_EditBack.j5] at H; replace H := Option.bind_eq_some_iff.mp H; obtain ⟨⟨t725, t726, t729⟩, A4700, H⟩ := H; (try dsimp only at H); have A470 := Aside0.mk A4700; clear A4700; have HH_ := Aside0.mk H; clear H; have hnb478 := NB663_664.out; have hnc478 := NB664_663.out; have hnb479 := NB663_716.out; have hnc479 := NB716_663.out; have hcz480_0 : wc.cell? ⟨gb663, 0, none⟩ = some (.int .i64 a0_0) := bc BK663 0; have hcz480_1 : wc.cell? ⟨gb663, 1, none⟩ = some (.slice A0_1 l0_1.length c0_1) := bc BK663 1; have hfz480_0 := blk_frozen BK663.out 0; have hfz480_1 := blk_frozen BK663.out 1; have H := HH_.out; clear HH_
         by_cases c471 : t729 = 0
         ·rw [if_pos c471] at H; have c471b0 : (t729 == 0) = true := beq_iff_eq.mpr c471; have c471b1 : (t729 != 0) = false := bne_eq_false_iff_eq.mpr c471; clear c471; replace H := Option.bind_eq_some_iff.mp H; obtain ⟨t731, A4720, H⟩ := H; (try dsimp only at H); have A472 := Aside0.mk A4720; clear A4720; replace H := Option.bind_eq_some_iff.mp H; obtain ⟨⟨t734, t735, t738⟩, A4730, H⟩ := H; (try dsimp only at H); have A473 := Aside0.mk A4730; clear A4730; have HH_ := Aside0.mk H; clear H
          try go_wp2_with (first | ((with_reducible refine gate_callee (f := 33) rfl ?_); refine gl_ (some 210) Try.func33 #[.agg #[.int .i64 a0_0, .slice A0_1 l0_1.length c0_1]] ?_; (with_reducible refine (edit_Apex.calls kj393 a0_0 _ _ l0_1 t725 t726 t729 _ ?side1 ?side2 A470.out).mono ?_); (case side1 => repeat (first | exact (Kd.C_below HR0_1.out HB.out) | (with_reducible refine Kd.C_alloc ?_ _) | (with_reducible refine Kd.C_drewN ?_ _) | (with_reducible refine Kd.C_drew ?_))); (case side2 => exact HC0_1.out); rintro e w481 ⟨v727, rfl, ho0, hb⟩; refine ⟨_, rfl, ?_⟩; have HO728 := Aside0.mk (Kd.R_lower (Kd.R_newB (Kd.R_new' ho0 (Kd.R_lt (rx HO_717001))) (bx BK664)) (below_size (hb3 HB GE663 GE664 GE716))); replace HO_717001 := el (rx HO_717001) ho0 hb; replace BK663 := kx BK663 hb; replace BK664 := kx BK664 hb; replace BK716 := kx BK716 hb; replace HB := hs (hb3 HB GE663 GE664 GE716) hb; (try clear hb); (try clear hb2); (try clear hk); (try clear hi); (try clear ho0)) | ((with_reducible refine gate_dst (N := 25) rfl ?_); (try (refine gate_guard (by rfl) ?_; dsimp only)); refine be_ 25 #[.int .i64 0, .slice none 0 0] 25 ?_; intro gb730 hg w482 hbox hb; replace HO_717001 := ry HO_717001 hb; replace HO728 := ry HO728 hb; have BK730 := Aside0.mk (hbox); have GW730 := wq (hb3 HB GE663 GE664 GE716) hg; have GE730 := wq (hb3 HB GE663 GE664 GE716) hg; replace HB := hs (hb3 HB GE663 GE664 GE716) hb; have NB663_730 := lx BK663 hg; have NB730_663 := gx BK663 hg; replace BK663 := kx BK663 hb; have NB664_730 := lx BK664 hg; have NB730_664 := gx BK664 hg; replace BK664 := kx BK664 hb; have NB716_730 := lx BK716 hg; have NB730_716 := gx BK716 hg; replace BK716 := kx BK716 hb; clear hb hbox hg; have hnb483 := NB730_663.out; have hnc483 := NB663_730.out; have hnb484 := NB730_664.out; have hnc484 := NB664_730.out; have hnb485 := NB730_716.out; have hnc485 := NB716_730.out; have hcz486_0 : w482.cell? ⟨gb730, 0, none⟩ = some (.int .i64 0) := bc BK730 0; have hcz486_1 : w482.cell? ⟨gb730, 1, none⟩ = some (.slice none 0 0) := bc BK730 1; have hfz486_0 := blk_frozen BK730.out 0; have hfz486_1 := blk_frozen BK730.out 1; obtain ⟨Ao487, co487, eo487⟩ := Kd.R_slice HO728.out; subst eo487))
          have n0_ : Aside0 (Kd.R k46 46 ((w482.setCell ⟨gb730, 0, none⟩ (.int .i64 t725)).setCell ⟨gb730, 1, none⟩ (.slice Ao487 t726.length co487)) w.heap.size (fun k_ => some k_ ≠ (.slice Ao487 t726.length co487 : Value).ownBlock ∧ k_ ≠ gb664) (.slice Ao403 t712.length co403) t712) := ⟨Kd.R_mono (rf HO_717001 BK730) (fun _ hk => ⟨hk.2, hk.1⟩)⟩; have n1_ : Aside0 (Kd.R k46 46 ((w482.setCell ⟨gb730, 0, none⟩ (.int .i64 t725)).setCell ⟨gb730, 1, none⟩ (.slice Ao487 t726.length co487)) w.heap.size (fun k_ => some k_ ≠ (.slice Ao403 t712.length co403 : Value).ownBlock ∧ k_ ≠ gb664) (.slice Ao487 t726.length co487) t726) := ⟨Kd.R_mono (rf HO728 BK730) (fun _ hk => ⟨hk.1.2, hk.2⟩)⟩; have n2_ : Aside0 (((w482.setCell ⟨gb730, 0, none⟩ (.int .i64 t725)).setCell ⟨gb730, 1, none⟩ (.slice Ao487 t726.length co487)).heap[gb663]? = some (.cells #[.int .i64 a0_0, .slice A0_1 l0_1.length c0_1] 25 (0, 0))) := ⟨bx1 BK663 NB663_730⟩; have n3_ : Aside0 (((w482.setCell ⟨gb730, 0, none⟩ (.int .i64 t725)).setCell ⟨gb730, 1, none⟩ (.slice Ao487 t726.length co487)).heap[gb664]? = some (.cells #[.int .i64 a2_0, .int .i64 a2_1] 46 (0, 0))) := ⟨bx1 BK664 NB664_730⟩; have n4_ : Aside0 (((w482.setCell ⟨gb730, 0, none⟩ (.int .i64 t725)).setCell ⟨gb730, 1, none⟩ (.slice Ao487 t726.length co487)).heap[gb716]? = some (.cells #[.int .i64 t711, .slice Ao403 t712.length co403] 25 (0, 0))) := ⟨bx1 BK716 NB716_730⟩; have n5_ : Aside0 (((w482.setCell ⟨gb730, 0, none⟩ (.int .i64 t725)).setCell ⟨gb730, 1, none⟩ (.slice Ao487 t726.length co487)).heap[gb730]? = some (.cells #[.int .i64 t725, .slice Ao487 t726.length co487] 25 (0, 0))) := ⟨bp BK730⟩
          have n6_ : Aside0 (Below w.heap.size w ((w482.setCell ⟨gb730, 0, none⟩ (.int .i64 t725)).setCell ⟨gb730, 1, none⟩ (.slice Ao487 t726.length co487))) := ⟨hb4 HB GE663 GE664 GE716 GE730⟩
          (try clear HO_717001)
          (try clear HO728)
          (try clear BK663)
          (try clear BK664)
          (try clear BK716)
          (try clear BK730)
          (try clear HB)
          generalize ((w482.setCell ⟨gb730, 0, none⟩ (.int .i64 t725)).setCell ⟨gb730, 1, none⟩ (.slice Ao487 t726.length co487)) = w488 at n0_ n1_ n2_ n3_ n4_ n5_ n6_ ⊢; have HO_717001 := n0_; have HO728 := n1_; have BK663 := n2_; have BK664 := n3_; have BK716 := n4_; have BK730 := n5_; have HB := n6_; clear n0_ n1_ n2_ n3_ n4_ n5_ n6_; replace HO_717001 := rd HO_717001; replace HO728 := rd HO728; replace BK663 := bd BK663; replace BK664 := bd BK664; replace BK716 := bd BK716; replace BK730 := bd BK730; replace HB := Aside0.mk (below_drew1 HB.out); refine start_ (n := 11) (S := fun w' => w'.cell? ⟨gb730, 0, none⟩ = some (.int .i64 t725) ∧ w'.cell? ⟨gb730, 1, none⟩ = some (.slice Ao487 t726.length co487) ∧ w'.cell? ⟨gb663, 0, none⟩ = some (.int .i64 a0_0) ∧ w'.cell? ⟨gb663, 1, none⟩ = some (.slice A0_1 l0_1.length c0_1)) (ds := []) (pf 0 11) (by kernel_rfl) rfl rfl ⟨bc BK730 0, bc BK730 1, bc BK663 0, bc BK663 1⟩ (fun hHeld => ?_); refine with_tabW tangramlaw14_EditBack.tab32 tangramlaw14_EditBack.bits32 (fun HT_ HW_ => ?_); generalize w488.drew = w489 at HO_717001 HO728 BK663 BK664 BK716 BK730 HB hHeld ⊢; refine pu_ 1 (some 233) #[F_,T_,F_,F_,F_,F_,F_,F_,F_,F_,F_] HT_ ?_; refine tk4_ 0 (some 232) (pf 2 11) HT_ HW_ hHeld ?_; refine tk4_ 2 (some 234) (pf 3 11) HT_ HW_ hHeld ?_; refine join_ (σ := Value × Value × Nat) 2 (pf 9 11) (fun s_ => [(235, s_.1), (236, .tuple #[.agg #[.int .i64 t734, s_.2.1], .int .i64 t738]), (27, .pointer (some ⟨s_.2.2, 0, none⟩)), (231, .tuple #[.agg #[.int .i64 t734, s_.2.1], .int .i64 t738]), (237, .agg #[.int .i64 t734, s_.2.1]), (238, .int .i64 t738)]) (fun s_ w' => (w'.cell? ⟨gb730, 0, none⟩ = some (.int .i64 t725) ∧ w'.cell? ⟨gb730, 1, none⟩ = some (.slice Ao487 t726.length co487) ∧ w'.cell? ⟨gb663, 0, none⟩ = some (.int .i64 a0_0) ∧ w'.cell? ⟨gb663, 1, none⟩ = some (.slice A0_1 l0_1.length c0_1)) ∧ (Kd.R k46 46 w' w.heap.size (fun k_ => some k_ ≠ (s_.2.1 : Value).ownBlock ∧ some k_ ≠ (.slice Ao403 t712.length co403 : Value).ownBlock ∧ k_ ≠ gb664) (.slice Ao487 t726.length co487) t726) ∧ (Kd.R (Kd.int .i64) 3 w' w.heap.size (fun _ => True) s_.1 t731) ∧ (Kd.R k46 46 w' w.heap.size (fun k_ => some k_ ≠ (.slice Ao487 t726.length co487 : Value).ownBlock ∧ some k_ ≠ (.slice Ao403 t712.length co403 : Value).ownBlock ∧ k_ ≠ gb664) s_.2.1 t735) ∧ (Kd.R k46 46 w' w.heap.size (fun k_ => some k_ ≠ (.slice Ao487 t726.length co487 : Value).ownBlock ∧ some k_ ≠ (s_.2.1 : Value).ownBlock ∧ k_ ≠ gb664) (.slice Ao403 t712.length co403) t712) ∧ (w'.heap[gb663]? = some (.cells #[.int .i64 a0_0, .slice A0_1 l0_1.length c0_1] 25 (0, 0))) ∧ (w'.heap[gb664]? = some (.cells #[.int .i64 a2_0, .int .i64 a2_1] 46 (0, 0))) ∧ (w'.heap[gb716]? = some (.cells #[.int .i64 t711, .slice Ao403 t712.length co403] 25 (0, 0))) ∧ (w'.heap[gb730]? = some (.cells #[.int .i64 t725, .slice Ao487 t726.length co487] 25 (0, 0))) ∧ (w'.heap[s_.2.2]? = some (.cells #[.int .i64 0, .slice none 0 0] 25 (0, 0))) ∧ (w.heap.size ≤ s_.2.2) ∧ (w.heap.size ≤ s_.2.2) ∧ (gb663 ≠ s_.2.2) ∧ (s_.2.2 ≠ gb663) ∧ (gb664 ≠ s_.2.2) ∧ (s_.2.2 ≠ gb664) ∧ (gb716 ≠ s_.2.2) ∧ (s_.2.2 ≠ gb716) ∧ (gb730 ≠ s_.2.2) ∧ (s_.2.2 ≠ gb730) ∧ (Below w.heap.size w w')) ?_ ?_
          rotate_left
          ·intro hCont; refine two_ (i := 3) (j := 8) (Ni := some 235) (Nj := some 27) (pf 4 11) #[T_,T_,T_,F_,F_,F_,F_,F_,T_,F_,F_] rfl rfl rfl rfl (two_of HT_.out (by kernel_rfl)) (by decide) (by decide) (fun K hK => ?_) (fun K hK => ?_)
           ·skip
            refine gs_ Try.func17 #[.int .i64 0, .int .i64 a0_0] ?_
            with_reducible refine (tangramlaw14_from.calls kj393 0 a0_0 t731 _ A472.out).mono ?_
            rintro e w490 ⟨v732, rfl, ho0, hb⟩; refine ⟨_, rfl, ?_⟩; replace HO_717001 := ry HO_717001 hb; replace HO728 := ry HO728 hb; have HO733 := Aside0.mk (Kd.R_lower ho0 (below_size (hb4 HB GE663 GE664 GE716 GE730))); replace BK663 := kx BK663 hb; replace BK664 := kx BK664 hb; replace BK716 := kx BK716 hb; replace BK730 := kx BK730 hb; replace HB := hs (hb4 HB GE663 GE664 GE716 GE730) hb
            (try clear hb)
            (try clear hb2)
            (try clear hk)
            (try clear hi)
            (try clear ho0)
            obtain ⟨Ao491, co491, eo491⟩ := Kd.R_slice HO733.out
            (first | subst eo491 | obtain ⟨rfl, rfl⟩ := sx eo491)
            refine hK.out _ _ ⟨bc BK730 0, bc BK730 1, bc BK663 0, bc BK663 1⟩ (fun hHeld => ?_); clear hK K; refine nm_ (some 235) ?_; refine two_ (i := 4) (j := 8) (Ni := some 236) (Nj := some 27) (pf 5 11) #[T_,T_,T_,T_,F_,F_,F_,F_,T_,F_,F_] rfl rfl rfl rfl (two_of HT_.out (by kernel_rfl)) (by decide) (by decide) (fun K hK => ?_) (fun K hK => ?_)
            ·skip
             refine gs_ Try.func14 #[.agg #[.int .i64 t725, .slice Ao487 t726.length co487], .slice Ao491 t731.length co491] ?_
             with_reducible refine (edit_Induced.calls kj393 t725 _ _ t726 _ _ t731 t734 t735 t738 _ ?side1 ?side2 ?side3 ?side4 A473.out).mono ?_
             (case side1 => exact cr HO728)
             (case side2 => exact (Kd.R_reads' HO728.out).2.1)
             (case side3 => exact cr HO733)
             (case side4 => exact (Kd.R_reads' HO733.out).2.1)
             rintro e w492 ⟨v736, rfl, ho0, hb⟩; refine ⟨_, rfl, ?_⟩; replace HO733 := ry HO733 hb; have HO737 := Aside0.mk (Kd.R_lower (Kd.R_newB (Kd.R_new' (Kd.R_new' ho0 (Kd.R_lt (rx HO_717001))) (Kd.R_lt (rx HO728))) (bx BK664)) (below_size (hb4 HB GE663 GE664 GE716 GE730))); replace HO_717001 := el (rx HO_717001) ho0 hb; replace HO728 := el (rx HO728) ho0 hb; replace BK663 := kx BK663 hb; replace BK664 := kx BK664 hb; replace BK716 := kx BK716 hb; replace BK730 := kx BK730 hb; replace HB := hs (hb4 HB GE663 GE664 GE716 GE730) hb
             (try clear hb)
             (try clear hb2)
             (try clear hk)
             (try clear hi)
             (try clear ho0)
             refine hK.out _ _ ⟨bc BK730 0, bc BK730 1, bc BK663 0, bc BK663 1⟩ (fun hHeld => ?_); clear hK K; refine nm_ (some 236) ?_; refine pu_ 5 (some 231) (pf 6 11) HT_ ?_; refine pu_ 6 (some 237) (pf 7 11) HT_ ?_; refine pu_ 7 (some 238) (pf 8 11) HT_ ?_; refine on_ 8 (some 27) (pf 9 11) HT_ (fun K hK => ?_); refine bs_ 27 #[.int .i64 0, .slice none 0 0] 25 ?_; intro gb739 hg w493 hbox hb; replace HO_717001 := ry HO_717001 hb; replace HO728 := ry HO728 hb; replace HO733 := ry HO733 hb; replace HO737 := ry HO737 hb; have BK739 := Aside0.mk (hbox); have GW739 := wq (hb4 HB GE663 GE664 GE716 GE730) hg; have GE739 := wq (hb4 HB GE663 GE664 GE716 GE730) hg; replace HB := hs (hb4 HB GE663 GE664 GE716 GE730) hb; have NB663_739 := lx BK663 hg; have NB739_663 := gx BK663 hg; replace BK663 := kx BK663 hb; have NB664_739 := lx BK664 hg; have NB739_664 := gx BK664 hg; replace BK664 := kx BK664 hb; have NB716_739 := lx BK716 hg; have NB739_716 := gx BK716 hg; replace BK716 := kx BK716 hb; have NB730_739 := lx BK730 hg; have NB739_730 := gx BK730 hg; replace BK730 := kx BK730 hb; clear hb hbox hg; refine hK.out _ _ ⟨bc BK730 0, bc BK730 1, bc BK663 0, bc BK663 1⟩ (fun hHeld => ?_); clear hK K; refine nm_ (some 27) ?_; exact norm_ (by simp only [putAll, Act.put, List.setIfInBounds_toArray, List.set_cons_zero, List.set_cons_succ]) (hCont (.slice Ao491 t731.length co491, v736, gb739) _ ⟨hHeld, (Kd.R_mono (rx HO728) (fun _ hk => ⟨hk.2, ⟨hk.1.1, hk.1.2⟩⟩)), (rx HO733), (Kd.R_mono (rx HO737) (fun _ hk => ⟨hk.1.2, ⟨hk.1.1.2, hk.2⟩⟩)), (Kd.R_mono (rx HO_717001) (fun _ hk => ⟨hk.1.1, ⟨hk.2, hk.1.2⟩⟩)), (bx BK663), (bx BK664), (bx BK716), (bx BK730), (bx BK739), GW739.out, GE739.out, NB663_739.out, NB739_663.out, NB664_739.out, NB739_664.out, NB716_739.out, NB739_716.out, NB730_739.out, NB739_730.out, (hb5 HB GE663 GE664 GE716 GE730 GE739)⟩)
            ·skip
             refine bs_ 27 #[.int .i64 0, .slice none 0 0] 25 ?_; intro gb739 hg w491 hbox hb; replace HO_717001 := ry HO_717001 hb; replace HO728 := ry HO728 hb; replace HO733 := ry HO733 hb; have BK739 := Aside0.mk (hbox); have GW739 := wq (hb4 HB GE663 GE664 GE716 GE730) hg; have GE739 := wq (hb4 HB GE663 GE664 GE716 GE730) hg; replace HB := hs (hb4 HB GE663 GE664 GE716 GE730) hb; have NB663_739 := lx BK663 hg; have NB739_663 := gx BK663 hg; replace BK663 := kx BK663 hb; have NB664_739 := lx BK664 hg; have NB739_664 := gx BK664 hg; replace BK664 := kx BK664 hb; have NB716_739 := lx BK716 hg; have NB739_716 := gx BK716 hg; replace BK716 := kx BK716 hb; have NB730_739 := lx BK730 hg; have NB739_730 := gx BK730 hg; replace BK730 := kx BK730 hb; clear hb hbox hg; obtain ⟨Ao492, co492, eo492⟩ := Kd.R_slice HO733.out
             (first | subst eo492 | obtain ⟨rfl, rfl⟩ := sx eo492)
             refine hK.out _ _ ⟨bc BK730 0, bc BK730 1, bc BK663 0, bc BK663 1⟩ (fun hHeld => ?_); clear hK K; refine nm_ (some 27) ?_; refine on_ 4 (some 236) #[T_,T_,T_,T_,T_,F_,F_,F_,T_,F_,F_] HT_ (fun K hK => ?_); refine gs_ Try.func14 #[.agg #[.int .i64 t725, .slice Ao487 t726.length co487], .slice Ao492 t731.length co492] ?_
             with_reducible refine (edit_Induced.calls kj393 t725 _ _ t726 _ _ t731 t734 t735 t738 _ ?side1 ?side2 ?side3 ?side4 A473.out).mono ?_
             (case side1 => exact cr HO728)
             (case side2 => exact (Kd.R_reads' HO728.out).2.1)
             (case side3 => exact cr HO733)
             (case side4 => exact (Kd.R_reads' HO733.out).2.1)
             rintro e w493 ⟨v736, rfl, ho0, hb⟩; refine ⟨_, rfl, ?_⟩; replace HO733 := ry HO733 hb; have HO737 := Aside0.mk (Kd.R_lower (Kd.R_newB (Kd.R_new' (Kd.R_new' ho0 (Kd.R_lt (rx HO_717001))) (Kd.R_lt (rx HO728))) (bx BK664)) (below_size (hb5 HB GE663 GE664 GE716 GE730 GE739))); replace HO_717001 := el (rx HO_717001) ho0 hb; replace HO728 := el (rx HO728) ho0 hb; replace BK663 := kx BK663 hb; replace BK664 := kx BK664 hb; replace BK716 := kx BK716 hb; replace BK730 := kx BK730 hb; replace BK739 := kx BK739 hb; replace HB := hs (hb5 HB GE663 GE664 GE716 GE730 GE739) hb
             (try clear hb)
             (try clear hb2)
             (try clear hk)
             (try clear hi)
             (try clear ho0)
             refine hK.out _ _ ⟨bc BK730 0, bc BK730 1, bc BK663 0, bc BK663 1⟩ (fun hHeld => ?_); clear hK K; refine nm_ (some 236) ?_; refine pu_ 5 (some 231) #[T_,T_,T_,T_,T_,T_,F_,F_,T_,F_,F_] HT_ ?_; refine pu_ 6 (some 237) #[T_,T_,T_,T_,T_,T_,T_,F_,T_,F_,F_] HT_ ?_; refine pu_ 7 (some 238) (pf 9 11) HT_ ?_; exact norm_ (by simp only [putAll, Act.put, List.setIfInBounds_toArray, List.set_cons_zero, List.set_cons_succ]) (hCont (.slice Ao492 t731.length co492, v736, gb739) _ ⟨hHeld, (Kd.R_mono (rx HO728) (fun _ hk => ⟨hk.2, ⟨hk.1.1, hk.1.2⟩⟩)), (rx HO733), (Kd.R_mono (rx HO737) (fun _ hk => ⟨hk.1.2, ⟨hk.1.1.2, hk.2⟩⟩)), (Kd.R_mono (rx HO_717001) (fun _ hk => ⟨hk.1.1, ⟨hk.2, hk.1.2⟩⟩)), (bx BK663), (bx BK664), (bx BK716), (bx BK730), (bx BK739), GW739.out, GE739.out, NB663_739.out, NB739_663.out, NB664_739.out, NB739_664.out, NB716_739.out, NB739_716.out, NB730_739.out, NB739_730.out, (hb5 HB GE663 GE664 GE716 GE730 GE739)⟩)
           ·skip
            refine bs_ 27 #[.int .i64 0, .slice none 0 0] 25 ?_; intro gb739 hg w490 hbox hb; replace HO_717001 := ry HO_717001 hb; replace HO728 := ry HO728 hb; have BK739 := Aside0.mk (hbox); have GW739 := wq (hb4 HB GE663 GE664 GE716 GE730) hg; have GE739 := wq (hb4 HB GE663 GE664 GE716 GE730) hg; replace HB := hs (hb4 HB GE663 GE664 GE716 GE730) hb; have NB663_739 := lx BK663 hg; have NB739_663 := gx BK663 hg; replace BK663 := kx BK663 hb; have NB664_739 := lx BK664 hg; have NB739_664 := gx BK664 hg; replace BK664 := kx BK664 hb; have NB716_739 := lx BK716 hg; have NB739_716 := gx BK716 hg; replace BK716 := kx BK716 hb; have NB730_739 := lx BK730 hg; have NB739_730 := gx BK730 hg; replace BK730 := kx BK730 hb; clear hb hbox hg; refine hK.out _ _ ⟨bc BK730 0, bc BK730 1, bc BK663 0, bc BK663 1⟩ (fun hHeld => ?_); clear hK K; refine nm_ (some 27) ?_; refine on_ 3 (some 235) #[T_,T_,T_,T_,F_,F_,F_,F_,T_,F_,F_] HT_ (fun K hK => ?_); refine gs_ Try.func17 #[.int .i64 0, .int .i64 a0_0] ?_
            with_reducible refine (tangramlaw14_from.calls kj393 0 a0_0 t731 _ A472.out).mono ?_
            rintro e w491 ⟨v732, rfl, ho0, hb⟩; refine ⟨_, rfl, ?_⟩; replace HO_717001 := ry HO_717001 hb; replace HO728 := ry HO728 hb; have HO733 := Aside0.mk (Kd.R_lower ho0 (below_size (hb5 HB GE663 GE664 GE716 GE730 GE739))); replace BK663 := kx BK663 hb; replace BK664 := kx BK664 hb; replace BK716 := kx BK716 hb; replace BK730 := kx BK730 hb; replace BK739 := kx BK739 hb; replace HB := hs (hb5 HB GE663 GE664 GE716 GE730 GE739) hb
            (try clear hb)
            (try clear hb2)
            (try clear hk)
            (try clear hi)
            (try clear ho0)
            obtain ⟨Ao492, co492, eo492⟩ := Kd.R_slice HO733.out
            (first | subst eo492 | obtain ⟨rfl, rfl⟩ := sx eo492)
            refine hK.out _ _ ⟨bc BK730 0, bc BK730 1, bc BK663 0, bc BK663 1⟩ (fun hHeld => ?_); clear hK K; refine nm_ (some 235) ?_; refine on_ 4 (some 236) #[T_,T_,T_,T_,T_,F_,F_,F_,T_,F_,F_] HT_ (fun K hK => ?_); refine gs_ Try.func14 #[.agg #[.int .i64 t725, .slice Ao487 t726.length co487], .slice Ao492 t731.length co492] ?_
            with_reducible refine (edit_Induced.calls kj393 t725 _ _ t726 _ _ t731 t734 t735 t738 _ ?side1 ?side2 ?side3 ?side4 A473.out).mono ?_
            (case side1 => exact cr HO728)
            (case side2 => exact (Kd.R_reads' HO728.out).2.1)
            (case side3 => exact cr HO733)
            (case side4 => exact (Kd.R_reads' HO733.out).2.1)
            rintro e w493 ⟨v736, rfl, ho0, hb⟩; refine ⟨_, rfl, ?_⟩; replace HO733 := ry HO733 hb; have HO737 := Aside0.mk (Kd.R_lower (Kd.R_newB (Kd.R_new' (Kd.R_new' ho0 (Kd.R_lt (rx HO_717001))) (Kd.R_lt (rx HO728))) (bx BK664)) (below_size (hb5 HB GE663 GE664 GE716 GE730 GE739))); replace HO_717001 := el (rx HO_717001) ho0 hb; replace HO728 := el (rx HO728) ho0 hb; replace BK663 := kx BK663 hb; replace BK664 := kx BK664 hb; replace BK716 := kx BK716 hb; replace BK730 := kx BK730 hb; replace BK739 := kx BK739 hb; replace HB := hs (hb5 HB GE663 GE664 GE716 GE730 GE739) hb
            (try clear hb)
            (try clear hb2)
            (try clear hk)
            (try clear hi)
            (try clear ho0)
            refine hK.out _ _ ⟨bc BK730 0, bc BK730 1, bc BK663 0, bc BK663 1⟩ (fun hHeld => ?_); clear hK K; refine nm_ (some 236) ?_; refine pu_ 5 (some 231) #[T_,T_,T_,T_,T_,T_,F_,F_,T_,F_,F_] HT_ ?_; refine pu_ 6 (some 237) #[T_,T_,T_,T_,T_,T_,T_,F_,T_,F_,F_] HT_ ?_; refine pu_ 7 (some 238) (pf 9 11) HT_ ?_; exact norm_ (by simp only [putAll, Act.put, List.setIfInBounds_toArray, List.set_cons_zero, List.set_cons_succ]) (hCont (.slice Ao492 t731.length co492, v736, gb739) _ ⟨hHeld, (Kd.R_mono (rx HO728) (fun _ hk => ⟨hk.2, ⟨hk.1.1, hk.1.2⟩⟩)), (rx HO733), (Kd.R_mono (rx HO737) (fun _ hk => ⟨hk.1.2, ⟨hk.1.1.2, hk.2⟩⟩)), (Kd.R_mono (rx HO_717001) (fun _ hk => ⟨hk.1.1, ⟨hk.2, hk.1.2⟩⟩)), (bx BK663), (bx BK664), (bx BK716), (bx BK730), (bx BK739), GW739.out, GE739.out, NB663_739.out, NB739_663.out, NB664_739.out, NB739_664.out, NB716_739.out, NB739_716.out, NB730_739.out, NB739_730.out, (hb5 HB GE663 GE664 GE716 GE730 GE739)⟩)
          rintro ⟨v732, v736, gb739⟩ w494 ⟨hS_, h0_, h1_, h2_, h3_, h4_, h5_, h6_, h7_, h8_, h9_, h10_, h11_, h12_, h13_, h14_, h15_, h16_, h17_, h18_, h19_⟩; have n0_ : Aside0 (Kd.R k46 46 w494 w.heap.size (fun k_ => some k_ ≠ (v736 : Value).ownBlock ∧ some k_ ≠ (.slice Ao403 t712.length co403 : Value).ownBlock ∧ k_ ≠ gb664) (.slice Ao487 t726.length co487) t726) := ⟨h0_⟩; have n1_ : Aside0 (Kd.R (Kd.int .i64) 3 w494 w.heap.size (fun _ => True) v732 t731) := ⟨h1_⟩; have n2_ : Aside0 (Kd.R k46 46 w494 w.heap.size (fun k_ => some k_ ≠ (.slice Ao487 t726.length co487 : Value).ownBlock ∧ some k_ ≠ (.slice Ao403 t712.length co403 : Value).ownBlock ∧ k_ ≠ gb664) v736 t735) := ⟨h2_⟩; have n3_ : Aside0 (Kd.R k46 46 w494 w.heap.size (fun k_ => some k_ ≠ (.slice Ao487 t726.length co487 : Value).ownBlock ∧ some k_ ≠ (v736 : Value).ownBlock ∧ k_ ≠ gb664) (.slice Ao403 t712.length co403) t712) := ⟨h3_⟩; have n4_ : Aside0 (w494.heap[gb663]? = some (.cells #[.int .i64 a0_0, .slice A0_1 l0_1.length c0_1] 25 (0, 0))) := ⟨h4_⟩; have n5_ : Aside0 (w494.heap[gb664]? = some (.cells #[.int .i64 a2_0, .int .i64 a2_1] 46 (0, 0))) := ⟨h5_⟩; have n6_ : Aside0 (w494.heap[gb716]? = some (.cells #[.int .i64 t711, .slice Ao403 t712.length co403] 25 (0, 0))) := ⟨h6_⟩; have n7_ : Aside0 (w494.heap[gb730]? = some (.cells #[.int .i64 t725, .slice Ao487 t726.length co487] 25 (0, 0))) := ⟨h7_⟩; have n8_ : Aside0 (w494.heap[gb739]? = some (.cells #[.int .i64 0, .slice none 0 0] 25 (0, 0))) := ⟨h8_⟩; have n9_ : Aside0 (w.heap.size ≤ gb739) := ⟨h9_⟩
          have n10_ : Aside0 (w.heap.size ≤ gb739) := ⟨h10_⟩; have n11_ : Aside0 (gb663 ≠ gb739) := ⟨h11_⟩; have n12_ : Aside0 (gb739 ≠ gb663) := ⟨h12_⟩; have n13_ : Aside0 (gb664 ≠ gb739) := ⟨h13_⟩; have n14_ : Aside0 (gb739 ≠ gb664) := ⟨h14_⟩; have n15_ : Aside0 (gb716 ≠ gb739) := ⟨h15_⟩; have n16_ : Aside0 (gb739 ≠ gb716) := ⟨h16_⟩; have n17_ : Aside0 (gb730 ≠ gb739) := ⟨h17_⟩; have n18_ : Aside0 (gb739 ≠ gb730) := ⟨h18_⟩; have n19_ : Aside0 (Below w.heap.size w w494) := ⟨h19_⟩; clear HO_717001 HO728 BK663 BK664 BK716 BK730 HB h0_ h1_ h2_ h3_ h4_ h5_ h6_ h7_ h8_ h9_ h10_ h11_ h12_ h13_ h14_ h15_ h16_ h17_ h18_ h19_; have HO728 := n0_; have HO733 := n1_; have HO737 := n2_; have HO_717001 := n3_; have BK663 := n4_; have BK664 := n5_; have BK716 := n6_; have BK730 := n7_; have BK739 := n8_; have GW739 := n9_; have GE739 := n10_; have NB663_739 := n11_; have NB739_663 := n12_; have NB664_739 := n13_; have NB739_664 := n14_; have NB716_739 := n15_; have NB739_716 := n16_; have NB730_739 := n17_; have NB739_730 := n18_; have HB := n19_; clear n0_ n1_ n2_ n3_ n4_ n5_ n6_ n7_ n8_ n9_ n10_ n11_ n12_ n13_ n14_ n15_ n16_ n17_ n18_ n19_; have hHeld : w494.cell? ⟨gb730, 0, none⟩ = some (.int .i64 t725) ∧ w494.cell? ⟨gb730, 1, none⟩ = some (.slice Ao487 t726.length co487) ∧ w494.cell? ⟨gb663, 0, none⟩ = some (.int .i64 a0_0) ∧ w494.cell? ⟨gb663, 1, none⟩ = some (.slice A0_1 l0_1.length c0_1) := hS_; obtain ⟨Ao496, co496, eo496⟩ := Kd.R_slice HO737.out
          (first | subst eo496 | obtain ⟨rfl, rfl⟩ := sx eo496)
          refine norm_ (a' := ?_) ?_ ?_; rotate_left
          ·simp only [putAll, Act.put, List.setIfInBounds_toArray, List.set_cons_zero, List.set_cons_succ]; rfl
          refine on_ 9 none (pf 10 11) HT_ (fun K hK => ?_); have hs495 : w494.cell? ⟨gb739, 0, none⟩ = some (.int .i64 0) := bc BK739 0; have hfs495 := blk_frozen BK739.out 0; have hns495_0 := NB663_739.out; have hns495_1 := NB664_739.out; have hns495_2 := NB716_739.out; have hns495_3 := NB730_739.out; have hms495_0 := NB739_663.out; have hms495_1 := NB739_664.out; have hms495_2 := NB739_716.out; have hms495_3 := NB739_730.out; have hs497 : w494.cell? ⟨gb739, 1, none⟩ = some (.slice none 0 0) := bc BK739 1; have hfs497 := blk_frozen BK739.out 1; have hns497_0 := NB663_739.out; have hns497_1 := NB664_739.out; have hns497_2 := NB716_739.out; have hns497_3 := NB730_739.out; have hms497_0 := NB739_663.out; have hms497_1 := NB739_664.out; have hms497_2 := NB739_716.out; have hms497_3 := NB739_730.out; refine skip_ (w1 := ?_) (by rfl) rfl ?_ ?_; rotate_left
          ·go_simp; rfl
          refine hK.out _ _ ⟨((cell_far (p := ⟨gb739, _, none⟩) NB730_739.out _).trans (((cell_far (p := ⟨gb739, _, none⟩) NB730_739.out _).trans (hHeld.1)))), ((cell_far (p := ⟨gb739, _, none⟩) NB730_739.out _).trans (((cell_far (p := ⟨gb739, _, none⟩) NB730_739.out _).trans (hHeld.2.1)))), ((cell_far (p := ⟨gb739, _, none⟩) NB663_739.out _).trans (((cell_far (p := ⟨gb739, _, none⟩) NB663_739.out _).trans (hHeld.2.2.1)))), ((cell_far (p := ⟨gb739, _, none⟩) NB663_739.out _).trans (((cell_far (p := ⟨gb739, _, none⟩) NB663_739.out _).trans (hHeld.2.2.2))))⟩ (fun hHeld => ?_); clear hK K; refine pu_ 10 (some 28) (pf 11 11) HT_ ?_; refine done_ (done_of HT_.out (by kernel_rfl)) ?_; have H := HH_.out; clear HH_
          by_cases c474 : t738 = 0
          ·rw [if_pos c474] at H; have c474b0 : (t738 == 0) = true := beq_iff_eq.mpr c474; have c474b1 : (t738 != 0) = false := bne_eq_false_iff_eq.mpr c474; clear c474
           by_cases c475 : t725 = (wrap64 (a0_0 + 1))
           ·rw [if_pos c475] at H; have c475b0 : (t725 == (wrap64 (a0_0 + 1))) = true := beq_iff_eq.mpr c475; have c475b1 : (t725 != (wrap64 (a0_0 + 1))) = false := bne_eq_false_iff_eq.mpr c475; clear c475
            by_cases c476 : (t726.length : Int) = (wrap64 ((l0_1.length : Int) + a0_0))
            ·rw [if_pos c476] at H; have c476b0 : ((t726.length : Int) == (wrap64 ((l0_1.length : Int) + a0_0))) = true := beq_iff_eq.mpr c476; have c476b1 : ((t726.length : Int) != (wrap64 ((l0_1.length : Int) + a0_0))) = false := bne_eq_false_iff_eq.mpr c476; clear c476; replace H := Option.bind_eq_some_iff.mp H; obtain ⟨t740, A4770, H⟩ := H; (try dsimp only at H); have A477 := Aside0.mk A4770; clear A4770; obtain rfl := Option.some.inj H; have hnb498 := NB730_739.out; have hnc498 := NB739_730.out; have hcz499_0 : w494.cell? ⟨gb730, 0, none⟩ = some (.int .i64 t725) := bc BK730 0; have hcz499_1 : w494.cell? ⟨gb730, 1, none⟩ = some (.slice Ao487 t726.length co487) := bc BK730 1; have hfz499_0 := blk_frozen BK730.out 0; have hfz499_1 := blk_frozen BK730.out 1; have hnb500 := NB663_739.out; have hnc500 := NB739_663.out; have hcz501_0 : w494.cell? ⟨gb663, 0, none⟩ = some (.int .i64 a0_0) := bc BK663 0; have hcz501_1 : w494.cell? ⟨gb663, 1, none⟩ = some (.slice A0_1 l0_1.length c0_1) := bc BK663 1; have hfz501_0 := blk_frozen BK663.out 0; have hfz501_1 := blk_frozen BK663.out 1; have hnb502 := NB739_664.out; have hnc502 := NB664_739.out; have hnb503 := NB739_716.out; have hnc503 := NB716_739.out; have hcz504_0 : w494.cell? ⟨gb739, 0, none⟩ = some (.int .i64 0) := bc BK739 0; have hcz504_1 : w494.cell? ⟨gb739, 1, none⟩ = some (.slice none 0 0) := bc BK739 1; have hfz504_0 := blk_frozen BK739.out 0; have hfz504_1 := blk_frozen BK739.out 1
             try go_wp2_with (first | (go_at_call 15; (with_reducible refine (tangramref14_Same.calls kj393 t734 _ _ t735 a0_0 _ _ l0_1 t740 _ ?side1 ?side2 ?side3 ?side4 A477.out).mono ?_); (case side1 => refine (Kd.R_reads' (e := 46) (base := w.heap.size) (ok := fun k_ => (some k_ ≠ (.slice Ao487 t726.length co487 : Value).ownBlock ∧ (some k_ ≠ (.slice Ao403 t712.length co403 : Value).ownBlock ∧ k_ ≠ gb664))) (n := t735.length) (c := co496) ?_).2.2; exact (rf HO737 BK739)); (case side2 => exact (Kd.R_reads' HO737.out).2.1); (case side3 => exact Kd.C_below HR0_1.out (hb5 HB GE663 GE664 GE716 GE730 GE739)); (case side4 => exact HC0_1.out); rintro e w505 ⟨rfl, hb⟩; replace HO_717001 := Aside0.mk (Kd.R_below (rf HO_717001 BK739) hb); replace HO728 := Aside0.mk (Kd.R_below (rf HO728 BK739) hb); replace HO733 := Aside0.mk (Kd.R_below (rf HO733 BK739) hb); replace HO737 := Aside0.mk (Kd.R_below (rf HO737 BK739) hb); replace BK663 := kb (bx1 BK663 NB663_739) hb; replace BK664 := kb (bx1 BK664 NB664_739) hb; replace BK716 := kb (bx1 BK716 NB716_739) hb; replace BK730 := kb (bx1 BK730 NB730_739) hb; replace BK739 := Aside0.mk (blk_below (g := gb739) (o := .cells #[.int .i64 t734, .slice Ao496 t735.length co496] 25 (0, 0)) (bp BK739) hb); replace HB := hs (hb5 HB GE663 GE664 GE716 GE730 GE739) hb; (try clear hb); (try clear hb2); (try clear hk); (try clear hi)))
             go_ret
             exact ⟨by first | rfl | (simp [errW_none, errW_some] <;> rfl) | (simp [*, errW_none, errW_some] <;> rfl), hb5 HB GE663 GE664 GE716 GE730 GE739⟩
            ·rw [if_neg c476] at H; have c476b0 : ((t726.length : Int) == (wrap64 ((l0_1.length : Int) + a0_0))) = false := beq_eq_false_iff_ne.mpr c476; have c476b1 : ((t726.length : Int) != (wrap64 ((l0_1.length : Int) + a0_0))) = true := bne_iff_ne.mpr c476; obtain rfl := Option.some.inj H; have hnb526 := NB730_739.out; have hnc526 := NB739_730.out; have hcz527_0 : w494.cell? ⟨gb730, 0, none⟩ = some (.int .i64 t725) := bc BK730 0; have hcz527_1 : w494.cell? ⟨gb730, 1, none⟩ = some (.slice Ao487 t726.length co487) := bc BK730 1; have hfz527_0 := blk_frozen BK730.out 0; have hfz527_1 := blk_frozen BK730.out 1; have hnb528 := NB663_739.out; have hnc528 := NB739_663.out; have hcz529_0 : w494.cell? ⟨gb663, 0, none⟩ = some (.int .i64 a0_0) := bc BK663 0; have hcz529_1 : w494.cell? ⟨gb663, 1, none⟩ = some (.slice A0_1 l0_1.length c0_1) := bc BK663 1; have hfz529_0 := blk_frozen BK663.out 0; have hfz529_1 := blk_frozen BK663.out 1
             try go_wp2
             go_ret
             exact ⟨by first | rfl | (simp [errW_none, errW_some] <;> rfl) | (simp [*, errW_none, errW_some] <;> rfl), hb5 HB GE663 GE664 GE716 GE730 GE739⟩
           ·rw [if_neg c475] at H; have c475b0 : (t725 == (wrap64 (a0_0 + 1))) = false := beq_eq_false_iff_ne.mpr c475; have c475b1 : (t725 != (wrap64 (a0_0 + 1))) = true := bne_iff_ne.mpr c475; obtain rfl := Option.some.inj H; have hnb550 := NB730_739.out; have hnc550 := NB739_730.out; have hcz551_0 : w494.cell? ⟨gb730, 0, none⟩ = some (.int .i64 t725) := bc BK730 0; have hcz551_1 : w494.cell? ⟨gb730, 1, none⟩ = some (.slice Ao487 t726.length co487) := bc BK730 1; have hfz551_0 := blk_frozen BK730.out 0; have hfz551_1 := blk_frozen BK730.out 1; have hnb552 := NB663_739.out; have hnc552 := NB739_663.out; have hcz553_0 : w494.cell? ⟨gb663, 0, none⟩ = some (.int .i64 a0_0) := bc BK663 0; have hcz553_1 : w494.cell? ⟨gb663, 1, none⟩ = some (.slice A0_1 l0_1.length c0_1) := bc BK663 1; have hfz553_0 := blk_frozen BK663.out 0; have hfz553_1 := blk_frozen BK663.out 1
            try go_wp2
            go_ret
            exact ⟨by first | rfl | (simp [errW_none, errW_some] <;> rfl) | (simp [*, errW_none, errW_some] <;> rfl), hb5 HB GE663 GE664 GE716 GE730 GE739⟩
          ·rw [if_neg c474] at H; have c474b0 : (t738 == 0) = false := beq_eq_false_iff_ne.mpr c474; have c474b1 : (t738 != 0) = true := bne_iff_ne.mpr c474; obtain rfl := Option.some.inj H
           try go_wp2
           go_ret
           exact ⟨by first | rfl | (simp [errW_none, errW_some] <;> rfl) | (simp [*, errW_none, errW_some] <;> rfl), hb5 HB GE663 GE664 GE716 GE730 GE739⟩
         ·rw [if_neg c471] at H; have c471b0 : (t729 == 0) = false := beq_eq_false_iff_ne.mpr c471; have c471b1 : (t729 != 0) = true := bne_iff_ne.mpr c471
          by_cases c574 : t729 = 141
          ·rw [if_pos c574] at H; have c574b0 : (t729 == 141) = true := beq_iff_eq.mpr c574; have c574b1 : (t729 != 141) = false := bne_eq_false_iff_eq.mpr c574; clear c574
           by_cases c575 : a0_0 ≥ 1048576
           ·rw [if_pos c575] at H; have c575b0 : decide (1048576 ≤ a0_0) = true := decide_eq_true c575; clear c575; obtain rfl := Option.some.inj H
            go_wp2_with (first | ((with_reducible refine gate_callee (f := 33) rfl ?_); refine gl_ (some 210) Try.func33 #[.agg #[.int .i64 a0_0, .slice A0_1 l0_1.length c0_1]] ?_; (with_reducible refine (edit_Apex.calls kj393 a0_0 _ _ l0_1 t725 t726 t729 _ ?side1 ?side2 A470.out).mono ?_); (case side1 => repeat (first | exact (Kd.C_below HR0_1.out HB.out) | (with_reducible refine Kd.C_alloc ?_ _) | (with_reducible refine Kd.C_drewN ?_ _) | (with_reducible refine Kd.C_drew ?_))); (case side2 => exact HC0_1.out); rintro e w579 ⟨v727, rfl, ho0, hb⟩; refine ⟨_, rfl, ?_⟩; have HO728 := Aside0.mk (Kd.R_lower (Kd.R_newB (Kd.R_new' ho0 (Kd.R_lt (rx HO_717001))) (bx BK664)) (below_size (hb3 HB GE663 GE664 GE716))); replace HO_717001 := el (rx HO_717001) ho0 hb; replace BK663 := kx BK663 hb; replace BK664 := kx BK664 hb; replace BK716 := kx BK716 hb; replace HB := hs (hb3 HB GE663 GE664 GE716) hb; (try clear hb); (try clear hb2); (try clear hk); (try clear hi); (try clear ho0)) | ((with_reducible refine gate_dst (N := 25) rfl ?_); (try (refine gate_guard (by rfl) ?_; dsimp only)); refine be_ 25 #[.int .i64 0, .slice none 0 0] 25 ?_; intro gb730 hg w580 hbox hb; replace HO_717001 := ry HO_717001 hb; replace HO728 := ry HO728 hb; have BK730 := Aside0.mk (hbox); have GW730 := wq (hb3 HB GE663 GE664 GE716) hg; have GE730 := wq (hb3 HB GE663 GE664 GE716) hg; replace HB := hs (hb3 HB GE663 GE664 GE716) hb; have NB663_730 := lx BK663 hg; have NB730_663 := gx BK663 hg; replace BK663 := kx BK663 hb; have NB664_730 := lx BK664 hg; have NB730_664 := gx BK664 hg; replace BK664 := kx BK664 hb; have NB716_730 := lx BK716 hg; have NB730_716 := gx BK716 hg; replace BK716 := kx BK716 hb; clear hb hbox hg; have hnb581 := NB730_663.out; have hnc581 := NB663_730.out; have hnb582 := NB730_664.out; have hnc582 := NB664_730.out; have hnb583 := NB730_716.out; have hnc583 := NB716_730.out; have hcz584_0 : w580.cell? ⟨gb730, 0, none⟩ = some (.int .i64 0) := bc BK730 0; have hcz584_1 : w580.cell? ⟨gb730, 1, none⟩ = some (.slice none 0 0) := bc BK730 1; have hfz584_0 := blk_frozen BK730.out 0; have hfz584_1 := blk_frozen BK730.out 1; obtain ⟨Ao585, co585, eo585⟩ := Kd.R_slice HO728.out; subst eo585; have hcz586_0 : w580.cell? ⟨gb663, 0, none⟩ = some (.int .i64 a0_0) := bc BK663 0; have hcz586_1 : w580.cell? ⟨gb663, 1, none⟩ = some (.slice A0_1 l0_1.length c0_1) := bc BK663 1; have hfz586_0 := blk_frozen BK663.out 0; have hfz586_1 := blk_frozen BK663.out 1))
            go_ret
            exact ⟨by first | rfl | (simp [errW_none, errW_some] <;> rfl) | (simp [*, errW_none, errW_some] <;> rfl), hb4 HB GE663 GE664 GE716 GE730⟩
           ·rw [if_neg c575] at H; have c575b0 : decide (1048576 ≤ a0_0) = false := decide_eq_false c575; clear c575; obtain rfl := Option.some.inj H
            go_wp2_with (first | ((with_reducible refine gate_callee (f := 33) rfl ?_); refine gl_ (some 210) Try.func33 #[.agg #[.int .i64 a0_0, .slice A0_1 l0_1.length c0_1]] ?_; (with_reducible refine (edit_Apex.calls kj393 a0_0 _ _ l0_1 t725 t726 t729 _ ?side1 ?side2 A470.out).mono ?_); (case side1 => repeat (first | exact (Kd.C_below HR0_1.out HB.out) | (with_reducible refine Kd.C_alloc ?_ _) | (with_reducible refine Kd.C_drewN ?_ _) | (with_reducible refine Kd.C_drew ?_))); (case side2 => exact HC0_1.out); rintro e w590 ⟨v727, rfl, ho0, hb⟩; refine ⟨_, rfl, ?_⟩; have HO728 := Aside0.mk (Kd.R_lower (Kd.R_newB (Kd.R_new' ho0 (Kd.R_lt (rx HO_717001))) (bx BK664)) (below_size (hb3 HB GE663 GE664 GE716))); replace HO_717001 := el (rx HO_717001) ho0 hb; replace BK663 := kx BK663 hb; replace BK664 := kx BK664 hb; replace BK716 := kx BK716 hb; replace HB := hs (hb3 HB GE663 GE664 GE716) hb; (try clear hb); (try clear hb2); (try clear hk); (try clear hi); (try clear ho0)) | ((with_reducible refine gate_dst (N := 25) rfl ?_); (try (refine gate_guard (by rfl) ?_; dsimp only)); refine be_ 25 #[.int .i64 0, .slice none 0 0] 25 ?_; intro gb730 hg w591 hbox hb; replace HO_717001 := ry HO_717001 hb; replace HO728 := ry HO728 hb; have BK730 := Aside0.mk (hbox); have GW730 := wq (hb3 HB GE663 GE664 GE716) hg; have GE730 := wq (hb3 HB GE663 GE664 GE716) hg; replace HB := hs (hb3 HB GE663 GE664 GE716) hb; have NB663_730 := lx BK663 hg; have NB730_663 := gx BK663 hg; replace BK663 := kx BK663 hb; have NB664_730 := lx BK664 hg; have NB730_664 := gx BK664 hg; replace BK664 := kx BK664 hb; have NB716_730 := lx BK716 hg; have NB730_716 := gx BK716 hg; replace BK716 := kx BK716 hb; clear hb hbox hg; have hnb592 := NB730_663.out; have hnc592 := NB663_730.out; have hnb593 := NB730_664.out; have hnc593 := NB664_730.out; have hnb594 := NB730_716.out; have hnc594 := NB716_730.out; have hcz595_0 : w591.cell? ⟨gb730, 0, none⟩ = some (.int .i64 0) := bc BK730 0; have hcz595_1 : w591.cell? ⟨gb730, 1, none⟩ = some (.slice none 0 0) := bc BK730 1; have hfz595_0 := blk_frozen BK730.out 0; have hfz595_1 := blk_frozen BK730.out 1; obtain ⟨Ao596, co596, eo596⟩ := Kd.R_slice HO728.out; subst eo596; have hcz597_0 : w591.cell? ⟨gb663, 0, none⟩ = some (.int .i64 a0_0) := bc BK663 0; have hcz597_1 : w591.cell? ⟨gb663, 1, none⟩ = some (.slice A0_1 l0_1.length c0_1) := bc BK663 1; have hfz597_0 := blk_frozen BK663.out 0; have hfz597_1 := blk_frozen BK663.out 1))
            go_ret
            exact ⟨by first | rfl | (simp [errW_none, errW_some] <;> rfl) | (simp [*, errW_none, errW_some] <;> rfl), hb4 HB GE663 GE664 GE716 GE730⟩
          ·rw [if_neg c574] at H; have c574b0 : (t729 == 141) = false := beq_eq_false_iff_ne.mpr c574; have c574b1 : (t729 != 141) = true := bne_iff_ne.mpr c574; obtain rfl := Option.some.inj H
           go_wp2_with (first | ((with_reducible refine gate_callee (f := 33) rfl ?_); refine gl_ (some 210) Try.func33 #[.agg #[.int .i64 a0_0, .slice A0_1 l0_1.length c0_1]] ?_; (with_reducible refine (edit_Apex.calls kj393 a0_0 _ _ l0_1 t725 t726 t729 _ ?side1 ?side2 A470.out).mono ?_); (case side1 => repeat (first | exact (Kd.C_below HR0_1.out HB.out) | (with_reducible refine Kd.C_alloc ?_ _) | (with_reducible refine Kd.C_drewN ?_ _) | (with_reducible refine Kd.C_drew ?_))); (case side2 => exact HC0_1.out); rintro e w601 ⟨v727, rfl, ho0, hb⟩; refine ⟨_, rfl, ?_⟩; have HO728 := Aside0.mk (Kd.R_lower (Kd.R_newB (Kd.R_new' ho0 (Kd.R_lt (rx HO_717001))) (bx BK664)) (below_size (hb3 HB GE663 GE664 GE716))); replace HO_717001 := el (rx HO_717001) ho0 hb; replace BK663 := kx BK663 hb; replace BK664 := kx BK664 hb; replace BK716 := kx BK716 hb; replace HB := hs (hb3 HB GE663 GE664 GE716) hb; (try clear hb); (try clear hb2); (try clear hk); (try clear hi); (try clear ho0)) | ((with_reducible refine gate_dst (N := 25) rfl ?_); (try (refine gate_guard (by rfl) ?_; dsimp only)); refine be_ 25 #[.int .i64 0, .slice none 0 0] 25 ?_; intro gb730 hg w602 hbox hb; replace HO_717001 := ry HO_717001 hb; replace HO728 := ry HO728 hb; have BK730 := Aside0.mk (hbox); have GW730 := wq (hb3 HB GE663 GE664 GE716) hg; have GE730 := wq (hb3 HB GE663 GE664 GE716) hg; replace HB := hs (hb3 HB GE663 GE664 GE716) hb; have NB663_730 := lx BK663 hg; have NB730_663 := gx BK663 hg; replace BK663 := kx BK663 hb; have NB664_730 := lx BK664 hg; have NB730_664 := gx BK664 hg; replace BK664 := kx BK664 hb; have NB716_730 := lx BK716 hg; have NB730_716 := gx BK716 hg; replace BK716 := kx BK716 hb; clear hb hbox hg; have hnb603 := NB730_663.out; have hnc603 := NB663_730.out; have hnb604 := NB730_664.out; have hnc604 := NB664_730.out; have hnb605 := NB730_716.out; have hnc605 := NB716_730.out; have hcz606_0 : w602.cell? ⟨gb730, 0, none⟩ = some (.int .i64 0) := bc BK730 0; have hcz606_1 : w602.cell? ⟨gb730, 1, none⟩ = some (.slice none 0 0) := bc BK730 1; have hfz606_0 := blk_frozen BK730.out 0; have hfz606_1 := blk_frozen BK730.out 1; obtain ⟨Ao607, co607, eo607⟩ := Kd.R_slice HO728.out; subst eo607))
           go_ret
           exact ⟨by first | rfl | (simp [errW_none, errW_some] <;> rfl) | (simp [*, errW_none, errW_some] <;> rfl), hb4 HB GE663 GE664 GE716 GE730⟩
  ·replace c7 := Bool.eq_false_iff.mpr c7; subst c7; rw [if_neg (show ¬ (false = true) by decide)] at H; replace H := Option.bind_eq_some_iff.mp H; obtain ⟨⟨t667, t668, t671⟩, A6080, H⟩ := H; (try dsimp only at H); have A608 := Aside0.mk A6080; clear A6080; obtain rfl := Option.some.inj H
   go_enter Try.func8, Try.ntmps8
   go_wp2_with (first | ((with_reducible refine gate_dst (N := 3) rfl ?_); (try (refine gate_guard (by rfl) ?_; dsimp only)); refine be_ 3 #[.int .i64 a0_0, .slice A0_1 l0_1.length c0_1] 25 ?_; intro gb663 hg w609 hbox hb; have BK663 := Aside0.mk (hbox); have GW663 := wq (hb0 HB) hg; have GE663 := wq (hb0 HB) hg; replace HB := hs (hb0 HB) hb; clear hb hbox hg) | ((with_reducible refine gate_dst (N := 5) rfl ?_); (try (refine gate_guard (by rfl) ?_; dsimp only)); refine be_ 5 #[.int .i64 a2_0, .int .i64 a2_1] 46 ?_; intro gb664 hg w610 hbox hb; have BK664 := Aside0.mk (hbox); have GW664 := wq (hb1 HB GE663) hg; have GE664 := wq (hb1 HB GE663) hg; replace HB := hs (hb1 HB GE663) hb; have NB663_664 := lx BK663 hg; have NB664_663 := gx BK663 hg; replace BK663 := kx BK663 hb; clear hb hbox hg) | ((with_reducible refine gate_callee (f := 10) rfl ?_); refine gl_ (some 29) Try.func10 #[] ?_; (with_reducible refine (tangramlaw14_fixed.calls k  true _ A4.out).mono ?_); rintro e w611 ⟨rfl, hb⟩; refine ⟨_, rfl, ?_⟩; replace BK663 := kx BK663 hb; replace BK664 := kx BK664 hb; replace HB := hs (hb2 HB GE663 GE664) hb; (try clear hb); (try clear hb2); (try clear hk); (try clear hi); have hnb612 := NB663_664.out; have hnc612 := NB664_663.out; have hcz613_0 : w611.cell? ⟨gb663, 0, none⟩ = some (.int .i64 a0_0) := bc BK663 0; have hcz613_1 : w611.cell? ⟨gb663, 1, none⟩ = some (.slice A0_1 l0_1.length c0_1) := bc BK663 1; have hfz613_0 := blk_frozen BK663.out 0; have hfz613_1 := blk_frozen BK663.out 1) | ((with_reducible refine gate_callee (f := 11) rfl ?_); refine gl_ (some 32) Try.func11 #[.agg #[.int .i64 a0_0, .slice A0_1 l0_1.length c0_1]] ?_; (with_reducible refine (tangramref03_Valid.calls k a0_0 _ _ l0_1 false _ ?side1 ?side2 A6.out).mono ?_); (case side1 => repeat (first | exact (Kd.C_below HR0_1.out HB.out) | (with_reducible refine Kd.C_alloc ?_ _) | (with_reducible refine Kd.C_drewN ?_ _) | (with_reducible refine Kd.C_drew ?_))); (case side2 => exact HC0_1.out); rintro e w614 ⟨rfl, hb⟩; refine ⟨_, rfl, ?_⟩; replace BK663 := kx BK663 hb; replace BK664 := kx BK664 hb; replace HB := hs (hb2 HB GE663 GE664) hb; (try clear hb); (try clear hb2); (try clear hk); (try clear hi); have hcz615_0 : w614.cell? ⟨gb663, 0, none⟩ = some (.int .i64 a0_0) := bc BK663 0; have hcz615_1 : w614.cell? ⟨gb663, 1, none⟩ = some (.slice A0_1 l0_1.length c0_1) := bc BK663 1; have hfz615_0 := blk_frozen BK663.out 0; have hfz615_1 := blk_frozen BK663.out 1) | ((with_reducible refine gate_callee (f := 33) rfl ?_); refine gl_ (some 36) Try.func33 #[.agg #[.int .i64 a0_0, .slice A0_1 l0_1.length c0_1]] ?_; (with_reducible refine (edit_Apex.calls k a0_0 _ _ l0_1 t667 t668 t671 _ ?side1 ?side2 A608.out).mono ?_); (case side1 => repeat (first | exact (Kd.C_below HR0_1.out HB.out) | (with_reducible refine Kd.C_alloc ?_ _) | (with_reducible refine Kd.C_drewN ?_ _) | (with_reducible refine Kd.C_drew ?_))); (case side2 => exact HC0_1.out); rintro e w616 ⟨v669, rfl, ho0, hb⟩; refine ⟨_, rfl, ?_⟩; have HO670 := Aside0.mk (Kd.R_lower (Kd.R_newB ho0 (bx BK664)) (below_size (hb2 HB GE663 GE664))); replace BK663 := kx BK663 hb; replace BK664 := kx BK664 hb; replace HB := hs (hb2 HB GE663 GE664) hb; (try clear hb); (try clear hb2); (try clear hk); (try clear hi); (try clear ho0)) | ((with_reducible refine gate_dst (N := 7) rfl ?_); (try (refine gate_guard (by rfl) ?_; dsimp only)); refine be_ 7 #[.int .i64 0, .slice none 0 0] 25 ?_; intro gb672 hg w617 hbox hb; replace HO670 := ry HO670 hb; have BK672 := Aside0.mk (hbox); have GW672 := wq (hb2 HB GE663 GE664) hg; have GE672 := wq (hb2 HB GE663 GE664) hg; replace HB := hs (hb2 HB GE663 GE664) hb; have NB663_672 := lx BK663 hg; have NB672_663 := gx BK663 hg; replace BK663 := kx BK663 hb; have NB664_672 := lx BK664 hg; have NB672_664 := gx BK664 hg; replace BK664 := kx BK664 hb; clear hb hbox hg; have hnb618 := NB672_663.out; have hnc618 := NB663_672.out; have hnb619 := NB672_664.out; have hnc619 := NB664_672.out; have hcz620_0 : w617.cell? ⟨gb672, 0, none⟩ = some (.int .i64 0) := bc BK672 0; have hcz620_1 : w617.cell? ⟨gb672, 1, none⟩ = some (.slice none 0 0) := bc BK672 1; have hfz620_0 := blk_frozen BK672.out 0; have hfz620_1 := blk_frozen BK672.out 1; obtain ⟨Ao621, co621, eo621⟩ := Kd.R_slice HO670.out; subst eo621))
   go_ret
   exact ⟨by first | rfl | (simp [errW_none, errW_some] <;> rfl) | (simp [*, errW_none, errW_some] <;> rfl), hb3 HB GE663 GE664 GE672⟩
 ·replace c5 := Bool.eq_false_iff.mpr c5; subst c5; rw [if_neg (show ¬ (false = true) by decide)] at H; obtain rfl := Option.some.inj H
  go_enter Try.func8, Try.ntmps8
  go_wp2_with (first | ((with_reducible refine gate_dst (N := 3) rfl ?_); (try (refine gate_guard (by rfl) ?_; dsimp only)); refine be_ 3 #[.int .i64 a0_0, .slice A0_1 l0_1.length c0_1] 25 ?_; intro gb663 hg w622 hbox hb; have BK663 := Aside0.mk (hbox); have GW663 := wq (hb0 HB) hg; have GE663 := wq (hb0 HB) hg; replace HB := hs (hb0 HB) hb; clear hb hbox hg) | ((with_reducible refine gate_dst (N := 5) rfl ?_); (try (refine gate_guard (by rfl) ?_; dsimp only)); refine be_ 5 #[.int .i64 a2_0, .int .i64 a2_1] 46 ?_; intro gb664 hg w623 hbox hb; have BK664 := Aside0.mk (hbox); have GW664 := wq (hb1 HB GE663) hg; have GE664 := wq (hb1 HB GE663) hg; replace HB := hs (hb1 HB GE663) hb; have NB663_664 := lx BK663 hg; have NB664_663 := gx BK663 hg; replace BK663 := kx BK663 hb; clear hb hbox hg) | ((with_reducible refine gate_callee (f := 10) rfl ?_); refine gl_ (some 29) Try.func10 #[] ?_; (with_reducible refine (tangramlaw14_fixed.calls k  false _ A4.out).mono ?_); rintro e w624 ⟨rfl, hb⟩; refine ⟨_, rfl, ?_⟩; replace BK663 := kx BK663 hb; replace BK664 := kx BK664 hb; replace HB := hs (hb2 HB GE663 GE664) hb; (try clear hb); (try clear hb2); (try clear hk); (try clear hi)))
  go_ret
  exact ⟨by first | rfl | (simp [errW_none, errW_some] <;> rfl) | (simp [*, errW_none, errW_some] <;> rfl), hb2 HB GE663 GE664⟩

end Go.Proofs.Ytdaeaejmikhmcaa.PEditC
