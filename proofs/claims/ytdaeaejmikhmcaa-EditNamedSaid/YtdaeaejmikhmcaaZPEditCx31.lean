-- PRINTED by print.py (a twelfth state) out of the translation. Not trusted: Lean checks it.
import Derived.Test.YtdaeaejmikhmcaaZPEditCx0
import Derived.Test.YtdaeaejmikhmcaaZPEditCx6
import Derived.Test.YtdaeaejmikhmcaaZPEditCx8
import Derived.Test.YtdaeaejmikhmcaaZPEditCx9
import Derived.Test.YtdaeaejmikhmcaaZPEditCx18
import Derived.Test.YtdaeaejmikhmcaaZPEditCx19
import Derived.Test.YtdaeaejmikhmcaaZPEditCx20
import Derived.Test.YtdaeaejmikhmcaaZPEditCx26
import Derived.Test.YtdaeaejmikhmcaaZPEditCx30
namespace Go.Proofs.Ytdaeaejmikhmcaa.PEditC
open Go.RowKit Go.Proofs.YtdaeaejmikhmcaaW.PrintWords Go.Proofs.YtdaeaejmikhmcaaW.PrintLast Go.Proofs.YtdaeaejmikhmcaaW.PrintMore
open Go.Proofs.YtdaeaejmikhmcaaX
attribute [local go_sem] max2_int min2_int max_two min_two max_three min_three max_four min_four   -- for this text's walks alone
set_option linter.unusedVariables false
set_option linter.unusedSimpArgs false

/-! ### tangramlaw14_EditNamed: function 4 -/
mutual
def tangramlaw14_EditNamed.j0 : Nat → List Int → Bool → Int → List (S46) → Option (Bool)
 | 0, _, _, _, _ => none
 | k + 1, x1, x88, x386000, x386001 => if x88 = true then (some false) else ((some (([] : List Int) : List Int)).bind fun y430 => (if y430.length + x1.length < 17592186044416 then ((edit_Relabel.f k x386000 x386001 (y430 ++ x1)).bind fun bt436 => (if 0 ≤ x386000 then (if (x386000 : Int).toNat ≤ 35184372088832 then (tangramlaw14_EditNamed.l0 k x1 bt436.2.2 (List.replicate (x386000 : Int).toNat 0) 0 x1 (x1.length : Int) 0 x386000 x386001 bt436.1 bt436.2.1) else (none)) else (none))) else (none)))
def tangramlaw14_EditNamed.l0 : Nat → List Int → Int → List Int → Int → List Int → Int → Int → Int → List (S46) → Int → List (S46) → Option (Bool)
 | 0, _, _, _, _, _, _, _, _, _, _, _ => none
 | k + 1, x1, x16, x17, x18, x100, x101, x102, x386000, x386001, x442000, x442001 => if x102 < x101 then (if 0 ≤ x102 then (if x102 < (x100.length : Int) then (if (x1.length : Int) = x386000 then (if (rd x100 x102) ≥ 0 then (if (rd x100 x102) < x386000 then (if 0 ≤ (rd x100 x102) then (if (rd x100 x102) < (x17.length : Int) then (if (rd x17 (rd x100 x102)) = 0 then (tangramlaw14_EditNamed.l0 k x1 x16 (x17.set ((rd x100 x102) : Int).toNat (wrap64 (x102 + 1))) (wrap64 (x18 + 1)) x100 x101 (wrap64 (x102 + 1)) x386000 x386001 x442000 x442001) else (tangramlaw14_EditNamed.l0 k x1 x16 x17 x18 x100 x101 (wrap64 (x102 + 1)) x386000 x386001 x442000 x442001)) else (none)) else (none)) else (tangramlaw14_EditNamed.l0 k x1 x16 x17 x18 x100 x101 (wrap64 (x102 + 1)) x386000 x386001 x442000 x442001)) else (tangramlaw14_EditNamed.l0 k x1 x16 x17 x18 x100 x101 (wrap64 (x102 + 1)) x386000 x386001 x442000 x442001)) else (tangramlaw14_EditNamed.l0 k x1 x16 x17 x18 x100 x101 (wrap64 (x102 + 1)) x386000 x386001 x442000 x442001)) else (none)) else (none)) else (if (x1.length : Int) = x386000 then (tangramlaw14_EditNamed.j2 k x16 x17 (x18 != x386000) x386000 x386001 x442000 x442001) else (tangramlaw14_EditNamed.j2 k x16 x17 true x386000 x386001 x442000 x442001))
def tangramlaw14_EditNamed.j2 : Nat → Int → List Int → Bool → Int → List (S46) → Int → List (S46) → Option (Bool)
 | 0, _, _, _, _, _, _, _ => none
 | k + 1, x16, x17, x147, x386000, x386001, x442000, x442001 => if x147 = true then (if x16 = 2 then (some (x442000 == 0)) else (some false)) else (tangramlaw14_EditNamed.l1 k x16 x17 (x17.length : Int) 0 x386000 x386001 x442000 x442001)
def tangramlaw14_EditNamed.l1 : Nat → Int → List Int → Int → Int → Int → List (S46) → Int → List (S46) → Option (Bool)
 | 0, _, _, _, _, _, _, _, _ => none
 | k + 1, x16, x17, x156, x157, x386000, x386001, x442000, x442001 => if x157 < x156 then (if 0 ≤ x157 then (if x157 < (x17.length : Int) then (tangramlaw14_EditNamed.l1 k x16 (x17.set (x157 : Int).toNat (wrap64 ((rd x17 x157) - 1))) x156 (wrap64 (x157 + 1)) x386000 x386001 x442000 x442001) else (none)) else (none)) else ((edit_Relabel.f k x442000 x442001 x17).bind fun bt450 => ((edit_Induced.f k x386000 x386001 x17).bind fun bt456 => (if x16 = 0 then (if bt450.2.2 = 0 then (if bt456.2.2 = 0 then (if (x442001.length : Int) = (x386001.length : Int) then ((tangramref14_Same.f k bt450.1 bt450.2.1 x386000 x386001).bind fun t462 => (if t462 = true then ((tangramref14_Same.f k bt456.1 bt456.2.1 x442000 x442001).bind fun t463 => (some t463)) else (some false))) else (some false)) else (some false)) else (some false)) else (some false))))
end
def tangramlaw14_EditNamed.f (k : Nat) (a0_0 : Int) (l0_1 : List (S46)) (l1 : List Int) : Option (Bool) := (tangramlaw14_fixed.f k).bind fun t386 => (if t386 = true then ((tangramref03_Valid.f k a0_0 l0_1).bind fun t387 => (if t387 = true then ((edit_Bare.f k a0_0 l0_1).bind fun bt400 => ((edit_Induced.f k a0_0 l0_1 bt400.2.2.1).bind fun bt409 => ((edit_Bare.f k bt400.1 bt400.2.1).bind fun bt415 => (if bt400.2.2.2 = 0 then (if bt409.2.2 = 0 then (if bt415.2.2.2 = 0 then ((tangramref14_Same.f k bt409.1 bt409.2.1 bt400.1 bt400.2.1).bind fun t424 => (if t424 = true then ((tangramref14_Same.f k bt415.1 bt415.2.1 bt400.1 bt400.2.1).bind fun t425 => (if t425 = true then ((tangramlaw14_from.f k 0 bt400.1).bind fun t426 => ((tangramref11_Alike.f k bt415.2.2.1 t426).bind fun t429 => (tangramlaw14_EditNamed.j0 k l1 (!t429) a0_0 l0_1))) else (tangramlaw14_EditNamed.j0 k l1 true a0_0 l0_1))) else (tangramlaw14_EditNamed.j0 k l1 true a0_0 l0_1))) else (tangramlaw14_EditNamed.j0 k l1 true a0_0 l0_1)) else (tangramlaw14_EditNamed.j0 k l1 true a0_0 l0_1)) else (tangramlaw14_EditNamed.j0 k l1 true a0_0 l0_1))))) else ((some (([] : List Int) : List Int)).bind fun y388 => (if y388.length + l1.length < 17592186044416 then ((edit_Relabel.f k a0_0 l0_1 (y388 ++ l1)).bind fun bt394 => (some (bt394.2.2 == 1))) else (none))))) else (some false))
theorem tangramlaw14_EditNamed.mono_l : ∀ k, (∀ y0 y1 y2 y3, LeO (tangramlaw14_EditNamed.j0 k y0 y1 y2 y3) (tangramlaw14_EditNamed.j0 (k + 1) y0 y1 y2 y3)) ∧ (∀ y0 y1 y2 y3 y4 y5 y6 y7 y8 y9 y10, LeO (tangramlaw14_EditNamed.l0 k y0 y1 y2 y3 y4 y5 y6 y7 y8 y9 y10) (tangramlaw14_EditNamed.l0 (k + 1) y0 y1 y2 y3 y4 y5 y6 y7 y8 y9 y10)) ∧ (∀ y0 y1 y2 y3 y4 y5 y6, LeO (tangramlaw14_EditNamed.j2 k y0 y1 y2 y3 y4 y5 y6) (tangramlaw14_EditNamed.j2 (k + 1) y0 y1 y2 y3 y4 y5 y6)) ∧ (∀ y0 y1 y2 y3 y4 y5 y6 y7, LeO (tangramlaw14_EditNamed.l1 k y0 y1 y2 y3 y4 y5 y6 y7) (tangramlaw14_EditNamed.l1 (k + 1) y0 y1 y2 y3 y4 y5 y6 y7))
 | 0 => ⟨fun _ _ _ _ r h => by simp [tangramlaw14_EditNamed.j0] at h, fun _ _ _ _ _ _ _ _ _ _ _ r h => by simp [tangramlaw14_EditNamed.l0] at h, fun _ _ _ _ _ _ _ r h => by simp [tangramlaw14_EditNamed.j2] at h, fun _ _ _ _ _ _ _ _ r h => by simp [tangramlaw14_EditNamed.l1] at h⟩
 | k + 1 => by
  obtain ⟨ih0, ih1, ih2, ih3⟩ := tangramlaw14_EditNamed.mono_l k; refine ⟨?_, ?_, ?_, ?_⟩
  ·intro y0 y1 y2 y3
   unfold tangramlaw14_EditNamed.j0
   repeat' first
   | (with_reducible exact ih0 _ _ _ _)
   | (with_reducible exact ih1 _ _ _ _ _ _ _ _ _ _ _)
   | (with_reducible exact ih2 _ _ _ _ _ _ _)
   | (with_reducible exact ih3 _ _ _ _ _ _ _ _)
   | (with_reducible exact edit_Bare.mono _ _ _)
   | (with_reducible exact edit_Induced.mono _ _ _ _)
   | (with_reducible exact edit_Relabel.mono _ _ _ _)
   | (with_reducible exact tangramlaw14_fixed.mono _)
   | (with_reducible exact tangramlaw14_from.mono _ _ _)
   | (with_reducible exact tangramref03_Valid.mono _ _ _)
   | (with_reducible exact tangramref11_Alike.mono _ _ _)
   | (with_reducible exact tangramref14_Same.mono _ _ _ _ _)
   | (with_reducible exact LeO.refl _)
   | (with_reducible exact LeO.none _)
   | (with_reducible refine LeO.ite ?_ ?_)
   | (with_reducible refine LeO.bind ?_ (fun _ => ?_))
   | exact ih0 _ _ _ _
   | exact ih1 _ _ _ _ _ _ _ _ _ _ _
   | exact ih2 _ _ _ _ _ _ _
   | exact ih3 _ _ _ _ _ _ _ _
   | exact edit_Bare.mono _ _ _
   | exact edit_Induced.mono _ _ _ _
   | exact edit_Relabel.mono _ _ _ _
   | exact tangramlaw14_fixed.mono _
   | exact tangramlaw14_from.mono _ _ _
   | exact tangramref03_Valid.mono _ _ _
   | exact tangramref11_Alike.mono _ _ _
   | exact tangramref14_Same.mono _ _ _ _ _
   | exact LeO.none _
   | refine LeO.ite ?_ ?_
   | refine LeO.bind ?_ (fun _ => ?_)
  ·intro y0 y1 y2 y3 y4 y5 y6 y7 y8 y9 y10
   unfold tangramlaw14_EditNamed.l0
   repeat' first
   | (with_reducible exact ih0 _ _ _ _)
   | (with_reducible exact ih1 _ _ _ _ _ _ _ _ _ _ _)
   | (with_reducible exact ih2 _ _ _ _ _ _ _)
   | (with_reducible exact ih3 _ _ _ _ _ _ _ _)
   | (with_reducible exact edit_Bare.mono _ _ _)
   | (with_reducible exact edit_Induced.mono _ _ _ _)
   | (with_reducible exact edit_Relabel.mono _ _ _ _)
   | (with_reducible exact tangramlaw14_fixed.mono _)
   | (with_reducible exact tangramlaw14_from.mono _ _ _)
   | (with_reducible exact tangramref03_Valid.mono _ _ _)
   | (with_reducible exact tangramref11_Alike.mono _ _ _)
   | (with_reducible exact tangramref14_Same.mono _ _ _ _ _)
   | (with_reducible exact LeO.refl _)
   | (with_reducible exact LeO.none _)
   | (with_reducible refine LeO.ite ?_ ?_)
   | (with_reducible refine LeO.bind ?_ (fun _ => ?_))
   | exact ih0 _ _ _ _
   | exact ih1 _ _ _ _ _ _ _ _ _ _ _
   | exact ih2 _ _ _ _ _ _ _
   | exact ih3 _ _ _ _ _ _ _ _
   | exact edit_Bare.mono _ _ _
   | exact edit_Induced.mono _ _ _ _
   | exact edit_Relabel.mono _ _ _ _
   | exact tangramlaw14_fixed.mono _
   | exact tangramlaw14_from.mono _ _ _
   | exact tangramref03_Valid.mono _ _ _
   | exact tangramref11_Alike.mono _ _ _
   | exact tangramref14_Same.mono _ _ _ _ _
   | exact LeO.none _
   | refine LeO.ite ?_ ?_
   | refine LeO.bind ?_ (fun _ => ?_)
  ·intro y0 y1 y2 y3 y4 y5 y6
   unfold tangramlaw14_EditNamed.j2
   repeat' first
   | (with_reducible exact ih0 _ _ _ _)
   | (with_reducible exact ih1 _ _ _ _ _ _ _ _ _ _ _)
   | (with_reducible exact ih2 _ _ _ _ _ _ _)
   | (with_reducible exact ih3 _ _ _ _ _ _ _ _)
   | (with_reducible exact edit_Bare.mono _ _ _)
   | (with_reducible exact edit_Induced.mono _ _ _ _)
   | (with_reducible exact edit_Relabel.mono _ _ _ _)
   | (with_reducible exact tangramlaw14_fixed.mono _)
   | (with_reducible exact tangramlaw14_from.mono _ _ _)
   | (with_reducible exact tangramref03_Valid.mono _ _ _)
   | (with_reducible exact tangramref11_Alike.mono _ _ _)
   | (with_reducible exact tangramref14_Same.mono _ _ _ _ _)
   | (with_reducible exact LeO.refl _)
   | (with_reducible exact LeO.none _)
   | (with_reducible refine LeO.ite ?_ ?_)
   | (with_reducible refine LeO.bind ?_ (fun _ => ?_))
   | exact ih0 _ _ _ _
   | exact ih1 _ _ _ _ _ _ _ _ _ _ _
   | exact ih2 _ _ _ _ _ _ _
   | exact ih3 _ _ _ _ _ _ _ _
   | exact edit_Bare.mono _ _ _
   | exact edit_Induced.mono _ _ _ _
   | exact edit_Relabel.mono _ _ _ _
   | exact tangramlaw14_fixed.mono _
   | exact tangramlaw14_from.mono _ _ _
   | exact tangramref03_Valid.mono _ _ _
   | exact tangramref11_Alike.mono _ _ _
   | exact tangramref14_Same.mono _ _ _ _ _
   | exact LeO.none _
   | refine LeO.ite ?_ ?_
   | refine LeO.bind ?_ (fun _ => ?_)
  ·intro y0 y1 y2 y3 y4 y5 y6 y7
   unfold tangramlaw14_EditNamed.l1
   repeat' first
   | (with_reducible exact ih0 _ _ _ _)
   | (with_reducible exact ih1 _ _ _ _ _ _ _ _ _ _ _)
   | (with_reducible exact ih2 _ _ _ _ _ _ _)
   | (with_reducible exact ih3 _ _ _ _ _ _ _ _)
   | (with_reducible exact edit_Bare.mono _ _ _)
   | (with_reducible exact edit_Induced.mono _ _ _ _)
   | (with_reducible exact edit_Relabel.mono _ _ _ _)
   | (with_reducible exact tangramlaw14_fixed.mono _)
   | (with_reducible exact tangramlaw14_from.mono _ _ _)
   | (with_reducible exact tangramref03_Valid.mono _ _ _)
   | (with_reducible exact tangramref11_Alike.mono _ _ _)
   | (with_reducible exact tangramref14_Same.mono _ _ _ _ _)
   | (with_reducible exact LeO.refl _)
   | (with_reducible exact LeO.none _)
   | (with_reducible refine LeO.ite ?_ ?_)
   | (with_reducible refine LeO.bind ?_ (fun _ => ?_))
   | exact ih0 _ _ _ _
   | exact ih1 _ _ _ _ _ _ _ _ _ _ _
   | exact ih2 _ _ _ _ _ _ _
   | exact ih3 _ _ _ _ _ _ _ _
   | exact edit_Bare.mono _ _ _
   | exact edit_Induced.mono _ _ _ _
   | exact edit_Relabel.mono _ _ _ _
   | exact tangramlaw14_fixed.mono _
   | exact tangramlaw14_from.mono _ _ _
   | exact tangramref03_Valid.mono _ _ _
   | exact tangramref11_Alike.mono _ _ _
   | exact tangramref14_Same.mono _ _ _ _ _
   | exact LeO.none _
   | refine LeO.ite ?_ ?_
   | refine LeO.bind ?_ (fun _ => ?_)
theorem tangramlaw14_EditNamed.mono : ∀ a0 a1 a2 k, LeO (tangramlaw14_EditNamed.f k a0 a1 a2) (tangramlaw14_EditNamed.f (k + 1) a0 a1 a2) := by
 intro a0 a1 a2 k; obtain ⟨ih0, ih1, ih2, ih3⟩ := tangramlaw14_EditNamed.mono_l k
 unfold tangramlaw14_EditNamed.f
 repeat' first
   | (with_reducible exact ih0 _ _ _ _)
   | (with_reducible exact ih1 _ _ _ _ _ _ _ _ _ _ _)
   | (with_reducible exact ih2 _ _ _ _ _ _ _)
   | (with_reducible exact ih3 _ _ _ _ _ _ _ _)
   | (with_reducible exact edit_Bare.mono _ _ _)
   | (with_reducible exact edit_Induced.mono _ _ _ _)
   | (with_reducible exact edit_Relabel.mono _ _ _ _)
   | (with_reducible exact tangramlaw14_fixed.mono _)
   | (with_reducible exact tangramlaw14_from.mono _ _ _)
   | (with_reducible exact tangramref03_Valid.mono _ _ _)
   | (with_reducible exact tangramref11_Alike.mono _ _ _)
   | (with_reducible exact tangramref14_Same.mono _ _ _ _ _)
   | (with_reducible exact LeO.refl _)
   | (with_reducible exact LeO.none _)
   | (with_reducible refine LeO.ite ?_ ?_)
   | (with_reducible refine LeO.bind ?_ (fun _ => ?_))
   | exact ih0 _ _ _ _
   | exact ih1 _ _ _ _ _ _ _ _ _ _ _
   | exact ih2 _ _ _ _ _ _ _
   | exact ih3 _ _ _ _ _ _ _ _
   | exact edit_Bare.mono _ _ _
   | exact edit_Induced.mono _ _ _ _
   | exact edit_Relabel.mono _ _ _ _
   | exact tangramlaw14_fixed.mono _
   | exact tangramlaw14_from.mono _ _ _
   | exact tangramref03_Valid.mono _ _ _
   | exact tangramref11_Alike.mono _ _ _
   | exact tangramref14_Same.mono _ _ _ _ _
   | exact LeO.none _
   | refine LeO.ite ?_ ?_
   | refine LeO.bind ?_ (fun _ => ?_)
def tangramlaw14_EditNamed.T4 : Bool × List (List Nat × List Nat) := (true, [([], []), ([], []), ([], []), ([1, 2], [1, 2]), ([0, 3, 3], [0, 3]), ([4], [4]), ([5], [5]), ([5], [5]), ([], []), ([8, 6, 4, 0, 1, 2, 3, 4, 5, 6, 8], [6, 8]), ([7, 9, 0, 1, 2, 3, 4, 5, 6, 7, 8, 9], [7])])
def tangramlaw14_EditNamed.B4 : List Nat := [0, 0, 0, 6, 15, 31, 63, 63, 0, 383, 1023]
theorem tangramlaw14_EditNamed.tab4 : rtab .any (opsOf Try.f4 4) = tangramlaw14_EditNamed.T4 := by kernel_rfl
theorem tangramlaw14_EditNamed.bits4 : waitsOk tangramlaw14_EditNamed.T4.2 tangramlaw14_EditNamed.B4 = true := by kernel_rfl
def tangramlaw14_EditNamed.T11 : Bool × List (List Nat × List Nat) := (true, [([], []), ([], []), ([], []), ([1, 2], [1, 2]), ([0, 3, 3], [0, 3]), ([4], [4]), ([5], [5]), ([5], [5]), ([], []), ([8, 6, 4, 0, 1, 2, 3, 4, 5, 6, 8], [6, 8]), ([7, 9, 0, 1, 2, 3, 4, 5, 6, 7, 8, 9], [7])])
def tangramlaw14_EditNamed.B11 : List Nat := [0, 0, 0, 6, 15, 31, 63, 63, 0, 383, 1023]
theorem tangramlaw14_EditNamed.tab11 : rtab .any (opsOf Try.f4 11) = tangramlaw14_EditNamed.T11 := by kernel_rfl
theorem tangramlaw14_EditNamed.bits11 : waitsOk tangramlaw14_EditNamed.T11.2 tangramlaw14_EditNamed.B11 = true := by kernel_rfl
set_option maxHeartbeats 8000000 in
set_option maxRecDepth 100000 in
theorem tangramlaw14_EditNamed.calls (k : Nat) (a0_0 : Int) (A0_1 : Option Addr) (c0_1 : Nat) (l0_1 : List (S46)) (A1 : Option Addr) (c1 : Nat) (l1 : List Int) (r : Bool) (w : World) (hr0_1 : Kd.C k46 w A0_1 l0_1.length l0_1) (hc0_1 : l0_1.length ≤ c0_1) (hr1 : Kd.C (Kd.int .i64) w A1 l1.length l1) (hc1 : l1.length ≤ c1) (h : tangramlaw14_EditNamed.f k a0_0 l0_1 l1 = some r) :
  Calls Try.prog 4 #[.agg #[.int .i64 a0_0, .slice A0_1 l0_1.length c0_1], .slice A1 l1.length c1] w fun e w' => e = .returned (.bool r) ∧ Below w.heap.size w w' := by
 have hu25 := Try.underlying25; have HR0_1 := Aside0.mk hr0_1; have HC0_1 := Aside0.mk hc0_1; clear hr0_1 hc0_1; have HR1 := Aside0.mk hr1; have HC1 := Aside0.mk hc1; clear hr1 hc1; have HB := Aside0.mk (Below.refl w.heap.size w); have H : ((tangramlaw14_fixed.f k).bind fun t386 => (if t386 = true then ((tangramref03_Valid.f k a0_0 l0_1).bind fun t387 => (if t387 = true then ((edit_Bare.f k a0_0 l0_1).bind fun bt400 => ((edit_Induced.f k a0_0 l0_1 bt400.2.2.1).bind fun bt409 => ((edit_Bare.f k bt400.1 bt400.2.1).bind fun bt415 => (if bt400.2.2.2 = 0 then (if bt409.2.2 = 0 then (if bt415.2.2.2 = 0 then ((tangramref14_Same.f k bt409.1 bt409.2.1 bt400.1 bt400.2.1).bind fun t424 => (if t424 = true then ((tangramref14_Same.f k bt415.1 bt415.2.1 bt400.1 bt400.2.1).bind fun t425 => (if t425 = true then ((tangramlaw14_from.f k 0 bt400.1).bind fun t426 => ((tangramref11_Alike.f k bt415.2.2.1 t426).bind fun t429 => (tangramlaw14_EditNamed.j0 k l1 (!t429) a0_0 l0_1))) else (tangramlaw14_EditNamed.j0 k l1 true a0_0 l0_1))) else (tangramlaw14_EditNamed.j0 k l1 true a0_0 l0_1))) else (tangramlaw14_EditNamed.j0 k l1 true a0_0 l0_1)) else (tangramlaw14_EditNamed.j0 k l1 true a0_0 l0_1)) else (tangramlaw14_EditNamed.j0 k l1 true a0_0 l0_1))))) else ((some (([] : List Int) : List Int)).bind fun y388 => (if y388.length + l1.length < 17592186044416 then ((edit_Relabel.f k a0_0 l0_1 (y388 ++ l1)).bind fun bt394 => (some (bt394.2.2 == 1))) else (none))))) else (some false))) = some r := h; clear h
 replace H := Option.bind_eq_some_iff.mp H; obtain ⟨t386, A30, H⟩ := H; (try dsimp only at H); have A3 := Aside0.mk A30; clear A30
 by_cases c4 : t386 = true
 ·subst c4; rw [if_pos rfl] at H; replace H := Option.bind_eq_some_iff.mp H; obtain ⟨t387, A50, H⟩ := H; (try dsimp only at H); have A5 := Aside0.mk A50; clear A50
  by_cases c6 : t387 = true
  ·subst c6; rw [if_pos rfl] at H; replace H := Option.bind_eq_some_iff.mp H; obtain ⟨⟨t400, t401, t404, t407⟩, A70, H⟩ := H; (try dsimp only at H); have A7 := Aside0.mk A70; clear A70; replace H := Option.bind_eq_some_iff.mp H; obtain ⟨⟨t409, t410, t413⟩, A80, H⟩ := H; (try dsimp only at H)
   have A8 := Aside0.mk A80; clear A80; replace H := Option.bind_eq_some_iff.mp H; obtain ⟨⟨t415, t416, t419, t422⟩, A90, H⟩ := H; (try dsimp only at H); have A9 := Aside0.mk A90; clear A90; have HC10 := Aside0.mk H; clear H
   go_enter Try.func4, Try.ntmps4
   go_upto_region 9 with (first | ((with_reducible refine gate_dst (N := 2) rfl ?_); (try (refine gate_guard (by rfl) ?_; dsimp only)); refine box_event ?hg (N := 2) ?hd (cs := #[.int .i64 a0_0, .slice A0_1 l0_1.length c0_1]) (t := 25) ?hr ?_; (case hd => rfl); (case hg => rfl); (case hr => first | (go_simp; done) | (go_simp; rfl)); intro gb385 hg w11 hbox hb; have BK385 := Aside0.mk (hbox); have GW385 := wq (hb0 HB) hg; have GE385 := wq (hb0 HB) hg; replace HB := hs (hb0 HB) hb; clear hb hbox hg) | ((with_reducible refine gate_callee (f := 10) rfl ?_); refine gl_ (some 26) Try.func10 #[] ?_; (with_reducible refine (tangramlaw14_fixed.calls k  true _ A3.out).mono ?_); rintro e w12 ⟨rfl, hb⟩; refine ⟨_, rfl, ?_⟩; replace BK385 := kx BK385 hb; replace HB := hs (hb1 HB GE385) hb; (try clear hb); (try clear hb2); (try clear hk); (try clear hi); have hcz13_0 : w12.cell? ⟨gb385, 0, none⟩ = some (.int .i64 a0_0) := bc BK385 0; have hcz13_1 : w12.cell? ⟨gb385, 1, none⟩ = some (.slice A0_1 l0_1.length c0_1) := bc BK385 1; have hfz13_0 := blk_frozen BK385.out 0; have hfz13_1 := blk_frozen BK385.out 1) | ((with_reducible refine gate_callee (f := 11) rfl ?_); refine gl_ (some 29) Try.func11 #[.agg #[.int .i64 a0_0, .slice A0_1 l0_1.length c0_1]] ?_; (with_reducible refine (tangramref03_Valid.calls k a0_0 _ _ l0_1 true _ ?side1 ?side2 A5.out).mono ?_); (case side1 => repeat (first | exact (Kd.C_below HR0_1.out HB.out) | (with_reducible refine Kd.C_alloc ?_ _) | (with_reducible refine Kd.C_drewN ?_ _) | (with_reducible refine Kd.C_drew ?_))); (case side2 => exact HC0_1.out); rintro e w14 ⟨rfl, hb⟩; refine ⟨_, rfl, ?_⟩; replace BK385 := kx BK385 hb; replace HB := hs (hb1 HB GE385) hb; (try clear hb); (try clear hb2); (try clear hk); (try clear hi); have hcz15_0 : w14.cell? ⟨gb385, 0, none⟩ = some (.int .i64 a0_0) := bc BK385 0; have hcz15_1 : w14.cell? ⟨gb385, 1, none⟩ = some (.slice A0_1 l0_1.length c0_1) := bc BK385 1; have hfz15_0 := blk_frozen BK385.out 0; have hfz15_1 := blk_frozen BK385.out 1) | ((with_reducible refine gate_callee (f := 13) rfl ?_); refine gl_ (some 43) Try.func13 #[.agg #[.int .i64 a0_0, .slice A0_1 l0_1.length c0_1]] ?_; (with_reducible refine (edit_Bare.calls k a0_0 _ _ l0_1 t400 t401 t404 t407 _ ?side1 ?side2 A7.out).mono ?_); (case side1 => repeat (first | exact (Kd.C_below HR0_1.out HB.out) | (with_reducible refine Kd.C_alloc ?_ _) | (with_reducible refine Kd.C_drewN ?_ _) | (with_reducible refine Kd.C_drew ?_))); (case side2 => exact HC0_1.out); rintro e w16 ⟨v402, v405, rfl, ho0, ho1, hb⟩; refine ⟨_, rfl, ?_⟩; have HO403 := Aside0.mk (Kd.R_lower ho0 (below_size (hb1 HB GE385))); have HO406 := Aside0.mk (Kd.R_lower ho1 (below_size (hb1 HB GE385))); replace BK385 := kx BK385 hb; replace HB := hs (hb1 HB GE385) hb; (try clear hb); (try clear hb2); (try clear hk); (try clear hi); (try clear ho0); (try clear ho1)) | ((with_reducible refine gate_dst (N := 7) rfl ?_); (try (refine gate_guard (by rfl) ?_; dsimp only)); refine box_event ?hg (N := 7) ?hd (cs := #[.int .i64 0, .slice none 0 0]) (t := 25) ?hr ?_; (case hd => rfl); (case hg => rfl); (case hr => first | (go_simp; done) | (go_simp; rfl)); intro gb408 hg w17 hbox hb; replace HO403 := ry HO403 hb; replace HO406 := ry HO406 hb; have BK408 := Aside0.mk (hbox); have GW408 := wq (hb1 HB GE385) hg; have GE408 := wq (hb1 HB GE385) hg; replace HB := hs (hb1 HB GE385) hb; have NB385_408 := lx BK385 hg; have NB408_385 := gx BK385 hg; replace BK385 := kx BK385 hb; clear hb hbox hg; have hnb18 := NB408_385.out; have hnc18 := NB385_408.out; have hcz19_0 : w17.cell? ⟨gb408, 0, none⟩ = some (.int .i64 0) := bc BK408 0; have hcz19_1 : w17.cell? ⟨gb408, 1, none⟩ = some (.slice none 0 0) := bc BK408 1; have hfz19_0 := blk_frozen BK408.out 0; have hfz19_1 := blk_frozen BK408.out 1; obtain ⟨Ao20, co20, eo20⟩ := Kd.R_slice HO403.out; subst eo20; have hcz21_0 : w17.cell? ⟨gb385, 0, none⟩ = some (.int .i64 a0_0) := bc BK385 0; have hcz21_1 : w17.cell? ⟨gb385, 1, none⟩ = some (.slice A0_1 l0_1.length c0_1) := bc BK385 1; have hfz21_0 := blk_frozen BK385.out 0; have hfz21_1 := blk_frozen BK385.out 1; obtain ⟨Ao22, co22, eo22⟩ := Kd.R_slice HO406.out; subst eo22) | ((with_reducible refine gate_callee (f := 14) rfl ?_); refine gl_ (some 50) Try.func14 #[.agg #[.int .i64 a0_0, .slice A0_1 l0_1.length c0_1], .slice Ao22 t404.length co22] ?_; (with_reducible refine (edit_Induced.calls k a0_0 _ _ l0_1 _ _ t404 t409 t410 t413 _ ?side1 ?side2 ?side3 ?side4 A8.out).mono ?_); (case side1 => exact Kd.C_below HR0_1.out (hb2 HB GE385 GE408)); (case side2 => exact HC0_1.out); (case side3 => refine (Kd.R_reads' (e := 3) (base := w.heap.size) (ok := fun k_ => True) (n := t404.length) (c := co22) ?_).2.2; exact (rf HO406 BK408)); (case side4 => exact (Kd.R_reads' HO406.out).2.1); rintro e w23 ⟨v411, rfl, ho0, hb⟩; refine ⟨_, rfl, ?_⟩; replace HO406 := Aside0.mk (Kd.R_below (rf HO406 BK408) hb); have HO412 := Aside0.mk (Kd.R_lower (Kd.R_new' ho0 (Kd.R_lt (rf HO403 BK408))) (below_size (hb2 HB GE385 GE408))); replace HO403 := el (rf HO403 BK408) ho0 hb; replace BK385 := kb (bx1 BK385 NB385_408) hb; replace BK408 := Aside0.mk (blk_below (g := gb408) (o := .cells #[.int .i64 t400, .slice Ao20 t401.length co20] 25 (0, 0)) (by (with_reducible repeat (first | refine blk_drewN ?_ _ | refine blk_drew ?_ | refine blk_alloc ?_ _)); refine blk_put (cs := #[.int .i64 t400, .slice none 0 0]) ?_ 1 _ rfl; (with_reducible repeat (first | refine blk_drewN ?_ _ | refine blk_drew ?_ | refine blk_alloc ?_ _)); refine blk_put (cs := #[.int .i64 0, .slice none 0 0]) ?_ 0 _ rfl; (with_reducible repeat (first | refine blk_drewN ?_ _ | refine blk_drew ?_ | refine blk_alloc ?_ _)); exact BK408.out) hb); replace HB := hs (hb2 HB GE385 GE408) hb; (try clear hb); (try clear hb2); (try clear hk); (try clear hi); (try clear ho0)) | ((with_reducible refine gate_dst (N := 10) rfl ?_); (try (refine gate_guard (by rfl) ?_; dsimp only)); refine box_event ?hg (N := 10) ?hd (cs := #[.int .i64 0, .slice none 0 0]) (t := 25) ?hr ?_; (case hd => rfl); (case hg => rfl); (case hr => first | (go_simp; done) | (go_simp; rfl)); intro gb414 hg w24 hbox hb; replace HO403 := ry HO403 hb; replace HO406 := ry HO406 hb; replace HO412 := ry HO412 hb; have BK414 := Aside0.mk (hbox); have GW414 := wq (hb2 HB GE385 GE408) hg; have GE414 := wq (hb2 HB GE385 GE408) hg; replace HB := hs (hb2 HB GE385 GE408) hb; have NB385_414 := lx BK385 hg; have NB414_385 := gx BK385 hg; replace BK385 := kx BK385 hb; have NB408_414 := lx BK408 hg; have NB414_408 := gx BK408 hg; replace BK408 := kx BK408 hb; clear hb hbox hg; have hnb25 := NB414_385.out; have hnc25 := NB385_414.out; have hnb26 := NB414_408.out; have hnc26 := NB408_414.out; have hcz27_0 : w24.cell? ⟨gb414, 0, none⟩ = some (.int .i64 0) := bc BK414 0; have hcz27_1 : w24.cell? ⟨gb414, 1, none⟩ = some (.slice none 0 0) := bc BK414 1; have hfz27_0 := blk_frozen BK414.out 0; have hfz27_1 := blk_frozen BK414.out 1; obtain ⟨Ao28, co28, eo28⟩ := Kd.R_slice HO412.out; subst eo28; have hcz29_0 : w24.cell? ⟨gb408, 0, none⟩ = some (.int .i64 t400) := bc BK408 0; have hcz29_1 : w24.cell? ⟨gb408, 1, none⟩ = some (.slice Ao20 t401.length co20) := bc BK408 1; have hfz29_0 := blk_frozen BK408.out 0; have hfz29_1 := blk_frozen BK408.out 1) | ((with_reducible refine gate_callee (f := 13) rfl ?_); refine gl_ (some 55) Try.func13 #[.agg #[.int .i64 t400, .slice Ao20 t401.length co20]] ?_; (with_reducible refine (edit_Bare.calls k t400 _ _ t401 t415 t416 t419 t422 _ ?side1 ?side2 A9.out).mono ?_); (case side1 => refine (Kd.R_reads' (e := 46) (base := w.heap.size) (ok := fun k_ => (True ∧ some k_ ≠ (.slice Ao28 t410.length co28 : Value).ownBlock)) (n := t401.length) (c := co20) ?_).2.2; exact (rf HO403 BK414)); (case side2 => exact (Kd.R_reads' HO403.out).2.1); rintro e w30 ⟨v417, v420, rfl, ho0, ho1, hb⟩; refine ⟨_, rfl, ?_⟩; have HO418 := Aside0.mk (Kd.R_lower (Kd.R_new' (Kd.R_new' ho0 (Kd.R_lt (rf HO403 BK414))) (Kd.R_lt (rf HO412 BK414))) (below_size (hb3 HB GE385 GE408 GE414))); replace HO403 := el (rf HO403 BK414) ho0 hb; replace HO412 := el (rf HO412 BK414) ho0 hb; have HO421 := Aside0.mk (Kd.R_lower (Kd.R_new' ho1 (Kd.R_lt (rf HO406 BK414))) (below_size (hb3 HB GE385 GE408 GE414))); replace HO406 := Aside0.mk (Kd.R_elder' (rf HO406 BK414) (Kd.R_base ho1) hb); replace BK385 := kb (bx1 BK385 NB385_414) hb; replace BK408 := kb (bx1 BK408 NB408_414) hb; replace BK414 := Aside0.mk (blk_below (g := gb414) (o := .cells #[.int .i64 t409, .slice Ao28 t410.length co28] 25 (0, 0)) (by (with_reducible repeat (first | refine blk_drewN ?_ _ | refine blk_drew ?_ | refine blk_alloc ?_ _)); refine blk_put (cs := #[.int .i64 t409, .slice none 0 0]) ?_ 1 _ rfl; (with_reducible repeat (first | refine blk_drewN ?_ _ | refine blk_drew ?_ | refine blk_alloc ?_ _)); refine blk_put (cs := #[.int .i64 0, .slice none 0 0]) ?_ 0 _ rfl; (with_reducible repeat (first | refine blk_drewN ?_ _ | refine blk_drew ?_ | refine blk_alloc ?_ _)); exact BK414.out) hb); replace HB := hs (hb3 HB GE385 GE408 GE414) hb; (try clear hb); (try clear hb2); (try clear hk); (try clear hi); (try clear ho0); (try clear ho1)) | ((with_reducible refine gate_dst (N := 12) rfl ?_); (try (refine gate_guard (by rfl) ?_; dsimp only)); refine box_event ?hg (N := 12) ?hd (cs := #[.int .i64 0, .slice none 0 0]) (t := 25) ?hr ?_; (case hd => rfl); (case hg => rfl); (case hr => first | (go_simp; done) | (go_simp; rfl)); intro gb423 hg w31 hbox hb; replace HO403 := ry HO403 hb; replace HO406 := ry HO406 hb; replace HO412 := ry HO412 hb; replace HO418 := ry HO418 hb; replace HO421 := ry HO421 hb; have BK423 := Aside0.mk (hbox); have GW423 := wq (hb3 HB GE385 GE408 GE414) hg; have GE423 := wq (hb3 HB GE385 GE408 GE414) hg; replace HB := hs (hb3 HB GE385 GE408 GE414) hb; have NB385_423 := lx BK385 hg; have NB423_385 := gx BK385 hg; replace BK385 := kx BK385 hb; have NB408_423 := lx BK408 hg; have NB423_408 := gx BK408 hg; replace BK408 := kx BK408 hb; have NB414_423 := lx BK414 hg; have NB423_414 := gx BK414 hg; replace BK414 := kx BK414 hb; clear hb hbox hg; have hnb32 := NB423_385.out; have hnc32 := NB385_423.out; have hnb33 := NB423_408.out; have hnc33 := NB408_423.out; have hnb34 := NB423_414.out; have hnc34 := NB414_423.out; have hcz35_0 : w31.cell? ⟨gb423, 0, none⟩ = some (.int .i64 0) := bc BK423 0; have hcz35_1 : w31.cell? ⟨gb423, 1, none⟩ = some (.slice none 0 0) := bc BK423 1; have hfz35_0 := blk_frozen BK423.out 0; have hfz35_1 := blk_frozen BK423.out 1; obtain ⟨Ao36, co36, eo36⟩ := Kd.R_slice HO418.out; subst eo36))
   (try simp only [Act.put, List.setIfInBounds_toArray, List.set_cons_zero, List.set_cons_succ])
   go_cut [88] (fun v88 wc => ∃ (kq : Nat) (x88_9 : Bool), v88 = .bool x88_9 ∧ Aside0 (tangramlaw14_EditNamed.j0 kq l1 x88_9 a0_0 l0_1 = some r) ∧ Aside0 (kq ≤ k) ∧ Aside0 (Kd.R k46 46 wc w.heap.size (fun k_ => some k_ ≠ ((.slice Ao28 t410.length co28) : Value).ownBlock ∧ some k_ ≠ ((.slice Ao36 t416.length co36) : Value).ownBlock) (.slice Ao20 t401.length co20) t401) ∧ Aside0 (Kd.R k46 46 wc w.heap.size (fun k_ => some k_ ≠ ((.slice Ao20 t401.length co20) : Value).ownBlock ∧ some k_ ≠ ((.slice Ao36 t416.length co36) : Value).ownBlock) (.slice Ao28 t410.length co28) t410) ∧ Aside0 (Kd.R k46 46 wc w.heap.size (fun k_ => some k_ ≠ ((.slice Ao20 t401.length co20) : Value).ownBlock ∧ some k_ ≠ ((.slice Ao28 t410.length co28) : Value).ownBlock) (.slice Ao36 t416.length co36) t416) ∧ Aside0 (wc.heap[gb385]? = some (.cells #[.int .i64 a0_0, (.slice A0_1 l0_1.length c0_1)] 25 (0, 0))) ∧ Aside0 (wc.heap[gb408]? = some (.cells #[.int .i64 t400, (.slice Ao20 t401.length co20)] 25 (0, 0))) ∧ Aside0 (wc.heap[gb414]? = some (.cells #[.int .i64 t409, (.slice Ao28 t410.length co28)] 25 (0, 0))) ∧ Aside0 (wc.heap[gb423]? = some (.cells #[.int .i64 t415, (.slice Ao36 t416.length co36)] 25 (0, 0))) ∧ Aside0 (Below w.heap.size w wc))
   case first => as_aux_lemma =>
    have H := HC10.out; clear HC10
    by_cases c37 : t407 = 0
    ·rw [if_pos c37] at H; have c37b0 : (t407 == 0) = true := beq_iff_eq.mpr c37; have c37b1 : (t407 != 0) = false := bne_eq_false_iff_eq.mpr c37; clear c37
     (first | rw [c37b0] | (simp only [i64_w, i32_w]; rw [c37b0]) | skip)
     by_cases c38 : t413 = 0
     ·rw [if_pos c38] at H; have c38b0 : (t413 == 0) = true := beq_iff_eq.mpr c38; have c38b1 : (t413 != 0) = false := bne_eq_false_iff_eq.mpr c38; clear c38
      by_cases c39 : t422 = 0
      ·rw [if_pos c39] at H; have c39b0 : (t422 == 0) = true := beq_iff_eq.mpr c39; have c39b1 : (t422 != 0) = false := bne_eq_false_iff_eq.mpr c39; clear c39; replace H := Option.bind_eq_some_iff.mp H; obtain ⟨t424, A400, H⟩ := H; (try dsimp only at H); have A40 := Aside0.mk A400; clear A400
       by_cases c41 : t424 = true
       ·subst c41; rw [if_pos rfl] at H; replace H := Option.bind_eq_some_iff.mp H; obtain ⟨t425, A420, H⟩ := H; (try dsimp only at H); have A42 := Aside0.mk A420; clear A420
        by_cases c43 : t425 = true
        ·subst c43; rw [if_pos rfl] at H; replace H := Option.bind_eq_some_iff.mp H; obtain ⟨t426, A440, H⟩ := H; (try dsimp only at H); have A44 := Aside0.mk A440; clear A440; replace H := Option.bind_eq_some_iff.mp H; obtain ⟨t429, A450, H⟩ := H; (try dsimp only at H); have A45 := Aside0.mk A450; clear A450; have H' := Aside0.mk H; clear H; have hnb46 := NB414_385.out; have hnc46 := NB385_414.out; have hnb47 := NB414_408.out; have hnc47 := NB408_414.out; have hnb48 := NB414_423.out; have hnc48 := NB423_414.out; have hcz49_0 : w31.cell? ⟨gb414, 0, none⟩ = some (.int .i64 t409) := bc BK414 0; have hcz49_1 : w31.cell? ⟨gb414, 1, none⟩ = some (.slice Ao28 t410.length co28) := bc BK414 1; have hfz49_0 := blk_frozen BK414.out 0; have hfz49_1 := blk_frozen BK414.out 1; have hnb50 := NB408_385.out; have hnc50 := NB385_408.out; have hnb51 := NB408_423.out; have hnc51 := NB423_408.out; have hcz52_0 : w31.cell? ⟨gb408, 0, none⟩ = some (.int .i64 t400) := bc BK408 0; have hcz52_1 : w31.cell? ⟨gb408, 1, none⟩ = some (.slice Ao20 t401.length co20) := bc BK408 1; have hfz52_0 := blk_frozen BK408.out 0; have hfz52_1 := blk_frozen BK408.out 1
         go_wp2_with (first | (go_at_call 15; (with_reducible refine (tangramref14_Same.calls k t409 _ _ t410 t400 _ _ t401 true _ ?side1 ?side2 ?side3 ?side4 A40.out).mono ?_); (case side1 => refine (Kd.R_reads' (e := 46) (base := w.heap.size) (ok := fun k_ => ((True ∧ some k_ ≠ (.slice Ao20 t401.length co20 : Value).ownBlock) ∧ some k_ ≠ (.slice Ao36 t416.length co36 : Value).ownBlock)) (n := t410.length) (c := co28) ?_).2.2; exact (rf HO412 BK423)); (case side2 => exact (Kd.R_reads' HO412.out).2.1); (case side3 => refine (Kd.R_reads' (e := 46) (base := w.heap.size) (ok := fun k_ => ((True ∧ some k_ ≠ (.slice Ao28 t410.length co28 : Value).ownBlock) ∧ some k_ ≠ (.slice Ao36 t416.length co36 : Value).ownBlock)) (n := t401.length) (c := co20) ?_).2.2; exact (rf HO403 BK423)); (case side4 => exact (Kd.R_reads' HO403.out).2.1); rintro e w53 ⟨rfl, hb⟩; replace HO403 := Aside0.mk (Kd.R_below (rf HO403 BK423) hb); replace HO406 := Aside0.mk (Kd.R_below (rf HO406 BK423) hb); replace HO412 := Aside0.mk (Kd.R_below (rf HO412 BK423) hb); replace HO418 := Aside0.mk (Kd.R_below (rf HO418 BK423) hb); replace HO421 := Aside0.mk (Kd.R_below (rf HO421 BK423) hb); replace BK385 := kb (bx1 BK385 NB385_423) hb; replace BK408 := kb (bx1 BK408 NB408_423) hb; replace BK414 := kb (bx1 BK414 NB414_423) hb; replace BK423 := Aside0.mk (blk_below (g := gb423) (o := .cells #[.int .i64 t415, .slice Ao36 t416.length co36] 25 (0, 0)) (by (with_reducible repeat (first | refine blk_drewN ?_ _ | refine blk_drew ?_ | refine blk_alloc ?_ _)); refine blk_put (cs := #[.int .i64 t415, .slice none 0 0]) ?_ 1 _ rfl; (with_reducible repeat (first | refine blk_drewN ?_ _ | refine blk_drew ?_ | refine blk_alloc ?_ _)); refine blk_put (cs := #[.int .i64 0, .slice none 0 0]) ?_ 0 _ rfl; (with_reducible repeat (first | refine blk_drewN ?_ _ | refine blk_drew ?_ | refine blk_alloc ?_ _)); exact BK423.out) hb); replace HB := hs (hb4 HB GE385 GE408 GE414 GE423) hb; (try clear hb); (try clear hb2); (try clear hk); (try clear hi); have hnb54 := NB423_385.out; have hnc54 := NB385_423.out; have hcz55_0 : w53.cell? ⟨gb423, 0, none⟩ = some (.int .i64 t415) := bc BK423 0; have hcz55_1 : w53.cell? ⟨gb423, 1, none⟩ = some (.slice Ao36 t416.length co36) := bc BK423 1; have hfz55_0 := blk_frozen BK423.out 0; have hfz55_1 := blk_frozen BK423.out 1; have hcz56_0 : w53.cell? ⟨gb408, 0, none⟩ = some (.int .i64 t400) := bc BK408 0; have hcz56_1 : w53.cell? ⟨gb408, 1, none⟩ = some (.slice Ao20 t401.length co20) := bc BK408 1; have hfz56_0 := blk_frozen BK408.out 0; have hfz56_1 := blk_frozen BK408.out 1) | (go_at_call 15; (with_reducible refine (tangramref14_Same.calls k t415 _ _ t416 t400 _ _ t401 true _ ?side1 ?side2 ?side3 ?side4 A42.out).mono ?_); (case side1 => exact cr HO418); (case side2 => exact (Kd.R_reads' HO418.out).2.1); (case side3 => exact cr HO403); (case side4 => exact (Kd.R_reads' HO403.out).2.1); rintro e w57 ⟨rfl, hb⟩; replace HO403 := ry HO403 hb; replace HO406 := ry HO406 hb; replace HO412 := ry HO412 hb; replace HO418 := ry HO418 hb; replace HO421 := ry HO421 hb; replace BK385 := kx BK385 hb; replace BK408 := kx BK408 hb; replace BK414 := kx BK414 hb; replace BK423 := kx BK423 hb; replace HB := hs (hb4 HB GE385 GE408 GE414 GE423) hb; (try clear hb); (try clear hb2); (try clear hk); (try clear hi); have hcz58_0 : w57.cell? ⟨gb408, 0, none⟩ = some (.int .i64 t400) := bc BK408 0; have hcz58_1 : w57.cell? ⟨gb408, 1, none⟩ = some (.slice Ao20 t401.length co20) := bc BK408 1; have hfz58_0 := blk_frozen BK408.out 0; have hfz58_1 := blk_frozen BK408.out 1) | (go_at_call 17; (with_reducible refine (tangramlaw14_from.calls k 0 t400 t426 _ A44.out).mono ?_); rintro e w59 ⟨v427, rfl, ho0, hb⟩; replace HO403 := ry HO403 hb; replace HO412 := ry HO412 hb; replace HO418 := ry HO418 hb; have HO428 := Aside0.mk (Kd.R_lower (Kd.R_new' (Kd.R_new' ho0 (Kd.R_lt (rx HO406))) (Kd.R_lt (rx HO421))) (below_size (hb4 HB GE385 GE408 GE414 GE423))); replace HO406 := el (rx HO406) ho0 hb; replace HO421 := el (rx HO421) ho0 hb; replace BK385 := kx BK385 hb; replace BK408 := kx BK408 hb; replace BK414 := kx BK414 hb; replace BK423 := kx BK423 hb; replace HB := hs (hb4 HB GE385 GE408 GE414 GE423) hb; (try clear hb); (try clear hb2); (try clear hk); (try clear hi); (try clear ho0); obtain ⟨Ao60, co60, eo60⟩ := Kd.R_slice HO421.out; subst eo60; obtain ⟨Ao61, co61, eo61⟩ := Kd.R_slice HO428.out; subst eo61) | (go_at_call 16; (with_reducible refine (tangramref11_Alike.calls k _ _ t419 _ _ t426 t429 _ ?side1 ?side2 ?side3 ?side4 A45.out).mono ?_); (case side1 => exact cr HO421); (case side2 => exact (Kd.R_reads' HO421.out).2.1); (case side3 => exact cr HO428); (case side4 => exact (Kd.R_reads' HO428.out).2.1); rintro e w' ⟨rfl, ⟨nd, rfl⟩⟩))
         go_meet
         case rel => exact ⟨_, (!t429), (by first | rfl | (simp; done) | (simp [*]; done)), H', ⟨by first | omega | exact Nat.le_refl _⟩, ⟨Kd.R_mono (rx HO403) (fun _ hk => ⟨hk.1.2, hk.2⟩)⟩, ⟨Kd.R_mono (rx HO412) (fun _ hk => ⟨hk.1.2, hk.2⟩)⟩, ⟨Kd.R_mono (rx HO418) (fun _ hk => ⟨hk.1.2, hk.2⟩)⟩, ⟨bx BK385⟩, ⟨bx BK408⟩, ⟨bx BK414⟩, ⟨bx BK423⟩, ⟨hb4 HB GE385 GE408 GE414 GE423⟩⟩
        ·replace c43 := Bool.eq_false_iff.mpr c43; subst c43; rw [if_neg (show ¬ (false = true) by decide)] at H; have H' := Aside0.mk H; clear H; have hnb62 := NB414_385.out; have hnc62 := NB385_414.out; have hnb63 := NB414_408.out; have hnc63 := NB408_414.out; have hnb64 := NB414_423.out; have hnc64 := NB423_414.out; have hcz65_0 : w31.cell? ⟨gb414, 0, none⟩ = some (.int .i64 t409) := bc BK414 0; have hcz65_1 : w31.cell? ⟨gb414, 1, none⟩ = some (.slice Ao28 t410.length co28) := bc BK414 1; have hfz65_0 := blk_frozen BK414.out 0; have hfz65_1 := blk_frozen BK414.out 1; have hnb66 := NB408_385.out; have hnc66 := NB385_408.out; have hnb67 := NB408_423.out; have hnc67 := NB423_408.out; have hcz68_0 : w31.cell? ⟨gb408, 0, none⟩ = some (.int .i64 t400) := bc BK408 0; have hcz68_1 : w31.cell? ⟨gb408, 1, none⟩ = some (.slice Ao20 t401.length co20) := bc BK408 1; have hfz68_0 := blk_frozen BK408.out 0; have hfz68_1 := blk_frozen BK408.out 1
         go_wp2_with (first | (go_at_call 15; (with_reducible refine (tangramref14_Same.calls k t409 _ _ t410 t400 _ _ t401 true _ ?side1 ?side2 ?side3 ?side4 A40.out).mono ?_); (case side1 => refine (Kd.R_reads' (e := 46) (base := w.heap.size) (ok := fun k_ => ((True ∧ some k_ ≠ (.slice Ao20 t401.length co20 : Value).ownBlock) ∧ some k_ ≠ (.slice Ao36 t416.length co36 : Value).ownBlock)) (n := t410.length) (c := co28) ?_).2.2; exact (rf HO412 BK423)); (case side2 => exact (Kd.R_reads' HO412.out).2.1); (case side3 => refine (Kd.R_reads' (e := 46) (base := w.heap.size) (ok := fun k_ => ((True ∧ some k_ ≠ (.slice Ao28 t410.length co28 : Value).ownBlock) ∧ some k_ ≠ (.slice Ao36 t416.length co36 : Value).ownBlock)) (n := t401.length) (c := co20) ?_).2.2; exact (rf HO403 BK423)); (case side4 => exact (Kd.R_reads' HO403.out).2.1); rintro e w69 ⟨rfl, hb⟩; replace HO403 := Aside0.mk (Kd.R_below (rf HO403 BK423) hb); replace HO406 := Aside0.mk (Kd.R_below (rf HO406 BK423) hb); replace HO412 := Aside0.mk (Kd.R_below (rf HO412 BK423) hb); replace HO418 := Aside0.mk (Kd.R_below (rf HO418 BK423) hb); replace HO421 := Aside0.mk (Kd.R_below (rf HO421 BK423) hb); replace BK385 := kb (bx1 BK385 NB385_423) hb; replace BK408 := kb (bx1 BK408 NB408_423) hb; replace BK414 := kb (bx1 BK414 NB414_423) hb; replace BK423 := Aside0.mk (blk_below (g := gb423) (o := .cells #[.int .i64 t415, .slice Ao36 t416.length co36] 25 (0, 0)) (by (with_reducible repeat (first | refine blk_drewN ?_ _ | refine blk_drew ?_ | refine blk_alloc ?_ _)); refine blk_put (cs := #[.int .i64 t415, .slice none 0 0]) ?_ 1 _ rfl; (with_reducible repeat (first | refine blk_drewN ?_ _ | refine blk_drew ?_ | refine blk_alloc ?_ _)); refine blk_put (cs := #[.int .i64 0, .slice none 0 0]) ?_ 0 _ rfl; (with_reducible repeat (first | refine blk_drewN ?_ _ | refine blk_drew ?_ | refine blk_alloc ?_ _)); exact BK423.out) hb); replace HB := hs (hb4 HB GE385 GE408 GE414 GE423) hb; (try clear hb); (try clear hb2); (try clear hk); (try clear hi); have hnb70 := NB423_385.out; have hnc70 := NB385_423.out; have hcz71_0 : w69.cell? ⟨gb423, 0, none⟩ = some (.int .i64 t415) := bc BK423 0; have hcz71_1 : w69.cell? ⟨gb423, 1, none⟩ = some (.slice Ao36 t416.length co36) := bc BK423 1; have hfz71_0 := blk_frozen BK423.out 0; have hfz71_1 := blk_frozen BK423.out 1; have hcz72_0 : w69.cell? ⟨gb408, 0, none⟩ = some (.int .i64 t400) := bc BK408 0; have hcz72_1 : w69.cell? ⟨gb408, 1, none⟩ = some (.slice Ao20 t401.length co20) := bc BK408 1; have hfz72_0 := blk_frozen BK408.out 0; have hfz72_1 := blk_frozen BK408.out 1) | (go_at_call 15; (with_reducible refine (tangramref14_Same.calls k t415 _ _ t416 t400 _ _ t401 false _ ?side1 ?side2 ?side3 ?side4 A42.out).mono ?_); (case side1 => exact cr HO418); (case side2 => exact (Kd.R_reads' HO418.out).2.1); (case side3 => exact cr HO403); (case side4 => exact (Kd.R_reads' HO403.out).2.1); rintro e w73 ⟨rfl, hb⟩; replace HO403 := ry HO403 hb; replace HO406 := ry HO406 hb; replace HO412 := ry HO412 hb; replace HO418 := ry HO418 hb; replace HO421 := ry HO421 hb; replace BK385 := kx BK385 hb; replace BK408 := kx BK408 hb; replace BK414 := kx BK414 hb; replace BK423 := kx BK423 hb; replace HB := hs (hb4 HB GE385 GE408 GE414 GE423) hb; (try clear hb); (try clear hb2); (try clear hk); (try clear hi)))
         go_meet
         case rel => exact ⟨_, (true), (by first | rfl | (simp; done) | (simp [*]; done)), H', ⟨by first | omega | exact Nat.le_refl _⟩, ⟨Kd.R_mono (rx HO403) (fun _ hk => ⟨hk.1.2, hk.2⟩)⟩, ⟨Kd.R_mono (rx HO412) (fun _ hk => ⟨hk.1.2, hk.2⟩)⟩, ⟨Kd.R_mono (rx HO418) (fun _ hk => ⟨hk.1.2, hk.2⟩)⟩, ⟨bx BK385⟩, ⟨bx BK408⟩, ⟨bx BK414⟩, ⟨bx BK423⟩, ⟨hb4 HB GE385 GE408 GE414 GE423⟩⟩
       ·replace c41 := Bool.eq_false_iff.mpr c41; subst c41; rw [if_neg (show ¬ (false = true) by decide)] at H; have H' := Aside0.mk H; clear H; have hnb74 := NB414_385.out; have hnc74 := NB385_414.out; have hnb75 := NB414_408.out; have hnc75 := NB408_414.out; have hnb76 := NB414_423.out; have hnc76 := NB423_414.out; have hcz77_0 : w31.cell? ⟨gb414, 0, none⟩ = some (.int .i64 t409) := bc BK414 0; have hcz77_1 : w31.cell? ⟨gb414, 1, none⟩ = some (.slice Ao28 t410.length co28) := bc BK414 1; have hfz77_0 := blk_frozen BK414.out 0; have hfz77_1 := blk_frozen BK414.out 1; have hnb78 := NB408_385.out; have hnc78 := NB385_408.out; have hnb79 := NB408_423.out; have hnc79 := NB423_408.out; have hcz80_0 : w31.cell? ⟨gb408, 0, none⟩ = some (.int .i64 t400) := bc BK408 0; have hcz80_1 : w31.cell? ⟨gb408, 1, none⟩ = some (.slice Ao20 t401.length co20) := bc BK408 1; have hfz80_0 := blk_frozen BK408.out 0; have hfz80_1 := blk_frozen BK408.out 1
        go_wp2_with (first | (go_at_call 15; (with_reducible refine (tangramref14_Same.calls k t409 _ _ t410 t400 _ _ t401 false _ ?side1 ?side2 ?side3 ?side4 A40.out).mono ?_); (case side1 => refine (Kd.R_reads' (e := 46) (base := w.heap.size) (ok := fun k_ => ((True ∧ some k_ ≠ (.slice Ao20 t401.length co20 : Value).ownBlock) ∧ some k_ ≠ (.slice Ao36 t416.length co36 : Value).ownBlock)) (n := t410.length) (c := co28) ?_).2.2; exact (rf HO412 BK423)); (case side2 => exact (Kd.R_reads' HO412.out).2.1); (case side3 => refine (Kd.R_reads' (e := 46) (base := w.heap.size) (ok := fun k_ => ((True ∧ some k_ ≠ (.slice Ao28 t410.length co28 : Value).ownBlock) ∧ some k_ ≠ (.slice Ao36 t416.length co36 : Value).ownBlock)) (n := t401.length) (c := co20) ?_).2.2; exact (rf HO403 BK423)); (case side4 => exact (Kd.R_reads' HO403.out).2.1); rintro e w81 ⟨rfl, hb⟩; replace HO403 := Aside0.mk (Kd.R_below (rf HO403 BK423) hb); replace HO406 := Aside0.mk (Kd.R_below (rf HO406 BK423) hb); replace HO412 := Aside0.mk (Kd.R_below (rf HO412 BK423) hb); replace HO418 := Aside0.mk (Kd.R_below (rf HO418 BK423) hb); replace HO421 := Aside0.mk (Kd.R_below (rf HO421 BK423) hb); replace BK385 := kb (bx1 BK385 NB385_423) hb; replace BK408 := kb (bx1 BK408 NB408_423) hb; replace BK414 := kb (bx1 BK414 NB414_423) hb; replace BK423 := Aside0.mk (blk_below (g := gb423) (o := .cells #[.int .i64 t415, .slice Ao36 t416.length co36] 25 (0, 0)) (by (with_reducible repeat (first | refine blk_drewN ?_ _ | refine blk_drew ?_ | refine blk_alloc ?_ _)); refine blk_put (cs := #[.int .i64 t415, .slice none 0 0]) ?_ 1 _ rfl; (with_reducible repeat (first | refine blk_drewN ?_ _ | refine blk_drew ?_ | refine blk_alloc ?_ _)); refine blk_put (cs := #[.int .i64 0, .slice none 0 0]) ?_ 0 _ rfl; (with_reducible repeat (first | refine blk_drewN ?_ _ | refine blk_drew ?_ | refine blk_alloc ?_ _)); exact BK423.out) hb); replace HB := hs (hb4 HB GE385 GE408 GE414 GE423) hb; (try clear hb); (try clear hb2); (try clear hk); (try clear hi)))
        go_meet
        case rel => exact ⟨_, (true), (by first | rfl | (simp; done) | (simp [*]; done)), H', ⟨by first | omega | exact Nat.le_refl _⟩, ⟨Kd.R_mono (rx HO403) (fun _ hk => ⟨hk.1.2, hk.2⟩)⟩, ⟨Kd.R_mono (rx HO412) (fun _ hk => ⟨hk.1.2, hk.2⟩)⟩, ⟨Kd.R_mono (rx HO418) (fun _ hk => ⟨hk.1.2, hk.2⟩)⟩, ⟨bx BK385⟩, ⟨bx BK408⟩, ⟨bx BK414⟩, ⟨bx BK423⟩, ⟨hb4 HB GE385 GE408 GE414 GE423⟩⟩
      ·rw [if_neg c39] at H; have c39b0 : (t422 == 0) = false := beq_eq_false_iff_ne.mpr c39; have c39b1 : (t422 != 0) = true := bne_iff_ne.mpr c39; have H' := Aside0.mk H; clear H
       go_wp2
       go_meet
       case rel => exact ⟨_, (true), (by first | rfl | (simp; done) | (simp [*]; done)), H', ⟨by first | omega | exact Nat.le_refl _⟩, ⟨Kd.R_mono (rf HO403 BK423) (fun _ hk => ⟨hk.1.2, hk.2⟩)⟩, ⟨Kd.R_mono (rf HO412 BK423) (fun _ hk => ⟨hk.1.2, hk.2⟩)⟩, ⟨Kd.R_mono (rf HO418 BK423) (fun _ hk => ⟨hk.1.2, hk.2⟩)⟩, ⟨bx1 BK385 NB385_423⟩, ⟨bx1 BK408 NB408_423⟩, ⟨bx1 BK414 NB414_423⟩, ⟨by (with_reducible repeat (first | refine blk_drewN ?_ _ | refine blk_drew ?_ | refine blk_alloc ?_ _)); refine blk_put (cs := #[.int .i64 t415, .slice none 0 0]) ?_ 1 _ rfl; (with_reducible repeat (first | refine blk_drewN ?_ _ | refine blk_drew ?_ | refine blk_alloc ?_ _)); refine blk_put (cs := #[.int .i64 0, .slice none 0 0]) ?_ 0 _ rfl; (with_reducible repeat (first | refine blk_drewN ?_ _ | refine blk_drew ?_ | refine blk_alloc ?_ _)); exact BK423.out⟩, ⟨hb4 HB GE385 GE408 GE414 GE423⟩⟩
     ·rw [if_neg c38] at H; have c38b0 : (t413 == 0) = false := beq_eq_false_iff_ne.mpr c38; have c38b1 : (t413 != 0) = true := bne_iff_ne.mpr c38; have H' := Aside0.mk H; clear H
      go_wp2
      go_meet
      case rel => exact ⟨_, (true), (by first | rfl | (simp; done) | (simp [*]; done)), H', ⟨by first | omega | exact Nat.le_refl _⟩, ⟨Kd.R_mono (rf HO403 BK423) (fun _ hk => ⟨hk.1.2, hk.2⟩)⟩, ⟨Kd.R_mono (rf HO412 BK423) (fun _ hk => ⟨hk.1.2, hk.2⟩)⟩, ⟨Kd.R_mono (rf HO418 BK423) (fun _ hk => ⟨hk.1.2, hk.2⟩)⟩, ⟨bx1 BK385 NB385_423⟩, ⟨bx1 BK408 NB408_423⟩, ⟨bx1 BK414 NB414_423⟩, ⟨by (with_reducible repeat (first | refine blk_drewN ?_ _ | refine blk_drew ?_ | refine blk_alloc ?_ _)); refine blk_put (cs := #[.int .i64 t415, .slice none 0 0]) ?_ 1 _ rfl; (with_reducible repeat (first | refine blk_drewN ?_ _ | refine blk_drew ?_ | refine blk_alloc ?_ _)); refine blk_put (cs := #[.int .i64 0, .slice none 0 0]) ?_ 0 _ rfl; (with_reducible repeat (first | refine blk_drewN ?_ _ | refine blk_drew ?_ | refine blk_alloc ?_ _)); exact BK423.out⟩, ⟨hb4 HB GE385 GE408 GE414 GE423⟩⟩
    ·rw [if_neg c37] at H; have c37b0 : (t407 == 0) = false := beq_eq_false_iff_ne.mpr c37; have c37b1 : (t407 != 0) = true := bne_iff_ne.mpr c37
     (first | rw [c37b0] | (simp only [i64_w, i32_w]; rw [c37b0]) | skip)
     have H' := Aside0.mk H; clear H
     go_wp2
     go_meet
     case rel => exact ⟨_, (true), (by first | rfl | (simp; done) | (simp [*]; done)), H', ⟨by first | omega | exact Nat.le_refl _⟩, ⟨Kd.R_mono (rf HO403 BK423) (fun _ hk => ⟨hk.1.2, hk.2⟩)⟩, ⟨Kd.R_mono (rf HO412 BK423) (fun _ hk => ⟨hk.1.2, hk.2⟩)⟩, ⟨Kd.R_mono (rf HO418 BK423) (fun _ hk => ⟨hk.1.2, hk.2⟩)⟩, ⟨bx1 BK385 NB385_423⟩, ⟨bx1 BK408 NB408_423⟩, ⟨bx1 BK414 NB414_423⟩, ⟨by (with_reducible repeat (first | refine blk_drewN ?_ _ | refine blk_drew ?_ | refine blk_alloc ?_ _)); refine blk_put (cs := #[.int .i64 t415, .slice none 0 0]) ?_ 1 _ rfl; (with_reducible repeat (first | refine blk_drewN ?_ _ | refine blk_drew ?_ | refine blk_alloc ?_ _)); refine blk_put (cs := #[.int .i64 0, .slice none 0 0]) ?_ 0 _ rfl; (with_reducible repeat (first | refine blk_drewN ?_ _ | refine blk_drew ?_ | refine blk_alloc ?_ _)); exact BK423.out⟩, ⟨hb4 HB GE385 GE408 GE414 GE423⟩⟩
   case rest => as_aux_lemma =>
    clear HC10
    try clear c1
    try clear c2
    try clear p2
    try clear c3
    try clear c4
    try clear c5
    try clear c6
    try clear c7
    try clear c10
    try clear c11
    try clear c13
    try clear c14
    try clear c18
    try clear c25
    try clear c26
    try clear c32
    try clear c33
    try clear c34
    try clear c37
    try clear c37b0
    try clear c37b1
    try clear c38
    try clear c38b0
    try clear c38b1
    try clear c39
    try clear c39b0
    try clear c39b1
    try clear c41
    try clear c43
    try clear c46
    try clear c47
    try clear c48
    try clear c50
    try clear c51
    try clear c54
    try clear c62
    try clear c63
    try clear c64
    try clear c66
    try clear c67
    try clear c70
    try clear c74
    try clear c75
    try clear c76
    try clear c78
    try clear c79
    try clear hcz13_0
    try clear hcz13_1
    try clear hcz15_0
    try clear hcz15_1
    try clear hcz19_0
    try clear hcz19_1
    try clear hcz21_0
    try clear hcz21_1
    try clear hcz27_0
    try clear hcz27_1
    try clear hcz29_0
    try clear hcz29_1
    try clear hcz35_0
    try clear hcz35_1
    try clear hcz49_0
    try clear hcz49_1
    try clear hcz52_0
    try clear hcz52_1
    try clear hcz55_0
    try clear hcz55_1
    try clear hcz56_0
    try clear hcz56_1
    try clear hcz58_0
    try clear hcz58_1
    try clear hcz65_0
    try clear hcz65_1
    try clear hcz68_0
    try clear hcz68_1
    try clear hcz71_0
    try clear hcz71_1
    try clear hcz72_0
    try clear hcz72_1
    try clear hcz77_0
    try clear hcz77_1
    try clear hcz80_0
    try clear hcz80_1
    try clear hfz13_0
    try clear hfz13_1
    try clear hfz15_0
    try clear hfz15_1
    try clear hfz19_0
    try clear hfz19_1
    try clear hfz21_0
    try clear hfz21_1
    try clear hfz27_0
    try clear hfz27_1
    try clear hfz29_0
    try clear hfz29_1
    try clear hfz35_0
    try clear hfz35_1
    try clear hfz49_0
    try clear hfz49_1
    try clear hfz52_0
    try clear hfz52_1
    try clear hfz55_0
    try clear hfz55_1
    try clear hfz56_0
    try clear hfz56_1
    try clear hfz58_0
    try clear hfz58_1
    try clear hfz65_0
    try clear hfz65_1
    try clear hfz68_0
    try clear hfz68_1
    try clear hfz71_0
    try clear hfz71_1
    try clear hfz72_0
    try clear hfz72_1
    try clear hfz77_0
    try clear hfz77_1
    try clear hfz80_0
    try clear hfz80_1
    obtain ⟨kq, x88_9, rfl, HA, HJ9, HO_409001, HO_415001, HO_424001, BK385, BK408, BK414, BK423, HB⟩ := hcut
    cases kq with
    | zero => exact absurd HA.out (by simp [tangramlaw14_EditNamed.j0])
    | succ kj9 =>
     have H := HA.out; clear HA; simp only [tangramlaw14_EditNamed.j0] at H
     by_cases c82 : x88_9 = true
     ·subst c82; rw [if_pos rfl] at H; obtain rfl := Option.some.inj H
      go_wp2
      go_ret
      exact ⟨by first | rfl | (simp [errW_none, errW_some] <;> rfl) | (simp [*, errW_none, errW_some] <;> rfl), hb4 HB GE385 GE408 GE414 GE423⟩
     ·replace c82 := Bool.eq_false_iff.mpr c82; subst c82; rw [if_neg (show ¬ (false = true) by decide)] at H; obtain ⟨y430, hy430⟩ : ∃ y_ : List Int, y_ = (([] : List Int)) := ⟨_, rfl⟩; replace H : (if y430.length + l1.length < 17592186044416 then ((edit_Relabel.f kj9 a0_0 l0_1 (y430 ++ l1)).bind fun bt436 => (if 0 ≤ a0_0 then (if (a0_0 : Int).toNat ≤ 35184372088832 then (tangramlaw14_EditNamed.l0 kj9 l1 bt436.2.2 (List.replicate (a0_0 : Int).toNat 0) 0 l1 (l1.length : Int) 0 a0_0 l0_1 bt436.1 bt436.2.1) else (none)) else (none))) else (none)) = some r := by first | (rw [hy430]; with_reducible exact H) | (have H2_ := (Option.bind_some _ _).symm.trans H; rw [hy430]; with_reducible exact H2_) | (have H2_ := (Option.bind_some _ _).symm.trans H; with_reducible exact H2_) | with_reducible exact H | (rw [hy430]; exact H) | exact H
      have Ny430 := Aside0.mk hy430; clear hy430
      by_cases c83 : y430.length + l1.length < 17592186044416
      ·rw [if_pos c83] at H; have LMc83 := Aside0.mk c83; clear c83; obtain ⟨y433, hy433⟩ : ∃ y_ : List Int, y_ = (y430 ++ l1) := ⟨_, rfl⟩; replace H : ((edit_Relabel.f kj9 a0_0 l0_1 y433).bind fun bt436 => (if 0 ≤ a0_0 then (if (a0_0 : Int).toNat ≤ 35184372088832 then (tangramlaw14_EditNamed.l0 kj9 l1 bt436.2.2 (List.replicate (a0_0 : Int).toNat 0) 0 l1 (l1.length : Int) 0 a0_0 l0_1 bt436.1 bt436.2.1) else (none)) else (none))) = some r := by first | (rw [hy433]; with_reducible exact H) | (have H2_ := (Option.bind_some _ _).symm.trans H; rw [hy433]; with_reducible exact H2_) | (have H2_ := (Option.bind_some _ _).symm.trans H; with_reducible exact H2_) | with_reducible exact H | (rw [hy433]; exact H) | exact H
       have Ny433 := Aside0.mk hy433; clear hy433; replace H := Option.bind_eq_some_iff.mp H; obtain ⟨⟨t436, t437, t440⟩, A840, H⟩ := H; (try dsimp only at H); have A84 := Aside0.mk A840; clear A840
       by_cases c85 : 0 ≤ a0_0
       ·rw [if_pos c85] at H; have c85b0 := eq_true c85; have c85b1 : decide (0 ≤ a0_0) = true := decide_eq_true c85; clear c85
        by_cases c86 : (a0_0 : Int).toNat ≤ 35184372088832
        ·rw [if_pos c86] at H; have c86b0 := eq_true c86; have c86b1 : decide ((a0_0 : Int).toNat ≤ 35184372088832) = true := decide_eq_true c86; clear c86; obtain ⟨y442, hy442⟩ : ∃ y_ : List Int, y_ = (List.replicate (a0_0 : Int).toNat 0) := ⟨_, rfl⟩; replace H : (tangramlaw14_EditNamed.l0 kj9 l1 t440 y442 0 l1 (l1.length : Int) 0 a0_0 l0_1 t436 t437) = some r := by first | (rw [hy442]; with_reducible exact H) | (have H2_ := (Option.bind_some _ _).symm.trans H; rw [hy442]; with_reducible exact H2_) | (have H2_ := (Option.bind_some _ _).symm.trans H; with_reducible exact H2_) | with_reducible exact H | (rw [hy442]; exact H) | exact H
         have Ny442 := Aside0.mk hy442; clear hy442; have H' := Aside0.mk H; clear H
         try go_wp2
         replace HO_409001 := rd HO_409001; replace HO_415001 := rd HO_415001; replace HO_424001 := rd HO_424001; replace BK385 := bd BK385; replace BK408 := bd BK408; replace BK414 := bd BK414; replace BK423 := bd BK423; replace HB := Aside0.mk (below_drew1 HB.out); refine start_ (n := 11) (S := fun w' => w'.cell? ⟨gb385, 0, none⟩ = some (.int .i64 a0_0) ∧ w'.cell? ⟨gb385, 1, none⟩ = some (.slice A0_1 l0_1.length c0_1)) (ds := []) #[F_,F_,F_,F_,F_,F_,F_,F_,F_,F_,F_] (by kernel_rfl) rfl rfl ⟨bc BK385 0, bc BK385 1⟩ (fun hHeld => ?_); refine with_tabW tangramlaw14_EditNamed.tab11 tangramlaw14_EditNamed.bits11 (fun HT_ HW_ => ?_); generalize wc.drew = w87 at HO_409001 HO_415001 HO_424001 BK385 BK408 BK414 BK423 HB hHeld ⊢; refine pu_ 2 (some 92) #[F_,F_,T_,F_,F_,F_,F_,F_,F_,F_,F_] HT_ ?_; refine tk2_ 0 (some 90) #[T_,F_,T_,F_,F_,F_,F_,F_,F_,F_,F_] HT_ HW_ hHeld ?_; refine join_ (σ := Value × Value × Value × Nat) 2 #[T_,T_,T_,T_,T_,T_,T_,T_,T_,F_,F_] (fun s_ => [(91, s_.1), (93, s_.2.1), (94, .tuple #[.agg #[.int .i64 t436, s_.2.2.1], .int .i64 t440]), (15, .pointer (some ⟨s_.2.2.2, 0, none⟩)), (89, .tuple #[.agg #[.int .i64 t436, s_.2.2.1], .int .i64 t440]), (95, .agg #[.int .i64 t436, s_.2.2.1]), (96, .int .i64 t440)]) (fun s_ w' => (w'.cell? ⟨gb385, 0, none⟩ = some (.int .i64 a0_0) ∧ w'.cell? ⟨gb385, 1, none⟩ = some (.slice A0_1 l0_1.length c0_1)) ∧ (Kd.R (Kd.int .i64) 3 w' w.heap.size (fun _ => True) s_.2.1 y433) ∧ (Kd.R k46 46 w' w.heap.size (fun k_ => some k_ ≠ (.slice Ao20 t401.length co20 : Value).ownBlock ∧ some k_ ≠ (.slice Ao28 t410.length co28 : Value).ownBlock ∧ some k_ ≠ (.slice Ao36 t416.length co36 : Value).ownBlock) s_.2.2.1 t437) ∧ (Kd.R k46 46 w' w.heap.size (fun k_ => some k_ ≠ (s_.2.2.1 : Value).ownBlock ∧ some k_ ≠ (.slice Ao28 t410.length co28 : Value).ownBlock ∧ some k_ ≠ (.slice Ao36 t416.length co36 : Value).ownBlock) (.slice Ao20 t401.length co20) t401) ∧ (Kd.R k46 46 w' w.heap.size (fun k_ => some k_ ≠ (s_.2.2.1 : Value).ownBlock ∧ some k_ ≠ (.slice Ao20 t401.length co20 : Value).ownBlock ∧ some k_ ≠ (.slice Ao36 t416.length co36 : Value).ownBlock) (.slice Ao28 t410.length co28) t410) ∧ (Kd.R k46 46 w' w.heap.size (fun k_ => some k_ ≠ (s_.2.2.1 : Value).ownBlock ∧ some k_ ≠ (.slice Ao20 t401.length co20 : Value).ownBlock ∧ some k_ ≠ (.slice Ao28 t410.length co28 : Value).ownBlock) (.slice Ao36 t416.length co36) t416) ∧ (w'.heap[gb385]? = some (.cells #[.int .i64 a0_0, .slice A0_1 l0_1.length c0_1] 25 (0, 0))) ∧ (w'.heap[gb408]? = some (.cells #[.int .i64 t400, .slice Ao20 t401.length co20] 25 (0, 0))) ∧ (w'.heap[gb414]? = some (.cells #[.int .i64 t409, .slice Ao28 t410.length co28] 25 (0, 0))) ∧ (w'.heap[gb423]? = some (.cells #[.int .i64 t415, .slice Ao36 t416.length co36] 25 (0, 0))) ∧ (w'.heap[s_.2.2.2]? = some (.cells #[.int .i64 0, .slice none 0 0] 25 (0, 0))) ∧ (w.heap.size ≤ s_.2.2.2) ∧ (w.heap.size ≤ s_.2.2.2) ∧ (gb385 ≠ s_.2.2.2) ∧ (s_.2.2.2 ≠ gb385) ∧ (gb408 ≠ s_.2.2.2) ∧ (s_.2.2.2 ≠ gb408) ∧ (gb414 ≠ s_.2.2.2) ∧ (s_.2.2.2 ≠ gb414) ∧ (gb423 ≠ s_.2.2.2) ∧ (s_.2.2.2 ≠ gb423) ∧ (Below w.heap.size w w')) ?_ ?_
         rotate_left
         ·intro hCont; refine two_ (i := 1) (j := 8) (Ni := some 91) (Nj := some 15) #[T_,T_,T_,F_,F_,F_,F_,F_,F_,F_,F_] #[T_,F_,T_,F_,F_,F_,F_,F_,T_,F_,F_] rfl rfl rfl rfl (two_of HT_.out (by kernel_rfl)) (by decide) (by decide) (fun K hK => ?_) (fun K hK => ?_)
          ·skip
           refine Kd.R_lit_step (Kd.int .i64) _ 3 ?hg (N := 91) ?hd (xs := ([] : List Int)) (inner := []) (ok := fun _ => True) (okp := fun _ => True) ?hr ?hp (fun _ hk => hk) trivial (Below.refl _ _) (Nat.le_refl _) (by simp) ?_; (case hd => rfl); (case hg => rfl); (case hr => first | (go_simp; done) | (go_simp; rfl)); (case hp => exact (Reps.none _ _)); intro v431 w88 ho89 hb hg_ hnew_; clear hg_ hnew_
           (first | rw [← Ny430.out] at ho89 | (simp only [Int.reduceToNat] at ho89; rw [← Ny430.out] at ho89))
           replace HO_409001 := ry HO_409001 hb; replace HO_415001 := ry HO_415001 hb; replace HO_424001 := ry HO_424001 hb; have HO432 := Aside0.mk (Kd.R_lower ho89 (below_size (hb4 HB GE385 GE408 GE414 GE423))); replace BK385 := kx BK385 hb; replace BK408 := kx BK408 hb; replace BK414 := kx BK414 hb; replace BK423 := kx BK423 hb; replace HB := hs (hb4 HB GE385 GE408 GE414 GE423) hb; clear hb ho89; refine hK.out _ _ ⟨bc BK385 0, bc BK385 1⟩ (fun hHeld => ?_); clear hK K; refine nm_ (some 91) ?_; refine two_ (i := 3) (j := 8) (Ni := some 93) (Nj := some 15) #[T_,T_,T_,T_,F_,F_,F_,F_,F_,F_,F_] #[T_,T_,T_,F_,F_,F_,F_,F_,T_,F_,F_] rfl rfl rfl rfl (two_of HT_.out (by kernel_rfl)) (by decide) (by decide) (fun K hK => ?_) (fun K hK => ?_)
           ·skip
            refine Kd.R_append_rows_step (Kd.int .i64) (w0 := w) w.heap.size (by rfl) (.tmp 91) (.tmp 92) 26 3 (.int .i64 0) 8 rfl Try.underlying26 info3 rfl (by decide) (by omega) v431 y430 l1 _ _ _ (fun _ => True) (fun _ => False) rfl rfl ?aO ?aR (fun _ _ h => h) (fun _ h => h.elim) ?aF ?aB ?aS ?aL ?_
            (case aR => repeat (first | exact (Kd.C_below HR1.out HB.out) | (with_reducible refine Kd.C_alloc ?_ _) | (with_reducible refine Kd.C_drewN ?_ _) | (with_reducible refine Kd.C_drew ?_)))
            (case aB => exact (hb4 HB GE385 GE408 GE414 GE423))
            (case aF => exact (fun _ _ => trivial))
            (case aO => exact (rx HO432))
            (case aS => exact (below_size (hb4 HB GE385 GE408 GE414 GE423)))
            (case aL => have := LMc83.out; omega)
            intro v434 w90 ho hb hg hat; rw [← Ny433.out] at ho; have n0_ := Aside0.mk (Kd.R_over' (rx HO_409001) (Kd.R_typed (rx HO432)) (by decide) hg); have n1_ := Aside0.mk (Kd.R_over' (rx HO_415001) (Kd.R_typed (rx HO432)) (by decide) hg); have n2_ := Aside0.mk (Kd.R_over' (rx HO_424001) (Kd.R_typed (rx HO432)) (by decide) hg); have n3_ := Aside0.mk (blk_grown (bx BK385) hg (Kd.R_ne HO432.out BK385.out (by decide))); have n4_ := Aside0.mk (blk_grown (bx BK408) hg (Kd.R_ne HO432.out BK408.out (by decide))); have n5_ := Aside0.mk (blk_grown (bx BK414) hg (Kd.R_ne HO432.out BK414.out (by decide))); have n6_ := Aside0.mk (blk_grown (bx BK423) hg (Kd.R_ne HO432.out BK423.out (by decide))); have n7_ := Aside0.mk (hb); have n8_ := Aside0.mk (ho); clear HO_409001 HO_415001 HO_424001 BK385 BK408 BK414 BK423 HB HO432; have HO_409001 := n0_; have HO_415001 := n1_; have HO_424001 := n2_; have BK385 := n3_; have BK408 := n4_; have BK414 := n5_; have BK423 := n6_; have HB := n7_; have HO435 := n8_; clear n0_ n1_ n2_ n3_ n4_ n5_ n6_ n7_ n8_ ho hb hg hat; obtain ⟨Ao91, co91, eo91⟩ := Kd.R_slice HO435.out
            (first | subst eo91 | obtain ⟨rfl, rfl⟩ := sx eo91)
            refine hK.out _ _ ⟨bc BK385 0, bc BK385 1⟩ (fun hHeld => ?_); clear hK K; refine nm_ (some 93) ?_; refine two_ (i := 4) (j := 8) (Ni := some 94) (Nj := some 15) #[T_,T_,T_,T_,T_,F_,F_,F_,F_,F_,F_] #[T_,T_,T_,T_,F_,F_,F_,F_,T_,F_,F_] rfl rfl rfl rfl (two_of HT_.out (by kernel_rfl)) (by decide) (by decide) (fun K hK => ?_) (fun K hK => ?_)
            ·skip
             refine gs_ Try.func12 #[.agg #[.int .i64 a0_0, .slice A0_1 l0_1.length c0_1], .slice Ao91 y433.length co91] ?_
             with_reducible refine (edit_Relabel.calls kj9 a0_0 _ _ l0_1 _ _ y433 t436 t437 t440 _ ?side1 ?side2 ?side3 ?side4 A84.out).mono ?_
             (case side1 => repeat (first | exact (Kd.C_below HR0_1.out HB.out) | (with_reducible refine Kd.C_alloc ?_ _) | (with_reducible refine Kd.C_drewN ?_ _) | (with_reducible refine Kd.C_drew ?_)))
             (case side2 => exact HC0_1.out)
             (case side3 => exact cr HO435)
             (case side4 => exact (Kd.R_reads' HO435.out).2.1)
             rintro e w92 ⟨v438, rfl, ho0, hb⟩; refine ⟨_, rfl, ?_⟩; replace HO435 := ry HO435 hb; have HO439 := Aside0.mk (Kd.R_lower (Kd.R_new' (Kd.R_new' (Kd.R_new' ho0 (Kd.R_lt (rx HO_409001))) (Kd.R_lt (rx HO_415001))) (Kd.R_lt (rx HO_424001))) (below_size (hb4 HB GE385 GE408 GE414 GE423))); replace HO_409001 := el (rx HO_409001) ho0 hb; replace HO_415001 := el (rx HO_415001) ho0 hb; replace HO_424001 := el (rx HO_424001) ho0 hb; replace BK385 := kx BK385 hb; replace BK408 := kx BK408 hb; replace BK414 := kx BK414 hb; replace BK423 := kx BK423 hb; replace HB := hs (hb4 HB GE385 GE408 GE414 GE423) hb
             (try clear hb)
             (try clear hb2)
             (try clear hk)
             (try clear hi)
             (try clear ho0)
             refine hK.out _ _ ⟨bc BK385 0, bc BK385 1⟩ (fun hHeld => ?_); clear hK K; refine nm_ (some 94) ?_; refine pu_ 5 (some 89) #[T_,T_,T_,T_,T_,T_,F_,F_,F_,F_,F_] HT_ ?_; refine pu_ 6 (some 95) #[T_,T_,T_,T_,T_,T_,T_,F_,F_,F_,F_] HT_ ?_; refine pu_ 7 (some 96) #[T_,T_,T_,T_,T_,T_,T_,T_,F_,F_,F_] HT_ ?_; refine on_ 8 (some 15) #[T_,T_,T_,T_,T_,T_,T_,T_,T_,F_,F_] HT_ (fun K hK => ?_); refine bs_ 15 #[.int .i64 0, .slice none 0 0] 25 ?_; intro gb441 hg w93 hbox hb; replace HO_409001 := ry HO_409001 hb; replace HO_415001 := ry HO_415001 hb; replace HO_424001 := ry HO_424001 hb; replace HO435 := ry HO435 hb; replace HO439 := ry HO439 hb; have BK441 := Aside0.mk (hbox); have GW441 := wq (hb4 HB GE385 GE408 GE414 GE423) hg; have GE441 := wq (hb4 HB GE385 GE408 GE414 GE423) hg; replace HB := hs (hb4 HB GE385 GE408 GE414 GE423) hb; have NB385_441 := lx BK385 hg; have NB441_385 := gx BK385 hg; replace BK385 := kx BK385 hb; have NB408_441 := lx BK408 hg; have NB441_408 := gx BK408 hg; replace BK408 := kx BK408 hb; have NB414_441 := lx BK414 hg; have NB441_414 := gx BK414 hg; replace BK414 := kx BK414 hb; have NB423_441 := lx BK423 hg; have NB441_423 := gx BK423 hg; replace BK423 := kx BK423 hb; clear hb hbox hg; refine hK.out _ _ ⟨bc BK385 0, bc BK385 1⟩ (fun hHeld => ?_); clear hK K; refine nm_ (some 15) ?_; exact norm_ (by simp only [putAll, Act.put, List.setIfInBounds_toArray, List.set_cons_zero, List.set_cons_succ]) (hCont (v431, .slice Ao91 y433.length co91, v438, gb441) _ ⟨hHeld, (rx HO435), (Kd.R_mono (rx HO439) (fun _ hk => ⟨hk.1.1.2, ⟨hk.1.2, hk.2⟩⟩)), (Kd.R_mono (rx HO_409001) (fun _ hk => ⟨hk.2, ⟨hk.1.1, hk.1.2⟩⟩)), (Kd.R_mono (rx HO_415001) (fun _ hk => ⟨hk.2, ⟨hk.1.1, hk.1.2⟩⟩)), (Kd.R_mono (rx HO_424001) (fun _ hk => ⟨hk.2, ⟨hk.1.1, hk.1.2⟩⟩)), (bx BK385), (bx BK408), (bx BK414), (bx BK423), (bx BK441), GW441.out, GE441.out, NB385_441.out, NB441_385.out, NB408_441.out, NB441_408.out, NB414_441.out, NB441_414.out, NB423_441.out, NB441_423.out, (hb5 HB GE385 GE408 GE414 GE423 GE441)⟩)
            ·skip
             refine bs_ 15 #[.int .i64 0, .slice none 0 0] 25 ?_; intro gb441 hg w91 hbox hb; replace HO_409001 := ry HO_409001 hb; replace HO_415001 := ry HO_415001 hb; replace HO_424001 := ry HO_424001 hb; replace HO435 := ry HO435 hb; have BK441 := Aside0.mk (hbox); have GW441 := wq (hb4 HB GE385 GE408 GE414 GE423) hg; have GE441 := wq (hb4 HB GE385 GE408 GE414 GE423) hg; replace HB := hs (hb4 HB GE385 GE408 GE414 GE423) hb; have NB385_441 := lx BK385 hg; have NB441_385 := gx BK385 hg; replace BK385 := kx BK385 hb; have NB408_441 := lx BK408 hg; have NB441_408 := gx BK408 hg; replace BK408 := kx BK408 hb; have NB414_441 := lx BK414 hg; have NB441_414 := gx BK414 hg; replace BK414 := kx BK414 hb; have NB423_441 := lx BK423 hg; have NB441_423 := gx BK423 hg; replace BK423 := kx BK423 hb; clear hb hbox hg; obtain ⟨Ao92, co92, eo92⟩ := Kd.R_slice HO435.out
             (first | subst eo92 | obtain ⟨rfl, rfl⟩ := sx eo92)
             refine hK.out _ _ ⟨bc BK385 0, bc BK385 1⟩ (fun hHeld => ?_); clear hK K; refine nm_ (some 15) ?_; refine on_ 4 (some 94) #[T_,T_,T_,T_,T_,F_,F_,F_,T_,F_,F_] HT_ (fun K hK => ?_); refine gs_ Try.func12 #[.agg #[.int .i64 a0_0, .slice A0_1 l0_1.length c0_1], .slice Ao92 y433.length co92] ?_
             with_reducible refine (edit_Relabel.calls kj9 a0_0 _ _ l0_1 _ _ y433 t436 t437 t440 _ ?side1 ?side2 ?side3 ?side4 A84.out).mono ?_
             (case side1 => repeat (first | exact (Kd.C_below HR0_1.out HB.out) | (with_reducible refine Kd.C_alloc ?_ _) | (with_reducible refine Kd.C_drewN ?_ _) | (with_reducible refine Kd.C_drew ?_)))
             (case side2 => exact HC0_1.out)
             (case side3 => exact cr HO435)
             (case side4 => exact (Kd.R_reads' HO435.out).2.1)
             rintro e w93 ⟨v438, rfl, ho0, hb⟩; refine ⟨_, rfl, ?_⟩; replace HO435 := ry HO435 hb; have HO439 := Aside0.mk (Kd.R_lower (Kd.R_new' (Kd.R_new' (Kd.R_new' ho0 (Kd.R_lt (rx HO_409001))) (Kd.R_lt (rx HO_415001))) (Kd.R_lt (rx HO_424001))) (below_size (hb5 HB GE385 GE408 GE414 GE423 GE441))); replace HO_409001 := el (rx HO_409001) ho0 hb; replace HO_415001 := el (rx HO_415001) ho0 hb; replace HO_424001 := el (rx HO_424001) ho0 hb; replace BK385 := kx BK385 hb; replace BK408 := kx BK408 hb; replace BK414 := kx BK414 hb; replace BK423 := kx BK423 hb; replace BK441 := kx BK441 hb; replace HB := hs (hb5 HB GE385 GE408 GE414 GE423 GE441) hb
             (try clear hb)
             (try clear hb2)
             (try clear hk)
             (try clear hi)
             (try clear ho0)
             refine hK.out _ _ ⟨bc BK385 0, bc BK385 1⟩ (fun hHeld => ?_); clear hK K; refine nm_ (some 94) ?_; refine pu_ 5 (some 89) #[T_,T_,T_,T_,T_,T_,F_,F_,T_,F_,F_] HT_ ?_; refine pu_ 6 (some 95) #[T_,T_,T_,T_,T_,T_,T_,F_,T_,F_,F_] HT_ ?_; refine pu_ 7 (some 96) #[T_,T_,T_,T_,T_,T_,T_,T_,T_,F_,F_] HT_ ?_; exact norm_ (by simp only [putAll, Act.put, List.setIfInBounds_toArray, List.set_cons_zero, List.set_cons_succ]) (hCont (v431, .slice Ao92 y433.length co92, v438, gb441) _ ⟨hHeld, (rx HO435), (Kd.R_mono (rx HO439) (fun _ hk => ⟨hk.1.1.2, ⟨hk.1.2, hk.2⟩⟩)), (Kd.R_mono (rx HO_409001) (fun _ hk => ⟨hk.2, ⟨hk.1.1, hk.1.2⟩⟩)), (Kd.R_mono (rx HO_415001) (fun _ hk => ⟨hk.2, ⟨hk.1.1, hk.1.2⟩⟩)), (Kd.R_mono (rx HO_424001) (fun _ hk => ⟨hk.2, ⟨hk.1.1, hk.1.2⟩⟩)), (bx BK385), (bx BK408), (bx BK414), (bx BK423), (bx BK441), GW441.out, GE441.out, NB385_441.out, NB441_385.out, NB408_441.out, NB441_408.out, NB414_441.out, NB441_414.out, NB423_441.out, NB441_423.out, (hb5 HB GE385 GE408 GE414 GE423 GE441)⟩)
           ·skip
            refine bs_ 15 #[.int .i64 0, .slice none 0 0] 25 ?_; intro gb441 hg w90 hbox hb; replace HO_409001 := ry HO_409001 hb; replace HO_415001 := ry HO_415001 hb; replace HO_424001 := ry HO_424001 hb; replace HO432 := ry HO432 hb; have BK441 := Aside0.mk (hbox); have GW441 := wq (hb4 HB GE385 GE408 GE414 GE423) hg; have GE441 := wq (hb4 HB GE385 GE408 GE414 GE423) hg; replace HB := hs (hb4 HB GE385 GE408 GE414 GE423) hb; have NB385_441 := lx BK385 hg; have NB441_385 := gx BK385 hg; replace BK385 := kx BK385 hb; have NB408_441 := lx BK408 hg; have NB441_408 := gx BK408 hg; replace BK408 := kx BK408 hb; have NB414_441 := lx BK414 hg; have NB441_414 := gx BK414 hg; replace BK414 := kx BK414 hb; have NB423_441 := lx BK423 hg; have NB441_423 := gx BK423 hg; replace BK423 := kx BK423 hb; clear hb hbox hg; refine hK.out _ _ ⟨bc BK385 0, bc BK385 1⟩ (fun hHeld => ?_); clear hK K; refine nm_ (some 15) ?_; refine on_ 3 (some 93) #[T_,T_,T_,T_,F_,F_,F_,F_,T_,F_,F_] HT_ (fun K hK => ?_); refine Kd.R_append_rows_step (Kd.int .i64) (w0 := w) w.heap.size (by rfl) (.tmp 91) (.tmp 92) 26 3 (.int .i64 0) 8 rfl Try.underlying26 info3 rfl (by decide) (by omega) v431 y430 l1 _ _ _ (fun _ => True) (fun _ => False) rfl rfl ?aO ?aR (fun _ _ h => h) (fun _ h => h.elim) ?aF ?aB ?aS ?aL ?_
            (case aR => repeat (first | exact (Kd.C_below HR1.out HB.out) | (with_reducible refine Kd.C_alloc ?_ _) | (with_reducible refine Kd.C_drewN ?_ _) | (with_reducible refine Kd.C_drew ?_)))
            (case aB => exact (hb5 HB GE385 GE408 GE414 GE423 GE441))
            (case aF => exact (fun _ _ => trivial))
            (case aO => exact (rx HO432))
            (case aS => exact (below_size (hb5 HB GE385 GE408 GE414 GE423 GE441)))
            (case aL => have := LMc83.out; omega)
            intro v434 w91 ho hb hg hat; rw [← Ny433.out] at ho; have n0_ := Aside0.mk (Kd.R_over' (rx HO_409001) (Kd.R_typed (rx HO432)) (by decide) hg); have n1_ := Aside0.mk (Kd.R_over' (rx HO_415001) (Kd.R_typed (rx HO432)) (by decide) hg); have n2_ := Aside0.mk (Kd.R_over' (rx HO_424001) (Kd.R_typed (rx HO432)) (by decide) hg); have n3_ := Aside0.mk (blk_grown (bx BK385) hg (Kd.R_ne HO432.out BK385.out (by decide))); have n4_ := Aside0.mk (blk_grown (bx BK408) hg (Kd.R_ne HO432.out BK408.out (by decide))); have n5_ := Aside0.mk (blk_grown (bx BK414) hg (Kd.R_ne HO432.out BK414.out (by decide))); have n6_ := Aside0.mk (blk_grown (bx BK423) hg (Kd.R_ne HO432.out BK423.out (by decide))); have n7_ := Aside0.mk (blk_grown (bx BK441) hg (Kd.R_ne HO432.out BK441.out (by decide))); have n8_ := Aside0.mk (hb); have n9_ := Aside0.mk (ho); clear HO_409001 HO_415001 HO_424001 BK385 BK408 BK414 BK423 BK441 HB HO432; have HO_409001 := n0_; have HO_415001 := n1_; have HO_424001 := n2_; have BK385 := n3_; have BK408 := n4_; have BK414 := n5_; have BK423 := n6_; have BK441 := n7_; have HB := n8_; have HO435 := n9_; clear n0_ n1_ n2_ n3_ n4_ n5_ n6_ n7_ n8_ n9_ ho hb hg hat; obtain ⟨Ao92, co92, eo92⟩ := Kd.R_slice HO435.out
            (first | subst eo92 | obtain ⟨rfl, rfl⟩ := sx eo92)
            refine hK.out _ _ ⟨bc BK385 0, bc BK385 1⟩ (fun hHeld => ?_); clear hK K; refine nm_ (some 93) ?_; refine on_ 4 (some 94) #[T_,T_,T_,T_,T_,F_,F_,F_,T_,F_,F_] HT_ (fun K hK => ?_); refine gs_ Try.func12 #[.agg #[.int .i64 a0_0, .slice A0_1 l0_1.length c0_1], .slice Ao92 y433.length co92] ?_
            with_reducible refine (edit_Relabel.calls kj9 a0_0 _ _ l0_1 _ _ y433 t436 t437 t440 _ ?side1 ?side2 ?side3 ?side4 A84.out).mono ?_
            (case side1 => repeat (first | exact (Kd.C_below HR0_1.out HB.out) | (with_reducible refine Kd.C_alloc ?_ _) | (with_reducible refine Kd.C_drewN ?_ _) | (with_reducible refine Kd.C_drew ?_)))
            (case side2 => exact HC0_1.out)
            (case side3 => exact cr HO435)
            (case side4 => exact (Kd.R_reads' HO435.out).2.1)
            rintro e w93 ⟨v438, rfl, ho0, hb⟩; refine ⟨_, rfl, ?_⟩; replace HO435 := ry HO435 hb; have HO439 := Aside0.mk (Kd.R_lower (Kd.R_new' (Kd.R_new' (Kd.R_new' ho0 (Kd.R_lt (rx HO_409001))) (Kd.R_lt (rx HO_415001))) (Kd.R_lt (rx HO_424001))) (below_size (hb5 HB GE385 GE408 GE414 GE423 GE441))); replace HO_409001 := el (rx HO_409001) ho0 hb; replace HO_415001 := el (rx HO_415001) ho0 hb; replace HO_424001 := el (rx HO_424001) ho0 hb; replace BK385 := kx BK385 hb; replace BK408 := kx BK408 hb; replace BK414 := kx BK414 hb; replace BK423 := kx BK423 hb; replace BK441 := kx BK441 hb; replace HB := hs (hb5 HB GE385 GE408 GE414 GE423 GE441) hb
            (try clear hb)
            (try clear hb2)
            (try clear hk)
            (try clear hi)
            (try clear ho0)
            refine hK.out _ _ ⟨bc BK385 0, bc BK385 1⟩ (fun hHeld => ?_); clear hK K; refine nm_ (some 94) ?_; refine pu_ 5 (some 89) #[T_,T_,T_,T_,T_,T_,F_,F_,T_,F_,F_] HT_ ?_; refine pu_ 6 (some 95) #[T_,T_,T_,T_,T_,T_,T_,F_,T_,F_,F_] HT_ ?_; refine pu_ 7 (some 96) #[T_,T_,T_,T_,T_,T_,T_,T_,T_,F_,F_] HT_ ?_; exact norm_ (by simp only [putAll, Act.put, List.setIfInBounds_toArray, List.set_cons_zero, List.set_cons_succ]) (hCont (v431, .slice Ao92 y433.length co92, v438, gb441) _ ⟨hHeld, (rx HO435), (Kd.R_mono (rx HO439) (fun _ hk => ⟨hk.1.1.2, ⟨hk.1.2, hk.2⟩⟩)), (Kd.R_mono (rx HO_409001) (fun _ hk => ⟨hk.2, ⟨hk.1.1, hk.1.2⟩⟩)), (Kd.R_mono (rx HO_415001) (fun _ hk => ⟨hk.2, ⟨hk.1.1, hk.1.2⟩⟩)), (Kd.R_mono (rx HO_424001) (fun _ hk => ⟨hk.2, ⟨hk.1.1, hk.1.2⟩⟩)), (bx BK385), (bx BK408), (bx BK414), (bx BK423), (bx BK441), GW441.out, GE441.out, NB385_441.out, NB441_385.out, NB408_441.out, NB441_408.out, NB414_441.out, NB441_414.out, NB423_441.out, NB441_423.out, (hb5 HB GE385 GE408 GE414 GE423 GE441)⟩)
          ·skip
           refine bs_ 15 #[.int .i64 0, .slice none 0 0] 25 ?_; intro gb441 hg w88 hbox hb; replace HO_409001 := ry HO_409001 hb; replace HO_415001 := ry HO_415001 hb; replace HO_424001 := ry HO_424001 hb; have BK441 := Aside0.mk (hbox); have GW441 := wq (hb4 HB GE385 GE408 GE414 GE423) hg; have GE441 := wq (hb4 HB GE385 GE408 GE414 GE423) hg; replace HB := hs (hb4 HB GE385 GE408 GE414 GE423) hb; have NB385_441 := lx BK385 hg; have NB441_385 := gx BK385 hg; replace BK385 := kx BK385 hb; have NB408_441 := lx BK408 hg; have NB441_408 := gx BK408 hg; replace BK408 := kx BK408 hb; have NB414_441 := lx BK414 hg; have NB441_414 := gx BK414 hg; replace BK414 := kx BK414 hb; have NB423_441 := lx BK423 hg; have NB441_423 := gx BK423 hg; replace BK423 := kx BK423 hb; clear hb hbox hg; refine hK.out _ _ ⟨bc BK385 0, bc BK385 1⟩ (fun hHeld => ?_); clear hK K; refine nm_ (some 15) ?_; refine on_ 1 (some 91) #[T_,T_,T_,F_,F_,F_,F_,F_,T_,F_,F_] HT_ (fun K hK => ?_); refine Kd.R_lit_step (Kd.int .i64) _ 3 ?hg (N := 91) ?hd (xs := ([] : List Int)) (inner := []) (ok := fun _ => True) (okp := fun _ => True) ?hr ?hp (fun _ hk => hk) trivial (Below.refl _ _) (Nat.le_refl _) (by simp) ?_; (case hd => rfl); (case hg => rfl); (case hr => first | (go_simp; done) | (go_simp; rfl)); (case hp => exact (Reps.none _ _)); intro v431 w89 ho90 hb hg_ hnew_; clear hg_ hnew_
           (first | rw [← Ny430.out] at ho90 | (simp only [Int.reduceToNat] at ho90; rw [← Ny430.out] at ho90))
           replace HO_409001 := ry HO_409001 hb; replace HO_415001 := ry HO_415001 hb; replace HO_424001 := ry HO_424001 hb; have HO432 := Aside0.mk (Kd.R_lower ho90 (below_size (hb5 HB GE385 GE408 GE414 GE423 GE441))); replace BK385 := kx BK385 hb; replace BK408 := kx BK408 hb; replace BK414 := kx BK414 hb; replace BK423 := kx BK423 hb; replace BK441 := kx BK441 hb; replace HB := hs (hb5 HB GE385 GE408 GE414 GE423 GE441) hb; clear hb ho90; refine hK.out _ _ ⟨bc BK385 0, bc BK385 1⟩ (fun hHeld => ?_); clear hK K; refine nm_ (some 91) ?_; refine on_ 3 (some 93) #[T_,T_,T_,T_,F_,F_,F_,F_,T_,F_,F_] HT_ (fun K hK => ?_); refine Kd.R_append_rows_step (Kd.int .i64) (w0 := w) w.heap.size (by rfl) (.tmp 91) (.tmp 92) 26 3 (.int .i64 0) 8 rfl Try.underlying26 info3 rfl (by decide) (by omega) v431 y430 l1 _ _ _ (fun _ => True) (fun _ => False) rfl rfl ?aO ?aR (fun _ _ h => h) (fun _ h => h.elim) ?aF ?aB ?aS ?aL ?_
           (case aR => repeat (first | exact (Kd.C_below HR1.out HB.out) | (with_reducible refine Kd.C_alloc ?_ _) | (with_reducible refine Kd.C_drewN ?_ _) | (with_reducible refine Kd.C_drew ?_)))
           (case aB => exact (hb5 HB GE385 GE408 GE414 GE423 GE441))
           (case aF => exact (fun _ _ => trivial))
           (case aO => exact (rx HO432))
           (case aS => exact (below_size (hb5 HB GE385 GE408 GE414 GE423 GE441)))
           (case aL => have := LMc83.out; omega)
           intro v434 w91 ho hb hg hat; rw [← Ny433.out] at ho; have n0_ := Aside0.mk (Kd.R_over' (rx HO_409001) (Kd.R_typed (rx HO432)) (by decide) hg); have n1_ := Aside0.mk (Kd.R_over' (rx HO_415001) (Kd.R_typed (rx HO432)) (by decide) hg); have n2_ := Aside0.mk (Kd.R_over' (rx HO_424001) (Kd.R_typed (rx HO432)) (by decide) hg); have n3_ := Aside0.mk (blk_grown (bx BK385) hg (Kd.R_ne HO432.out BK385.out (by decide))); have n4_ := Aside0.mk (blk_grown (bx BK408) hg (Kd.R_ne HO432.out BK408.out (by decide))); have n5_ := Aside0.mk (blk_grown (bx BK414) hg (Kd.R_ne HO432.out BK414.out (by decide))); have n6_ := Aside0.mk (blk_grown (bx BK423) hg (Kd.R_ne HO432.out BK423.out (by decide))); have n7_ := Aside0.mk (blk_grown (bx BK441) hg (Kd.R_ne HO432.out BK441.out (by decide))); have n8_ := Aside0.mk (hb); have n9_ := Aside0.mk (ho); clear HO_409001 HO_415001 HO_424001 BK385 BK408 BK414 BK423 BK441 HB HO432; have HO_409001 := n0_; have HO_415001 := n1_; have HO_424001 := n2_; have BK385 := n3_; have BK408 := n4_; have BK414 := n5_; have BK423 := n6_; have BK441 := n7_; have HB := n8_; have HO435 := n9_; clear n0_ n1_ n2_ n3_ n4_ n5_ n6_ n7_ n8_ n9_ ho hb hg hat; obtain ⟨Ao92, co92, eo92⟩ := Kd.R_slice HO435.out
           (first | subst eo92 | obtain ⟨rfl, rfl⟩ := sx eo92)
           refine hK.out _ _ ⟨bc BK385 0, bc BK385 1⟩ (fun hHeld => ?_); clear hK K; refine nm_ (some 93) ?_; refine on_ 4 (some 94) #[T_,T_,T_,T_,T_,F_,F_,F_,T_,F_,F_] HT_ (fun K hK => ?_); refine gs_ Try.func12 #[.agg #[.int .i64 a0_0, .slice A0_1 l0_1.length c0_1], .slice Ao92 y433.length co92] ?_
           with_reducible refine (edit_Relabel.calls kj9 a0_0 _ _ l0_1 _ _ y433 t436 t437 t440 _ ?side1 ?side2 ?side3 ?side4 A84.out).mono ?_
           (case side1 => repeat (first | exact (Kd.C_below HR0_1.out HB.out) | (with_reducible refine Kd.C_alloc ?_ _) | (with_reducible refine Kd.C_drewN ?_ _) | (with_reducible refine Kd.C_drew ?_)))
           (case side2 => exact HC0_1.out)
           (case side3 => exact cr HO435)
           (case side4 => exact (Kd.R_reads' HO435.out).2.1)
           rintro e w93 ⟨v438, rfl, ho0, hb⟩; refine ⟨_, rfl, ?_⟩; replace HO435 := ry HO435 hb; have HO439 := Aside0.mk (Kd.R_lower (Kd.R_new' (Kd.R_new' (Kd.R_new' ho0 (Kd.R_lt (rx HO_409001))) (Kd.R_lt (rx HO_415001))) (Kd.R_lt (rx HO_424001))) (below_size (hb5 HB GE385 GE408 GE414 GE423 GE441))); replace HO_409001 := el (rx HO_409001) ho0 hb; replace HO_415001 := el (rx HO_415001) ho0 hb; replace HO_424001 := el (rx HO_424001) ho0 hb; replace BK385 := kx BK385 hb; replace BK408 := kx BK408 hb; replace BK414 := kx BK414 hb; replace BK423 := kx BK423 hb; replace BK441 := kx BK441 hb; replace HB := hs (hb5 HB GE385 GE408 GE414 GE423 GE441) hb
           (try clear hb)
           (try clear hb2)
           (try clear hk)
           (try clear hi)
           (try clear ho0)
           refine hK.out _ _ ⟨bc BK385 0, bc BK385 1⟩ (fun hHeld => ?_); clear hK K; refine nm_ (some 94) ?_; refine pu_ 5 (some 89) #[T_,T_,T_,T_,T_,T_,F_,F_,T_,F_,F_] HT_ ?_; refine pu_ 6 (some 95) #[T_,T_,T_,T_,T_,T_,T_,F_,T_,F_,F_] HT_ ?_; refine pu_ 7 (some 96) #[T_,T_,T_,T_,T_,T_,T_,T_,T_,F_,F_] HT_ ?_; exact norm_ (by simp only [putAll, Act.put, List.setIfInBounds_toArray, List.set_cons_zero, List.set_cons_succ]) (hCont (v431, .slice Ao92 y433.length co92, v438, gb441) _ ⟨hHeld, (rx HO435), (Kd.R_mono (rx HO439) (fun _ hk => ⟨hk.1.1.2, ⟨hk.1.2, hk.2⟩⟩)), (Kd.R_mono (rx HO_409001) (fun _ hk => ⟨hk.2, ⟨hk.1.1, hk.1.2⟩⟩)), (Kd.R_mono (rx HO_415001) (fun _ hk => ⟨hk.2, ⟨hk.1.1, hk.1.2⟩⟩)), (Kd.R_mono (rx HO_424001) (fun _ hk => ⟨hk.2, ⟨hk.1.1, hk.1.2⟩⟩)), (bx BK385), (bx BK408), (bx BK414), (bx BK423), (bx BK441), GW441.out, GE441.out, NB385_441.out, NB441_385.out, NB408_441.out, NB441_408.out, NB414_441.out, NB441_414.out, NB423_441.out, NB441_423.out, (hb5 HB GE385 GE408 GE414 GE423 GE441)⟩)
         rintro ⟨v431, v434, v438, gb441⟩ w94 ⟨hS_, h0_, h1_, h2_, h3_, h4_, h5_, h6_, h7_, h8_, h9_, h10_, h11_, h12_, h13_, h14_, h15_, h16_, h17_, h18_, h19_, h20_⟩; have n0_ : Aside0 (Kd.R (Kd.int .i64) 3 w94 w.heap.size (fun _ => True) v434 y433) := ⟨h0_⟩; have n1_ : Aside0 (Kd.R k46 46 w94 w.heap.size (fun k_ => some k_ ≠ (.slice Ao20 t401.length co20 : Value).ownBlock ∧ some k_ ≠ (.slice Ao28 t410.length co28 : Value).ownBlock ∧ some k_ ≠ (.slice Ao36 t416.length co36 : Value).ownBlock) v438 t437) := ⟨h1_⟩; have n2_ : Aside0 (Kd.R k46 46 w94 w.heap.size (fun k_ => some k_ ≠ (v438 : Value).ownBlock ∧ some k_ ≠ (.slice Ao28 t410.length co28 : Value).ownBlock ∧ some k_ ≠ (.slice Ao36 t416.length co36 : Value).ownBlock) (.slice Ao20 t401.length co20) t401) := ⟨h2_⟩; have n3_ : Aside0 (Kd.R k46 46 w94 w.heap.size (fun k_ => some k_ ≠ (v438 : Value).ownBlock ∧ some k_ ≠ (.slice Ao20 t401.length co20 : Value).ownBlock ∧ some k_ ≠ (.slice Ao36 t416.length co36 : Value).ownBlock) (.slice Ao28 t410.length co28) t410) := ⟨h3_⟩; have n4_ : Aside0 (Kd.R k46 46 w94 w.heap.size (fun k_ => some k_ ≠ (v438 : Value).ownBlock ∧ some k_ ≠ (.slice Ao20 t401.length co20 : Value).ownBlock ∧ some k_ ≠ (.slice Ao28 t410.length co28 : Value).ownBlock) (.slice Ao36 t416.length co36) t416) := ⟨h4_⟩; have n5_ : Aside0 (w94.heap[gb385]? = some (.cells #[.int .i64 a0_0, .slice A0_1 l0_1.length c0_1] 25 (0, 0))) := ⟨h5_⟩; have n6_ : Aside0 (w94.heap[gb408]? = some (.cells #[.int .i64 t400, .slice Ao20 t401.length co20] 25 (0, 0))) := ⟨h6_⟩
         have n7_ : Aside0 (w94.heap[gb414]? = some (.cells #[.int .i64 t409, .slice Ao28 t410.length co28] 25 (0, 0))) := ⟨h7_⟩; have n8_ : Aside0 (w94.heap[gb423]? = some (.cells #[.int .i64 t415, .slice Ao36 t416.length co36] 25 (0, 0))) := ⟨h8_⟩; have n9_ : Aside0 (w94.heap[gb441]? = some (.cells #[.int .i64 0, .slice none 0 0] 25 (0, 0))) := ⟨h9_⟩; have n10_ : Aside0 (w.heap.size ≤ gb441) := ⟨h10_⟩; have n11_ : Aside0 (w.heap.size ≤ gb441) := ⟨h11_⟩; have n12_ : Aside0 (gb385 ≠ gb441) := ⟨h12_⟩; have n13_ : Aside0 (gb441 ≠ gb385) := ⟨h13_⟩; have n14_ : Aside0 (gb408 ≠ gb441) := ⟨h14_⟩; have n15_ : Aside0 (gb441 ≠ gb408) := ⟨h15_⟩; have n16_ : Aside0 (gb414 ≠ gb441) := ⟨h16_⟩; have n17_ : Aside0 (gb441 ≠ gb414) := ⟨h17_⟩; have n18_ : Aside0 (gb423 ≠ gb441) := ⟨h18_⟩; have n19_ : Aside0 (gb441 ≠ gb423) := ⟨h19_⟩; have n20_ : Aside0 (Below w.heap.size w w94) := ⟨h20_⟩; clear HO_409001 HO_415001 HO_424001 BK385 BK408 BK414 BK423 HB h0_ h1_ h2_ h3_ h4_ h5_ h6_ h7_ h8_ h9_ h10_ h11_ h12_ h13_ h14_ h15_ h16_ h17_ h18_ h19_ h20_; have HO435 := n0_; have HO439 := n1_; have HO_409001 := n2_; have HO_415001 := n3_; have HO_424001 := n4_; have BK385 := n5_; have BK408 := n6_; have BK414 := n7_; have BK423 := n8_; have BK441 := n9_; have GW441 := n10_; have GE441 := n11_; have NB385_441 := n12_; have NB441_385 := n13_; have NB408_441 := n14_; have NB441_408 := n15_; have NB414_441 := n16_; have NB441_414 := n17_; have NB423_441 := n18_; have NB441_423 := n19_; have HB := n20_; clear n0_ n1_ n2_ n3_ n4_ n5_ n6_ n7_ n8_ n9_ n10_ n11_ n12_ n13_ n14_ n15_ n16_ n17_ n18_ n19_ n20_
         have hHeld : w94.cell? ⟨gb385, 0, none⟩ = some (.int .i64 a0_0) ∧ w94.cell? ⟨gb385, 1, none⟩ = some (.slice A0_1 l0_1.length c0_1) := hS_; obtain ⟨Ao96, co96, eo96⟩ := Kd.R_slice HO439.out
         (first | subst eo96 | obtain ⟨rfl, rfl⟩ := sx eo96)
         refine norm_ (a' := ?_) ?_ ?_; rotate_left
         ·simp only [putAll, Act.put, List.setIfInBounds_toArray, List.set_cons_zero, List.set_cons_succ]; rfl
         refine on_ 9 none #[T_,T_,T_,T_,T_,T_,T_,T_,T_,T_,F_] HT_ (fun K hK => ?_); have hs95 : w94.cell? ⟨gb441, 0, none⟩ = some (.int .i64 0) := bc BK441 0; have hfs95 := blk_frozen BK441.out 0; have hns95_0 := NB385_441.out; have hns95_1 := NB408_441.out; have hns95_2 := NB414_441.out; have hns95_3 := NB423_441.out; have hms95_0 := NB441_385.out; have hms95_1 := NB441_408.out; have hms95_2 := NB441_414.out; have hms95_3 := NB441_423.out; have hs97 : w94.cell? ⟨gb441, 1, none⟩ = some (.slice none 0 0) := bc BK441 1; have hfs97 := blk_frozen BK441.out 1; have hns97_0 := NB385_441.out; have hns97_1 := NB408_441.out; have hns97_2 := NB414_441.out; have hns97_3 := NB423_441.out; have hms97_0 := NB441_385.out; have hms97_1 := NB441_408.out; have hms97_2 := NB441_414.out; have hms97_3 := NB441_423.out; refine skip_ (w1 := ?_) (by rfl) rfl ?_ ?_; rotate_left
         ·go_simp; rfl
         refine hK.out _ _ ⟨((cell_far (p := ⟨gb441, _, none⟩) NB385_441.out _).trans (((cell_far (p := ⟨gb441, _, none⟩) NB385_441.out _).trans (hHeld.1)))), ((cell_far (p := ⟨gb441, _, none⟩) NB385_441.out _).trans (((cell_far (p := ⟨gb441, _, none⟩) NB385_441.out _).trans (hHeld.2))))⟩ (fun hHeld => ?_); clear hK K; refine pu_ 10 (some 16) #[T_,T_,T_,T_,T_,T_,T_,T_,T_,T_,T_] HT_ ?_; refine done_ (done_of HT_.out (by kernel_rfl)) ?_; have hnb98 := NB385_408.out; have hnc98 := NB408_385.out; have hnb99 := NB385_414.out; have hnc99 := NB414_385.out; have hnb100 := NB385_423.out; have hnc100 := NB423_385.out; have hnb101 := NB385_441.out; have hnc101 := NB441_385.out; have hcz102_0 : w94.cell? ⟨gb385, 0, none⟩ = some (.int .i64 a0_0) := bc BK385 0; have hcz102_1 : w94.cell? ⟨gb385, 1, none⟩ = some (.slice A0_1 l0_1.length c0_1) := bc BK385 1; have hfz102_0 := blk_frozen BK385.out 0; have hfz102_1 := blk_frozen BK385.out 1
         try go_wp2_with (first | ((with_reducible refine gate_dst (N := 99) rfl ?_); (try (refine gate_guard (by rfl) ?_; dsimp only)); refine Kd.R_make (Kd.int .i64) _ 3 rfl (N := 99) rfl 26 _ _ rfl a0_0 rfl rfl Try.underlying26 (.int .i64 0) 8 info3 rfl (by decide) (by omega) 0 (ok := fun _ => True) (okp := fun _ => True) rfl (fun _ hk => hk) trivial (of_decide_eq_true (by first | (with_reducible assumption) | assumption)) (Nat.le_trans (Nat.mul_le_mul_right _ (of_decide_eq_true (by first | (with_reducible assumption) | assumption) : a0_0.toNat ≤ 35184372088832)) (by omega)) (Below.refl _ _) (Nat.le_refl _) ?_; intro v443 w103 ho104 hb hg_ hnew_; clear hg_ hnew_; (first | rw [← Ny442.out] at ho104 | (simp only [Int.reduceToNat] at ho104; rw [← Ny442.out] at ho104)); replace HO_409001 := Aside0.mk (Kd.R_below (rf HO_409001 BK441) hb); replace HO_415001 := Aside0.mk (Kd.R_below (rf HO_415001 BK441) hb); replace HO_424001 := Aside0.mk (Kd.R_below (rf HO_424001 BK441) hb); replace HO439 := Aside0.mk (Kd.R_below (rf HO439 BK441) hb); have HO444 := Aside0.mk (Kd.R_lower (Kd.R_new' ho104 (Kd.R_lt (rf HO435 BK441))) (below_size (hb5 HB GE385 GE408 GE414 GE423 GE441))); replace HO435 := Aside0.mk (Kd.R_elder' (rf HO435 BK441) (Kd.R_base ho104) hb); replace BK385 := kb (bx1 BK385 NB385_441) hb; replace BK408 := kb (bx1 BK408 NB408_441) hb; replace BK414 := kb (bx1 BK414 NB414_441) hb; replace BK423 := kb (bx1 BK423 NB423_441) hb; replace BK441 := Aside0.mk (blk_below (g := gb441) (o := .cells #[.int .i64 t436, .slice Ao96 t437.length co96] 25 (0, 0)) (by (with_reducible repeat (first | refine blk_drewN ?_ _ | refine blk_drew ?_ | refine blk_alloc ?_ _)); refine blk_put (cs := #[.int .i64 t436, .slice none 0 0]) ?_ 1 _ rfl; (with_reducible repeat (first | refine blk_drewN ?_ _ | refine blk_drew ?_ | refine blk_alloc ?_ _)); refine blk_put (cs := #[.int .i64 0, .slice none 0 0]) ?_ 0 _ rfl; (with_reducible repeat (first | refine blk_drewN ?_ _ | refine blk_drew ?_ | refine blk_alloc ?_ _)); exact BK441.out) hb); replace HB := hs (hb5 HB GE385 GE408 GE414 GE423 GE441) hb; clear hb ho104))
         go_loopg [18, 102] kj9 (fun kq v18 v102 w' => ∃ (x17_2 : List Int) (x18_2 : Int) (x102_2 : Int), v18 = .int .i64 x18_2 ∧ v102 = .int .i64 x102_2 ∧ Aside0 (tangramlaw14_EditNamed.l0 kq l1 t440 x17_2 x18_2 l1 (l1.length : Int) x102_2 a0_0 l0_1 t436 t437 = some r) ∧ Aside0 (kq ≤ kj9) ∧ Aside0 (Kd.R (Kd.int .i64) 3 w' w.heap.size (fun _ => True) v443 x17_2) ∧ Aside0 (Kd.R k46 46 w' w.heap.size (fun k_ => some k_ ≠ ((.slice Ao28 t410.length co28) : Value).ownBlock ∧ some k_ ≠ ((.slice Ao36 t416.length co36) : Value).ownBlock ∧ some k_ ≠ ((.slice Ao96 t437.length co96) : Value).ownBlock) (.slice Ao20 t401.length co20) t401) ∧ Aside0 (Kd.R k46 46 w' w.heap.size (fun k_ => some k_ ≠ ((.slice Ao20 t401.length co20) : Value).ownBlock ∧ some k_ ≠ ((.slice Ao36 t416.length co36) : Value).ownBlock ∧ some k_ ≠ ((.slice Ao96 t437.length co96) : Value).ownBlock) (.slice Ao28 t410.length co28) t410) ∧ Aside0 (Kd.R k46 46 w' w.heap.size (fun k_ => some k_ ≠ ((.slice Ao20 t401.length co20) : Value).ownBlock ∧ some k_ ≠ ((.slice Ao28 t410.length co28) : Value).ownBlock ∧ some k_ ≠ ((.slice Ao96 t437.length co96) : Value).ownBlock) (.slice Ao36 t416.length co36) t416) ∧ Aside0 (Kd.R k46 46 w' w.heap.size (fun k_ => some k_ ≠ ((.slice Ao20 t401.length co20) : Value).ownBlock ∧ some k_ ≠ ((.slice Ao28 t410.length co28) : Value).ownBlock ∧ some k_ ≠ ((.slice Ao36 t416.length co36) : Value).ownBlock) (.slice Ao96 t437.length co96) t437) ∧ Aside0 (w'.heap[gb385]? = some (.cells #[.int .i64 a0_0, (.slice A0_1 l0_1.length c0_1)] 25 (0, 0))) ∧ Aside0 (w'.heap[gb408]? = some (.cells #[.int .i64 t400, (.slice Ao20 t401.length co20)] 25 (0, 0))) ∧ Aside0 (w'.heap[gb414]? = some (.cells #[.int .i64 t409, (.slice Ao28 t410.length co28)] 25 (0, 0))) ∧ Aside0 (w'.heap[gb423]? = some (.cells #[.int .i64 t415, (.slice Ao36 t416.length co36)] 25 (0, 0))) ∧ Aside0 (w'.heap[gb441]? = some (.cells #[.int .i64 t436, (.slice Ao96 t437.length co96)] 25 (0, 0))) ∧ Aside0 (Below w.heap.size w w'))
         case atStart => exact ⟨(y442), (0), (0), (by first | rfl | (simp; done) | (simp [*]; done)), (by first | rfl | (simp; done) | (simp [*]; done)), H', ⟨Nat.le_refl _⟩, ⟨Kd.R_mono (rx HO444) (fun _ hk => trivial)⟩, ⟨Kd.R_mono (rx HO_409001) (fun _ hk => ⟨hk.2.1, ⟨hk.2.2, hk.1⟩⟩)⟩, ⟨Kd.R_mono (rx HO_415001) (fun _ hk => ⟨hk.2.1, ⟨hk.2.2, hk.1⟩⟩)⟩, ⟨Kd.R_mono (rx HO_424001) (fun _ hk => ⟨hk.2.1, ⟨hk.2.2, hk.1⟩⟩)⟩, ⟨rx HO439⟩, ⟨bx BK385⟩, ⟨bx BK408⟩, ⟨bx BK414⟩, ⟨bx BK423⟩, ⟨bx BK441⟩, ⟨hb5 HB GE385 GE408 GE414 GE423 GE441⟩⟩
         case round =>
          clear H'
          try clear c1
          try clear p2
          try clear c8
          try clear c9
          try clear c10
          try clear c12
          try clear c83
          try clear c98
          try clear c99
          try clear c100
          try clear c101
          try clear hcz102_0
          try clear hcz102_1
          try clear hfz102_0
          try clear hfz102_1
          obtain ⟨x17_2, x18_2, x102_2, rfl, rfl, HA, HK2, HO_17, HO_409001, HO_415001, HO_424001, HO_442001, BK385, BK408, BK414, BK423, BK441, HB⟩ := hrel
          cases gk with
          | zero => exact absurd HA.out (by simp [tangramlaw14_EditNamed.l0])
          | succ k2 =>
           have H := HA.out; clear HA; simp only [tangramlaw14_EditNamed.l0] at H
           by_cases c105 : x102_2 < (l1.length : Int)
           ·rw [if_pos c105] at H; have c105b0 : decide (x102_2 < (l1.length : Int)) = true := decide_eq_true c105; clear c105
            by_cases c106 : 0 ≤ x102_2
            ·rw [if_pos c106] at H; have c106b0 : decide (0 ≤ x102_2) = true := decide_eq_true c106; clear c106
             by_cases c107 : x102_2 < (l1.length : Int)
             ·rw [if_pos c107] at H; have c107b0 : decide (x102_2 < (l1.length : Int)) = true := decide_eq_true c107; clear c107
              by_cases c108 : (l1.length : Int) = a0_0
              ·rw [if_pos c108] at H; have c108b0 : ((l1.length : Int) == a0_0) = true := beq_iff_eq.mpr c108; have c108b1 : ((l1.length : Int) != a0_0) = false := bne_eq_false_iff_eq.mpr c108; clear c108
               by_cases c109 : (rd l1 x102_2) ≥ 0
               ·rw [if_pos c109] at H; have c109b0 : decide (0 ≤ (rd l1 x102_2)) = true := decide_eq_true c109; clear c109
                by_cases c110 : (rd l1 x102_2) < a0_0
                ·rw [if_pos c110] at H; have c110b0 : decide ((rd l1 x102_2) < a0_0) = true := decide_eq_true c110; clear c110
                 by_cases c111 : 0 ≤ (rd l1 x102_2)
                 ·rw [if_pos c111] at H; have c111b0 : decide (0 ≤ (rd l1 x102_2)) = true := decide_eq_true c111; clear c111
                  by_cases c112 : (rd l1 x102_2) < (x17_2.length : Int)
                  ·rw [if_pos c112] at H; have c112b0 : decide ((rd l1 x102_2) < (x17_2.length : Int)) = true := decide_eq_true c112; clear c112
                   by_cases c113 : (rd x17_2 (rd l1 x102_2)) = 0
                   ·rw [if_pos c113] at H; have c113b0 : ((rd x17_2 (rd l1 x102_2)) == 0) = true := beq_iff_eq.mpr c113; have c113b1 : ((rd x17_2 (rd l1 x102_2)) != 0) = false := bne_eq_false_iff_eq.mpr c113; clear c113; obtain ⟨y447, hy447⟩ : ∃ y_ : List Int, y_ = (x17_2.set ((rd l1 x102_2) : Int).toNat (wrap64 (x102_2 + 1))) := ⟨_, rfl⟩; replace H : (tangramlaw14_EditNamed.l0 k2 l1 t440 y447 (wrap64 (x18_2 + 1)) l1 (l1.length : Int) (wrap64 (x102_2 + 1)) a0_0 l0_1 t436 t437) = some r := by first | (rw [hy447]; with_reducible exact H) | (have H2_ := (Option.bind_some _ _).symm.trans H; rw [hy447]; with_reducible exact H2_) | (have H2_ := (Option.bind_some _ _).symm.trans H; with_reducible exact H2_) | with_reducible exact H | (rw [hy447]; exact H) | exact H
                    have Ny447 := Aside0.mk hy447; clear hy447; have H' := Aside0.mk H; clear H; have p445 : 0 ≤ (x102_2 : Int) := of_decide_eq_true (by first | (with_reducible assumption) | assumption); have q445 : x102_2 < (l1.length : Int) := of_decide_eq_true (by first | (with_reducible assumption) | assumption); obtain ⟨ad445, e445, hx445_0⟩ := Kd.at_int HR1.out x102_2 p445 q445
                    cases e445
                    replace hx445_0 := (HB.out.cell (World.block_lt_of_cell? w _ hx445_0)).trans hx445_0; replace p445 := eq_true p445; replace q445 := eq_true q445; have hnb115 := NB385_408.out; have hnc115 := NB408_385.out; have hnb116 := NB385_414.out; have hnc116 := NB414_385.out; have hnb117 := NB385_423.out; have hnc117 := NB423_385.out; have hnb118 := NB385_441.out; have hnc118 := NB441_385.out; have hcz119_0 : wr.cell? ⟨gb385, 0, none⟩ = some (.int .i64 a0_0) := bc BK385 0; have hcz119_1 : wr.cell? ⟨gb385, 1, none⟩ = some (.slice A0_1 l0_1.length c0_1) := bc BK385 1; have hfz119_0 := blk_frozen BK385.out 0; have hfz119_1 := blk_frozen BK385.out 1; obtain ⟨Ao120, co120, eo120⟩ := Kd.R_slice HO_17.out; subst eo120; have p446 : 0 ≤ ((rd l1 x102_2) : Int) := of_decide_eq_true (by first | (with_reducible assumption) | assumption); have q446 : (rd l1 x102_2) < (x17_2.length : Int) := of_decide_eq_true (by first | (with_reducible assumption) | assumption); obtain ⟨ad446, e446, hx446_0⟩ := Kd.at_int (Kd.R_reads' HO_17.out).2.2 (rd l1 x102_2) p446 q446
                    cases e446
                    replace p446 := eq_true p446; replace q446 := eq_true q446; have p114 : 0 ≤ ((rd l1 x102_2) : Int) := of_decide_eq_true (by first | (with_reducible assumption) | assumption); have q114 : ((rd l1 x102_2) : Int) < ((x17_2.length : Int) : Int) := of_decide_eq_true (by first | (with_reducible assumption) | assumption); obtain ⟨go114, co114, eo114, gb114, gl114, cl114, HG114⟩ := Kd.R_form HO_17.out (by omega)
                    (first | cases eo114 | (injection eo114 with ea_ en_ ec_; (first | subst ea_ | (injection ea_ with ea_; subst ea_)); subst ec_; clear en_))
                    have GB114 := Aside0.mk gb114; have GG114 := Aside0.mk HG114; clear gb114 gl114 HG114
                    (first | simp only [add_plain] at hx446_0 | skip)
                    obtain ⟨hx114_0, hf114_0⟩ := Kd.R_celln 0 HO_17.out ((rd l1 x102_2) : Int) p114 q114; replace p114 := eq_true p114; replace q114 := eq_true q114; have HP121 := Kd.R_putg HO_17.out ((rd l1 x102_2) : Int) (wrap64 (x102_2 + 1))
                    go_wp2_with (first | ((with_reducible refine gate_store (t := 3) (p := 133) rfl ?_); refine store_event (t := 3) (p := 133) (v := ?vo_w122) (w1 := (wr.setCell ⟨go114, ((rd l1 x102_2) : Int).toNat, none⟩ (.int .i64 (wrap64 (x102_2 + 1))))) ?hg ?ho ?hn ?hr ?_; (case ho => rfl); (case hg => rfl); (case hn => rfl); (case hr => first | (go_simp; done) | (go_simp; rfl)); intro w122 hw; have hg : wr.grownBy w122 (some go114) := (by rw [hw]; exact HP121.2); have hp_ : Kd.R (Kd.int .i64) 3 w122 w.heap.size (fun _ => True) (.slice (some ⟨go114, 0, none⟩) x17_2.length co120) y447 := (by rw [hw, Ny447.out]; exact HP121.1); clear HP121; replace HO_409001 := Aside0.mk (Kd.R_over' (v := (.slice (some ⟨go114, 0, none⟩) x17_2.length co120)) (rx HO_409001) (Kd.R_typed HO_17.out) (by decide) hg); replace HO_415001 := Aside0.mk (Kd.R_over' (v := (.slice (some ⟨go114, 0, none⟩) x17_2.length co120)) (rx HO_415001) (Kd.R_typed HO_17.out) (by decide) hg); replace HO_424001 := Aside0.mk (Kd.R_over' (v := (.slice (some ⟨go114, 0, none⟩) x17_2.length co120)) (rx HO_424001) (Kd.R_typed HO_17.out) (by decide) hg); replace HO_442001 := Aside0.mk (Kd.R_over' (v := (.slice (some ⟨go114, 0, none⟩) x17_2.length co120)) (rx HO_442001) (Kd.R_typed HO_17.out) (by decide) hg); replace BK385 := Aside0.mk (blk_grown (bx BK385) hg (Kd.R_ne HO_17.out BK385.out (by decide))); replace BK408 := Aside0.mk (blk_grown (bx BK408) hg (Kd.R_ne HO_17.out BK408.out (by decide))); replace BK414 := Aside0.mk (blk_grown (bx BK414) hg (Kd.R_ne HO_17.out BK414.out (by decide))); replace BK423 := Aside0.mk (blk_grown (bx BK423) hg (Kd.R_ne HO_17.out BK423.out (by decide))); replace BK441 := Aside0.mk (blk_grown (bx BK441) hg (Kd.R_ne HO_17.out BK441.out (by decide))); replace HO_17 := Aside0.mk (hp_); replace HB := Aside0.mk ((by rw [hw]; exact below_set (HB.out) GB114.out : Below w.heap.size w w122)); clear hg hw hp_))
                    go_roundg k2
                    case measure => have := HJ9.out; have := HK2.out; omega
                    case rel => exact ⟨(y447), (wrap64 (x18_2 + 1)), (wrap64 (x102_2 + 1)), (by first | rfl | (simp; done) | (simp [*]; done)), (by first | rfl | (simp; done) | (simp [*]; done)), H', ⟨by have := HJ9.out; have := HK2.out; omega⟩, ⟨rx HO_17⟩, ⟨rx HO_409001⟩, ⟨rx HO_415001⟩, ⟨rx HO_424001⟩, ⟨rx HO_442001⟩, ⟨bx BK385⟩, ⟨bx BK408⟩, ⟨bx BK414⟩, ⟨bx BK423⟩, ⟨bx BK441⟩, ⟨hb5 HB GE385 GE408 GE414 GE423 GE441⟩⟩
                   ·rw [if_neg c113] at H; have c113b0 : ((rd x17_2 (rd l1 x102_2)) == 0) = false := beq_eq_false_iff_ne.mpr c113; have c113b1 : ((rd x17_2 (rd l1 x102_2)) != 0) = true := bne_iff_ne.mpr c113; have H' := Aside0.mk H; clear H; have p445 : 0 ≤ (x102_2 : Int) := of_decide_eq_true (by first | (with_reducible assumption) | assumption); have q445 : x102_2 < (l1.length : Int) := of_decide_eq_true (by first | (with_reducible assumption) | assumption); obtain ⟨ad445, e445, hx445_0⟩ := Kd.at_int HR1.out x102_2 p445 q445
                    cases e445
                    replace hx445_0 := (HB.out.cell (World.block_lt_of_cell? w _ hx445_0)).trans hx445_0; replace p445 := eq_true p445; replace q445 := eq_true q445; have hnb123 := NB385_408.out; have hnc123 := NB408_385.out; have hnb124 := NB385_414.out; have hnc124 := NB414_385.out; have hnb125 := NB385_423.out; have hnc125 := NB423_385.out; have hnb126 := NB385_441.out; have hnc126 := NB441_385.out; have hcz127_0 : wr.cell? ⟨gb385, 0, none⟩ = some (.int .i64 a0_0) := bc BK385 0; have hcz127_1 : wr.cell? ⟨gb385, 1, none⟩ = some (.slice A0_1 l0_1.length c0_1) := bc BK385 1; have hfz127_0 := blk_frozen BK385.out 0; have hfz127_1 := blk_frozen BK385.out 1; obtain ⟨Ao128, co128, eo128⟩ := Kd.R_slice HO_17.out; subst eo128; have p446 : 0 ≤ ((rd l1 x102_2) : Int) := of_decide_eq_true (by first | (with_reducible assumption) | assumption); have q446 : (rd l1 x102_2) < (x17_2.length : Int) := of_decide_eq_true (by first | (with_reducible assumption) | assumption); obtain ⟨ad446, e446, hx446_0⟩ := Kd.at_int (Kd.R_reads' HO_17.out).2.2 (rd l1 x102_2) p446 q446
                    cases e446
                    replace p446 := eq_true p446; replace q446 := eq_true q446
                    go_wp2
                    go_roundg k2
                    case measure => have := HJ9.out; have := HK2.out; omega
                    case rel => exact ⟨(x17_2), (x18_2), (wrap64 (x102_2 + 1)), (by first | rfl | (simp; done) | (simp [*]; done)), (by first | rfl | (simp; done) | (simp [*]; done)), H', ⟨by have := HJ9.out; have := HK2.out; omega⟩, ⟨rx HO_17⟩, ⟨rx HO_409001⟩, ⟨rx HO_415001⟩, ⟨rx HO_424001⟩, ⟨rx HO_442001⟩, ⟨bx BK385⟩, ⟨bx BK408⟩, ⟨bx BK414⟩, ⟨bx BK423⟩, ⟨bx BK441⟩, ⟨hb5 HB GE385 GE408 GE414 GE423 GE441⟩⟩
                  ·rw [if_neg c112] at H; exact absurd H (by simp)
                 ·rw [if_neg c111] at H; exact absurd H (by simp)
                ·rw [if_neg c110] at H; have c110b0 : decide ((rd l1 x102_2) < a0_0) = false := decide_eq_false c110; clear c110; have H' := Aside0.mk H; clear H; have p445 : 0 ≤ (x102_2 : Int) := of_decide_eq_true (by first | (with_reducible assumption) | assumption); have q445 : x102_2 < (l1.length : Int) := of_decide_eq_true (by first | (with_reducible assumption) | assumption); obtain ⟨ad445, e445, hx445_0⟩ := Kd.at_int HR1.out x102_2 p445 q445
                 cases e445
                 replace hx445_0 := (HB.out.cell (World.block_lt_of_cell? w _ hx445_0)).trans hx445_0; replace p445 := eq_true p445; replace q445 := eq_true q445; have hnb129 := NB385_408.out; have hnc129 := NB408_385.out; have hnb130 := NB385_414.out; have hnc130 := NB414_385.out; have hnb131 := NB385_423.out; have hnc131 := NB423_385.out; have hnb132 := NB385_441.out; have hnc132 := NB441_385.out; have hcz133_0 : wr.cell? ⟨gb385, 0, none⟩ = some (.int .i64 a0_0) := bc BK385 0; have hcz133_1 : wr.cell? ⟨gb385, 1, none⟩ = some (.slice A0_1 l0_1.length c0_1) := bc BK385 1; have hfz133_0 := blk_frozen BK385.out 0; have hfz133_1 := blk_frozen BK385.out 1
                 go_wp2
                 go_roundg k2
                 case measure => have := HJ9.out; have := HK2.out; omega
                 case rel => exact ⟨(x17_2), (x18_2), (wrap64 (x102_2 + 1)), (by first | rfl | (simp; done) | (simp [*]; done)), (by first | rfl | (simp; done) | (simp [*]; done)), H', ⟨by have := HJ9.out; have := HK2.out; omega⟩, ⟨rx HO_17⟩, ⟨rx HO_409001⟩, ⟨rx HO_415001⟩, ⟨rx HO_424001⟩, ⟨rx HO_442001⟩, ⟨bx BK385⟩, ⟨bx BK408⟩, ⟨bx BK414⟩, ⟨bx BK423⟩, ⟨bx BK441⟩, ⟨hb5 HB GE385 GE408 GE414 GE423 GE441⟩⟩
               ·rw [if_neg c109] at H; have c109b0 : decide (0 ≤ (rd l1 x102_2)) = false := decide_eq_false c109; clear c109; have H' := Aside0.mk H; clear H; have p445 : 0 ≤ (x102_2 : Int) := of_decide_eq_true (by first | (with_reducible assumption) | assumption); have q445 : x102_2 < (l1.length : Int) := of_decide_eq_true (by first | (with_reducible assumption) | assumption); obtain ⟨ad445, e445, hx445_0⟩ := Kd.at_int HR1.out x102_2 p445 q445
                cases e445
                replace hx445_0 := (HB.out.cell (World.block_lt_of_cell? w _ hx445_0)).trans hx445_0; replace p445 := eq_true p445; replace q445 := eq_true q445; have hnb134 := NB385_408.out; have hnc134 := NB408_385.out; have hnb135 := NB385_414.out; have hnc135 := NB414_385.out; have hnb136 := NB385_423.out; have hnc136 := NB423_385.out; have hnb137 := NB385_441.out; have hnc137 := NB441_385.out; have hcz138_0 : wr.cell? ⟨gb385, 0, none⟩ = some (.int .i64 a0_0) := bc BK385 0; have hcz138_1 : wr.cell? ⟨gb385, 1, none⟩ = some (.slice A0_1 l0_1.length c0_1) := bc BK385 1; have hfz138_0 := blk_frozen BK385.out 0; have hfz138_1 := blk_frozen BK385.out 1
                go_wp2
                go_roundg k2
                case measure => have := HJ9.out; have := HK2.out; omega
                case rel => exact ⟨(x17_2), (x18_2), (wrap64 (x102_2 + 1)), (by first | rfl | (simp; done) | (simp [*]; done)), (by first | rfl | (simp; done) | (simp [*]; done)), H', ⟨by have := HJ9.out; have := HK2.out; omega⟩, ⟨rx HO_17⟩, ⟨rx HO_409001⟩, ⟨rx HO_415001⟩, ⟨rx HO_424001⟩, ⟨rx HO_442001⟩, ⟨bx BK385⟩, ⟨bx BK408⟩, ⟨bx BK414⟩, ⟨bx BK423⟩, ⟨bx BK441⟩, ⟨hb5 HB GE385 GE408 GE414 GE423 GE441⟩⟩
              ·rw [if_neg c108] at H; have c108b0 : ((l1.length : Int) == a0_0) = false := beq_eq_false_iff_ne.mpr c108; have c108b1 : ((l1.length : Int) != a0_0) = true := bne_iff_ne.mpr c108; have H' := Aside0.mk H; clear H; have p445 : 0 ≤ (x102_2 : Int) := of_decide_eq_true (by first | (with_reducible assumption) | assumption); have q445 : x102_2 < (l1.length : Int) := of_decide_eq_true (by first | (with_reducible assumption) | assumption); obtain ⟨ad445, e445, hx445_0⟩ := Kd.at_int HR1.out x102_2 p445 q445
               cases e445
               replace hx445_0 := (HB.out.cell (World.block_lt_of_cell? w _ hx445_0)).trans hx445_0; replace p445 := eq_true p445; replace q445 := eq_true q445; have hnb139 := NB385_408.out; have hnc139 := NB408_385.out; have hnb140 := NB385_414.out; have hnc140 := NB414_385.out; have hnb141 := NB385_423.out; have hnc141 := NB423_385.out; have hnb142 := NB385_441.out; have hnc142 := NB441_385.out; have hcz143_0 : wr.cell? ⟨gb385, 0, none⟩ = some (.int .i64 a0_0) := bc BK385 0; have hcz143_1 : wr.cell? ⟨gb385, 1, none⟩ = some (.slice A0_1 l0_1.length c0_1) := bc BK385 1; have hfz143_0 := blk_frozen BK385.out 0; have hfz143_1 := blk_frozen BK385.out 1
               go_wp2
               go_roundg k2
               case measure => have := HJ9.out; have := HK2.out; omega
               case rel => exact ⟨(x17_2), (x18_2), (wrap64 (x102_2 + 1)), (by first | rfl | (simp; done) | (simp [*]; done)), (by first | rfl | (simp; done) | (simp [*]; done)), H', ⟨by have := HJ9.out; have := HK2.out; omega⟩, ⟨rx HO_17⟩, ⟨rx HO_409001⟩, ⟨rx HO_415001⟩, ⟨rx HO_424001⟩, ⟨rx HO_442001⟩, ⟨bx BK385⟩, ⟨bx BK408⟩, ⟨bx BK414⟩, ⟨bx BK423⟩, ⟨bx BK441⟩, ⟨hb5 HB GE385 GE408 GE414 GE423 GE441⟩⟩
             ·rw [if_neg c107] at H; exact absurd H (by simp)
            ·rw [if_neg c106] at H; exact absurd H (by simp)
           ·rw [if_neg c105] at H; have c105b0 : decide (x102_2 < (l1.length : Int)) = false := decide_eq_false c105; clear c105; have HC144 := Aside0.mk H; clear H
            go_upto_region 21 with (fail)
            go_cut [147] (fun v147 wc => ∃ (kq : Nat) (x147_143 : Bool), v147 = .bool x147_143 ∧ Aside0 (tangramlaw14_EditNamed.j2 kq t440 x17_2 x147_143 a0_0 l0_1 t436 t437 = some r) ∧ Aside0 (kq ≤ k2) ∧ Aside0 (Kd.R (Kd.int .i64) 3 wc w.heap.size (fun _ => True) v443 x17_2) ∧ Aside0 (Kd.R k46 46 wc w.heap.size (fun k_ => some k_ ≠ ((.slice Ao28 t410.length co28) : Value).ownBlock ∧ some k_ ≠ ((.slice Ao36 t416.length co36) : Value).ownBlock ∧ some k_ ≠ ((.slice Ao96 t437.length co96) : Value).ownBlock) (.slice Ao20 t401.length co20) t401) ∧ Aside0 (Kd.R k46 46 wc w.heap.size (fun k_ => some k_ ≠ ((.slice Ao20 t401.length co20) : Value).ownBlock ∧ some k_ ≠ ((.slice Ao36 t416.length co36) : Value).ownBlock ∧ some k_ ≠ ((.slice Ao96 t437.length co96) : Value).ownBlock) (.slice Ao28 t410.length co28) t410) ∧ Aside0 (Kd.R k46 46 wc w.heap.size (fun k_ => some k_ ≠ ((.slice Ao20 t401.length co20) : Value).ownBlock ∧ some k_ ≠ ((.slice Ao28 t410.length co28) : Value).ownBlock ∧ some k_ ≠ ((.slice Ao96 t437.length co96) : Value).ownBlock) (.slice Ao36 t416.length co36) t416) ∧ Aside0 (Kd.R k46 46 wc w.heap.size (fun k_ => some k_ ≠ ((.slice Ao20 t401.length co20) : Value).ownBlock ∧ some k_ ≠ ((.slice Ao28 t410.length co28) : Value).ownBlock ∧ some k_ ≠ ((.slice Ao36 t416.length co36) : Value).ownBlock) (.slice Ao96 t437.length co96) t437) ∧ Aside0 (wc.heap[gb385]? = some (.cells #[.int .i64 a0_0, (.slice A0_1 l0_1.length c0_1)] 25 (0, 0))) ∧ Aside0 (wc.heap[gb408]? = some (.cells #[.int .i64 t400, (.slice Ao20 t401.length co20)] 25 (0, 0))) ∧ Aside0 (wc.heap[gb414]? = some (.cells #[.int .i64 t409, (.slice Ao28 t410.length co28)] 25 (0, 0))) ∧ Aside0 (wc.heap[gb423]? = some (.cells #[.int .i64 t415, (.slice Ao36 t416.length co36)] 25 (0, 0))) ∧ Aside0 (wc.heap[gb441]? = some (.cells #[.int .i64 t436, (.slice Ao96 t437.length co96)] 25 (0, 0))) ∧ Aside0 (Below w.heap.size w wc))
            case first => as_aux_lemma =>
             have H := HC144.out; clear HC144
             by_cases c145 : (l1.length : Int) = a0_0
             ·rw [if_pos c145] at H; have c145b0 : ((l1.length : Int) == a0_0) = true := beq_iff_eq.mpr c145; have c145b1 : ((l1.length : Int) != a0_0) = false := bne_eq_false_iff_eq.mpr c145; clear c145
              (first | rw [c145b0] | (simp only [i64_w, i32_w]; rw [c145b0]) | skip)
              have H' := Aside0.mk H; clear H; have hnb146 := NB385_408.out; have hnc146 := NB408_385.out; have hnb147 := NB385_414.out; have hnc147 := NB414_385.out; have hnb148 := NB385_423.out; have hnc148 := NB423_385.out; have hnb149 := NB385_441.out; have hnc149 := NB441_385.out; have hcz150_0 : wr.cell? ⟨gb385, 0, none⟩ = some (.int .i64 a0_0) := bc BK385 0; have hcz150_1 : wr.cell? ⟨gb385, 1, none⟩ = some (.slice A0_1 l0_1.length c0_1) := bc BK385 1; have hfz150_0 := blk_frozen BK385.out 0; have hfz150_1 := blk_frozen BK385.out 1
              go_wp2
              go_meet
              case rel => exact ⟨_, ((x18_2 != a0_0)), (by first | rfl | (simp; done) | (simp [*]; done)), H', ⟨by have := HJ9.out; have := HK2.out; first | omega | exact Nat.le_refl _⟩, ⟨rx HO_17⟩, ⟨rx HO_409001⟩, ⟨rx HO_415001⟩, ⟨rx HO_424001⟩, ⟨rx HO_442001⟩, ⟨bx BK385⟩, ⟨bx BK408⟩, ⟨bx BK414⟩, ⟨bx BK423⟩, ⟨bx BK441⟩, ⟨hb5 HB GE385 GE408 GE414 GE423 GE441⟩⟩
             ·rw [if_neg c145] at H; have c145b0 : ((l1.length : Int) == a0_0) = false := beq_eq_false_iff_ne.mpr c145; have c145b1 : ((l1.length : Int) != a0_0) = true := bne_iff_ne.mpr c145
              (first | rw [c145b0] | (simp only [i64_w, i32_w]; rw [c145b0]) | skip)
              have H' := Aside0.mk H; clear H; have hnb151 := NB385_408.out; have hnc151 := NB408_385.out; have hnb152 := NB385_414.out; have hnc152 := NB414_385.out; have hnb153 := NB385_423.out; have hnc153 := NB423_385.out; have hnb154 := NB385_441.out; have hnc154 := NB441_385.out; have hcz155_0 : wr.cell? ⟨gb385, 0, none⟩ = some (.int .i64 a0_0) := bc BK385 0; have hcz155_1 : wr.cell? ⟨gb385, 1, none⟩ = some (.slice A0_1 l0_1.length c0_1) := bc BK385 1; have hfz155_0 := blk_frozen BK385.out 0; have hfz155_1 := blk_frozen BK385.out 1
              go_wp2
              go_meet
              case rel => exact ⟨_, (true), (by first | rfl | (simp; done) | (simp [*]; done)), H', ⟨by have := HJ9.out; have := HK2.out; first | omega | exact Nat.le_refl _⟩, ⟨rx HO_17⟩, ⟨rx HO_409001⟩, ⟨rx HO_415001⟩, ⟨rx HO_424001⟩, ⟨rx HO_442001⟩, ⟨bx BK385⟩, ⟨bx BK408⟩, ⟨bx BK414⟩, ⟨bx BK423⟩, ⟨bx BK441⟩, ⟨hb5 HB GE385 GE408 GE414 GE423 GE441⟩⟩
            case rest => as_aux_lemma =>
             clear HC144
             try clear c1
             try clear p1
             try clear q1
             try clear hx1
             try clear p2
             try clear p4
             try clear q4
             try clear hx4
             try clear p6
             try clear c8
             try clear c9
             try clear c10
             try clear c11
             try clear p11
             try clear q11
             try clear hx11
             try clear hf11
             try clear c12
             try clear c13
             try clear c14
             try clear c15
             try clear p44
             try clear q44
             try clear hx44
             try clear p64
             try clear c83
             try clear c98
             try clear c99
             try clear c100
             try clear c101
             try clear c105
             try clear c105b0
             try clear c106
             try clear c106b0
             try clear c107
             try clear c107b0
             try clear c108
             try clear c108b0
             try clear c108b1
             try clear c109
             try clear c109b0
             try clear c110
             try clear c110b0
             try clear c111
             try clear c111b0
             try clear c112
             try clear c112b0
             try clear c113
             try clear c113b0
             try clear c113b1
             try clear p114
             try clear q114
             try clear hx114
             try clear hf114
             try clear c115
             try clear c116
             try clear c117
             try clear c118
             try clear c123
             try clear c124
             try clear c125
             try clear c126
             try clear c129
             try clear c130
             try clear c131
             try clear c132
             try clear c134
             try clear c135
             try clear c136
             try clear c137
             try clear c139
             try clear c140
             try clear c141
             try clear c142
             try clear c145
             try clear c145b0
             try clear c145b1
             try clear c146
             try clear c147
             try clear c148
             try clear c149
             try clear c151
             try clear c152
             try clear c153
             try clear c154
             try clear hcz102_0
             try clear hcz102_1
             try clear hcz119_0
             try clear hcz119_1
             try clear hcz127_0
             try clear hcz127_1
             try clear hcz133_0
             try clear hcz133_1
             try clear hcz138_0
             try clear hcz138_1
             try clear hcz143_0
             try clear hcz143_1
             try clear hcz150_0
             try clear hcz150_1
             try clear hcz155_0
             try clear hcz155_1
             try clear hfz102_0
             try clear hfz102_1
             try clear hfz119_0
             try clear hfz119_1
             try clear hfz127_0
             try clear hfz127_1
             try clear hfz133_0
             try clear hfz133_1
             try clear hfz138_0
             try clear hfz138_1
             try clear hfz143_0
             try clear hfz143_1
             try clear hfz150_0
             try clear hfz150_1
             try clear hfz155_0
             try clear hfz155_1
             try clear hx114_0
             try clear hx445_0
             try clear hx446_0
             try clear p114
             try clear p2
             try clear p445
             try clear p446
             try clear q114
             try clear q445
             try clear q446
             obtain ⟨kq, x147_143, rfl, HA, HJ143, HO_17, HO_409001, HO_415001, HO_424001, HO_442001, BK385, BK408, BK414, BK423, BK441, HB⟩ := hcut
             cases kq with
             | zero => exact absurd HA.out (by simp [tangramlaw14_EditNamed.j2])
             | succ kj143 =>
              have H := HA.out; clear HA; simp only [tangramlaw14_EditNamed.j2] at H
              by_cases c156 : x147_143 = true
              ·subst c156; rw [if_pos rfl] at H
               by_cases c157 : t440 = 2
               ·rw [if_pos c157] at H; have c157b0 : (t440 == 2) = true := beq_iff_eq.mpr c157; have c157b1 : (t440 != 2) = false := bne_eq_false_iff_eq.mpr c157; clear c157; obtain rfl := Option.some.inj H; have hnb158 := NB441_385.out; have hnc158 := NB385_441.out; have hnb159 := NB441_408.out; have hnc159 := NB408_441.out; have hnb160 := NB441_414.out; have hnc160 := NB414_441.out; have hnb161 := NB441_423.out; have hnc161 := NB423_441.out; have hcz162_0 : wc.cell? ⟨gb441, 0, none⟩ = some (.int .i64 t436) := bc BK441 0; have hcz162_1 : wc.cell? ⟨gb441, 1, none⟩ = some (.slice Ao96 t437.length co96) := bc BK441 1; have hfz162_0 := blk_frozen BK441.out 0; have hfz162_1 := blk_frozen BK441.out 1
                go_wp2
                go_ret
                exact ⟨by first | rfl | (simp [errW_none, errW_some] <;> rfl) | (simp [*, errW_none, errW_some] <;> rfl), hb5 HB GE385 GE408 GE414 GE423 GE441⟩
               ·rw [if_neg c157] at H; have c157b0 : (t440 == 2) = false := beq_eq_false_iff_ne.mpr c157; have c157b1 : (t440 != 2) = true := bne_iff_ne.mpr c157; obtain rfl := Option.some.inj H
                go_wp2
                go_ret
                exact ⟨by first | rfl | (simp [errW_none, errW_some] <;> rfl) | (simp [*, errW_none, errW_some] <;> rfl), hb5 HB GE385 GE408 GE414 GE423 GE441⟩
              ·replace c156 := Bool.eq_false_iff.mpr c156; subst c156; rw [if_neg (show ¬ (false = true) by decide)] at H; have H' := Aside0.mk H; clear H; obtain ⟨Ao163, co163, eo163⟩ := Kd.R_slice HO_17.out; subst eo163
               go_wp2
               go_loopg [157] kj143 (fun kq v157 w' => ∃ (x17_4 : List Int) (x157_4 : Int), v157 = .int .i64 x157_4 ∧ Aside0 (tangramlaw14_EditNamed.l1 kq t440 x17_4 (x17_2.length : Int) x157_4 a0_0 l0_1 t436 t437 = some r) ∧ Aside0 (kq ≤ kj143) ∧ Aside0 (Kd.R (Kd.int .i64) 3 w' w.heap.size (fun _ => True) (.slice Ao163 x17_2.length co163) x17_4) ∧ Aside0 (Kd.R k46 46 w' w.heap.size (fun k_ => some k_ ≠ ((.slice Ao28 t410.length co28) : Value).ownBlock ∧ some k_ ≠ ((.slice Ao36 t416.length co36) : Value).ownBlock ∧ some k_ ≠ ((.slice Ao96 t437.length co96) : Value).ownBlock) (.slice Ao20 t401.length co20) t401) ∧ Aside0 (Kd.R k46 46 w' w.heap.size (fun k_ => some k_ ≠ ((.slice Ao20 t401.length co20) : Value).ownBlock ∧ some k_ ≠ ((.slice Ao36 t416.length co36) : Value).ownBlock ∧ some k_ ≠ ((.slice Ao96 t437.length co96) : Value).ownBlock) (.slice Ao28 t410.length co28) t410) ∧ Aside0 (Kd.R k46 46 w' w.heap.size (fun k_ => some k_ ≠ ((.slice Ao20 t401.length co20) : Value).ownBlock ∧ some k_ ≠ ((.slice Ao28 t410.length co28) : Value).ownBlock ∧ some k_ ≠ ((.slice Ao96 t437.length co96) : Value).ownBlock) (.slice Ao36 t416.length co36) t416) ∧ Aside0 (Kd.R k46 46 w' w.heap.size (fun k_ => some k_ ≠ ((.slice Ao20 t401.length co20) : Value).ownBlock ∧ some k_ ≠ ((.slice Ao28 t410.length co28) : Value).ownBlock ∧ some k_ ≠ ((.slice Ao36 t416.length co36) : Value).ownBlock) (.slice Ao96 t437.length co96) t437) ∧ Aside0 (w'.heap[gb385]? = some (.cells #[.int .i64 a0_0, (.slice A0_1 l0_1.length c0_1)] 25 (0, 0))) ∧ Aside0 (w'.heap[gb408]? = some (.cells #[.int .i64 t400, (.slice Ao20 t401.length co20)] 25 (0, 0))) ∧ Aside0 (w'.heap[gb414]? = some (.cells #[.int .i64 t409, (.slice Ao28 t410.length co28)] 25 (0, 0))) ∧ Aside0 (w'.heap[gb423]? = some (.cells #[.int .i64 t415, (.slice Ao36 t416.length co36)] 25 (0, 0))) ∧ Aside0 (w'.heap[gb441]? = some (.cells #[.int .i64 t436, (.slice Ao96 t437.length co96)] 25 (0, 0))) ∧ Aside0 (Below w.heap.size w w'))
               case atStart => exact ⟨(x17_2), (0), (by first | rfl | (simp; done) | (simp [*]; done)), H', ⟨Nat.le_refl _⟩, ⟨rx HO_17⟩, ⟨rx HO_409001⟩, ⟨rx HO_415001⟩, ⟨rx HO_424001⟩, ⟨rx HO_442001⟩, ⟨bx BK385⟩, ⟨bx BK408⟩, ⟨bx BK414⟩, ⟨bx BK423⟩, ⟨bx BK441⟩, ⟨hb5 HB GE385 GE408 GE414 GE423 GE441⟩⟩
               case round =>
                clear H'
                try clear c1
                try clear p1
                try clear q1
                try clear hx1
                try clear p2
                try clear p4
                try clear q4
                try clear hx4
                try clear p6
                try clear c8
                try clear c9
                try clear c10
                try clear c11
                try clear p11
                try clear q11
                try clear hx11
                try clear hf11
                try clear c12
                try clear c13
                try clear c14
                try clear c15
                try clear c16
                try clear p44
                try clear q44
                try clear hx44
                try clear p64
                try clear c83
                try clear c98
                try clear c99
                try clear c100
                try clear c101
                try clear c105
                try clear c105b0
                try clear c106
                try clear c106b0
                try clear c107
                try clear c107b0
                try clear c108
                try clear c108b0
                try clear c108b1
                try clear c109
                try clear c109b0
                try clear c110
                try clear c110b0
                try clear c111
                try clear c111b0
                try clear c112
                try clear c112b0
                try clear c113
                try clear c113b0
                try clear c113b1
                try clear p114
                try clear q114
                try clear hx114
                try clear hf114
                try clear c115
                try clear c116
                try clear c117
                try clear c118
                try clear c123
                try clear c124
                try clear c125
                try clear c126
                try clear c129
                try clear c130
                try clear c131
                try clear c132
                try clear c134
                try clear c135
                try clear c136
                try clear c137
                try clear c139
                try clear c140
                try clear c141
                try clear c142
                try clear c145
                try clear c145b0
                try clear c145b1
                try clear c146
                try clear c147
                try clear c148
                try clear c149
                try clear c151
                try clear c152
                try clear c153
                try clear c154
                try clear c156
                try clear c157
                try clear c157b0
                try clear c157b1
                try clear c158
                try clear c159
                try clear c160
                try clear c161
                try clear hcz102_0
                try clear hcz102_1
                try clear hcz119_0
                try clear hcz119_1
                try clear hcz127_0
                try clear hcz127_1
                try clear hcz133_0
                try clear hcz133_1
                try clear hcz138_0
                try clear hcz138_1
                try clear hcz143_0
                try clear hcz143_1
                try clear hcz150_0
                try clear hcz150_1
                try clear hcz155_0
                try clear hcz155_1
                try clear hcz162_0
                try clear hcz162_1
                try clear hfz102_0
                try clear hfz102_1
                try clear hfz119_0
                try clear hfz119_1
                try clear hfz127_0
                try clear hfz127_1
                try clear hfz133_0
                try clear hfz133_1
                try clear hfz138_0
                try clear hfz138_1
                try clear hfz143_0
                try clear hfz143_1
                try clear hfz150_0
                try clear hfz150_1
                try clear hfz155_0
                try clear hfz155_1
                try clear hfz162_0
                try clear hfz162_1
                try clear hx114_0
                try clear hx445_0
                try clear hx446_0
                try clear p1
                try clear p11
                try clear p114
                try clear p2
                try clear p4
                try clear p44
                try clear p445
                try clear p446
                try clear p6
                try clear p64
                try clear q1
                try clear q11
                try clear q114
                try clear q4
                try clear q44
                try clear q445
                try clear q446
                obtain ⟨x17_4, x157_4, rfl, HA, HK4, HO_17, HO_409001, HO_415001, HO_424001, HO_442001, BK385, BK408, BK414, BK423, BK441, HB⟩ := hrel; have hl17_4 := (Kd.R_reads' HO_17.out).1; rw [hl17_4] at HO_17
                (try simp only [hl17_4])
                (try simp only [hl17_4] at BK385)
                (try simp only [hl17_4] at BK408)
                (try simp only [hl17_4] at BK414)
                (try simp only [hl17_4] at BK423)
                (try simp only [hl17_4] at BK441)
                (try simp only [hl17_4] at HO_409001)
                (try simp only [hl17_4] at HO_415001)
                (try simp only [hl17_4] at HO_424001)
                (try simp only [hl17_4] at HO_442001)
                cases gk with
                | zero => exact absurd HA.out (by simp [tangramlaw14_EditNamed.l1])
                | succ k4 =>
                 have H := HA.out; clear HA; simp only [tangramlaw14_EditNamed.l1] at H
                 by_cases c164 : x157_4 < (x17_2.length : Int)
                 ·rw [if_pos c164] at H; have c164b0 : decide (x157_4 < (x17_2.length : Int)) = true := decide_eq_true c164; clear c164
                  by_cases c165 : 0 ≤ x157_4
                  ·rw [if_pos c165] at H; have c165b0 : decide (0 ≤ x157_4) = true := decide_eq_true c165; clear c165
                   by_cases c166 : x157_4 < (x17_4.length : Int)
                   ·rw [if_pos c166] at H; have c166b0 : decide (x157_4 < (x17_4.length : Int)) = true := decide_eq_true c166; clear c166; obtain ⟨y449, hy449⟩ : ∃ y_ : List Int, y_ = (x17_4.set (x157_4 : Int).toNat (wrap64 ((rd x17_4 x157_4) - 1))) := ⟨_, rfl⟩; replace H : (tangramlaw14_EditNamed.l1 k4 t440 y449 (x17_2.length : Int) (wrap64 (x157_4 + 1)) a0_0 l0_1 t436 t437) = some r := by first | (rw [hy449]; with_reducible exact H) | (have H2_ := (Option.bind_some _ _).symm.trans H; rw [hy449]; with_reducible exact H2_) | (have H2_ := (Option.bind_some _ _).symm.trans H; with_reducible exact H2_) | with_reducible exact H | (rw [hy449]; exact H) | exact H
                    have Ny449 := Aside0.mk hy449; clear hy449; have H' := Aside0.mk H; clear H; have p448 : 0 ≤ (x157_4 : Int) := of_decide_eq_true (by first | (with_reducible assumption) | assumption); have q448 : x157_4 < (x17_4.length : Int) := of_decide_eq_true (by first | (with_reducible assumption) | assumption); obtain ⟨ad448, e448, hx448_0⟩ := Kd.at_int (Kd.R_reads' HO_17.out).2.2 x157_4 p448 q448
                    cases e448
                    replace p448 := eq_true p448; replace q448 := eq_true q448; have p167 : 0 ≤ (x157_4 : Int) := of_decide_eq_true (by first | (with_reducible assumption) | assumption); have q167 : (x157_4 : Int) < ((x17_4.length : Int) : Int) := of_decide_eq_true (by first | (with_reducible assumption) | assumption); obtain ⟨go167, co167, eo167, gb167, gl167, cl167, HG167⟩ := Kd.R_form HO_17.out (by omega)
                    (first | cases eo167 | (injection eo167 with ea_ en_ ec_; (first | subst ea_ | (injection ea_ with ea_; subst ea_)); subst ec_; clear en_))
                    have GB167 := Aside0.mk gb167; have GG167 := Aside0.mk HG167; clear gb167 gl167 HG167
                    (first | simp only [add_plain] at hx448_0 | skip)
                    obtain ⟨hx167_0, hf167_0⟩ := Kd.R_celln 0 HO_17.out (x157_4 : Int) p167 q167; replace p167 := eq_true p167; replace q167 := eq_true q167; have HP168 := Kd.R_putg HO_17.out (x157_4 : Int) (wrap64 ((rd x17_4 x157_4) - 1))
                    go_wp2_with (first | ((with_reducible refine gate_store (t := 3) (p := 165) rfl ?_); refine store_event (t := 3) (p := 165) (v := ?vo_w169) (w1 := (wr.setCell ⟨go167, (x157_4 : Int).toNat, none⟩ (.int .i64 (wrap64 ((rd x17_4 x157_4) - 1))))) ?hg ?ho ?hn ?hr ?_; (case ho => rfl); (case hg => rfl); (case hn => rfl); (case hr => first | (go_simp; done) | (go_simp; rfl)); intro w169 hw; have hg : wr.grownBy w169 (some go167) := (by rw [hw]; exact HP168.2); have hp_ : Kd.R (Kd.int .i64) 3 w169 w.heap.size (fun _ => True) (.slice (some ⟨go167, 0, none⟩) x17_4.length co163) y449 := (by rw [hw, Ny449.out]; exact HP168.1); clear HP168; replace HO_409001 := Aside0.mk (Kd.R_over' (v := (.slice (some ⟨go167, 0, none⟩) x17_4.length co163)) (rx HO_409001) (Kd.R_typed HO_17.out) (by decide) hg); replace HO_415001 := Aside0.mk (Kd.R_over' (v := (.slice (some ⟨go167, 0, none⟩) x17_4.length co163)) (rx HO_415001) (Kd.R_typed HO_17.out) (by decide) hg); replace HO_424001 := Aside0.mk (Kd.R_over' (v := (.slice (some ⟨go167, 0, none⟩) x17_4.length co163)) (rx HO_424001) (Kd.R_typed HO_17.out) (by decide) hg); replace HO_442001 := Aside0.mk (Kd.R_over' (v := (.slice (some ⟨go167, 0, none⟩) x17_4.length co163)) (rx HO_442001) (Kd.R_typed HO_17.out) (by decide) hg); replace BK385 := Aside0.mk (blk_grown (bx BK385) hg (Kd.R_ne HO_17.out BK385.out (by decide))); replace BK408 := Aside0.mk (blk_grown (bx BK408) hg (Kd.R_ne HO_17.out BK408.out (by decide))); replace BK414 := Aside0.mk (blk_grown (bx BK414) hg (Kd.R_ne HO_17.out BK414.out (by decide))); replace BK423 := Aside0.mk (blk_grown (bx BK423) hg (Kd.R_ne HO_17.out BK423.out (by decide))); replace BK441 := Aside0.mk (blk_grown (bx BK441) hg (Kd.R_ne HO_17.out BK441.out (by decide))); replace HO_17 := Aside0.mk (hp_); replace HB := Aside0.mk ((by rw [hw]; exact below_set (HB.out) GB167.out : Below w.heap.size w w169)); clear hg hw hp_))
                    (try simp only [← hl17_4])
                    go_roundg k4
                    case measure => have := HJ9.out; have := HK2.out; have := HJ143.out; have := HK4.out; omega
                    case rel => exact ⟨(y449), (wrap64 (x157_4 + 1)), (by first | rfl | (simp; done) | (simp [*]; done)), H', ⟨by have := HJ9.out; have := HK2.out; have := HJ143.out; have := HK4.out; omega⟩, ⟨by (try simp only [hl17_4]); (with_reducible repeat (first | apply Kd.R_alloc | apply Kd.R_drewN | apply Kd.R_drew)); exact HO_17.out⟩, ⟨by (try simp only [hl17_4]); (with_reducible repeat (first | apply Kd.R_alloc | apply Kd.R_drewN | apply Kd.R_drew)); exact HO_409001.out⟩, ⟨by (try simp only [hl17_4]); (with_reducible repeat (first | apply Kd.R_alloc | apply Kd.R_drewN | apply Kd.R_drew)); exact HO_415001.out⟩, ⟨by (try simp only [hl17_4]); (with_reducible repeat (first | apply Kd.R_alloc | apply Kd.R_drewN | apply Kd.R_drew)); exact HO_424001.out⟩, ⟨by (try simp only [hl17_4]); (with_reducible repeat (first | apply Kd.R_alloc | apply Kd.R_drewN | apply Kd.R_drew)); exact HO_442001.out⟩, ⟨by (try simp only [hl17_4]); (with_reducible repeat (first | refine blk_drewN ?_ _ | refine blk_drew ?_ | refine blk_alloc ?_ _)); exact BK385.out⟩, ⟨by (try simp only [hl17_4]); (with_reducible repeat (first | refine blk_drewN ?_ _ | refine blk_drew ?_ | refine blk_alloc ?_ _)); exact BK408.out⟩, ⟨by (try simp only [hl17_4]); (with_reducible repeat (first | refine blk_drewN ?_ _ | refine blk_drew ?_ | refine blk_alloc ?_ _)); exact BK414.out⟩, ⟨by (try simp only [hl17_4]); (with_reducible repeat (first | refine blk_drewN ?_ _ | refine blk_drew ?_ | refine blk_alloc ?_ _)); exact BK423.out⟩, ⟨by (try simp only [hl17_4]); (with_reducible repeat (first | refine blk_drewN ?_ _ | refine blk_drew ?_ | refine blk_alloc ?_ _)); exact BK441.out⟩, ⟨hb5 HB GE385 GE408 GE414 GE423 GE441⟩⟩
                   ·rw [if_neg c166] at H; exact absurd H (by simp)
                  ·rw [if_neg c165] at H; exact absurd H (by simp)
                 ·rw [if_neg c164] at H; have c164b0 : decide (x157_4 < (x17_2.length : Int)) = false := decide_eq_false c164; have c164b9 : decide (x157_4 < (x17_4.length : Int)) = false := by rw [← hl17_4]; exact c164b0
                  clear c164; replace H := Option.bind_eq_some_iff.mp H; obtain ⟨⟨t450, t451, t454⟩, A1700, H⟩ := H; (try dsimp only at H); have A170 := Aside0.mk A1700; clear A1700; replace H := Option.bind_eq_some_iff.mp H; obtain ⟨⟨t456, t457, t460⟩, A1710, H⟩ := H; (try dsimp only at H); have A171 := Aside0.mk A1710; clear A1710
                  by_cases c172 : t440 = 0
                  ·rw [if_pos c172] at H; have c172b0 : (t440 == 0) = true := beq_iff_eq.mpr c172; have c172b1 : (t440 != 0) = false := bne_eq_false_iff_eq.mpr c172; clear c172
                   by_cases c173 : t454 = 0
                   ·rw [if_pos c173] at H; have c173b0 : (t454 == 0) = true := beq_iff_eq.mpr c173; have c173b1 : (t454 != 0) = false := bne_eq_false_iff_eq.mpr c173; clear c173
                    by_cases c174 : t460 = 0
                    ·rw [if_pos c174] at H; have c174b0 : (t460 == 0) = true := beq_iff_eq.mpr c174; have c174b1 : (t460 != 0) = false := bne_eq_false_iff_eq.mpr c174; clear c174
                     by_cases c175 : (t437.length : Int) = (l0_1.length : Int)
                     ·rw [if_pos c175] at H; have c175b0 : ((t437.length : Int) == (l0_1.length : Int)) = true := beq_iff_eq.mpr c175; have c175b1 : ((t437.length : Int) != (l0_1.length : Int)) = false := bne_eq_false_iff_eq.mpr c175; have c175b2 : (t437.length == l0_1.length) = true := by first | simpa using c175 | (simp at c175 ⊢; omega)
                      clear c175; replace H := Option.bind_eq_some_iff.mp H; obtain ⟨t462, A1760, H⟩ := H; (try dsimp only at H); have A176 := Aside0.mk A1760; clear A1760
                      by_cases c177 : t462 = true
                      ·subst c177; rw [if_pos rfl] at H; replace H := Option.bind_eq_some_iff.mp H; obtain ⟨t463, A1780, H⟩ := H; (try dsimp only at H); have A178 := Aside0.mk A1780; clear A1780; obtain rfl := Option.some.inj H; have hnb179 := NB441_385.out; have hnc179 := NB385_441.out; have hnb180 := NB441_408.out; have hnc180 := NB408_441.out; have hnb181 := NB441_414.out; have hnc181 := NB414_441.out; have hnb182 := NB441_423.out; have hnc182 := NB423_441.out; have hcz183_0 : wr.cell? ⟨gb441, 0, none⟩ = some (.int .i64 t436) := bc BK441 0; have hcz183_1 : wr.cell? ⟨gb441, 1, none⟩ = some (.slice Ao96 t437.length co96) := bc BK441 1; have hfz183_0 := blk_frozen BK441.out 0; have hfz183_1 := blk_frozen BK441.out 1
                       go_wp2_with (first | ((with_reducible refine gate_callee (f := 12) rfl ?_); refine gl_ (some 170) Try.func12 #[.agg #[.int .i64 t436, .slice Ao96 t437.length co96], .slice Ao163 x17_4.length co163] ?_; (with_reducible refine (edit_Relabel.calls k4 t436 _ _ t437 _ _ x17_4 t450 t451 t454 _ ?side1 ?side2 ?side3 ?side4 A170.out).mono ?_); (case side1 => exact cr HO_442001); (case side2 => exact (Kd.R_reads' HO_442001.out).2.1); (case side3 => exact cr HO_17); (case side4 => exact (Kd.R_reads' HO_17.out).2.1); rintro e w184 ⟨v452, rfl, ho0, hb⟩; refine ⟨_, rfl, ?_⟩; replace HO_17 := ry HO_17 hb; have HO453 := Aside0.mk (Kd.R_lower (Kd.R_new' (Kd.R_new' (Kd.R_new' (Kd.R_new' ho0 (Kd.R_lt (rx HO_409001))) (Kd.R_lt (rx HO_415001))) (Kd.R_lt (rx HO_424001))) (Kd.R_lt (rx HO_442001))) (below_size (hb5 HB GE385 GE408 GE414 GE423 GE441))); replace HO_409001 := el (rx HO_409001) ho0 hb; replace HO_415001 := el (rx HO_415001) ho0 hb; replace HO_424001 := el (rx HO_424001) ho0 hb; replace HO_442001 := el (rx HO_442001) ho0 hb; replace BK385 := kx BK385 hb; replace BK408 := kx BK408 hb; replace BK414 := kx BK414 hb; replace BK423 := kx BK423 hb; replace BK441 := kx BK441 hb; replace HB := hs (hb5 HB GE385 GE408 GE414 GE423 GE441) hb; (try clear hb); (try clear hb2); (try clear hk); (try clear hi); (try clear ho0)) | ((with_reducible refine gate_dst (N := 22) rfl ?_); (try (refine gate_guard (by rfl) ?_; dsimp only)); refine box_event ?hg (N := 22) ?hd (cs := #[.int .i64 0, .slice none 0 0]) (t := 25) ?hr ?_; (case hd => rfl); (case hg => rfl); (case hr => first | (go_simp; done) | (go_simp; rfl)); intro gb455 hg w185 hbox hb; replace HO_17 := ry HO_17 hb; replace HO_409001 := ry HO_409001 hb; replace HO_415001 := ry HO_415001 hb; replace HO_424001 := ry HO_424001 hb; replace HO_442001 := ry HO_442001 hb; replace HO453 := ry HO453 hb; have BK455 := Aside0.mk (hbox); have GW455 := wq (hb5 HB GE385 GE408 GE414 GE423 GE441) hg; have GE455 := wq (hb5 HB GE385 GE408 GE414 GE423 GE441) hg; replace HB := hs (hb5 HB GE385 GE408 GE414 GE423 GE441) hb; have NB385_455 := lx BK385 hg; have NB455_385 := gx BK385 hg; replace BK385 := kx BK385 hb; have NB408_455 := lx BK408 hg; have NB455_408 := gx BK408 hg; replace BK408 := kx BK408 hb; have NB414_455 := lx BK414 hg; have NB455_414 := gx BK414 hg; replace BK414 := kx BK414 hb; have NB423_455 := lx BK423 hg; have NB455_423 := gx BK423 hg; replace BK423 := kx BK423 hb; have NB441_455 := lx BK441 hg; have NB455_441 := gx BK441 hg; replace BK441 := kx BK441 hb; clear hb hbox hg; have hnb186 := NB455_385.out; have hnc186 := NB385_455.out; have hnb187 := NB455_408.out; have hnc187 := NB408_455.out; have hnb188 := NB455_414.out; have hnc188 := NB414_455.out; have hnb189 := NB455_423.out; have hnc189 := NB423_455.out; have hnb190 := NB455_441.out; have hnc190 := NB441_455.out; have hcz191_0 : w185.cell? ⟨gb455, 0, none⟩ = some (.int .i64 0) := bc BK455 0; have hcz191_1 : w185.cell? ⟨gb455, 1, none⟩ = some (.slice none 0 0) := bc BK455 1; have hfz191_0 := blk_frozen BK455.out 0; have hfz191_1 := blk_frozen BK455.out 1; obtain ⟨Ao192, co192, eo192⟩ := Kd.R_slice HO453.out; subst eo192; have hnb193 := NB385_408.out; have hnc193 := NB408_385.out; have hnb194 := NB385_414.out; have hnc194 := NB414_385.out; have hnb195 := NB385_423.out; have hnc195 := NB423_385.out; have hcz196_0 : w185.cell? ⟨gb385, 0, none⟩ = some (.int .i64 a0_0) := bc BK385 0; have hcz196_1 : w185.cell? ⟨gb385, 1, none⟩ = some (.slice A0_1 l0_1.length c0_1) := bc BK385 1; have hfz196_0 := blk_frozen BK385.out 0; have hfz196_1 := blk_frozen BK385.out 1) | ((with_reducible refine gate_callee (f := 14) rfl ?_); refine gl_ (some 176) Try.func14 #[.agg #[.int .i64 a0_0, .slice A0_1 l0_1.length c0_1], .slice Ao163 x17_4.length co163] ?_; (with_reducible refine (edit_Induced.calls k4 a0_0 _ _ l0_1 _ _ x17_4 t456 t457 t460 _ ?side1 ?side2 ?side3 ?side4 A171.out).mono ?_); (case side1 => exact Kd.C_below HR0_1.out (hb6 HB GE385 GE408 GE414 GE423 GE441 GE455)); (case side2 => exact HC0_1.out); (case side3 => refine (Kd.R_reads' (e := 3) (base := w.heap.size) (ok := fun k_ => True) (n := x17_4.length) (c := co163) ?_).2.2; exact (rf HO_17 BK455)); (case side4 => exact (Kd.R_reads' HO_17.out).2.1); rintro e w197 ⟨v458, rfl, ho0, hb⟩; refine ⟨_, rfl, ?_⟩; replace HO_17 := Aside0.mk (Kd.R_below (rf HO_17 BK455) hb); have HO459 := Aside0.mk (Kd.R_lower (Kd.R_new' (Kd.R_new' (Kd.R_new' (Kd.R_new' (Kd.R_new' ho0 (Kd.R_lt (rf HO_409001 BK455))) (Kd.R_lt (rf HO_415001 BK455))) (Kd.R_lt (rf HO_424001 BK455))) (Kd.R_lt (rf HO_442001 BK455))) (Kd.R_lt (rf HO453 BK455))) (below_size (hb6 HB GE385 GE408 GE414 GE423 GE441 GE455))); replace HO_409001 := el (rf HO_409001 BK455) ho0 hb; replace HO_415001 := el (rf HO_415001 BK455) ho0 hb; replace HO_424001 := el (rf HO_424001 BK455) ho0 hb; replace HO_442001 := el (rf HO_442001 BK455) ho0 hb; replace HO453 := el (rf HO453 BK455) ho0 hb; replace BK385 := kb (bx1 BK385 NB385_455) hb; replace BK408 := kb (bx1 BK408 NB408_455) hb; replace BK414 := kb (bx1 BK414 NB414_455) hb; replace BK423 := kb (bx1 BK423 NB423_455) hb; replace BK441 := kb (bx1 BK441 NB441_455) hb; replace BK455 := Aside0.mk (blk_below (g := gb455) (o := .cells #[.int .i64 t450, .slice Ao192 t451.length co192] 25 (0, 0)) (by (with_reducible repeat (first | refine blk_drewN ?_ _ | refine blk_drew ?_ | refine blk_alloc ?_ _)); refine blk_put (cs := #[.int .i64 t450, .slice none 0 0]) ?_ 1 _ rfl; (with_reducible repeat (first | refine blk_drewN ?_ _ | refine blk_drew ?_ | refine blk_alloc ?_ _)); refine blk_put (cs := #[.int .i64 0, .slice none 0 0]) ?_ 0 _ rfl; (with_reducible repeat (first | refine blk_drewN ?_ _ | refine blk_drew ?_ | refine blk_alloc ?_ _)); exact BK455.out) hb); replace HB := hs (hb6 HB GE385 GE408 GE414 GE423 GE441 GE455) hb; (try clear hb); (try clear hb2); (try clear hk); (try clear hi); (try clear ho0)) | ((with_reducible refine gate_dst (N := 24) rfl ?_); (try (refine gate_guard (by rfl) ?_; dsimp only)); refine box_event ?hg (N := 24) ?hd (cs := #[.int .i64 0, .slice none 0 0]) (t := 25) ?hr ?_; (case hd => rfl); (case hg => rfl); (case hr => first | (go_simp; done) | (go_simp; rfl)); intro gb461 hg w198 hbox hb; replace HO_17 := ry HO_17 hb; replace HO_409001 := ry HO_409001 hb; replace HO_415001 := ry HO_415001 hb; replace HO_424001 := ry HO_424001 hb; replace HO_442001 := ry HO_442001 hb; replace HO453 := ry HO453 hb; replace HO459 := ry HO459 hb; have BK461 := Aside0.mk (hbox); have GW461 := wq (hb6 HB GE385 GE408 GE414 GE423 GE441 GE455) hg; have GE461 := wq (hb6 HB GE385 GE408 GE414 GE423 GE441 GE455) hg; replace HB := hs (hb6 HB GE385 GE408 GE414 GE423 GE441 GE455) hb; have NB385_461 := lx BK385 hg; have NB461_385 := gx BK385 hg; replace BK385 := kx BK385 hb; have NB408_461 := lx BK408 hg; have NB461_408 := gx BK408 hg; replace BK408 := kx BK408 hb; have NB414_461 := lx BK414 hg; have NB461_414 := gx BK414 hg; replace BK414 := kx BK414 hb; have NB423_461 := lx BK423 hg; have NB461_423 := gx BK423 hg; replace BK423 := kx BK423 hb; have NB441_461 := lx BK441 hg; have NB461_441 := gx BK441 hg; replace BK441 := kx BK441 hb; have NB455_461 := lx BK455 hg; have NB461_455 := gx BK455 hg; replace BK455 := kx BK455 hb; clear hb hbox hg; have hnb199 := NB461_385.out; have hnc199 := NB385_461.out; have hnb200 := NB461_408.out; have hnc200 := NB408_461.out; have hnb201 := NB461_414.out; have hnc201 := NB414_461.out; have hnb202 := NB461_423.out; have hnc202 := NB423_461.out; have hnb203 := NB461_441.out; have hnc203 := NB441_461.out; have hnb204 := NB461_455.out; have hnc204 := NB455_461.out; have hcz205_0 : w198.cell? ⟨gb461, 0, none⟩ = some (.int .i64 0) := bc BK461 0; have hcz205_1 : w198.cell? ⟨gb461, 1, none⟩ = some (.slice none 0 0) := bc BK461 1; have hfz205_0 := blk_frozen BK461.out 0; have hfz205_1 := blk_frozen BK461.out 1; obtain ⟨Ao206, co206, eo206⟩ := Kd.R_slice HO459.out; subst eo206; have hcz207_0 : w198.cell? ⟨gb441, 0, none⟩ = some (.int .i64 t436) := bc BK441 0; have hcz207_1 : w198.cell? ⟨gb441, 1, none⟩ = some (.slice Ao96 t437.length co96) := bc BK441 1; have hfz207_0 := blk_frozen BK441.out 0; have hfz207_1 := blk_frozen BK441.out 1; have hcz208_0 : w198.cell? ⟨gb385, 0, none⟩ = some (.int .i64 a0_0) := bc BK385 0; have hcz208_1 : w198.cell? ⟨gb385, 1, none⟩ = some (.slice A0_1 l0_1.length c0_1) := bc BK385 1; have hfz208_0 := blk_frozen BK385.out 0; have hfz208_1 := blk_frozen BK385.out 1; have hcz209_0 : w198.cell? ⟨gb455, 0, none⟩ = some (.int .i64 t450) := bc BK455 0; have hcz209_1 : w198.cell? ⟨gb455, 1, none⟩ = some (.slice Ao192 t451.length co192) := bc BK455 1; have hfz209_0 := blk_frozen BK455.out 0; have hfz209_1 := blk_frozen BK455.out 1) | (go_at_call 15; (with_reducible refine (tangramref14_Same.calls k4 t450 _ _ t451 a0_0 _ _ l0_1 true _ ?side1 ?side2 ?side3 ?side4 A176.out).mono ?_); (case side1 => refine (Kd.R_reads' (e := 46) (base := w.heap.size) (ok := fun k_ => (((((True ∧ some k_ ≠ (.slice Ao20 t401.length co20 : Value).ownBlock) ∧ some k_ ≠ (.slice Ao28 t410.length co28 : Value).ownBlock) ∧ some k_ ≠ (.slice Ao36 t416.length co36 : Value).ownBlock) ∧ some k_ ≠ (.slice Ao96 t437.length co96 : Value).ownBlock) ∧ some k_ ≠ (.slice Ao206 t457.length co206 : Value).ownBlock)) (n := t451.length) (c := co192) ?_).2.2; exact (rf HO453 BK461)); (case side2 => exact (Kd.R_reads' HO453.out).2.1); (case side3 => exact Kd.C_below HR0_1.out (hb7 HB GE385 GE408 GE414 GE423 GE441 GE455 GE461)); (case side4 => exact HC0_1.out); rintro e w210 ⟨rfl, hb⟩; replace HO_17 := Aside0.mk (Kd.R_below (rf HO_17 BK461) hb); replace HO_409001 := Aside0.mk (Kd.R_below (rf HO_409001 BK461) hb); replace HO_415001 := Aside0.mk (Kd.R_below (rf HO_415001 BK461) hb); replace HO_424001 := Aside0.mk (Kd.R_below (rf HO_424001 BK461) hb); replace HO_442001 := Aside0.mk (Kd.R_below (rf HO_442001 BK461) hb); replace HO453 := Aside0.mk (Kd.R_below (rf HO453 BK461) hb); replace HO459 := Aside0.mk (Kd.R_below (rf HO459 BK461) hb); replace BK385 := kb (bx1 BK385 NB385_461) hb; replace BK408 := kb (bx1 BK408 NB408_461) hb; replace BK414 := kb (bx1 BK414 NB414_461) hb; replace BK423 := kb (bx1 BK423 NB423_461) hb; replace BK441 := kb (bx1 BK441 NB441_461) hb; replace BK455 := kb (bx1 BK455 NB455_461) hb; replace BK461 := Aside0.mk (blk_below (g := gb461) (o := .cells #[.int .i64 t456, .slice Ao206 t457.length co206] 25 (0, 0)) (by (with_reducible repeat (first | refine blk_drewN ?_ _ | refine blk_drew ?_ | refine blk_alloc ?_ _)); refine blk_put (cs := #[.int .i64 t456, .slice none 0 0]) ?_ 1 _ rfl; (with_reducible repeat (first | refine blk_drewN ?_ _ | refine blk_drew ?_ | refine blk_alloc ?_ _)); refine blk_put (cs := #[.int .i64 0, .slice none 0 0]) ?_ 0 _ rfl; (with_reducible repeat (first | refine blk_drewN ?_ _ | refine blk_drew ?_ | refine blk_alloc ?_ _)); exact BK461.out) hb); replace HB := hs (hb7 HB GE385 GE408 GE414 GE423 GE441 GE455 GE461) hb; (try clear hb); (try clear hb2); (try clear hk); (try clear hi); have hcz211_0 : w210.cell? ⟨gb461, 0, none⟩ = some (.int .i64 t456) := bc BK461 0; have hcz211_1 : w210.cell? ⟨gb461, 1, none⟩ = some (.slice Ao206 t457.length co206) := bc BK461 1; have hfz211_0 := blk_frozen BK461.out 0; have hfz211_1 := blk_frozen BK461.out 1; have hcz212_0 : w210.cell? ⟨gb441, 0, none⟩ = some (.int .i64 t436) := bc BK441 0; have hcz212_1 : w210.cell? ⟨gb441, 1, none⟩ = some (.slice Ao96 t437.length co96) := bc BK441 1; have hfz212_0 := blk_frozen BK441.out 0; have hfz212_1 := blk_frozen BK441.out 1) | (go_at_call 15; (with_reducible refine (tangramref14_Same.calls k4 t456 _ _ t457 t436 _ _ t437 t463 _ ?side1 ?side2 ?side3 ?side4 A178.out).mono ?_); (case side1 => exact cr HO459); (case side2 => exact (Kd.R_reads' HO459.out).2.1); (case side3 => exact cr HO_442001); (case side4 => exact (Kd.R_reads' HO_442001.out).2.1); rintro e w213 ⟨rfl, hb⟩; replace HO_17 := ry HO_17 hb; replace HO_409001 := ry HO_409001 hb; replace HO_415001 := ry HO_415001 hb; replace HO_424001 := ry HO_424001 hb; replace HO_442001 := ry HO_442001 hb; replace HO453 := ry HO453 hb; replace HO459 := ry HO459 hb; replace BK385 := kx BK385 hb; replace BK408 := kx BK408 hb; replace BK414 := kx BK414 hb; replace BK423 := kx BK423 hb; replace BK441 := kx BK441 hb; replace BK455 := kx BK455 hb; replace BK461 := kx BK461 hb; replace HB := hs (hb7 HB GE385 GE408 GE414 GE423 GE441 GE455 GE461) hb; (try clear hb); (try clear hb2); (try clear hk); (try clear hi)))
                       go_ret
                       exact ⟨by first | rfl | (simp [errW_none, errW_some] <;> rfl) | (simp [*, errW_none, errW_some] <;> rfl), hb7 HB GE385 GE408 GE414 GE423 GE441 GE455 GE461⟩
                      ·replace c177 := Bool.eq_false_iff.mpr c177; subst c177; rw [if_neg (show ¬ (false = true) by decide)] at H; obtain rfl := Option.some.inj H; have hnb214 := NB441_385.out; have hnc214 := NB385_441.out; have hnb215 := NB441_408.out; have hnc215 := NB408_441.out; have hnb216 := NB441_414.out; have hnc216 := NB414_441.out; have hnb217 := NB441_423.out; have hnc217 := NB423_441.out; have hcz218_0 : wr.cell? ⟨gb441, 0, none⟩ = some (.int .i64 t436) := bc BK441 0; have hcz218_1 : wr.cell? ⟨gb441, 1, none⟩ = some (.slice Ao96 t437.length co96) := bc BK441 1; have hfz218_0 := blk_frozen BK441.out 0; have hfz218_1 := blk_frozen BK441.out 1
                       go_wp2_with (first | ((with_reducible refine gate_callee (f := 12) rfl ?_); refine gl_ (some 170) Try.func12 #[.agg #[.int .i64 t436, .slice Ao96 t437.length co96], .slice Ao163 x17_4.length co163] ?_; (with_reducible refine (edit_Relabel.calls k4 t436 _ _ t437 _ _ x17_4 t450 t451 t454 _ ?side1 ?side2 ?side3 ?side4 A170.out).mono ?_); (case side1 => exact cr HO_442001); (case side2 => exact (Kd.R_reads' HO_442001.out).2.1); (case side3 => exact cr HO_17); (case side4 => exact (Kd.R_reads' HO_17.out).2.1); rintro e w219 ⟨v452, rfl, ho0, hb⟩; refine ⟨_, rfl, ?_⟩; replace HO_17 := ry HO_17 hb; have HO453 := Aside0.mk (Kd.R_lower (Kd.R_new' (Kd.R_new' (Kd.R_new' (Kd.R_new' ho0 (Kd.R_lt (rx HO_409001))) (Kd.R_lt (rx HO_415001))) (Kd.R_lt (rx HO_424001))) (Kd.R_lt (rx HO_442001))) (below_size (hb5 HB GE385 GE408 GE414 GE423 GE441))); replace HO_409001 := el (rx HO_409001) ho0 hb; replace HO_415001 := el (rx HO_415001) ho0 hb; replace HO_424001 := el (rx HO_424001) ho0 hb; replace HO_442001 := el (rx HO_442001) ho0 hb; replace BK385 := kx BK385 hb; replace BK408 := kx BK408 hb; replace BK414 := kx BK414 hb; replace BK423 := kx BK423 hb; replace BK441 := kx BK441 hb; replace HB := hs (hb5 HB GE385 GE408 GE414 GE423 GE441) hb; (try clear hb); (try clear hb2); (try clear hk); (try clear hi); (try clear ho0)) | ((with_reducible refine gate_dst (N := 22) rfl ?_); (try (refine gate_guard (by rfl) ?_; dsimp only)); refine box_event ?hg (N := 22) ?hd (cs := #[.int .i64 0, .slice none 0 0]) (t := 25) ?hr ?_; (case hd => rfl); (case hg => rfl); (case hr => first | (go_simp; done) | (go_simp; rfl)); intro gb455 hg w220 hbox hb; replace HO_17 := ry HO_17 hb; replace HO_409001 := ry HO_409001 hb; replace HO_415001 := ry HO_415001 hb; replace HO_424001 := ry HO_424001 hb; replace HO_442001 := ry HO_442001 hb; replace HO453 := ry HO453 hb; have BK455 := Aside0.mk (hbox); have GW455 := wq (hb5 HB GE385 GE408 GE414 GE423 GE441) hg; have GE455 := wq (hb5 HB GE385 GE408 GE414 GE423 GE441) hg; replace HB := hs (hb5 HB GE385 GE408 GE414 GE423 GE441) hb; have NB385_455 := lx BK385 hg; have NB455_385 := gx BK385 hg; replace BK385 := kx BK385 hb; have NB408_455 := lx BK408 hg; have NB455_408 := gx BK408 hg; replace BK408 := kx BK408 hb; have NB414_455 := lx BK414 hg; have NB455_414 := gx BK414 hg; replace BK414 := kx BK414 hb; have NB423_455 := lx BK423 hg; have NB455_423 := gx BK423 hg; replace BK423 := kx BK423 hb; have NB441_455 := lx BK441 hg; have NB455_441 := gx BK441 hg; replace BK441 := kx BK441 hb; clear hb hbox hg; have hnb221 := NB455_385.out; have hnc221 := NB385_455.out; have hnb222 := NB455_408.out; have hnc222 := NB408_455.out; have hnb223 := NB455_414.out; have hnc223 := NB414_455.out; have hnb224 := NB455_423.out; have hnc224 := NB423_455.out; have hnb225 := NB455_441.out; have hnc225 := NB441_455.out; have hcz226_0 : w220.cell? ⟨gb455, 0, none⟩ = some (.int .i64 0) := bc BK455 0; have hcz226_1 : w220.cell? ⟨gb455, 1, none⟩ = some (.slice none 0 0) := bc BK455 1; have hfz226_0 := blk_frozen BK455.out 0; have hfz226_1 := blk_frozen BK455.out 1; obtain ⟨Ao227, co227, eo227⟩ := Kd.R_slice HO453.out; subst eo227; have hnb228 := NB385_408.out; have hnc228 := NB408_385.out; have hnb229 := NB385_414.out; have hnc229 := NB414_385.out; have hnb230 := NB385_423.out; have hnc230 := NB423_385.out; have hcz231_0 : w220.cell? ⟨gb385, 0, none⟩ = some (.int .i64 a0_0) := bc BK385 0; have hcz231_1 : w220.cell? ⟨gb385, 1, none⟩ = some (.slice A0_1 l0_1.length c0_1) := bc BK385 1; have hfz231_0 := blk_frozen BK385.out 0; have hfz231_1 := blk_frozen BK385.out 1) | ((with_reducible refine gate_callee (f := 14) rfl ?_); refine gl_ (some 176) Try.func14 #[.agg #[.int .i64 a0_0, .slice A0_1 l0_1.length c0_1], .slice Ao163 x17_4.length co163] ?_; (with_reducible refine (edit_Induced.calls k4 a0_0 _ _ l0_1 _ _ x17_4 t456 t457 t460 _ ?side1 ?side2 ?side3 ?side4 A171.out).mono ?_); (case side1 => exact Kd.C_below HR0_1.out (hb6 HB GE385 GE408 GE414 GE423 GE441 GE455)); (case side2 => exact HC0_1.out); (case side3 => refine (Kd.R_reads' (e := 3) (base := w.heap.size) (ok := fun k_ => True) (n := x17_4.length) (c := co163) ?_).2.2; exact (rf HO_17 BK455)); (case side4 => exact (Kd.R_reads' HO_17.out).2.1); rintro e w232 ⟨v458, rfl, ho0, hb⟩; refine ⟨_, rfl, ?_⟩; replace HO_17 := Aside0.mk (Kd.R_below (rf HO_17 BK455) hb); have HO459 := Aside0.mk (Kd.R_lower (Kd.R_new' (Kd.R_new' (Kd.R_new' (Kd.R_new' (Kd.R_new' ho0 (Kd.R_lt (rf HO_409001 BK455))) (Kd.R_lt (rf HO_415001 BK455))) (Kd.R_lt (rf HO_424001 BK455))) (Kd.R_lt (rf HO_442001 BK455))) (Kd.R_lt (rf HO453 BK455))) (below_size (hb6 HB GE385 GE408 GE414 GE423 GE441 GE455))); replace HO_409001 := el (rf HO_409001 BK455) ho0 hb; replace HO_415001 := el (rf HO_415001 BK455) ho0 hb; replace HO_424001 := el (rf HO_424001 BK455) ho0 hb; replace HO_442001 := el (rf HO_442001 BK455) ho0 hb; replace HO453 := el (rf HO453 BK455) ho0 hb; replace BK385 := kb (bx1 BK385 NB385_455) hb; replace BK408 := kb (bx1 BK408 NB408_455) hb; replace BK414 := kb (bx1 BK414 NB414_455) hb; replace BK423 := kb (bx1 BK423 NB423_455) hb; replace BK441 := kb (bx1 BK441 NB441_455) hb; replace BK455 := Aside0.mk (blk_below (g := gb455) (o := .cells #[.int .i64 t450, .slice Ao227 t451.length co227] 25 (0, 0)) (by (with_reducible repeat (first | refine blk_drewN ?_ _ | refine blk_drew ?_ | refine blk_alloc ?_ _)); refine blk_put (cs := #[.int .i64 t450, .slice none 0 0]) ?_ 1 _ rfl; (with_reducible repeat (first | refine blk_drewN ?_ _ | refine blk_drew ?_ | refine blk_alloc ?_ _)); refine blk_put (cs := #[.int .i64 0, .slice none 0 0]) ?_ 0 _ rfl; (with_reducible repeat (first | refine blk_drewN ?_ _ | refine blk_drew ?_ | refine blk_alloc ?_ _)); exact BK455.out) hb); replace HB := hs (hb6 HB GE385 GE408 GE414 GE423 GE441 GE455) hb; (try clear hb); (try clear hb2); (try clear hk); (try clear hi); (try clear ho0)) | ((with_reducible refine gate_dst (N := 24) rfl ?_); (try (refine gate_guard (by rfl) ?_; dsimp only)); refine box_event ?hg (N := 24) ?hd (cs := #[.int .i64 0, .slice none 0 0]) (t := 25) ?hr ?_; (case hd => rfl); (case hg => rfl); (case hr => first | (go_simp; done) | (go_simp; rfl)); intro gb461 hg w233 hbox hb; replace HO_17 := ry HO_17 hb; replace HO_409001 := ry HO_409001 hb; replace HO_415001 := ry HO_415001 hb; replace HO_424001 := ry HO_424001 hb; replace HO_442001 := ry HO_442001 hb; replace HO453 := ry HO453 hb; replace HO459 := ry HO459 hb; have BK461 := Aside0.mk (hbox); have GW461 := wq (hb6 HB GE385 GE408 GE414 GE423 GE441 GE455) hg; have GE461 := wq (hb6 HB GE385 GE408 GE414 GE423 GE441 GE455) hg; replace HB := hs (hb6 HB GE385 GE408 GE414 GE423 GE441 GE455) hb; have NB385_461 := lx BK385 hg; have NB461_385 := gx BK385 hg; replace BK385 := kx BK385 hb; have NB408_461 := lx BK408 hg; have NB461_408 := gx BK408 hg; replace BK408 := kx BK408 hb; have NB414_461 := lx BK414 hg; have NB461_414 := gx BK414 hg; replace BK414 := kx BK414 hb; have NB423_461 := lx BK423 hg; have NB461_423 := gx BK423 hg; replace BK423 := kx BK423 hb; have NB441_461 := lx BK441 hg; have NB461_441 := gx BK441 hg; replace BK441 := kx BK441 hb; have NB455_461 := lx BK455 hg; have NB461_455 := gx BK455 hg; replace BK455 := kx BK455 hb; clear hb hbox hg; have hnb234 := NB461_385.out; have hnc234 := NB385_461.out; have hnb235 := NB461_408.out; have hnc235 := NB408_461.out; have hnb236 := NB461_414.out; have hnc236 := NB414_461.out; have hnb237 := NB461_423.out; have hnc237 := NB423_461.out; have hnb238 := NB461_441.out; have hnc238 := NB441_461.out; have hnb239 := NB461_455.out; have hnc239 := NB455_461.out; have hcz240_0 : w233.cell? ⟨gb461, 0, none⟩ = some (.int .i64 0) := bc BK461 0; have hcz240_1 : w233.cell? ⟨gb461, 1, none⟩ = some (.slice none 0 0) := bc BK461 1; have hfz240_0 := blk_frozen BK461.out 0; have hfz240_1 := blk_frozen BK461.out 1; obtain ⟨Ao241, co241, eo241⟩ := Kd.R_slice HO459.out; subst eo241; have hcz242_0 : w233.cell? ⟨gb441, 0, none⟩ = some (.int .i64 t436) := bc BK441 0; have hcz242_1 : w233.cell? ⟨gb441, 1, none⟩ = some (.slice Ao96 t437.length co96) := bc BK441 1; have hfz242_0 := blk_frozen BK441.out 0; have hfz242_1 := blk_frozen BK441.out 1; have hcz243_0 : w233.cell? ⟨gb385, 0, none⟩ = some (.int .i64 a0_0) := bc BK385 0; have hcz243_1 : w233.cell? ⟨gb385, 1, none⟩ = some (.slice A0_1 l0_1.length c0_1) := bc BK385 1; have hfz243_0 := blk_frozen BK385.out 0; have hfz243_1 := blk_frozen BK385.out 1; have hcz244_0 : w233.cell? ⟨gb455, 0, none⟩ = some (.int .i64 t450) := bc BK455 0; have hcz244_1 : w233.cell? ⟨gb455, 1, none⟩ = some (.slice Ao227 t451.length co227) := bc BK455 1; have hfz244_0 := blk_frozen BK455.out 0; have hfz244_1 := blk_frozen BK455.out 1) | (go_at_call 15; (with_reducible refine (tangramref14_Same.calls k4 t450 _ _ t451 a0_0 _ _ l0_1 false _ ?side1 ?side2 ?side3 ?side4 A176.out).mono ?_); (case side1 => refine (Kd.R_reads' (e := 46) (base := w.heap.size) (ok := fun k_ => (((((True ∧ some k_ ≠ (.slice Ao20 t401.length co20 : Value).ownBlock) ∧ some k_ ≠ (.slice Ao28 t410.length co28 : Value).ownBlock) ∧ some k_ ≠ (.slice Ao36 t416.length co36 : Value).ownBlock) ∧ some k_ ≠ (.slice Ao96 t437.length co96 : Value).ownBlock) ∧ some k_ ≠ (.slice Ao241 t457.length co241 : Value).ownBlock)) (n := t451.length) (c := co227) ?_).2.2; exact (rf HO453 BK461)); (case side2 => exact (Kd.R_reads' HO453.out).2.1); (case side3 => exact Kd.C_below HR0_1.out (hb7 HB GE385 GE408 GE414 GE423 GE441 GE455 GE461)); (case side4 => exact HC0_1.out); rintro e w245 ⟨rfl, hb⟩; replace HO_17 := Aside0.mk (Kd.R_below (rf HO_17 BK461) hb); replace HO_409001 := Aside0.mk (Kd.R_below (rf HO_409001 BK461) hb); replace HO_415001 := Aside0.mk (Kd.R_below (rf HO_415001 BK461) hb); replace HO_424001 := Aside0.mk (Kd.R_below (rf HO_424001 BK461) hb); replace HO_442001 := Aside0.mk (Kd.R_below (rf HO_442001 BK461) hb); replace HO453 := Aside0.mk (Kd.R_below (rf HO453 BK461) hb); replace HO459 := Aside0.mk (Kd.R_below (rf HO459 BK461) hb); replace BK385 := kb (bx1 BK385 NB385_461) hb; replace BK408 := kb (bx1 BK408 NB408_461) hb; replace BK414 := kb (bx1 BK414 NB414_461) hb; replace BK423 := kb (bx1 BK423 NB423_461) hb; replace BK441 := kb (bx1 BK441 NB441_461) hb; replace BK455 := kb (bx1 BK455 NB455_461) hb; replace BK461 := Aside0.mk (blk_below (g := gb461) (o := .cells #[.int .i64 t456, .slice Ao241 t457.length co241] 25 (0, 0)) (by (with_reducible repeat (first | refine blk_drewN ?_ _ | refine blk_drew ?_ | refine blk_alloc ?_ _)); refine blk_put (cs := #[.int .i64 t456, .slice none 0 0]) ?_ 1 _ rfl; (with_reducible repeat (first | refine blk_drewN ?_ _ | refine blk_drew ?_ | refine blk_alloc ?_ _)); refine blk_put (cs := #[.int .i64 0, .slice none 0 0]) ?_ 0 _ rfl; (with_reducible repeat (first | refine blk_drewN ?_ _ | refine blk_drew ?_ | refine blk_alloc ?_ _)); exact BK461.out) hb); replace HB := hs (hb7 HB GE385 GE408 GE414 GE423 GE441 GE455 GE461) hb; (try clear hb); (try clear hb2); (try clear hk); (try clear hi)))
                       go_ret
                       exact ⟨by first | rfl | (simp [errW_none, errW_some] <;> rfl) | (simp [*, errW_none, errW_some] <;> rfl), hb7 HB GE385 GE408 GE414 GE423 GE441 GE455 GE461⟩
                     ·rw [if_neg c175] at H; have c175b0 : ((t437.length : Int) == (l0_1.length : Int)) = false := beq_eq_false_iff_ne.mpr c175; have c175b1 : ((t437.length : Int) != (l0_1.length : Int)) = true := bne_iff_ne.mpr c175; have c175b2 : (t437.length == l0_1.length) = false := by first | simpa using c175 | (simp at c175 ⊢; omega)
                      obtain rfl := Option.some.inj H; have hnb246 := NB441_385.out; have hnc246 := NB385_441.out; have hnb247 := NB441_408.out; have hnc247 := NB408_441.out; have hnb248 := NB441_414.out; have hnc248 := NB414_441.out; have hnb249 := NB441_423.out; have hnc249 := NB423_441.out; have hcz250_0 : wr.cell? ⟨gb441, 0, none⟩ = some (.int .i64 t436) := bc BK441 0; have hcz250_1 : wr.cell? ⟨gb441, 1, none⟩ = some (.slice Ao96 t437.length co96) := bc BK441 1; have hfz250_0 := blk_frozen BK441.out 0; have hfz250_1 := blk_frozen BK441.out 1
                      go_wp2_with (first | ((with_reducible refine gate_callee (f := 12) rfl ?_); refine gl_ (some 170) Try.func12 #[.agg #[.int .i64 t436, .slice Ao96 t437.length co96], .slice Ao163 x17_4.length co163] ?_; (with_reducible refine (edit_Relabel.calls k4 t436 _ _ t437 _ _ x17_4 t450 t451 t454 _ ?side1 ?side2 ?side3 ?side4 A170.out).mono ?_); (case side1 => exact cr HO_442001); (case side2 => exact (Kd.R_reads' HO_442001.out).2.1); (case side3 => exact cr HO_17); (case side4 => exact (Kd.R_reads' HO_17.out).2.1); rintro e w251 ⟨v452, rfl, ho0, hb⟩; refine ⟨_, rfl, ?_⟩; replace HO_17 := ry HO_17 hb; have HO453 := Aside0.mk (Kd.R_lower (Kd.R_new' (Kd.R_new' (Kd.R_new' (Kd.R_new' ho0 (Kd.R_lt (rx HO_409001))) (Kd.R_lt (rx HO_415001))) (Kd.R_lt (rx HO_424001))) (Kd.R_lt (rx HO_442001))) (below_size (hb5 HB GE385 GE408 GE414 GE423 GE441))); replace HO_409001 := el (rx HO_409001) ho0 hb; replace HO_415001 := el (rx HO_415001) ho0 hb; replace HO_424001 := el (rx HO_424001) ho0 hb; replace HO_442001 := el (rx HO_442001) ho0 hb; replace BK385 := kx BK385 hb; replace BK408 := kx BK408 hb; replace BK414 := kx BK414 hb; replace BK423 := kx BK423 hb; replace BK441 := kx BK441 hb; replace HB := hs (hb5 HB GE385 GE408 GE414 GE423 GE441) hb; (try clear hb); (try clear hb2); (try clear hk); (try clear hi); (try clear ho0)) | ((with_reducible refine gate_dst (N := 22) rfl ?_); (try (refine gate_guard (by rfl) ?_; dsimp only)); refine box_event ?hg (N := 22) ?hd (cs := #[.int .i64 0, .slice none 0 0]) (t := 25) ?hr ?_; (case hd => rfl); (case hg => rfl); (case hr => first | (go_simp; done) | (go_simp; rfl)); intro gb455 hg w252 hbox hb; replace HO_17 := ry HO_17 hb; replace HO_409001 := ry HO_409001 hb; replace HO_415001 := ry HO_415001 hb; replace HO_424001 := ry HO_424001 hb; replace HO_442001 := ry HO_442001 hb; replace HO453 := ry HO453 hb; have BK455 := Aside0.mk (hbox); have GW455 := wq (hb5 HB GE385 GE408 GE414 GE423 GE441) hg; have GE455 := wq (hb5 HB GE385 GE408 GE414 GE423 GE441) hg; replace HB := hs (hb5 HB GE385 GE408 GE414 GE423 GE441) hb; have NB385_455 := lx BK385 hg; have NB455_385 := gx BK385 hg; replace BK385 := kx BK385 hb; have NB408_455 := lx BK408 hg; have NB455_408 := gx BK408 hg; replace BK408 := kx BK408 hb; have NB414_455 := lx BK414 hg; have NB455_414 := gx BK414 hg; replace BK414 := kx BK414 hb; have NB423_455 := lx BK423 hg; have NB455_423 := gx BK423 hg; replace BK423 := kx BK423 hb; have NB441_455 := lx BK441 hg; have NB455_441 := gx BK441 hg; replace BK441 := kx BK441 hb; clear hb hbox hg; have hnb253 := NB455_385.out; have hnc253 := NB385_455.out; have hnb254 := NB455_408.out; have hnc254 := NB408_455.out; have hnb255 := NB455_414.out; have hnc255 := NB414_455.out; have hnb256 := NB455_423.out; have hnc256 := NB423_455.out; have hnb257 := NB455_441.out; have hnc257 := NB441_455.out; have hcz258_0 : w252.cell? ⟨gb455, 0, none⟩ = some (.int .i64 0) := bc BK455 0; have hcz258_1 : w252.cell? ⟨gb455, 1, none⟩ = some (.slice none 0 0) := bc BK455 1; have hfz258_0 := blk_frozen BK455.out 0; have hfz258_1 := blk_frozen BK455.out 1; obtain ⟨Ao259, co259, eo259⟩ := Kd.R_slice HO453.out; subst eo259; have hnb260 := NB385_408.out; have hnc260 := NB408_385.out; have hnb261 := NB385_414.out; have hnc261 := NB414_385.out; have hnb262 := NB385_423.out; have hnc262 := NB423_385.out; have hcz263_0 : w252.cell? ⟨gb385, 0, none⟩ = some (.int .i64 a0_0) := bc BK385 0; have hcz263_1 : w252.cell? ⟨gb385, 1, none⟩ = some (.slice A0_1 l0_1.length c0_1) := bc BK385 1; have hfz263_0 := blk_frozen BK385.out 0; have hfz263_1 := blk_frozen BK385.out 1) | ((with_reducible refine gate_callee (f := 14) rfl ?_); refine gl_ (some 176) Try.func14 #[.agg #[.int .i64 a0_0, .slice A0_1 l0_1.length c0_1], .slice Ao163 x17_4.length co163] ?_; (with_reducible refine (edit_Induced.calls k4 a0_0 _ _ l0_1 _ _ x17_4 t456 t457 t460 _ ?side1 ?side2 ?side3 ?side4 A171.out).mono ?_); (case side1 => exact Kd.C_below HR0_1.out (hb6 HB GE385 GE408 GE414 GE423 GE441 GE455)); (case side2 => exact HC0_1.out); (case side3 => refine (Kd.R_reads' (e := 3) (base := w.heap.size) (ok := fun k_ => True) (n := x17_4.length) (c := co163) ?_).2.2; exact (rf HO_17 BK455)); (case side4 => exact (Kd.R_reads' HO_17.out).2.1); rintro e w264 ⟨v458, rfl, ho0, hb⟩; refine ⟨_, rfl, ?_⟩; replace HO_17 := Aside0.mk (Kd.R_below (rf HO_17 BK455) hb); have HO459 := Aside0.mk (Kd.R_lower (Kd.R_new' (Kd.R_new' (Kd.R_new' (Kd.R_new' (Kd.R_new' ho0 (Kd.R_lt (rf HO_409001 BK455))) (Kd.R_lt (rf HO_415001 BK455))) (Kd.R_lt (rf HO_424001 BK455))) (Kd.R_lt (rf HO_442001 BK455))) (Kd.R_lt (rf HO453 BK455))) (below_size (hb6 HB GE385 GE408 GE414 GE423 GE441 GE455))); replace HO_409001 := el (rf HO_409001 BK455) ho0 hb; replace HO_415001 := el (rf HO_415001 BK455) ho0 hb; replace HO_424001 := el (rf HO_424001 BK455) ho0 hb; replace HO_442001 := el (rf HO_442001 BK455) ho0 hb; replace HO453 := el (rf HO453 BK455) ho0 hb; replace BK385 := kb (bx1 BK385 NB385_455) hb; replace BK408 := kb (bx1 BK408 NB408_455) hb; replace BK414 := kb (bx1 BK414 NB414_455) hb; replace BK423 := kb (bx1 BK423 NB423_455) hb; replace BK441 := kb (bx1 BK441 NB441_455) hb; replace BK455 := Aside0.mk (blk_below (g := gb455) (o := .cells #[.int .i64 t450, .slice Ao259 t451.length co259] 25 (0, 0)) (by (with_reducible repeat (first | refine blk_drewN ?_ _ | refine blk_drew ?_ | refine blk_alloc ?_ _)); refine blk_put (cs := #[.int .i64 t450, .slice none 0 0]) ?_ 1 _ rfl; (with_reducible repeat (first | refine blk_drewN ?_ _ | refine blk_drew ?_ | refine blk_alloc ?_ _)); refine blk_put (cs := #[.int .i64 0, .slice none 0 0]) ?_ 0 _ rfl; (with_reducible repeat (first | refine blk_drewN ?_ _ | refine blk_drew ?_ | refine blk_alloc ?_ _)); exact BK455.out) hb); replace HB := hs (hb6 HB GE385 GE408 GE414 GE423 GE441 GE455) hb; (try clear hb); (try clear hb2); (try clear hk); (try clear hi); (try clear ho0)) | ((with_reducible refine gate_dst (N := 24) rfl ?_); (try (refine gate_guard (by rfl) ?_; dsimp only)); refine box_event ?hg (N := 24) ?hd (cs := #[.int .i64 0, .slice none 0 0]) (t := 25) ?hr ?_; (case hd => rfl); (case hg => rfl); (case hr => first | (go_simp; done) | (go_simp; rfl)); intro gb461 hg w265 hbox hb; replace HO_17 := ry HO_17 hb; replace HO_409001 := ry HO_409001 hb; replace HO_415001 := ry HO_415001 hb; replace HO_424001 := ry HO_424001 hb; replace HO_442001 := ry HO_442001 hb; replace HO453 := ry HO453 hb; replace HO459 := ry HO459 hb; have BK461 := Aside0.mk (hbox); have GW461 := wq (hb6 HB GE385 GE408 GE414 GE423 GE441 GE455) hg; have GE461 := wq (hb6 HB GE385 GE408 GE414 GE423 GE441 GE455) hg; replace HB := hs (hb6 HB GE385 GE408 GE414 GE423 GE441 GE455) hb; have NB385_461 := lx BK385 hg; have NB461_385 := gx BK385 hg; replace BK385 := kx BK385 hb; have NB408_461 := lx BK408 hg; have NB461_408 := gx BK408 hg; replace BK408 := kx BK408 hb; have NB414_461 := lx BK414 hg; have NB461_414 := gx BK414 hg; replace BK414 := kx BK414 hb; have NB423_461 := lx BK423 hg; have NB461_423 := gx BK423 hg; replace BK423 := kx BK423 hb; have NB441_461 := lx BK441 hg; have NB461_441 := gx BK441 hg; replace BK441 := kx BK441 hb; have NB455_461 := lx BK455 hg; have NB461_455 := gx BK455 hg; replace BK455 := kx BK455 hb; clear hb hbox hg; have hnb266 := NB461_385.out; have hnc266 := NB385_461.out; have hnb267 := NB461_408.out; have hnc267 := NB408_461.out; have hnb268 := NB461_414.out; have hnc268 := NB414_461.out; have hnb269 := NB461_423.out; have hnc269 := NB423_461.out; have hnb270 := NB461_441.out; have hnc270 := NB441_461.out; have hnb271 := NB461_455.out; have hnc271 := NB455_461.out; have hcz272_0 : w265.cell? ⟨gb461, 0, none⟩ = some (.int .i64 0) := bc BK461 0; have hcz272_1 : w265.cell? ⟨gb461, 1, none⟩ = some (.slice none 0 0) := bc BK461 1; have hfz272_0 := blk_frozen BK461.out 0; have hfz272_1 := blk_frozen BK461.out 1; obtain ⟨Ao273, co273, eo273⟩ := Kd.R_slice HO459.out; subst eo273; have hcz274_0 : w265.cell? ⟨gb441, 0, none⟩ = some (.int .i64 t436) := bc BK441 0; have hcz274_1 : w265.cell? ⟨gb441, 1, none⟩ = some (.slice Ao96 t437.length co96) := bc BK441 1; have hfz274_0 := blk_frozen BK441.out 0; have hfz274_1 := blk_frozen BK441.out 1; have hcz275_0 : w265.cell? ⟨gb385, 0, none⟩ = some (.int .i64 a0_0) := bc BK385 0; have hcz275_1 : w265.cell? ⟨gb385, 1, none⟩ = some (.slice A0_1 l0_1.length c0_1) := bc BK385 1; have hfz275_0 := blk_frozen BK385.out 0; have hfz275_1 := blk_frozen BK385.out 1))
                      go_ret
                      exact ⟨by first | rfl | (simp [errW_none, errW_some] <;> rfl) | (simp [*, errW_none, errW_some] <;> rfl), hb7 HB GE385 GE408 GE414 GE423 GE441 GE455 GE461⟩
                    ·rw [if_neg c174] at H; have c174b0 : (t460 == 0) = false := beq_eq_false_iff_ne.mpr c174; have c174b1 : (t460 != 0) = true := bne_iff_ne.mpr c174; obtain rfl := Option.some.inj H; have hnb276 := NB441_385.out; have hnc276 := NB385_441.out; have hnb277 := NB441_408.out; have hnc277 := NB408_441.out; have hnb278 := NB441_414.out; have hnc278 := NB414_441.out; have hnb279 := NB441_423.out; have hnc279 := NB423_441.out; have hcz280_0 : wr.cell? ⟨gb441, 0, none⟩ = some (.int .i64 t436) := bc BK441 0; have hcz280_1 : wr.cell? ⟨gb441, 1, none⟩ = some (.slice Ao96 t437.length co96) := bc BK441 1; have hfz280_0 := blk_frozen BK441.out 0; have hfz280_1 := blk_frozen BK441.out 1
                     go_wp2_with (first | ((with_reducible refine gate_callee (f := 12) rfl ?_); refine gl_ (some 170) Try.func12 #[.agg #[.int .i64 t436, .slice Ao96 t437.length co96], .slice Ao163 x17_4.length co163] ?_; (with_reducible refine (edit_Relabel.calls k4 t436 _ _ t437 _ _ x17_4 t450 t451 t454 _ ?side1 ?side2 ?side3 ?side4 A170.out).mono ?_); (case side1 => exact cr HO_442001); (case side2 => exact (Kd.R_reads' HO_442001.out).2.1); (case side3 => exact cr HO_17); (case side4 => exact (Kd.R_reads' HO_17.out).2.1); rintro e w281 ⟨v452, rfl, ho0, hb⟩; refine ⟨_, rfl, ?_⟩; replace HO_17 := ry HO_17 hb; have HO453 := Aside0.mk (Kd.R_lower (Kd.R_new' (Kd.R_new' (Kd.R_new' (Kd.R_new' ho0 (Kd.R_lt (rx HO_409001))) (Kd.R_lt (rx HO_415001))) (Kd.R_lt (rx HO_424001))) (Kd.R_lt (rx HO_442001))) (below_size (hb5 HB GE385 GE408 GE414 GE423 GE441))); replace HO_409001 := el (rx HO_409001) ho0 hb; replace HO_415001 := el (rx HO_415001) ho0 hb; replace HO_424001 := el (rx HO_424001) ho0 hb; replace HO_442001 := el (rx HO_442001) ho0 hb; replace BK385 := kx BK385 hb; replace BK408 := kx BK408 hb; replace BK414 := kx BK414 hb; replace BK423 := kx BK423 hb; replace BK441 := kx BK441 hb; replace HB := hs (hb5 HB GE385 GE408 GE414 GE423 GE441) hb; (try clear hb); (try clear hb2); (try clear hk); (try clear hi); (try clear ho0)) | ((with_reducible refine gate_dst (N := 22) rfl ?_); (try (refine gate_guard (by rfl) ?_; dsimp only)); refine box_event ?hg (N := 22) ?hd (cs := #[.int .i64 0, .slice none 0 0]) (t := 25) ?hr ?_; (case hd => rfl); (case hg => rfl); (case hr => first | (go_simp; done) | (go_simp; rfl)); intro gb455 hg w282 hbox hb; replace HO_17 := ry HO_17 hb; replace HO_409001 := ry HO_409001 hb; replace HO_415001 := ry HO_415001 hb; replace HO_424001 := ry HO_424001 hb; replace HO_442001 := ry HO_442001 hb; replace HO453 := ry HO453 hb; have BK455 := Aside0.mk (hbox); have GW455 := wq (hb5 HB GE385 GE408 GE414 GE423 GE441) hg; have GE455 := wq (hb5 HB GE385 GE408 GE414 GE423 GE441) hg; replace HB := hs (hb5 HB GE385 GE408 GE414 GE423 GE441) hb; have NB385_455 := lx BK385 hg; have NB455_385 := gx BK385 hg; replace BK385 := kx BK385 hb; have NB408_455 := lx BK408 hg; have NB455_408 := gx BK408 hg; replace BK408 := kx BK408 hb; have NB414_455 := lx BK414 hg; have NB455_414 := gx BK414 hg; replace BK414 := kx BK414 hb; have NB423_455 := lx BK423 hg; have NB455_423 := gx BK423 hg; replace BK423 := kx BK423 hb; have NB441_455 := lx BK441 hg; have NB455_441 := gx BK441 hg; replace BK441 := kx BK441 hb; clear hb hbox hg; have hnb283 := NB455_385.out; have hnc283 := NB385_455.out; have hnb284 := NB455_408.out; have hnc284 := NB408_455.out; have hnb285 := NB455_414.out; have hnc285 := NB414_455.out; have hnb286 := NB455_423.out; have hnc286 := NB423_455.out; have hnb287 := NB455_441.out; have hnc287 := NB441_455.out; have hcz288_0 : w282.cell? ⟨gb455, 0, none⟩ = some (.int .i64 0) := bc BK455 0; have hcz288_1 : w282.cell? ⟨gb455, 1, none⟩ = some (.slice none 0 0) := bc BK455 1; have hfz288_0 := blk_frozen BK455.out 0; have hfz288_1 := blk_frozen BK455.out 1; obtain ⟨Ao289, co289, eo289⟩ := Kd.R_slice HO453.out; subst eo289; have hnb290 := NB385_408.out; have hnc290 := NB408_385.out; have hnb291 := NB385_414.out; have hnc291 := NB414_385.out; have hnb292 := NB385_423.out; have hnc292 := NB423_385.out; have hcz293_0 : w282.cell? ⟨gb385, 0, none⟩ = some (.int .i64 a0_0) := bc BK385 0; have hcz293_1 : w282.cell? ⟨gb385, 1, none⟩ = some (.slice A0_1 l0_1.length c0_1) := bc BK385 1; have hfz293_0 := blk_frozen BK385.out 0; have hfz293_1 := blk_frozen BK385.out 1) | ((with_reducible refine gate_callee (f := 14) rfl ?_); refine gl_ (some 176) Try.func14 #[.agg #[.int .i64 a0_0, .slice A0_1 l0_1.length c0_1], .slice Ao163 x17_4.length co163] ?_; (with_reducible refine (edit_Induced.calls k4 a0_0 _ _ l0_1 _ _ x17_4 t456 t457 t460 _ ?side1 ?side2 ?side3 ?side4 A171.out).mono ?_); (case side1 => exact Kd.C_below HR0_1.out (hb6 HB GE385 GE408 GE414 GE423 GE441 GE455)); (case side2 => exact HC0_1.out); (case side3 => refine (Kd.R_reads' (e := 3) (base := w.heap.size) (ok := fun k_ => True) (n := x17_4.length) (c := co163) ?_).2.2; exact (rf HO_17 BK455)); (case side4 => exact (Kd.R_reads' HO_17.out).2.1); rintro e w294 ⟨v458, rfl, ho0, hb⟩; refine ⟨_, rfl, ?_⟩; replace HO_17 := Aside0.mk (Kd.R_below (rf HO_17 BK455) hb); have HO459 := Aside0.mk (Kd.R_lower (Kd.R_new' (Kd.R_new' (Kd.R_new' (Kd.R_new' (Kd.R_new' ho0 (Kd.R_lt (rf HO_409001 BK455))) (Kd.R_lt (rf HO_415001 BK455))) (Kd.R_lt (rf HO_424001 BK455))) (Kd.R_lt (rf HO_442001 BK455))) (Kd.R_lt (rf HO453 BK455))) (below_size (hb6 HB GE385 GE408 GE414 GE423 GE441 GE455))); replace HO_409001 := el (rf HO_409001 BK455) ho0 hb; replace HO_415001 := el (rf HO_415001 BK455) ho0 hb; replace HO_424001 := el (rf HO_424001 BK455) ho0 hb; replace HO_442001 := el (rf HO_442001 BK455) ho0 hb; replace HO453 := el (rf HO453 BK455) ho0 hb; replace BK385 := kb (bx1 BK385 NB385_455) hb; replace BK408 := kb (bx1 BK408 NB408_455) hb; replace BK414 := kb (bx1 BK414 NB414_455) hb; replace BK423 := kb (bx1 BK423 NB423_455) hb; replace BK441 := kb (bx1 BK441 NB441_455) hb; replace BK455 := Aside0.mk (blk_below (g := gb455) (o := .cells #[.int .i64 t450, .slice Ao289 t451.length co289] 25 (0, 0)) (by (with_reducible repeat (first | refine blk_drewN ?_ _ | refine blk_drew ?_ | refine blk_alloc ?_ _)); refine blk_put (cs := #[.int .i64 t450, .slice none 0 0]) ?_ 1 _ rfl; (with_reducible repeat (first | refine blk_drewN ?_ _ | refine blk_drew ?_ | refine blk_alloc ?_ _)); refine blk_put (cs := #[.int .i64 0, .slice none 0 0]) ?_ 0 _ rfl; (with_reducible repeat (first | refine blk_drewN ?_ _ | refine blk_drew ?_ | refine blk_alloc ?_ _)); exact BK455.out) hb); replace HB := hs (hb6 HB GE385 GE408 GE414 GE423 GE441 GE455) hb; (try clear hb); (try clear hb2); (try clear hk); (try clear hi); (try clear ho0)) | ((with_reducible refine gate_dst (N := 24) rfl ?_); (try (refine gate_guard (by rfl) ?_; dsimp only)); refine box_event ?hg (N := 24) ?hd (cs := #[.int .i64 0, .slice none 0 0]) (t := 25) ?hr ?_; (case hd => rfl); (case hg => rfl); (case hr => first | (go_simp; done) | (go_simp; rfl)); intro gb461 hg w295 hbox hb; replace HO_17 := ry HO_17 hb; replace HO_409001 := ry HO_409001 hb; replace HO_415001 := ry HO_415001 hb; replace HO_424001 := ry HO_424001 hb; replace HO_442001 := ry HO_442001 hb; replace HO453 := ry HO453 hb; replace HO459 := ry HO459 hb; have BK461 := Aside0.mk (hbox); have GW461 := wq (hb6 HB GE385 GE408 GE414 GE423 GE441 GE455) hg; have GE461 := wq (hb6 HB GE385 GE408 GE414 GE423 GE441 GE455) hg; replace HB := hs (hb6 HB GE385 GE408 GE414 GE423 GE441 GE455) hb; have NB385_461 := lx BK385 hg; have NB461_385 := gx BK385 hg; replace BK385 := kx BK385 hb; have NB408_461 := lx BK408 hg; have NB461_408 := gx BK408 hg; replace BK408 := kx BK408 hb; have NB414_461 := lx BK414 hg; have NB461_414 := gx BK414 hg; replace BK414 := kx BK414 hb; have NB423_461 := lx BK423 hg; have NB461_423 := gx BK423 hg; replace BK423 := kx BK423 hb; have NB441_461 := lx BK441 hg; have NB461_441 := gx BK441 hg; replace BK441 := kx BK441 hb; have NB455_461 := lx BK455 hg; have NB461_455 := gx BK455 hg; replace BK455 := kx BK455 hb; clear hb hbox hg; have hnb296 := NB461_385.out; have hnc296 := NB385_461.out; have hnb297 := NB461_408.out; have hnc297 := NB408_461.out; have hnb298 := NB461_414.out; have hnc298 := NB414_461.out; have hnb299 := NB461_423.out; have hnc299 := NB423_461.out; have hnb300 := NB461_441.out; have hnc300 := NB441_461.out; have hnb301 := NB461_455.out; have hnc301 := NB455_461.out; have hcz302_0 : w295.cell? ⟨gb461, 0, none⟩ = some (.int .i64 0) := bc BK461 0; have hcz302_1 : w295.cell? ⟨gb461, 1, none⟩ = some (.slice none 0 0) := bc BK461 1; have hfz302_0 := blk_frozen BK461.out 0; have hfz302_1 := blk_frozen BK461.out 1; obtain ⟨Ao303, co303, eo303⟩ := Kd.R_slice HO459.out; subst eo303))
                     go_ret
                     exact ⟨by first | rfl | (simp [errW_none, errW_some] <;> rfl) | (simp [*, errW_none, errW_some] <;> rfl), hb7 HB GE385 GE408 GE414 GE423 GE441 GE455 GE461⟩
                   ·rw [if_neg c173] at H; have c173b0 : (t454 == 0) = false := beq_eq_false_iff_ne.mpr c173; have c173b1 : (t454 != 0) = true := bne_iff_ne.mpr c173; obtain rfl := Option.some.inj H; have hnb304 := NB441_385.out; have hnc304 := NB385_441.out; have hnb305 := NB441_408.out; have hnc305 := NB408_441.out; have hnb306 := NB441_414.out; have hnc306 := NB414_441.out; have hnb307 := NB441_423.out; have hnc307 := NB423_441.out; have hcz308_0 : wr.cell? ⟨gb441, 0, none⟩ = some (.int .i64 t436) := bc BK441 0; have hcz308_1 : wr.cell? ⟨gb441, 1, none⟩ = some (.slice Ao96 t437.length co96) := bc BK441 1; have hfz308_0 := blk_frozen BK441.out 0; have hfz308_1 := blk_frozen BK441.out 1
                    go_wp2_with (first | ((with_reducible refine gate_callee (f := 12) rfl ?_); refine gl_ (some 170) Try.func12 #[.agg #[.int .i64 t436, .slice Ao96 t437.length co96], .slice Ao163 x17_4.length co163] ?_; (with_reducible refine (edit_Relabel.calls k4 t436 _ _ t437 _ _ x17_4 t450 t451 t454 _ ?side1 ?side2 ?side3 ?side4 A170.out).mono ?_); (case side1 => exact cr HO_442001); (case side2 => exact (Kd.R_reads' HO_442001.out).2.1); (case side3 => exact cr HO_17); (case side4 => exact (Kd.R_reads' HO_17.out).2.1); rintro e w309 ⟨v452, rfl, ho0, hb⟩; refine ⟨_, rfl, ?_⟩; replace HO_17 := ry HO_17 hb; have HO453 := Aside0.mk (Kd.R_lower (Kd.R_new' (Kd.R_new' (Kd.R_new' (Kd.R_new' ho0 (Kd.R_lt (rx HO_409001))) (Kd.R_lt (rx HO_415001))) (Kd.R_lt (rx HO_424001))) (Kd.R_lt (rx HO_442001))) (below_size (hb5 HB GE385 GE408 GE414 GE423 GE441))); replace HO_409001 := el (rx HO_409001) ho0 hb; replace HO_415001 := el (rx HO_415001) ho0 hb; replace HO_424001 := el (rx HO_424001) ho0 hb; replace HO_442001 := el (rx HO_442001) ho0 hb; replace BK385 := kx BK385 hb; replace BK408 := kx BK408 hb; replace BK414 := kx BK414 hb; replace BK423 := kx BK423 hb; replace BK441 := kx BK441 hb; replace HB := hs (hb5 HB GE385 GE408 GE414 GE423 GE441) hb; (try clear hb); (try clear hb2); (try clear hk); (try clear hi); (try clear ho0)) | ((with_reducible refine gate_dst (N := 22) rfl ?_); (try (refine gate_guard (by rfl) ?_; dsimp only)); refine box_event ?hg (N := 22) ?hd (cs := #[.int .i64 0, .slice none 0 0]) (t := 25) ?hr ?_; (case hd => rfl); (case hg => rfl); (case hr => first | (go_simp; done) | (go_simp; rfl)); intro gb455 hg w310 hbox hb; replace HO_17 := ry HO_17 hb; replace HO_409001 := ry HO_409001 hb; replace HO_415001 := ry HO_415001 hb; replace HO_424001 := ry HO_424001 hb; replace HO_442001 := ry HO_442001 hb; replace HO453 := ry HO453 hb; have BK455 := Aside0.mk (hbox); have GW455 := wq (hb5 HB GE385 GE408 GE414 GE423 GE441) hg; have GE455 := wq (hb5 HB GE385 GE408 GE414 GE423 GE441) hg; replace HB := hs (hb5 HB GE385 GE408 GE414 GE423 GE441) hb; have NB385_455 := lx BK385 hg; have NB455_385 := gx BK385 hg; replace BK385 := kx BK385 hb; have NB408_455 := lx BK408 hg; have NB455_408 := gx BK408 hg; replace BK408 := kx BK408 hb; have NB414_455 := lx BK414 hg; have NB455_414 := gx BK414 hg; replace BK414 := kx BK414 hb; have NB423_455 := lx BK423 hg; have NB455_423 := gx BK423 hg; replace BK423 := kx BK423 hb; have NB441_455 := lx BK441 hg; have NB455_441 := gx BK441 hg; replace BK441 := kx BK441 hb; clear hb hbox hg; have hnb311 := NB455_385.out; have hnc311 := NB385_455.out; have hnb312 := NB455_408.out; have hnc312 := NB408_455.out; have hnb313 := NB455_414.out; have hnc313 := NB414_455.out; have hnb314 := NB455_423.out; have hnc314 := NB423_455.out; have hnb315 := NB455_441.out; have hnc315 := NB441_455.out; have hcz316_0 : w310.cell? ⟨gb455, 0, none⟩ = some (.int .i64 0) := bc BK455 0; have hcz316_1 : w310.cell? ⟨gb455, 1, none⟩ = some (.slice none 0 0) := bc BK455 1; have hfz316_0 := blk_frozen BK455.out 0; have hfz316_1 := blk_frozen BK455.out 1; obtain ⟨Ao317, co317, eo317⟩ := Kd.R_slice HO453.out; subst eo317; have hnb318 := NB385_408.out; have hnc318 := NB408_385.out; have hnb319 := NB385_414.out; have hnc319 := NB414_385.out; have hnb320 := NB385_423.out; have hnc320 := NB423_385.out; have hcz321_0 : w310.cell? ⟨gb385, 0, none⟩ = some (.int .i64 a0_0) := bc BK385 0; have hcz321_1 : w310.cell? ⟨gb385, 1, none⟩ = some (.slice A0_1 l0_1.length c0_1) := bc BK385 1; have hfz321_0 := blk_frozen BK385.out 0; have hfz321_1 := blk_frozen BK385.out 1) | ((with_reducible refine gate_callee (f := 14) rfl ?_); refine gl_ (some 176) Try.func14 #[.agg #[.int .i64 a0_0, .slice A0_1 l0_1.length c0_1], .slice Ao163 x17_4.length co163] ?_; (with_reducible refine (edit_Induced.calls k4 a0_0 _ _ l0_1 _ _ x17_4 t456 t457 t460 _ ?side1 ?side2 ?side3 ?side4 A171.out).mono ?_); (case side1 => exact Kd.C_below HR0_1.out (hb6 HB GE385 GE408 GE414 GE423 GE441 GE455)); (case side2 => exact HC0_1.out); (case side3 => refine (Kd.R_reads' (e := 3) (base := w.heap.size) (ok := fun k_ => True) (n := x17_4.length) (c := co163) ?_).2.2; exact (rf HO_17 BK455)); (case side4 => exact (Kd.R_reads' HO_17.out).2.1); rintro e w322 ⟨v458, rfl, ho0, hb⟩; refine ⟨_, rfl, ?_⟩; replace HO_17 := Aside0.mk (Kd.R_below (rf HO_17 BK455) hb); have HO459 := Aside0.mk (Kd.R_lower (Kd.R_new' (Kd.R_new' (Kd.R_new' (Kd.R_new' (Kd.R_new' ho0 (Kd.R_lt (rf HO_409001 BK455))) (Kd.R_lt (rf HO_415001 BK455))) (Kd.R_lt (rf HO_424001 BK455))) (Kd.R_lt (rf HO_442001 BK455))) (Kd.R_lt (rf HO453 BK455))) (below_size (hb6 HB GE385 GE408 GE414 GE423 GE441 GE455))); replace HO_409001 := el (rf HO_409001 BK455) ho0 hb; replace HO_415001 := el (rf HO_415001 BK455) ho0 hb; replace HO_424001 := el (rf HO_424001 BK455) ho0 hb; replace HO_442001 := el (rf HO_442001 BK455) ho0 hb; replace HO453 := el (rf HO453 BK455) ho0 hb; replace BK385 := kb (bx1 BK385 NB385_455) hb; replace BK408 := kb (bx1 BK408 NB408_455) hb; replace BK414 := kb (bx1 BK414 NB414_455) hb; replace BK423 := kb (bx1 BK423 NB423_455) hb; replace BK441 := kb (bx1 BK441 NB441_455) hb; replace BK455 := Aside0.mk (blk_below (g := gb455) (o := .cells #[.int .i64 t450, .slice Ao317 t451.length co317] 25 (0, 0)) (by (with_reducible repeat (first | refine blk_drewN ?_ _ | refine blk_drew ?_ | refine blk_alloc ?_ _)); refine blk_put (cs := #[.int .i64 t450, .slice none 0 0]) ?_ 1 _ rfl; (with_reducible repeat (first | refine blk_drewN ?_ _ | refine blk_drew ?_ | refine blk_alloc ?_ _)); refine blk_put (cs := #[.int .i64 0, .slice none 0 0]) ?_ 0 _ rfl; (with_reducible repeat (first | refine blk_drewN ?_ _ | refine blk_drew ?_ | refine blk_alloc ?_ _)); exact BK455.out) hb); replace HB := hs (hb6 HB GE385 GE408 GE414 GE423 GE441 GE455) hb; (try clear hb); (try clear hb2); (try clear hk); (try clear hi); (try clear ho0)) | ((with_reducible refine gate_dst (N := 24) rfl ?_); (try (refine gate_guard (by rfl) ?_; dsimp only)); refine box_event ?hg (N := 24) ?hd (cs := #[.int .i64 0, .slice none 0 0]) (t := 25) ?hr ?_; (case hd => rfl); (case hg => rfl); (case hr => first | (go_simp; done) | (go_simp; rfl)); intro gb461 hg w323 hbox hb; replace HO_17 := ry HO_17 hb; replace HO_409001 := ry HO_409001 hb; replace HO_415001 := ry HO_415001 hb; replace HO_424001 := ry HO_424001 hb; replace HO_442001 := ry HO_442001 hb; replace HO453 := ry HO453 hb; replace HO459 := ry HO459 hb; have BK461 := Aside0.mk (hbox); have GW461 := wq (hb6 HB GE385 GE408 GE414 GE423 GE441 GE455) hg; have GE461 := wq (hb6 HB GE385 GE408 GE414 GE423 GE441 GE455) hg; replace HB := hs (hb6 HB GE385 GE408 GE414 GE423 GE441 GE455) hb; have NB385_461 := lx BK385 hg; have NB461_385 := gx BK385 hg; replace BK385 := kx BK385 hb; have NB408_461 := lx BK408 hg; have NB461_408 := gx BK408 hg; replace BK408 := kx BK408 hb; have NB414_461 := lx BK414 hg; have NB461_414 := gx BK414 hg; replace BK414 := kx BK414 hb; have NB423_461 := lx BK423 hg; have NB461_423 := gx BK423 hg; replace BK423 := kx BK423 hb; have NB441_461 := lx BK441 hg; have NB461_441 := gx BK441 hg; replace BK441 := kx BK441 hb; have NB455_461 := lx BK455 hg; have NB461_455 := gx BK455 hg; replace BK455 := kx BK455 hb; clear hb hbox hg; have hnb324 := NB461_385.out; have hnc324 := NB385_461.out; have hnb325 := NB461_408.out; have hnc325 := NB408_461.out; have hnb326 := NB461_414.out; have hnc326 := NB414_461.out; have hnb327 := NB461_423.out; have hnc327 := NB423_461.out; have hnb328 := NB461_441.out; have hnc328 := NB441_461.out; have hnb329 := NB461_455.out; have hnc329 := NB455_461.out; have hcz330_0 : w323.cell? ⟨gb461, 0, none⟩ = some (.int .i64 0) := bc BK461 0; have hcz330_1 : w323.cell? ⟨gb461, 1, none⟩ = some (.slice none 0 0) := bc BK461 1; have hfz330_0 := blk_frozen BK461.out 0; have hfz330_1 := blk_frozen BK461.out 1; obtain ⟨Ao331, co331, eo331⟩ := Kd.R_slice HO459.out; subst eo331))
                    go_ret
                    exact ⟨by first | rfl | (simp [errW_none, errW_some] <;> rfl) | (simp [*, errW_none, errW_some] <;> rfl), hb7 HB GE385 GE408 GE414 GE423 GE441 GE455 GE461⟩
                  ·rw [if_neg c172] at H; have c172b0 : (t440 == 0) = false := beq_eq_false_iff_ne.mpr c172; have c172b1 : (t440 != 0) = true := bne_iff_ne.mpr c172; obtain rfl := Option.some.inj H; have hnb332 := NB441_385.out; have hnc332 := NB385_441.out; have hnb333 := NB441_408.out; have hnc333 := NB408_441.out; have hnb334 := NB441_414.out; have hnc334 := NB414_441.out; have hnb335 := NB441_423.out; have hnc335 := NB423_441.out; have hcz336_0 : wr.cell? ⟨gb441, 0, none⟩ = some (.int .i64 t436) := bc BK441 0; have hcz336_1 : wr.cell? ⟨gb441, 1, none⟩ = some (.slice Ao96 t437.length co96) := bc BK441 1; have hfz336_0 := blk_frozen BK441.out 0; have hfz336_1 := blk_frozen BK441.out 1
                   go_wp2_with (first | ((with_reducible refine gate_callee (f := 12) rfl ?_); refine gl_ (some 170) Try.func12 #[.agg #[.int .i64 t436, .slice Ao96 t437.length co96], .slice Ao163 x17_4.length co163] ?_; (with_reducible refine (edit_Relabel.calls k4 t436 _ _ t437 _ _ x17_4 t450 t451 t454 _ ?side1 ?side2 ?side3 ?side4 A170.out).mono ?_); (case side1 => exact cr HO_442001); (case side2 => exact (Kd.R_reads' HO_442001.out).2.1); (case side3 => exact cr HO_17); (case side4 => exact (Kd.R_reads' HO_17.out).2.1); rintro e w337 ⟨v452, rfl, ho0, hb⟩; refine ⟨_, rfl, ?_⟩; replace HO_17 := ry HO_17 hb; have HO453 := Aside0.mk (Kd.R_lower (Kd.R_new' (Kd.R_new' (Kd.R_new' (Kd.R_new' ho0 (Kd.R_lt (rx HO_409001))) (Kd.R_lt (rx HO_415001))) (Kd.R_lt (rx HO_424001))) (Kd.R_lt (rx HO_442001))) (below_size (hb5 HB GE385 GE408 GE414 GE423 GE441))); replace HO_409001 := el (rx HO_409001) ho0 hb; replace HO_415001 := el (rx HO_415001) ho0 hb; replace HO_424001 := el (rx HO_424001) ho0 hb; replace HO_442001 := el (rx HO_442001) ho0 hb; replace BK385 := kx BK385 hb; replace BK408 := kx BK408 hb; replace BK414 := kx BK414 hb; replace BK423 := kx BK423 hb; replace BK441 := kx BK441 hb; replace HB := hs (hb5 HB GE385 GE408 GE414 GE423 GE441) hb; (try clear hb); (try clear hb2); (try clear hk); (try clear hi); (try clear ho0)) | ((with_reducible refine gate_dst (N := 22) rfl ?_); (try (refine gate_guard (by rfl) ?_; dsimp only)); refine box_event ?hg (N := 22) ?hd (cs := #[.int .i64 0, .slice none 0 0]) (t := 25) ?hr ?_; (case hd => rfl); (case hg => rfl); (case hr => first | (go_simp; done) | (go_simp; rfl)); intro gb455 hg w338 hbox hb; replace HO_17 := ry HO_17 hb; replace HO_409001 := ry HO_409001 hb; replace HO_415001 := ry HO_415001 hb; replace HO_424001 := ry HO_424001 hb; replace HO_442001 := ry HO_442001 hb; replace HO453 := ry HO453 hb; have BK455 := Aside0.mk (hbox); have GW455 := wq (hb5 HB GE385 GE408 GE414 GE423 GE441) hg; have GE455 := wq (hb5 HB GE385 GE408 GE414 GE423 GE441) hg; replace HB := hs (hb5 HB GE385 GE408 GE414 GE423 GE441) hb; have NB385_455 := lx BK385 hg; have NB455_385 := gx BK385 hg; replace BK385 := kx BK385 hb; have NB408_455 := lx BK408 hg; have NB455_408 := gx BK408 hg; replace BK408 := kx BK408 hb; have NB414_455 := lx BK414 hg; have NB455_414 := gx BK414 hg; replace BK414 := kx BK414 hb; have NB423_455 := lx BK423 hg; have NB455_423 := gx BK423 hg; replace BK423 := kx BK423 hb; have NB441_455 := lx BK441 hg; have NB455_441 := gx BK441 hg; replace BK441 := kx BK441 hb; clear hb hbox hg; have hnb339 := NB455_385.out; have hnc339 := NB385_455.out; have hnb340 := NB455_408.out; have hnc340 := NB408_455.out; have hnb341 := NB455_414.out; have hnc341 := NB414_455.out; have hnb342 := NB455_423.out; have hnc342 := NB423_455.out; have hnb343 := NB455_441.out; have hnc343 := NB441_455.out; have hcz344_0 : w338.cell? ⟨gb455, 0, none⟩ = some (.int .i64 0) := bc BK455 0; have hcz344_1 : w338.cell? ⟨gb455, 1, none⟩ = some (.slice none 0 0) := bc BK455 1; have hfz344_0 := blk_frozen BK455.out 0; have hfz344_1 := blk_frozen BK455.out 1; obtain ⟨Ao345, co345, eo345⟩ := Kd.R_slice HO453.out; subst eo345; have hnb346 := NB385_408.out; have hnc346 := NB408_385.out; have hnb347 := NB385_414.out; have hnc347 := NB414_385.out; have hnb348 := NB385_423.out; have hnc348 := NB423_385.out; have hcz349_0 : w338.cell? ⟨gb385, 0, none⟩ = some (.int .i64 a0_0) := bc BK385 0; have hcz349_1 : w338.cell? ⟨gb385, 1, none⟩ = some (.slice A0_1 l0_1.length c0_1) := bc BK385 1; have hfz349_0 := blk_frozen BK385.out 0; have hfz349_1 := blk_frozen BK385.out 1) | ((with_reducible refine gate_callee (f := 14) rfl ?_); refine gl_ (some 176) Try.func14 #[.agg #[.int .i64 a0_0, .slice A0_1 l0_1.length c0_1], .slice Ao163 x17_4.length co163] ?_; (with_reducible refine (edit_Induced.calls k4 a0_0 _ _ l0_1 _ _ x17_4 t456 t457 t460 _ ?side1 ?side2 ?side3 ?side4 A171.out).mono ?_); (case side1 => exact Kd.C_below HR0_1.out (hb6 HB GE385 GE408 GE414 GE423 GE441 GE455)); (case side2 => exact HC0_1.out); (case side3 => refine (Kd.R_reads' (e := 3) (base := w.heap.size) (ok := fun k_ => True) (n := x17_4.length) (c := co163) ?_).2.2; exact (rf HO_17 BK455)); (case side4 => exact (Kd.R_reads' HO_17.out).2.1); rintro e w350 ⟨v458, rfl, ho0, hb⟩; refine ⟨_, rfl, ?_⟩; replace HO_17 := Aside0.mk (Kd.R_below (rf HO_17 BK455) hb); have HO459 := Aside0.mk (Kd.R_lower (Kd.R_new' (Kd.R_new' (Kd.R_new' (Kd.R_new' (Kd.R_new' ho0 (Kd.R_lt (rf HO_409001 BK455))) (Kd.R_lt (rf HO_415001 BK455))) (Kd.R_lt (rf HO_424001 BK455))) (Kd.R_lt (rf HO_442001 BK455))) (Kd.R_lt (rf HO453 BK455))) (below_size (hb6 HB GE385 GE408 GE414 GE423 GE441 GE455))); replace HO_409001 := el (rf HO_409001 BK455) ho0 hb; replace HO_415001 := el (rf HO_415001 BK455) ho0 hb; replace HO_424001 := el (rf HO_424001 BK455) ho0 hb; replace HO_442001 := el (rf HO_442001 BK455) ho0 hb; replace HO453 := el (rf HO453 BK455) ho0 hb; replace BK385 := kb (bx1 BK385 NB385_455) hb; replace BK408 := kb (bx1 BK408 NB408_455) hb; replace BK414 := kb (bx1 BK414 NB414_455) hb; replace BK423 := kb (bx1 BK423 NB423_455) hb; replace BK441 := kb (bx1 BK441 NB441_455) hb; replace BK455 := Aside0.mk (blk_below (g := gb455) (o := .cells #[.int .i64 t450, .slice Ao345 t451.length co345] 25 (0, 0)) (by (with_reducible repeat (first | refine blk_drewN ?_ _ | refine blk_drew ?_ | refine blk_alloc ?_ _)); refine blk_put (cs := #[.int .i64 t450, .slice none 0 0]) ?_ 1 _ rfl; (with_reducible repeat (first | refine blk_drewN ?_ _ | refine blk_drew ?_ | refine blk_alloc ?_ _)); refine blk_put (cs := #[.int .i64 0, .slice none 0 0]) ?_ 0 _ rfl; (with_reducible repeat (first | refine blk_drewN ?_ _ | refine blk_drew ?_ | refine blk_alloc ?_ _)); exact BK455.out) hb); replace HB := hs (hb6 HB GE385 GE408 GE414 GE423 GE441 GE455) hb; (try clear hb); (try clear hb2); (try clear hk); (try clear hi); (try clear ho0)) | ((with_reducible refine gate_dst (N := 24) rfl ?_); (try (refine gate_guard (by rfl) ?_; dsimp only)); refine box_event ?hg (N := 24) ?hd (cs := #[.int .i64 0, .slice none 0 0]) (t := 25) ?hr ?_; (case hd => rfl); (case hg => rfl); (case hr => first | (go_simp; done) | (go_simp; rfl)); intro gb461 hg w351 hbox hb; replace HO_17 := ry HO_17 hb; replace HO_409001 := ry HO_409001 hb; replace HO_415001 := ry HO_415001 hb; replace HO_424001 := ry HO_424001 hb; replace HO_442001 := ry HO_442001 hb; replace HO453 := ry HO453 hb; replace HO459 := ry HO459 hb; have BK461 := Aside0.mk (hbox); have GW461 := wq (hb6 HB GE385 GE408 GE414 GE423 GE441 GE455) hg; have GE461 := wq (hb6 HB GE385 GE408 GE414 GE423 GE441 GE455) hg; replace HB := hs (hb6 HB GE385 GE408 GE414 GE423 GE441 GE455) hb; have NB385_461 := lx BK385 hg; have NB461_385 := gx BK385 hg; replace BK385 := kx BK385 hb; have NB408_461 := lx BK408 hg; have NB461_408 := gx BK408 hg; replace BK408 := kx BK408 hb; have NB414_461 := lx BK414 hg; have NB461_414 := gx BK414 hg; replace BK414 := kx BK414 hb; have NB423_461 := lx BK423 hg; have NB461_423 := gx BK423 hg; replace BK423 := kx BK423 hb; have NB441_461 := lx BK441 hg; have NB461_441 := gx BK441 hg; replace BK441 := kx BK441 hb; have NB455_461 := lx BK455 hg; have NB461_455 := gx BK455 hg; replace BK455 := kx BK455 hb; clear hb hbox hg; have hnb352 := NB461_385.out; have hnc352 := NB385_461.out; have hnb353 := NB461_408.out; have hnc353 := NB408_461.out; have hnb354 := NB461_414.out; have hnc354 := NB414_461.out; have hnb355 := NB461_423.out; have hnc355 := NB423_461.out; have hnb356 := NB461_441.out; have hnc356 := NB441_461.out; have hnb357 := NB461_455.out; have hnc357 := NB455_461.out; have hcz358_0 : w351.cell? ⟨gb461, 0, none⟩ = some (.int .i64 0) := bc BK461 0; have hcz358_1 : w351.cell? ⟨gb461, 1, none⟩ = some (.slice none 0 0) := bc BK461 1; have hfz358_0 := blk_frozen BK461.out 0; have hfz358_1 := blk_frozen BK461.out 1; obtain ⟨Ao359, co359, eo359⟩ := Kd.R_slice HO459.out; subst eo359))
                   go_ret
                   exact ⟨by first | rfl | (simp [errW_none, errW_some] <;> rfl) | (simp [*, errW_none, errW_some] <;> rfl), hb7 HB GE385 GE408 GE414 GE423 GE441 GE455 GE461⟩
        ·rw [if_neg c86] at H; exact absurd H (by simp)
       ·rw [if_neg c85] at H; exact absurd H (by simp)
      ·rw [if_neg c83] at H; exact absurd H (by simp)
  ·replace c6 := Bool.eq_false_iff.mpr c6; subst c6; rw [if_neg (show ¬ (false = true) by decide)] at H; obtain ⟨y388, hy388⟩ : ∃ y_ : List Int, y_ = (([] : List Int)) := ⟨_, rfl⟩; replace H : (if y388.length + l1.length < 17592186044416 then ((edit_Relabel.f k a0_0 l0_1 (y388 ++ l1)).bind fun bt394 => (some (bt394.2.2 == 1))) else (none)) = some r := by first | (rw [hy388]; with_reducible exact H) | (have H2_ := (Option.bind_some _ _).symm.trans H; rw [hy388]; with_reducible exact H2_) | (have H2_ := (Option.bind_some _ _).symm.trans H; with_reducible exact H2_) | with_reducible exact H | (rw [hy388]; exact H) | exact H
   have Ny388 := Aside0.mk hy388; clear hy388
   by_cases c360 : y388.length + l1.length < 17592186044416
   ·rw [if_pos c360] at H; have LMc360 := Aside0.mk c360; clear c360; obtain ⟨y391, hy391⟩ : ∃ y_ : List Int, y_ = (y388 ++ l1) := ⟨_, rfl⟩; replace H : ((edit_Relabel.f k a0_0 l0_1 y391).bind fun bt394 => (some (bt394.2.2 == 1))) = some r := by first | (rw [hy391]; with_reducible exact H) | (have H2_ := (Option.bind_some _ _).symm.trans H; rw [hy391]; with_reducible exact H2_) | (have H2_ := (Option.bind_some _ _).symm.trans H; with_reducible exact H2_) | with_reducible exact H | (rw [hy391]; exact H) | exact H
    have Ny391 := Aside0.mk hy391; clear hy391; replace H := Option.bind_eq_some_iff.mp H; obtain ⟨⟨t394, t395, t398⟩, A3610, H⟩ := H; (try dsimp only at H); have A361 := Aside0.mk A3610; clear A3610; obtain rfl := Option.some.inj H
    go_enter Try.func4, Try.ntmps4
    try go_wp2_with (first | ((with_reducible refine gate_dst (N := 2) rfl ?_); (try (refine gate_guard (by rfl) ?_; dsimp only)); refine box_event ?hg (N := 2) ?hd (cs := #[.int .i64 a0_0, .slice A0_1 l0_1.length c0_1]) (t := 25) ?hr ?_; (case hd => rfl); (case hg => rfl); (case hr => first | (go_simp; done) | (go_simp; rfl)); intro gb385 hg w362 hbox hb; have BK385 := Aside0.mk (hbox); have GW385 := wq (hb0 HB) hg; have GE385 := wq (hb0 HB) hg; replace HB := hs (hb0 HB) hb; clear hb hbox hg) | ((with_reducible refine gate_callee (f := 10) rfl ?_); refine gl_ (some 26) Try.func10 #[] ?_; (with_reducible refine (tangramlaw14_fixed.calls k  true _ A3.out).mono ?_); rintro e w363 ⟨rfl, hb⟩; refine ⟨_, rfl, ?_⟩; replace BK385 := kx BK385 hb; replace HB := hs (hb1 HB GE385) hb; (try clear hb); (try clear hb2); (try clear hk); (try clear hi); have hcz364_0 : w363.cell? ⟨gb385, 0, none⟩ = some (.int .i64 a0_0) := bc BK385 0; have hcz364_1 : w363.cell? ⟨gb385, 1, none⟩ = some (.slice A0_1 l0_1.length c0_1) := bc BK385 1; have hfz364_0 := blk_frozen BK385.out 0; have hfz364_1 := blk_frozen BK385.out 1) | ((with_reducible refine gate_callee (f := 11) rfl ?_); refine gl_ (some 29) Try.func11 #[.agg #[.int .i64 a0_0, .slice A0_1 l0_1.length c0_1]] ?_; (with_reducible refine (tangramref03_Valid.calls k a0_0 _ _ l0_1 false _ ?side1 ?side2 A5.out).mono ?_); (case side1 => repeat (first | exact (Kd.C_below HR0_1.out HB.out) | (with_reducible refine Kd.C_alloc ?_ _) | (with_reducible refine Kd.C_drewN ?_ _) | (with_reducible refine Kd.C_drew ?_))); (case side2 => exact HC0_1.out); rintro e w365 ⟨rfl, hb⟩; refine ⟨_, rfl, ?_⟩; replace BK385 := kx BK385 hb; replace HB := hs (hb1 HB GE385) hb; (try clear hb); (try clear hb2); (try clear hk); (try clear hi)))
    replace BK385 := bd BK385; replace HB := Aside0.mk (below_drew1 HB.out); refine start_ (n := 11) (S := fun w' => w'.cell? ⟨gb385, 0, none⟩ = some (.int .i64 a0_0) ∧ w'.cell? ⟨gb385, 1, none⟩ = some (.slice A0_1 l0_1.length c0_1)) (ds := []) #[F_,F_,F_,F_,F_,F_,F_,F_,F_,F_,F_] (by kernel_rfl) rfl rfl ⟨bc BK385 0, bc BK385 1⟩ (fun hHeld => ?_); refine with_tabW tangramlaw14_EditNamed.tab4 tangramlaw14_EditNamed.bits4 (fun HT_ HW_ => ?_); generalize w365.drew = w366 at BK385 HB hHeld ⊢; refine pu_ 2 (some 34) #[F_,F_,T_,F_,F_,F_,F_,F_,F_,F_,F_] HT_ ?_; refine tk2_ 0 (some 32) #[T_,F_,T_,F_,F_,F_,F_,F_,F_,F_,F_] HT_ HW_ hHeld ?_; refine join_ (σ := Value × Value × Value × Nat) 2 #[T_,T_,T_,T_,T_,T_,T_,T_,T_,F_,F_] (fun s_ => [(33, s_.1), (35, s_.2.1), (36, .tuple #[.agg #[.int .i64 t394, s_.2.2.1], .int .i64 t398]), (5, .pointer (some ⟨s_.2.2.2, 0, none⟩)), (31, .tuple #[.agg #[.int .i64 t394, s_.2.2.1], .int .i64 t398]), (37, .agg #[.int .i64 t394, s_.2.2.1]), (38, .int .i64 t398)]) (fun s_ w' => (w'.cell? ⟨gb385, 0, none⟩ = some (.int .i64 a0_0) ∧ w'.cell? ⟨gb385, 1, none⟩ = some (.slice A0_1 l0_1.length c0_1)) ∧ (Kd.R (Kd.int .i64) 3 w' w.heap.size (fun _ => True) s_.2.1 y391) ∧ (Kd.R k46 46 w' w.heap.size (fun _ => True) s_.2.2.1 t395) ∧ (w'.heap[gb385]? = some (.cells #[.int .i64 a0_0, .slice A0_1 l0_1.length c0_1] 25 (0, 0))) ∧ (w'.heap[s_.2.2.2]? = some (.cells #[.int .i64 0, .slice none 0 0] 25 (0, 0))) ∧ (w.heap.size ≤ s_.2.2.2) ∧ (w.heap.size ≤ s_.2.2.2) ∧ (gb385 ≠ s_.2.2.2) ∧ (s_.2.2.2 ≠ gb385) ∧ (Below w.heap.size w w')) ?_ ?_
    rotate_left
    ·intro hCont; refine two_ (i := 1) (j := 8) (Ni := some 33) (Nj := some 5) #[T_,T_,T_,F_,F_,F_,F_,F_,F_,F_,F_] #[T_,F_,T_,F_,F_,F_,F_,F_,T_,F_,F_] rfl rfl rfl rfl (two_of HT_.out (by kernel_rfl)) (by decide) (by decide) (fun K hK => ?_) (fun K hK => ?_)
     ·skip
      refine Kd.R_lit_step (Kd.int .i64) _ 3 ?hg (N := 33) ?hd (xs := ([] : List Int)) (inner := []) (ok := fun _ => True) (okp := fun _ => True) ?hr ?hp (fun _ hk => hk) trivial (Below.refl _ _) (Nat.le_refl _) (by simp) ?_; (case hd => rfl); (case hg => rfl); (case hr => first | (go_simp; done) | (go_simp; rfl)); (case hp => exact (Reps.none _ _)); intro v389 w367 ho368 hb hg_ hnew_; clear hg_ hnew_
      (first | rw [← Ny388.out] at ho368 | (simp only [Int.reduceToNat] at ho368; rw [← Ny388.out] at ho368))
      have HO390 := Aside0.mk (Kd.R_lower ho368 (below_size (hb1 HB GE385))); replace BK385 := kx BK385 hb; replace HB := hs (hb1 HB GE385) hb; clear hb ho368; refine hK.out _ _ ⟨bc BK385 0, bc BK385 1⟩ (fun hHeld => ?_); clear hK K; refine nm_ (some 33) ?_; refine two_ (i := 3) (j := 8) (Ni := some 35) (Nj := some 5) #[T_,T_,T_,T_,F_,F_,F_,F_,F_,F_,F_] #[T_,T_,T_,F_,F_,F_,F_,F_,T_,F_,F_] rfl rfl rfl rfl (two_of HT_.out (by kernel_rfl)) (by decide) (by decide) (fun K hK => ?_) (fun K hK => ?_)
      ·skip
       refine Kd.R_append_rows_step (Kd.int .i64) (w0 := w) w.heap.size (by rfl) (.tmp 33) (.tmp 34) 26 3 (.int .i64 0) 8 rfl Try.underlying26 info3 rfl (by decide) (by omega) v389 y388 l1 _ _ _ (fun _ => True) (fun _ => False) rfl rfl ?aO ?aR (fun _ _ h => h) (fun _ h => h.elim) ?aF ?aB ?aS ?aL ?_
       (case aR => repeat (first | exact (Kd.C_below HR1.out HB.out) | (with_reducible refine Kd.C_alloc ?_ _) | (with_reducible refine Kd.C_drewN ?_ _) | (with_reducible refine Kd.C_drew ?_)))
       (case aB => exact (hb1 HB GE385))
       (case aF => exact (fun _ _ => trivial))
       (case aO => exact (rx HO390))
       (case aS => exact (below_size (hb1 HB GE385)))
       (case aL => have := LMc360.out; omega)
       intro v392 w369 ho hb hg hat; rw [← Ny391.out] at ho; have n0_ := Aside0.mk (blk_grown (bx BK385) hg (Kd.R_ne HO390.out BK385.out (by decide))); have n1_ := Aside0.mk (hb); have n2_ := Aside0.mk (ho); clear BK385 HB HO390; have BK385 := n0_; have HB := n1_; have HO393 := n2_; clear n0_ n1_ n2_ ho hb hg hat; obtain ⟨Ao370, co370, eo370⟩ := Kd.R_slice HO393.out
       (first | subst eo370 | obtain ⟨rfl, rfl⟩ := sx eo370)
       refine hK.out _ _ ⟨bc BK385 0, bc BK385 1⟩ (fun hHeld => ?_); clear hK K; refine nm_ (some 35) ?_; refine two_ (i := 4) (j := 8) (Ni := some 36) (Nj := some 5) #[T_,T_,T_,T_,T_,F_,F_,F_,F_,F_,F_] #[T_,T_,T_,T_,F_,F_,F_,F_,T_,F_,F_] rfl rfl rfl rfl (two_of HT_.out (by kernel_rfl)) (by decide) (by decide) (fun K hK => ?_) (fun K hK => ?_)
       ·skip
        refine gs_ Try.func12 #[.agg #[.int .i64 a0_0, .slice A0_1 l0_1.length c0_1], .slice Ao370 y391.length co370] ?_
        with_reducible refine (edit_Relabel.calls k a0_0 _ _ l0_1 _ _ y391 t394 t395 t398 _ ?side1 ?side2 ?side3 ?side4 A361.out).mono ?_
        (case side1 => repeat (first | exact (Kd.C_below HR0_1.out HB.out) | (with_reducible refine Kd.C_alloc ?_ _) | (with_reducible refine Kd.C_drewN ?_ _) | (with_reducible refine Kd.C_drew ?_)))
        (case side2 => exact HC0_1.out)
        (case side3 => exact cr HO393)
        (case side4 => exact (Kd.R_reads' HO393.out).2.1)
        rintro e w371 ⟨v396, rfl, ho0, hb⟩; refine ⟨_, rfl, ?_⟩; replace HO393 := ry HO393 hb; have HO397 := Aside0.mk (Kd.R_lower ho0 (below_size (hb1 HB GE385))); replace BK385 := kx BK385 hb; replace HB := hs (hb1 HB GE385) hb
        (try clear hb)
        (try clear hb2)
        (try clear hk)
        (try clear hi)
        (try clear ho0)
        refine hK.out _ _ ⟨bc BK385 0, bc BK385 1⟩ (fun hHeld => ?_); clear hK K; refine nm_ (some 36) ?_; refine pu_ 5 (some 31) #[T_,T_,T_,T_,T_,T_,F_,F_,F_,F_,F_] HT_ ?_; refine pu_ 6 (some 37) #[T_,T_,T_,T_,T_,T_,T_,F_,F_,F_,F_] HT_ ?_; refine pu_ 7 (some 38) #[T_,T_,T_,T_,T_,T_,T_,T_,F_,F_,F_] HT_ ?_; refine on_ 8 (some 5) #[T_,T_,T_,T_,T_,T_,T_,T_,T_,F_,F_] HT_ (fun K hK => ?_); refine bs_ 5 #[.int .i64 0, .slice none 0 0] 25 ?_; intro gb399 hg w372 hbox hb; replace HO393 := ry HO393 hb; replace HO397 := ry HO397 hb; have BK399 := Aside0.mk (hbox); have GW399 := wq (hb1 HB GE385) hg; have GE399 := wq (hb1 HB GE385) hg; replace HB := hs (hb1 HB GE385) hb; have NB385_399 := lx BK385 hg; have NB399_385 := gx BK385 hg; replace BK385 := kx BK385 hb; clear hb hbox hg; refine hK.out _ _ ⟨bc BK385 0, bc BK385 1⟩ (fun hHeld => ?_); clear hK K; refine nm_ (some 5) ?_; exact norm_ (by simp only [putAll, Act.put, List.setIfInBounds_toArray, List.set_cons_zero, List.set_cons_succ]) (hCont (v389, .slice Ao370 y391.length co370, v396, gb399) _ ⟨hHeld, (rx HO393), (rx HO397), (bx BK385), (bx BK399), GW399.out, GE399.out, NB385_399.out, NB399_385.out, (hb2 HB GE385 GE399)⟩)
       ·skip
        refine bs_ 5 #[.int .i64 0, .slice none 0 0] 25 ?_; intro gb399 hg w370 hbox hb; replace HO393 := ry HO393 hb; have BK399 := Aside0.mk (hbox); have GW399 := wq (hb1 HB GE385) hg; have GE399 := wq (hb1 HB GE385) hg; replace HB := hs (hb1 HB GE385) hb; have NB385_399 := lx BK385 hg; have NB399_385 := gx BK385 hg; replace BK385 := kx BK385 hb; clear hb hbox hg; obtain ⟨Ao371, co371, eo371⟩ := Kd.R_slice HO393.out
        (first | subst eo371 | obtain ⟨rfl, rfl⟩ := sx eo371)
        refine hK.out _ _ ⟨bc BK385 0, bc BK385 1⟩ (fun hHeld => ?_); clear hK K; refine nm_ (some 5) ?_; refine on_ 4 (some 36) #[T_,T_,T_,T_,T_,F_,F_,F_,T_,F_,F_] HT_ (fun K hK => ?_); refine gs_ Try.func12 #[.agg #[.int .i64 a0_0, .slice A0_1 l0_1.length c0_1], .slice Ao371 y391.length co371] ?_
        with_reducible refine (edit_Relabel.calls k a0_0 _ _ l0_1 _ _ y391 t394 t395 t398 _ ?side1 ?side2 ?side3 ?side4 A361.out).mono ?_
        (case side1 => repeat (first | exact (Kd.C_below HR0_1.out HB.out) | (with_reducible refine Kd.C_alloc ?_ _) | (with_reducible refine Kd.C_drewN ?_ _) | (with_reducible refine Kd.C_drew ?_)))
        (case side2 => exact HC0_1.out)
        (case side3 => exact cr HO393)
        (case side4 => exact (Kd.R_reads' HO393.out).2.1)
        rintro e w372 ⟨v396, rfl, ho0, hb⟩; refine ⟨_, rfl, ?_⟩; replace HO393 := ry HO393 hb; have HO397 := Aside0.mk (Kd.R_lower ho0 (below_size (hb2 HB GE385 GE399))); replace BK385 := kx BK385 hb; replace BK399 := kx BK399 hb; replace HB := hs (hb2 HB GE385 GE399) hb
        (try clear hb)
        (try clear hb2)
        (try clear hk)
        (try clear hi)
        (try clear ho0)
        refine hK.out _ _ ⟨bc BK385 0, bc BK385 1⟩ (fun hHeld => ?_); clear hK K; refine nm_ (some 36) ?_; refine pu_ 5 (some 31) #[T_,T_,T_,T_,T_,T_,F_,F_,T_,F_,F_] HT_ ?_; refine pu_ 6 (some 37) #[T_,T_,T_,T_,T_,T_,T_,F_,T_,F_,F_] HT_ ?_; refine pu_ 7 (some 38) #[T_,T_,T_,T_,T_,T_,T_,T_,T_,F_,F_] HT_ ?_; exact norm_ (by simp only [putAll, Act.put, List.setIfInBounds_toArray, List.set_cons_zero, List.set_cons_succ]) (hCont (v389, .slice Ao371 y391.length co371, v396, gb399) _ ⟨hHeld, (rx HO393), (rx HO397), (bx BK385), (bx BK399), GW399.out, GE399.out, NB385_399.out, NB399_385.out, (hb2 HB GE385 GE399)⟩)
      ·skip
       refine bs_ 5 #[.int .i64 0, .slice none 0 0] 25 ?_; intro gb399 hg w369 hbox hb; replace HO390 := ry HO390 hb; have BK399 := Aside0.mk (hbox); have GW399 := wq (hb1 HB GE385) hg; have GE399 := wq (hb1 HB GE385) hg; replace HB := hs (hb1 HB GE385) hb; have NB385_399 := lx BK385 hg; have NB399_385 := gx BK385 hg; replace BK385 := kx BK385 hb; clear hb hbox hg; refine hK.out _ _ ⟨bc BK385 0, bc BK385 1⟩ (fun hHeld => ?_); clear hK K; refine nm_ (some 5) ?_; refine on_ 3 (some 35) #[T_,T_,T_,T_,F_,F_,F_,F_,T_,F_,F_] HT_ (fun K hK => ?_); refine Kd.R_append_rows_step (Kd.int .i64) (w0 := w) w.heap.size (by rfl) (.tmp 33) (.tmp 34) 26 3 (.int .i64 0) 8 rfl Try.underlying26 info3 rfl (by decide) (by omega) v389 y388 l1 _ _ _ (fun _ => True) (fun _ => False) rfl rfl ?aO ?aR (fun _ _ h => h) (fun _ h => h.elim) ?aF ?aB ?aS ?aL ?_
       (case aR => repeat (first | exact (Kd.C_below HR1.out HB.out) | (with_reducible refine Kd.C_alloc ?_ _) | (with_reducible refine Kd.C_drewN ?_ _) | (with_reducible refine Kd.C_drew ?_)))
       (case aB => exact (hb2 HB GE385 GE399))
       (case aF => exact (fun _ _ => trivial))
       (case aO => exact (rx HO390))
       (case aS => exact (below_size (hb2 HB GE385 GE399)))
       (case aL => have := LMc360.out; omega)
       intro v392 w370 ho hb hg hat; rw [← Ny391.out] at ho; have n0_ := Aside0.mk (blk_grown (bx BK385) hg (Kd.R_ne HO390.out BK385.out (by decide))); have n1_ := Aside0.mk (blk_grown (bx BK399) hg (Kd.R_ne HO390.out BK399.out (by decide))); have n2_ := Aside0.mk (hb); have n3_ := Aside0.mk (ho); clear BK385 BK399 HB HO390; have BK385 := n0_; have BK399 := n1_; have HB := n2_; have HO393 := n3_; clear n0_ n1_ n2_ n3_ ho hb hg hat; obtain ⟨Ao371, co371, eo371⟩ := Kd.R_slice HO393.out
       (first | subst eo371 | obtain ⟨rfl, rfl⟩ := sx eo371)
       refine hK.out _ _ ⟨bc BK385 0, bc BK385 1⟩ (fun hHeld => ?_); clear hK K; refine nm_ (some 35) ?_; refine on_ 4 (some 36) #[T_,T_,T_,T_,T_,F_,F_,F_,T_,F_,F_] HT_ (fun K hK => ?_); refine gs_ Try.func12 #[.agg #[.int .i64 a0_0, .slice A0_1 l0_1.length c0_1], .slice Ao371 y391.length co371] ?_
       with_reducible refine (edit_Relabel.calls k a0_0 _ _ l0_1 _ _ y391 t394 t395 t398 _ ?side1 ?side2 ?side3 ?side4 A361.out).mono ?_
       (case side1 => repeat (first | exact (Kd.C_below HR0_1.out HB.out) | (with_reducible refine Kd.C_alloc ?_ _) | (with_reducible refine Kd.C_drewN ?_ _) | (with_reducible refine Kd.C_drew ?_)))
       (case side2 => exact HC0_1.out)
       (case side3 => exact cr HO393)
       (case side4 => exact (Kd.R_reads' HO393.out).2.1)
       rintro e w372 ⟨v396, rfl, ho0, hb⟩; refine ⟨_, rfl, ?_⟩; replace HO393 := ry HO393 hb; have HO397 := Aside0.mk (Kd.R_lower ho0 (below_size (hb2 HB GE385 GE399))); replace BK385 := kx BK385 hb; replace BK399 := kx BK399 hb; replace HB := hs (hb2 HB GE385 GE399) hb
       (try clear hb)
       (try clear hb2)
       (try clear hk)
       (try clear hi)
       (try clear ho0)
       refine hK.out _ _ ⟨bc BK385 0, bc BK385 1⟩ (fun hHeld => ?_); clear hK K; refine nm_ (some 36) ?_; refine pu_ 5 (some 31) #[T_,T_,T_,T_,T_,T_,F_,F_,T_,F_,F_] HT_ ?_; refine pu_ 6 (some 37) #[T_,T_,T_,T_,T_,T_,T_,F_,T_,F_,F_] HT_ ?_; refine pu_ 7 (some 38) #[T_,T_,T_,T_,T_,T_,T_,T_,T_,F_,F_] HT_ ?_; exact norm_ (by simp only [putAll, Act.put, List.setIfInBounds_toArray, List.set_cons_zero, List.set_cons_succ]) (hCont (v389, .slice Ao371 y391.length co371, v396, gb399) _ ⟨hHeld, (rx HO393), (rx HO397), (bx BK385), (bx BK399), GW399.out, GE399.out, NB385_399.out, NB399_385.out, (hb2 HB GE385 GE399)⟩)
     ·skip
      refine bs_ 5 #[.int .i64 0, .slice none 0 0] 25 ?_; intro gb399 hg w367 hbox hb; have BK399 := Aside0.mk (hbox); have GW399 := wq (hb1 HB GE385) hg; have GE399 := wq (hb1 HB GE385) hg; replace HB := hs (hb1 HB GE385) hb; have NB385_399 := lx BK385 hg; have NB399_385 := gx BK385 hg; replace BK385 := kx BK385 hb; clear hb hbox hg; refine hK.out _ _ ⟨bc BK385 0, bc BK385 1⟩ (fun hHeld => ?_); clear hK K; refine nm_ (some 5) ?_; refine on_ 1 (some 33) #[T_,T_,T_,F_,F_,F_,F_,F_,T_,F_,F_] HT_ (fun K hK => ?_); refine Kd.R_lit_step (Kd.int .i64) _ 3 ?hg (N := 33) ?hd (xs := ([] : List Int)) (inner := []) (ok := fun _ => True) (okp := fun _ => True) ?hr ?hp (fun _ hk => hk) trivial (Below.refl _ _) (Nat.le_refl _) (by simp) ?_; (case hd => rfl); (case hg => rfl); (case hr => first | (go_simp; done) | (go_simp; rfl)); (case hp => exact (Reps.none _ _)); intro v389 w368 ho369 hb hg_ hnew_; clear hg_ hnew_
      (first | rw [← Ny388.out] at ho369 | (simp only [Int.reduceToNat] at ho369; rw [← Ny388.out] at ho369))
      have HO390 := Aside0.mk (Kd.R_lower ho369 (below_size (hb2 HB GE385 GE399))); replace BK385 := kx BK385 hb; replace BK399 := kx BK399 hb; replace HB := hs (hb2 HB GE385 GE399) hb; clear hb ho369; refine hK.out _ _ ⟨bc BK385 0, bc BK385 1⟩ (fun hHeld => ?_); clear hK K; refine nm_ (some 33) ?_; refine on_ 3 (some 35) #[T_,T_,T_,T_,F_,F_,F_,F_,T_,F_,F_] HT_ (fun K hK => ?_); refine Kd.R_append_rows_step (Kd.int .i64) (w0 := w) w.heap.size (by rfl) (.tmp 33) (.tmp 34) 26 3 (.int .i64 0) 8 rfl Try.underlying26 info3 rfl (by decide) (by omega) v389 y388 l1 _ _ _ (fun _ => True) (fun _ => False) rfl rfl ?aO ?aR (fun _ _ h => h) (fun _ h => h.elim) ?aF ?aB ?aS ?aL ?_
      (case aR => repeat (first | exact (Kd.C_below HR1.out HB.out) | (with_reducible refine Kd.C_alloc ?_ _) | (with_reducible refine Kd.C_drewN ?_ _) | (with_reducible refine Kd.C_drew ?_)))
      (case aB => exact (hb2 HB GE385 GE399))
      (case aF => exact (fun _ _ => trivial))
      (case aO => exact (rx HO390))
      (case aS => exact (below_size (hb2 HB GE385 GE399)))
      (case aL => have := LMc360.out; omega)
      intro v392 w370 ho hb hg hat; rw [← Ny391.out] at ho; have n0_ := Aside0.mk (blk_grown (bx BK385) hg (Kd.R_ne HO390.out BK385.out (by decide))); have n1_ := Aside0.mk (blk_grown (bx BK399) hg (Kd.R_ne HO390.out BK399.out (by decide))); have n2_ := Aside0.mk (hb); have n3_ := Aside0.mk (ho); clear BK385 BK399 HB HO390; have BK385 := n0_; have BK399 := n1_; have HB := n2_; have HO393 := n3_; clear n0_ n1_ n2_ n3_ ho hb hg hat; obtain ⟨Ao371, co371, eo371⟩ := Kd.R_slice HO393.out
      (first | subst eo371 | obtain ⟨rfl, rfl⟩ := sx eo371)
      refine hK.out _ _ ⟨bc BK385 0, bc BK385 1⟩ (fun hHeld => ?_); clear hK K; refine nm_ (some 35) ?_; refine on_ 4 (some 36) #[T_,T_,T_,T_,T_,F_,F_,F_,T_,F_,F_] HT_ (fun K hK => ?_); refine gs_ Try.func12 #[.agg #[.int .i64 a0_0, .slice A0_1 l0_1.length c0_1], .slice Ao371 y391.length co371] ?_
      with_reducible refine (edit_Relabel.calls k a0_0 _ _ l0_1 _ _ y391 t394 t395 t398 _ ?side1 ?side2 ?side3 ?side4 A361.out).mono ?_
      (case side1 => repeat (first | exact (Kd.C_below HR0_1.out HB.out) | (with_reducible refine Kd.C_alloc ?_ _) | (with_reducible refine Kd.C_drewN ?_ _) | (with_reducible refine Kd.C_drew ?_)))
      (case side2 => exact HC0_1.out)
      (case side3 => exact cr HO393)
      (case side4 => exact (Kd.R_reads' HO393.out).2.1)
      rintro e w372 ⟨v396, rfl, ho0, hb⟩; refine ⟨_, rfl, ?_⟩; replace HO393 := ry HO393 hb; have HO397 := Aside0.mk (Kd.R_lower ho0 (below_size (hb2 HB GE385 GE399))); replace BK385 := kx BK385 hb; replace BK399 := kx BK399 hb; replace HB := hs (hb2 HB GE385 GE399) hb
      (try clear hb)
      (try clear hb2)
      (try clear hk)
      (try clear hi)
      (try clear ho0)
      refine hK.out _ _ ⟨bc BK385 0, bc BK385 1⟩ (fun hHeld => ?_); clear hK K; refine nm_ (some 36) ?_; refine pu_ 5 (some 31) #[T_,T_,T_,T_,T_,T_,F_,F_,T_,F_,F_] HT_ ?_; refine pu_ 6 (some 37) #[T_,T_,T_,T_,T_,T_,T_,F_,T_,F_,F_] HT_ ?_; refine pu_ 7 (some 38) #[T_,T_,T_,T_,T_,T_,T_,T_,T_,F_,F_] HT_ ?_; exact norm_ (by simp only [putAll, Act.put, List.setIfInBounds_toArray, List.set_cons_zero, List.set_cons_succ]) (hCont (v389, .slice Ao371 y391.length co371, v396, gb399) _ ⟨hHeld, (rx HO393), (rx HO397), (bx BK385), (bx BK399), GW399.out, GE399.out, NB385_399.out, NB399_385.out, (hb2 HB GE385 GE399)⟩)
    rintro ⟨v389, v392, v396, gb399⟩ w373 ⟨hS_, h0_, h1_, h2_, h3_, h4_, h5_, h6_, h7_, h8_⟩; have n0_ : Aside0 (Kd.R (Kd.int .i64) 3 w373 w.heap.size (fun _ => True) v392 y391) := ⟨h0_⟩; have n1_ : Aside0 (Kd.R k46 46 w373 w.heap.size (fun _ => True) v396 t395) := ⟨h1_⟩; have n2_ : Aside0 (w373.heap[gb385]? = some (.cells #[.int .i64 a0_0, .slice A0_1 l0_1.length c0_1] 25 (0, 0))) := ⟨h2_⟩; have n3_ : Aside0 (w373.heap[gb399]? = some (.cells #[.int .i64 0, .slice none 0 0] 25 (0, 0))) := ⟨h3_⟩; have n4_ : Aside0 (w.heap.size ≤ gb399) := ⟨h4_⟩; have n5_ : Aside0 (w.heap.size ≤ gb399) := ⟨h5_⟩; have n6_ : Aside0 (gb385 ≠ gb399) := ⟨h6_⟩; have n7_ : Aside0 (gb399 ≠ gb385) := ⟨h7_⟩; have n8_ : Aside0 (Below w.heap.size w w373) := ⟨h8_⟩; clear BK385 HB h0_ h1_ h2_ h3_ h4_ h5_ h6_ h7_ h8_; have HO393 := n0_; have HO397 := n1_; have BK385 := n2_; have BK399 := n3_; have GW399 := n4_; have GE399 := n5_; have NB385_399 := n6_; have NB399_385 := n7_; have HB := n8_; clear n0_ n1_ n2_ n3_ n4_ n5_ n6_ n7_ n8_; have hHeld : w373.cell? ⟨gb385, 0, none⟩ = some (.int .i64 a0_0) ∧ w373.cell? ⟨gb385, 1, none⟩ = some (.slice A0_1 l0_1.length c0_1) := hS_; obtain ⟨Ao375, co375, eo375⟩ := Kd.R_slice HO397.out
    (first | subst eo375 | obtain ⟨rfl, rfl⟩ := sx eo375)
    refine norm_ (a' := ?_) ?_ ?_; rotate_left
    ·simp only [putAll, Act.put, List.setIfInBounds_toArray, List.set_cons_zero, List.set_cons_succ]; rfl
    refine on_ 9 none #[T_,T_,T_,T_,T_,T_,T_,T_,T_,T_,F_] HT_ (fun K hK => ?_); have hs374 : w373.cell? ⟨gb399, 0, none⟩ = some (.int .i64 0) := bc BK399 0; have hfs374 := blk_frozen BK399.out 0; have hns374_0 := NB385_399.out; have hms374_0 := NB399_385.out; have hs376 : w373.cell? ⟨gb399, 1, none⟩ = some (.slice none 0 0) := bc BK399 1; have hfs376 := blk_frozen BK399.out 1; have hns376_0 := NB385_399.out; have hms376_0 := NB399_385.out; refine skip_ (w1 := ?_) (by rfl) rfl ?_ ?_; rotate_left
    ·go_simp; rfl
    refine hK.out _ _ ⟨((cell_far (p := ⟨gb399, _, none⟩) NB385_399.out _).trans (((cell_far (p := ⟨gb399, _, none⟩) NB385_399.out _).trans (hHeld.1)))), ((cell_far (p := ⟨gb399, _, none⟩) NB385_399.out _).trans (((cell_far (p := ⟨gb399, _, none⟩) NB385_399.out _).trans (hHeld.2))))⟩ (fun hHeld => ?_); clear hK K; refine pu_ 10 (some 6) #[T_,T_,T_,T_,T_,T_,T_,T_,T_,T_,T_] HT_ ?_; refine done_ (done_of HT_.out (by kernel_rfl)) ?_
    try go_wp2
    go_ret
    exact ⟨by first | rfl | (simp [errW_none, errW_some] <;> rfl) | (simp [*, errW_none, errW_some] <;> rfl), hb2 HB GE385 GE399⟩
   ·rw [if_neg c360] at H; exact absurd H (by simp)
 ·replace c4 := Bool.eq_false_iff.mpr c4; subst c4; rw [if_neg (show ¬ (false = true) by decide)] at H; obtain rfl := Option.some.inj H
  go_enter Try.func4, Try.ntmps4
  go_wp2_with (first | ((with_reducible refine gate_dst (N := 2) rfl ?_); (try (refine gate_guard (by rfl) ?_; dsimp only)); refine box_event ?hg (N := 2) ?hd (cs := #[.int .i64 a0_0, .slice A0_1 l0_1.length c0_1]) (t := 25) ?hr ?_; (case hd => rfl); (case hg => rfl); (case hr => first | (go_simp; done) | (go_simp; rfl)); intro gb385 hg w377 hbox hb; have BK385 := Aside0.mk (hbox); have GW385 := wq (hb0 HB) hg; have GE385 := wq (hb0 HB) hg; replace HB := hs (hb0 HB) hb; clear hb hbox hg) | ((with_reducible refine gate_callee (f := 10) rfl ?_); refine gl_ (some 26) Try.func10 #[] ?_; (with_reducible refine (tangramlaw14_fixed.calls k  false _ A3.out).mono ?_); rintro e w378 ⟨rfl, hb⟩; refine ⟨_, rfl, ?_⟩; replace BK385 := kx BK385 hb; replace HB := hs (hb1 HB GE385) hb; (try clear hb); (try clear hb2); (try clear hk); (try clear hi)))
  go_ret
  exact ⟨by first | rfl | (simp [errW_none, errW_some] <;> rfl) | (simp [*, errW_none, errW_some] <;> rfl), hb1 HB GE385⟩

end Go.Proofs.Ytdaeaejmikhmcaa.PEditC
