-- PRINTED by print.py (a twelfth state) out of the translation. Not trusted: Lean checks it.
import Derived.Test.YthejafdcdcchbaaDoorZPSimAx0
import Derived.Test.YthejafdcdcchbaaDoorZPSimAx7
import Derived.Test.YthejafdcdcchbaaDoorZPSimAx12
import Derived.Test.YthejafdcdcchbaaDoorZPSimAx14
import Derived.Test.YthejafdcdcchbaaDoorZPSimAx15
import Derived.Test.YthejafdcdcchbaaDoorZPSimAx16
import Derived.Test.YthejafdcdcchbaaDoorZPSimAx17
import Derived.Test.YthejafdcdcchbaaDoorZPSimAx20
import Derived.Test.YthejafdcdcchbaaDoorZPSimAx21
import Derived.Test.YthejafdcdcchbaaDoorZPSimAx22
import Derived.Test.YthejafdcdcchbaaDoorZPSimAx23
import Derived.Test.YthejafdcdcchbaaDoorZPSimAx24
namespace Go.Proofs.YthejafdcdcchbaaDoor.PSimA
open Go.RowKit Go.Proofs.YthejafdcdcchbaaDoorW.PrintWords Go.Proofs.YthejafdcdcchbaaDoorW.PrintLast Go.Proofs.YthejafdcdcchbaaDoorW.PrintMore
open Go.Proofs.YthejafdcdcchbaaDoorX
attribute [local go_sem] max2_int min2_int max_two min_two max_three min_three max_four min_four   -- for this text's walks alone
set_option linter.unusedVariables false
set_option linter.unusedSimpArgs false

/-! ### tangramlaw03_SimpleAsks: function 5 -/
def tangramlaw03_SimpleAsks.j0 : Nat → Bool → Int → List (S42) → Int → Int → Option (Bool)
 | 0, _, _, _, _, _ => none
 | k + 1, x68, x229000, x229001, x230000, x230001 => if x68 = true then (some false) else ((tangramref03_Copy.f k x229000 x229001).bind fun bt254 => ((simple_Valid.f k bt254.1 bt254.2).bind fun t258 => ((tangramref03_Valid.f k x229000 x229001).bind fun t259 => (if (t258 == t259) = true then ((tangramref03_Copy.f k x229000 x229001).bind fun bt260 => ((simple_Find.f k bt260.1 bt260.2 x230000 x230001).bind fun t264 => ((tangramref03_Find.f k x229000 x229001 x230000 x230001).bind fun t265 => (some (t264 == t265))))) else (some false)))))
def tangramlaw03_SimpleAsks.f (k : Nat) (a0_0 : Int) (l0_1 : List (S42)) (a1_0 : Int) (a1_1 : Int) (a2 : Int) : Option (Bool) := (tangramlaw03_wakes.f).bind fun t230 => (if t230 = true then ((tangramref03_Copy.f k a0_0 l0_1).bind fun bt231 => ((simple_Ends.f k bt231.1 bt231.2 a2).bind fun bt235 => ((tangramref03_Ends.f k a0_0 l0_1 a2).bind fun bt238 => ((tangramref03_Copy.f k a0_0 l0_1).bind fun bt241 => ((simple_Degrees.f k bt241.1 bt241.2).bind fun bt245 => ((tangramref03_Degrees.f k a0_0 l0_1).bind fun bt249 => (if bt235.1 = bt238.1 then (if bt235.2.1 = bt238.2.1 then (if (bt235.2.2 != bt238.2.2) = true then (tangramlaw03_SimpleAsks.j0 k true a0_0 l0_1 a1_0 a1_1) else (if bt245.2 = bt249.2 then ((tangramref03_SameInts.f k bt245.1 bt249.1).bind fun t253 => (tangramlaw03_SimpleAsks.j0 k (!t253) a0_0 l0_1 a1_0 a1_1)) else (tangramlaw03_SimpleAsks.j0 k true a0_0 l0_1 a1_0 a1_1))) else (tangramlaw03_SimpleAsks.j0 k true a0_0 l0_1 a1_0 a1_1)) else (tangramlaw03_SimpleAsks.j0 k true a0_0 l0_1 a1_0 a1_1)))))))) else (some false))
theorem tangramlaw03_SimpleAsks.mono_l : ∀ k, (∀ y0 y1 y2 y3 y4, LeO (tangramlaw03_SimpleAsks.j0 k y0 y1 y2 y3 y4) (tangramlaw03_SimpleAsks.j0 (k + 1) y0 y1 y2 y3 y4))
 | 0 => fun _ _ _ _ _ r h => by simp [tangramlaw03_SimpleAsks.j0] at h
 | k + 1 => by
  have ih0 := tangramlaw03_SimpleAsks.mono_l k
  ·intro y0 y1 y2 y3 y4
   unfold tangramlaw03_SimpleAsks.j0
   repeat' first
   | (with_reducible exact ih0 _ _ _ _ _)
   | (with_reducible exact simple_Degrees.mono _ _ _)
   | (with_reducible exact simple_Ends.mono _ _ _ _)
   | (with_reducible exact simple_Find.mono _ _ _ _ _)
   | (with_reducible exact simple_Valid.mono _ _ _)
   | (with_reducible exact tangramref03_Copy.mono _ _ _)
   | (with_reducible exact tangramref03_Degrees.mono _ _ _)
   | (with_reducible exact tangramref03_Ends.mono _ _ _ _)
   | (with_reducible exact tangramref03_Find.mono _ _ _ _ _)
   | (with_reducible exact tangramref03_SameInts.mono _ _ _)
   | (with_reducible exact tangramref03_Valid.mono _ _ _)
   | (with_reducible exact LeO.refl _)
   | (with_reducible exact LeO.none _)
   | (with_reducible refine LeO.ite ?_ ?_)
   | (with_reducible refine LeO.bind ?_ (fun _ => ?_))
   | exact ih0 _ _ _ _ _
   | exact simple_Degrees.mono _ _ _
   | exact simple_Ends.mono _ _ _ _
   | exact simple_Find.mono _ _ _ _ _
   | exact simple_Valid.mono _ _ _
   | exact tangramref03_Copy.mono _ _ _
   | exact tangramref03_Degrees.mono _ _ _
   | exact tangramref03_Ends.mono _ _ _ _
   | exact tangramref03_Find.mono _ _ _ _ _
   | exact tangramref03_SameInts.mono _ _ _
   | exact tangramref03_Valid.mono _ _ _
   | exact LeO.none _
   | refine LeO.ite ?_ ?_
   | refine LeO.bind ?_ (fun _ => ?_)
theorem tangramlaw03_SimpleAsks.mono : ∀ a0 a1 a2 a3 a4 k, LeO (tangramlaw03_SimpleAsks.f k a0 a1 a2 a3 a4) (tangramlaw03_SimpleAsks.f (k + 1) a0 a1 a2 a3 a4) := by
 intro a0 a1 a2 a3 a4 k; have ih0 := tangramlaw03_SimpleAsks.mono_l k
 unfold tangramlaw03_SimpleAsks.f
 repeat' first
   | (with_reducible exact ih0 _ _ _ _ _)
   | (with_reducible exact simple_Degrees.mono _ _ _)
   | (with_reducible exact simple_Ends.mono _ _ _ _)
   | (with_reducible exact simple_Find.mono _ _ _ _ _)
   | (with_reducible exact simple_Valid.mono _ _ _)
   | (with_reducible exact tangramref03_Copy.mono _ _ _)
   | (with_reducible exact tangramref03_Degrees.mono _ _ _)
   | (with_reducible exact tangramref03_Ends.mono _ _ _ _)
   | (with_reducible exact tangramref03_Find.mono _ _ _ _ _)
   | (with_reducible exact tangramref03_SameInts.mono _ _ _)
   | (with_reducible exact tangramref03_Valid.mono _ _ _)
   | (with_reducible exact LeO.refl _)
   | (with_reducible exact LeO.none _)
   | (with_reducible refine LeO.ite ?_ ?_)
   | (with_reducible refine LeO.bind ?_ (fun _ => ?_))
   | exact ih0 _ _ _ _ _
   | exact simple_Degrees.mono _ _ _
   | exact simple_Ends.mono _ _ _ _
   | exact simple_Find.mono _ _ _ _ _
   | exact simple_Valid.mono _ _ _
   | exact tangramref03_Copy.mono _ _ _
   | exact tangramref03_Degrees.mono _ _ _
   | exact tangramref03_Ends.mono _ _ _ _
   | exact tangramref03_Find.mono _ _ _ _ _
   | exact tangramref03_SameInts.mono _ _ _
   | exact tangramref03_Valid.mono _ _ _
   | exact LeO.none _
   | refine LeO.ite ?_ ?_
   | refine LeO.bind ?_ (fun _ => ?_)
def tangramlaw03_SimpleAsks.T9 : Bool × List (List Nat × List Nat) := (true, [([], []), ([0], [0]), ([1, 1], [1]), ([], []), ([3, 2], [3]), ([2, 4], [2, 4]), ([5, 4], [5]), ([6], [6]), ([7, 6, 6], [6, 7]), ([6], [6]), ([8, 9, 8, 6], [6, 8, 9]), ([6], [6]), ([6], [6]), ([11, 12, 10, 6], [6, 11, 12]), ([10, 13, 6], [6, 10, 13]), ([6, 14], [6, 14]), ([15, 13, 0, 1, 2, 3, 4, 5, 6, 7, 8, 9, 10, 11, 12, 13, 14, 15], [15])])
def tangramlaw03_SimpleAsks.B9 : List Nat := [0, 1, 3, 0, 15, 31, 63, 127, 255, 127, 1023, 127, 127, 8191, 16383, 32767, 65535]
theorem tangramlaw03_SimpleAsks.tab9 : rtab .any (opsOf Tryd.f5 9) = tangramlaw03_SimpleAsks.T9 := by kernel_rfl
theorem tangramlaw03_SimpleAsks.bits9 : waitsOk tangramlaw03_SimpleAsks.T9.2 tangramlaw03_SimpleAsks.B9 = true := by kernel_rfl
set_option maxHeartbeats 8000000 in
set_option maxRecDepth 100000 in
theorem tangramlaw03_SimpleAsks.calls (k : Nat) (a0_0 : Int) (A0_1 : Option Addr) (c0_1 : Nat) (l0_1 : List (S42)) (a1_0 : Int) (a1_1 : Int) (a2 : Int) (r : Bool) (w : World) (hT : TabW w) (hr0_1 : Kd.C k42 w A0_1 l0_1.length l0_1) (hc0_1 : l0_1.length ≤ c0_1) (h : tangramlaw03_SimpleAsks.f k a0_0 l0_1 a1_0 a1_1 a2 = some r) :
  Calls Tryd.prog 5 #[.agg #[.int .i64 a0_0, .slice A0_1 l0_1.length c0_1], .agg #[.int .i64 a1_0, .int .i64 a1_1], .int .i64 a2] w fun e w' => e = .returned (.bool r) ∧ Below w.heap.size w w' := by
 have HT := Aside0.mk hT; clear hT; have hu26 := Tryd.underlying26; have hu42 := Tryd.underlying42; have HR0_1 := Aside0.mk hr0_1; have HC0_1 := Aside0.mk hc0_1; clear hr0_1 hc0_1; have HB := Aside0.mk (Below.refl w.heap.size w); have H : ((tangramlaw03_wakes.f).bind fun t230 => (if t230 = true then ((tangramref03_Copy.f k a0_0 l0_1).bind fun bt231 => ((simple_Ends.f k bt231.1 bt231.2 a2).bind fun bt235 => ((tangramref03_Ends.f k a0_0 l0_1 a2).bind fun bt238 => ((tangramref03_Copy.f k a0_0 l0_1).bind fun bt241 => ((simple_Degrees.f k bt241.1 bt241.2).bind fun bt245 => ((tangramref03_Degrees.f k a0_0 l0_1).bind fun bt249 => (if bt235.1 = bt238.1 then (if bt235.2.1 = bt238.2.1 then (if (bt235.2.2 != bt238.2.2) = true then (tangramlaw03_SimpleAsks.j0 k true a0_0 l0_1 a1_0 a1_1) else (if bt245.2 = bt249.2 then ((tangramref03_SameInts.f k bt245.1 bt249.1).bind fun t253 => (tangramlaw03_SimpleAsks.j0 k (!t253) a0_0 l0_1 a1_0 a1_1)) else (tangramlaw03_SimpleAsks.j0 k true a0_0 l0_1 a1_0 a1_1))) else (tangramlaw03_SimpleAsks.j0 k true a0_0 l0_1 a1_0 a1_1)) else (tangramlaw03_SimpleAsks.j0 k true a0_0 l0_1 a1_0 a1_1)))))))) else (some false))) = some r := h; clear h; replace H := Option.bind_eq_some_iff.mp H; obtain ⟨t230, A40, H⟩ := H; (try dsimp only at H)
 have A4 := Aside0.mk A40; clear A40
 by_cases c5 : t230 = true
 ·subst c5; rw [if_pos rfl] at H; replace H := Option.bind_eq_some_iff.mp H; obtain ⟨⟨t231, t232⟩, A60, H⟩ := H; (try dsimp only at H); have A6 := Aside0.mk A60; clear A60; replace H := Option.bind_eq_some_iff.mp H; obtain ⟨⟨t235, t236, t237⟩, A70, H⟩ := H; (try dsimp only at H)
  have A7 := Aside0.mk A70; clear A70; replace H := Option.bind_eq_some_iff.mp H; obtain ⟨⟨t238, t239, t240⟩, A80, H⟩ := H; (try dsimp only at H); have A8 := Aside0.mk A80; clear A80; replace H := Option.bind_eq_some_iff.mp H; obtain ⟨⟨t241, t242⟩, A90, H⟩ := H; (try dsimp only at H)
  have A9 := Aside0.mk A90; clear A90; replace H := Option.bind_eq_some_iff.mp H; obtain ⟨⟨t245, t248⟩, A100, H⟩ := H; (try dsimp only at H); have A10 := Aside0.mk A100; clear A100; replace H := Option.bind_eq_some_iff.mp H; obtain ⟨⟨t249, t252⟩, A110, H⟩ := H; (try dsimp only at H); have A11 := Aside0.mk A110; clear A110; have HC12 := Aside0.mk H; clear H
  go_enter Tryd.func5, Tryd.ntmps5
  go_upto_region 7 with (first | ((with_reducible refine gate_dst (N := 3) rfl ?_); refine be_ 3 #[.int .i64 a0_0, .slice A0_1 l0_1.length c0_1] 26 ?_; intro gb228 hg w13 hbox hb; have BK228 := Aside0.mk (hbox); have GW228 := wq (hb0 HB) hg; have GE228 := wq (hb0 HB) hg; replace HB := hs (hb0 HB) hb; clear hb hbox hg) | ((with_reducible refine gate_dst (N := 4) rfl ?_); refine be_ 4 #[.int .i64 a1_0, .int .i64 a1_1] 42 ?_; intro gb229 hg w14 hbox hb; have BK229 := Aside0.mk (hbox); have GW229 := wq (hb1 HB GE228) hg; have GE229 := wq (hb1 HB GE228) hg; replace HB := hs (hb1 HB GE228) hb; have NB228_229 := lx BK228 hg; have NB229_228 := gx BK228 hg; replace BK228 := kx BK228 hb; clear hb hbox hg) | ((with_reducible refine gate_callee (f := 11) rfl ?_); refine gl_ (some 17) Tryd.func11 #[] ?_; (with_reducible refine (tangramlaw03_wakes.calls  true _ ?sideT A4.out).mono ?_); (case sideT => exact tb HT (hb0 HB)); rintro e w15 ⟨rfl, hb⟩; refine ⟨_, rfl, ?_⟩; replace BK228 := kx BK228 hb; replace BK229 := kx BK229 hb; replace HB := hs (hb2 HB GE228 GE229) hb; (try clear hb); (try clear hb2); (try clear hk); (try clear hi); have hnb16 := NB228_229.out; have hnc16 := NB229_228.out; have hcz17_0 : w15.cell? ⟨gb228, 0, none⟩ = some (.int .i64 a0_0) := bc BK228 0; have hcz17_1 : w15.cell? ⟨gb228, 1, none⟩ = some (.slice A0_1 l0_1.length c0_1) := bc BK228 1; have hfz17_0 := blk_frozen BK228.out 0; have hfz17_1 := blk_frozen BK228.out 1) | ((with_reducible refine gate_callee (f := 18) rfl ?_); refine gl_ (some 21) Tryd.func18 #[.agg #[.int .i64 a0_0, .slice A0_1 l0_1.length c0_1]] ?_; (with_reducible refine (tangramref03_Copy.calls k a0_0 _ _ l0_1 t231 t232 _ ?side1 ?side2 A6.out).mono ?_); (case side1 => repeat (first | exact (Kd.C_below HR0_1.out HB.out) | (with_reducible refine Kd.C_alloc ?_ _) | (with_reducible refine Kd.C_drewN ?_ _) | (with_reducible refine Kd.C_drew ?_))); (case side2 => exact HC0_1.out); rintro e w18 ⟨v233, rfl, ho0, hb⟩; refine ⟨_, rfl, ?_⟩; have HO234 := Aside0.mk (Kd.R_lower (Kd.R_newB ho0 (bx BK229)) (below_size (hb2 HB GE228 GE229))); replace BK228 := kx BK228 hb; replace BK229 := kx BK229 hb; replace HB := hs (hb2 HB GE228 GE229) hb; (try clear hb); (try clear hb2); (try clear hk); (try clear hi); (try clear ho0); obtain ⟨Ao19, co19, eo19⟩ := Kd.R_slice HO234.out; subst eo19) | ((with_reducible refine gate_callee (f := 19) rfl ?_); refine gl_ (some 23) Tryd.func19 #[.agg #[.int .i64 t231, .slice Ao19 t232.length co19], .int .i64 a2] ?_; (with_reducible refine (simple_Ends.calls k t231 _ _ t232 a2 t235 t236 t237 _ ?side1 ?side2 A7.out).mono ?_); (case side1 => exact cr HO234); (case side2 => exact (Kd.R_reads' HO234.out).2.1); rintro e w20 ⟨rfl, hb⟩; refine ⟨_, rfl, ?_⟩; replace HO234 := ry HO234 hb; replace BK228 := kx BK228 hb; replace BK229 := kx BK229 hb; replace HB := hs (hb2 HB GE228 GE229) hb; (try clear hb); (try clear hb2); (try clear hk); (try clear hi); have hcz21_0 : w20.cell? ⟨gb228, 0, none⟩ = some (.int .i64 a0_0) := bc BK228 0; have hcz21_1 : w20.cell? ⟨gb228, 1, none⟩ = some (.slice A0_1 l0_1.length c0_1) := bc BK228 1; have hfz21_0 := blk_frozen BK228.out 0; have hfz21_1 := blk_frozen BK228.out 1) | ((with_reducible refine gate_callee (f := 20) rfl ?_); refine gl_ (some 30) Tryd.func20 #[.agg #[.int .i64 a0_0, .slice A0_1 l0_1.length c0_1], .int .i64 a2] ?_; (with_reducible refine (tangramref03_Ends.calls k a0_0 _ _ l0_1 a2 t238 t239 t240 _ ?side1 ?side2 A8.out).mono ?_); (case side1 => repeat (first | exact (Kd.C_below HR0_1.out HB.out) | (with_reducible refine Kd.C_alloc ?_ _) | (with_reducible refine Kd.C_drewN ?_ _) | (with_reducible refine Kd.C_drew ?_))); (case side2 => exact HC0_1.out); rintro e w22 ⟨rfl, hb⟩; refine ⟨_, rfl, ?_⟩; replace HO234 := ry HO234 hb; replace BK228 := kx BK228 hb; replace BK229 := kx BK229 hb; replace HB := hs (hb2 HB GE228 GE229) hb; (try clear hb); (try clear hb2); (try clear hk); (try clear hi); have hcz23_0 : w22.cell? ⟨gb228, 0, none⟩ = some (.int .i64 a0_0) := bc BK228 0; have hcz23_1 : w22.cell? ⟨gb228, 1, none⟩ = some (.slice A0_1 l0_1.length c0_1) := bc BK228 1; have hfz23_0 := blk_frozen BK228.out 0; have hfz23_1 := blk_frozen BK228.out 1) | ((with_reducible refine gate_callee (f := 18) rfl ?_); refine gl_ (some 36) Tryd.func18 #[.agg #[.int .i64 a0_0, .slice A0_1 l0_1.length c0_1]] ?_; (with_reducible refine (tangramref03_Copy.calls k a0_0 _ _ l0_1 t241 t242 _ ?side1 ?side2 A9.out).mono ?_); (case side1 => repeat (first | exact (Kd.C_below HR0_1.out HB.out) | (with_reducible refine Kd.C_alloc ?_ _) | (with_reducible refine Kd.C_drewN ?_ _) | (with_reducible refine Kd.C_drew ?_))); (case side2 => exact HC0_1.out); rintro e w24 ⟨v243, rfl, ho0, hb⟩; refine ⟨_, rfl, ?_⟩; have HO244 := Aside0.mk (Kd.R_lower (Kd.R_newB (Kd.R_new' ho0 (Kd.R_lt (rx HO234))) (bx BK229)) (below_size (hb2 HB GE228 GE229))); replace HO234 := el (rx HO234) ho0 hb; replace BK228 := kx BK228 hb; replace BK229 := kx BK229 hb; replace HB := hs (hb2 HB GE228 GE229) hb; (try clear hb); (try clear hb2); (try clear hk); (try clear hi); (try clear ho0); obtain ⟨Ao25, co25, eo25⟩ := Kd.R_slice HO244.out; subst eo25) | ((with_reducible refine gate_callee (f := 21) rfl ?_); refine gl_ (some 37) Tryd.func21 #[.agg #[.int .i64 t241, .slice Ao25 t242.length co25]] ?_; (with_reducible refine (simple_Degrees.calls k t241 _ _ t242 t245 t248 _ ?side1 ?side2 A10.out).mono ?_); (case side1 => exact cr HO244); (case side2 => exact (Kd.R_reads' HO244.out).2.1); rintro e w26 ⟨v246, rfl, ho0, hb⟩; refine ⟨_, rfl, ?_⟩; replace HO234 := ry HO234 hb; replace HO244 := ry HO244 hb; have HO247 := Aside0.mk (Kd.R_lower ho0 (below_size (hb2 HB GE228 GE229))); replace BK228 := kx BK228 hb; replace BK229 := kx BK229 hb; replace HB := hs (hb2 HB GE228 GE229) hb; (try clear hb); (try clear hb2); (try clear hk); (try clear hi); (try clear ho0); have hcz27_0 : w26.cell? ⟨gb228, 0, none⟩ = some (.int .i64 a0_0) := bc BK228 0; have hcz27_1 : w26.cell? ⟨gb228, 1, none⟩ = some (.slice A0_1 l0_1.length c0_1) := bc BK228 1; have hfz27_0 := blk_frozen BK228.out 0; have hfz27_1 := blk_frozen BK228.out 1) | ((with_reducible refine gate_callee (f := 22) rfl ?_); refine gl_ (some 42) Tryd.func22 #[.agg #[.int .i64 a0_0, .slice A0_1 l0_1.length c0_1]] ?_; (with_reducible refine (tangramref03_Degrees.calls k a0_0 _ _ l0_1 t249 t252 _ ?side1 ?side2 A11.out).mono ?_); (case side1 => repeat (first | exact (Kd.C_below HR0_1.out HB.out) | (with_reducible refine Kd.C_alloc ?_ _) | (with_reducible refine Kd.C_drewN ?_ _) | (with_reducible refine Kd.C_drew ?_))); (case side2 => exact HC0_1.out); rintro e w28 ⟨v250, rfl, ho0, hb⟩; refine ⟨_, rfl, ?_⟩; replace HO234 := ry HO234 hb; replace HO244 := ry HO244 hb; have HO251 := Aside0.mk (Kd.R_lower (Kd.R_new' ho0 (Kd.R_lt (rx HO247))) (below_size (hb2 HB GE228 GE229))); replace HO247 := el (rx HO247) ho0 hb; replace BK228 := kx BK228 hb; replace BK229 := kx BK229 hb; replace HB := hs (hb2 HB GE228 GE229) hb; (try clear hb); (try clear hb2); (try clear hk); (try clear hi); (try clear ho0)))
  (try simp only [Act.put, List.setIfInBounds_toArray, List.set_cons_zero, List.set_cons_succ])
  go_cut [68] (fun v68 wc => ∃ (kq : Nat) (x68_11 : Bool), v68 = .bool x68_11 ∧ Aside0 (tangramlaw03_SimpleAsks.j0 kq x68_11 a0_0 l0_1 a1_0 a1_1 = some r) ∧ Aside0 (kq ≤ k) ∧ Aside0 (wc.heap[gb228]? = some (.cells #[.int .i64 a0_0, (.slice A0_1 l0_1.length c0_1)] 26 (0, 0))) ∧ Aside0 (wc.heap[gb229]? = some (.cells #[.int .i64 a1_0, .int .i64 a1_1] 42 (0, 0))) ∧ Aside0 (Below w.heap.size w wc))
  case first => as_aux_lemma =>
   have H := HC12.out; clear HC12
   by_cases c29 : t235 = t238
   ·rw [if_pos c29] at H; have c29b0 : (t235 == t238) = true := beq_iff_eq.mpr c29; have c29b1 : (t235 != t238) = false := bne_eq_false_iff_eq.mpr c29; clear c29
    (first | rw [c29b0] | (simp only [i64_w, i32_w]; rw [c29b0]) | skip)
    by_cases c30 : t236 = t239
    ·rw [if_pos c30] at H; have c30b0 : (t236 == t239) = true := beq_iff_eq.mpr c30; have c30b1 : (t236 != t239) = false := bne_eq_false_iff_eq.mpr c30; clear c30
     by_cases c31 : (t237 != t240) = true
     ·rw [if_pos c31] at H; have c31b0 : (t237 != t240) = true := c31
      (try (have c31b1 : decide (t237 = t240) = false := by simpa using c31))
      (try (have c31b2 : (t237 == t240) = false := by simpa using c31))
      (try (have c31b3 : ¬ (t237 = t240) := by simpa using c31))
      clear c31; have H' := Aside0.mk H; clear H
      go_wp2
      go_meet
      case rel => exact ⟨_, (true), (by first | rfl | (simp; done) | (simp [*]; done)), H', ⟨by first | omega | exact Nat.le_refl _⟩, ⟨bx BK228⟩, ⟨bx BK229⟩, ⟨hb2 HB GE228 GE229⟩⟩
     ·rw [if_neg c31] at H; have c31b0 : (t237 != t240) = false := by simpa using c31
      (try (have c31b1 : decide (t237 = t240) = true := by simpa using c31))
      (try (have c31b2 : (t237 == t240) = true := by simpa using c31))
      clear c31
      by_cases c32 : t248 = t252
      ·rw [if_pos c32] at H; have c32b0 : (t248 == t252) = true := beq_iff_eq.mpr c32; have c32b1 : (t248 != t252) = false := bne_eq_false_iff_eq.mpr c32; clear c32; replace H := Option.bind_eq_some_iff.mp H; obtain ⟨t253, A330, H⟩ := H; (try dsimp only at H); have A33 := Aside0.mk A330; clear A330; have H' := Aside0.mk H; clear H; obtain ⟨Ao34, co34, eo34⟩ := Kd.R_slice HO247.out; subst eo34; obtain ⟨Ao35, co35, eo35⟩ := Kd.R_slice HO251.out; subst eo35
       go_wp2_with (first | (go_at_call 23; (with_reducible refine (tangramref03_SameInts.calls k _ _ t245 _ _ t249 t253 _ ?side1 ?side2 ?side3 ?side4 A33.out).mono ?_); (case side1 => exact cr HO247); (case side2 => exact (Kd.R_reads' HO247.out).2.1); (case side3 => exact cr HO251); (case side4 => exact (Kd.R_reads' HO251.out).2.1); rintro e w' ⟨rfl, ⟨nd, rfl⟩⟩))
       go_meet
       case rel => exact ⟨_, (!t253), (by first | rfl | (simp; done) | (simp [*]; done)), H', ⟨by first | omega | exact Nat.le_refl _⟩, ⟨bx BK228⟩, ⟨bx BK229⟩, ⟨hb2 HB GE228 GE229⟩⟩
      ·rw [if_neg c32] at H; have c32b0 : (t248 == t252) = false := beq_eq_false_iff_ne.mpr c32; have c32b1 : (t248 != t252) = true := bne_iff_ne.mpr c32; have H' := Aside0.mk H; clear H
       go_wp2
       go_meet
       case rel => exact ⟨_, (true), (by first | rfl | (simp; done) | (simp [*]; done)), H', ⟨by first | omega | exact Nat.le_refl _⟩, ⟨bx BK228⟩, ⟨bx BK229⟩, ⟨hb2 HB GE228 GE229⟩⟩
    ·rw [if_neg c30] at H; have c30b0 : (t236 == t239) = false := beq_eq_false_iff_ne.mpr c30; have c30b1 : (t236 != t239) = true := bne_iff_ne.mpr c30; have H' := Aside0.mk H; clear H
     go_wp2
     go_meet
     case rel => exact ⟨_, (true), (by first | rfl | (simp; done) | (simp [*]; done)), H', ⟨by first | omega | exact Nat.le_refl _⟩, ⟨bx BK228⟩, ⟨bx BK229⟩, ⟨hb2 HB GE228 GE229⟩⟩
   ·rw [if_neg c29] at H; have c29b0 : (t235 == t238) = false := beq_eq_false_iff_ne.mpr c29; have c29b1 : (t235 != t238) = true := bne_iff_ne.mpr c29
    (first | rw [c29b0] | (simp only [i64_w, i32_w]; rw [c29b0]) | skip)
    have H' := Aside0.mk H; clear H
    go_wp2
    go_meet
    case rel => exact ⟨_, (true), (by first | rfl | (simp; done) | (simp [*]; done)), H', ⟨by first | omega | exact Nat.le_refl _⟩, ⟨bx BK228⟩, ⟨bx BK229⟩, ⟨hb2 HB GE228 GE229⟩⟩
  case rest => as_aux_lemma =>
   clear HC12
   try clear c1
   try clear c2
   try clear p2
   try clear c3
   try clear c5
   try clear c11
   try clear c16
   try clear c18
   try clear c19
   try clear c20
   try clear c21
   try clear c22
   try clear c29
   try clear c29b0
   try clear c29b1
   try clear c30
   try clear c30b0
   try clear c30b1
   try clear c31
   try clear c31b0
   try clear c31b1
   try clear c31b2
   try clear c32
   try clear c32b0
   try clear c32b1
   try clear hcz17_0
   try clear hcz17_1
   try clear hcz21_0
   try clear hcz21_1
   try clear hcz23_0
   try clear hcz23_1
   try clear hcz27_0
   try clear hcz27_1
   try clear hfz17_0
   try clear hfz17_1
   try clear hfz21_0
   try clear hfz21_1
   try clear hfz23_0
   try clear hfz23_1
   try clear hfz27_0
   try clear hfz27_1
   obtain ⟨kq, x68_11, rfl, HA, HJ11, BK228, BK229, HB⟩ := hcut
   cases kq with
   | zero => exact absurd HA.out (by simp [tangramlaw03_SimpleAsks.j0])
   | succ kj11 =>
    have H := HA.out; clear HA; simp only [tangramlaw03_SimpleAsks.j0] at H
    by_cases c36 : x68_11 = true
    ·subst c36; rw [if_pos rfl] at H; obtain rfl := Option.some.inj H
     go_wp2
     go_ret
     exact ⟨by first | rfl | (simp [errW_none, errW_some] <;> rfl) | (simp [*, errW_none, errW_some] <;> rfl), hb2 HB GE228 GE229⟩
    ·replace c36 := Bool.eq_false_iff.mpr c36; subst c36; rw [if_neg (show ¬ (false = true) by decide)] at H; replace H := Option.bind_eq_some_iff.mp H; obtain ⟨⟨t254, t255⟩, A370, H⟩ := H; (try dsimp only at H); have A37 := Aside0.mk A370; clear A370; replace H := Option.bind_eq_some_iff.mp H; obtain ⟨t258, A380, H⟩ := H; (try dsimp only at H); have A38 := Aside0.mk A380; clear A380; replace H := Option.bind_eq_some_iff.mp H; obtain ⟨t259, A390, H⟩ := H; (try dsimp only at H); have A39 := Aside0.mk A390; clear A390
     by_cases c40 : (t258 == t259) = true
     ·rw [if_pos c40] at H; have c40b0 : (t258 == t259) = true := c40
      (try (have c40b1 : decide (t258 = t259) = true := by simpa using c40))
      (try (have c40b2 : (t258 == t259) = true := by simpa using c40))
      clear c40; replace H := Option.bind_eq_some_iff.mp H; obtain ⟨⟨t260, t261⟩, A410, H⟩ := H; (try dsimp only at H); have A41 := Aside0.mk A410; clear A410; replace H := Option.bind_eq_some_iff.mp H; obtain ⟨t264, A420, H⟩ := H; (try dsimp only at H); have A42 := Aside0.mk A420; clear A420; replace H := Option.bind_eq_some_iff.mp H; obtain ⟨t265, A430, H⟩ := H; (try dsimp only at H); have A43 := Aside0.mk A430; clear A430; obtain rfl := Option.some.inj H
      try go_wp2
      replace BK228 := bd BK228; replace BK229 := bd BK229; replace HB := Aside0.mk (below_drew1 HB.out); refine start_ (n := 17) (S := fun w' => w'.cell? ⟨gb228, 0, none⟩ = some (.int .i64 a0_0) ∧ w'.cell? ⟨gb228, 1, none⟩ = some (.slice A0_1 l0_1.length c0_1) ∧ w'.cell? ⟨gb229, 0, none⟩ = some (.int .i64 a1_0) ∧ w'.cell? ⟨gb229, 1, none⟩ = some (.int .i64 a1_1)) (ds := []) (pf 0 17) (by kernel_rfl) rfl rfl ⟨bc BK228 0, bc BK228 1, bc BK229 0, bc BK229 1⟩ (fun hHeld => ?_); refine with_tabW tangramlaw03_SimpleAsks.tab9 tangramlaw03_SimpleAsks.bits9 (fun HT_ HW_ => ?_); generalize wc.drew = w44 at BK228 BK229 HB hHeld ⊢; refine tk4_ 0 (some 69) (pf 1 17) HT_ HW_ hHeld ?_; refine tk4_ 3 (some 72) #[T_,F_,F_,T_,F_,F_,F_,F_,F_,F_,F_,F_,F_,F_,F_,F_,F_] HT_ HW_ hHeld ?_; refine on_ 1 (some 70) #[T_,T_,F_,T_,F_,F_,F_,F_,F_,F_,F_,F_,F_,F_,F_,F_,F_] HT_ (fun K hK => ?_); refine gs_ Tryd.func18 #[.agg #[.int .i64 a0_0, .slice A0_1 l0_1.length c0_1]] ?_
      with_reducible refine (tangramref03_Copy.calls kj11 a0_0 _ _ l0_1 t254 t255 _ ?side1 ?side2 A37.out).mono ?_
      (case side1 => repeat (first | exact (Kd.C_below HR0_1.out HB.out) | (with_reducible refine Kd.C_alloc ?_ _) | (with_reducible refine Kd.C_drewN ?_ _) | (with_reducible refine Kd.C_drew ?_)))
      (case side2 => exact HC0_1.out)
      rintro e w45 ⟨v256, rfl, ho0, hb⟩; refine ⟨_, rfl, ?_⟩; have HO257 := Aside0.mk (Kd.R_lower (Kd.R_newB ho0 (bx BK229)) (below_size (hb2 HB GE228 GE229))); replace BK228 := kx BK228 hb; replace BK229 := kx BK229 hb; replace HB := hs (hb2 HB GE228 GE229) hb
      (try clear hb)
      (try clear hb2)
      (try clear hk)
      (try clear hi)
      (try clear ho0)
      obtain ⟨Ao46, co46, eo46⟩ := Kd.R_slice HO257.out
      (first | subst eo46 | obtain ⟨rfl, rfl⟩ := sx eo46)
      refine hK.out _ _ ⟨bc BK228 0, bc BK228 1, bc BK229 0, bc BK229 1⟩ (fun hHeld => ?_); clear hK K; refine nm_ (some 70) ?_; refine on_ 2 (some 71) (pf 4 17) HT_ (fun K hK => ?_); refine gs_ Tryd.func24 #[.agg #[.int .i64 t254, .slice Ao46 t255.length co46]] ?_
      with_reducible refine (simple_Valid.calls kj11 t254 _ _ t255 t258 _ ?side1 ?side2 A38.out).mono ?_
      (case side1 => exact cr HO257)
      (case side2 => exact (Kd.R_reads' HO257.out).2.1)
      rintro e w47 ⟨rfl, hb⟩; refine ⟨_, rfl, ?_⟩; replace HO257 := ry HO257 hb; replace BK228 := kx BK228 hb; replace BK229 := kx BK229 hb; replace HB := hs (hb2 HB GE228 GE229) hb
      (try clear hb)
      (try clear hb2)
      (try clear hk)
      (try clear hi)
      refine hK.out _ _ ⟨bc BK228 0, bc BK228 1, bc BK229 0, bc BK229 1⟩ (fun hHeld => ?_); clear hK K; refine nm_ (some 71) ?_; refine on_ 4 (some 73) (pf 5 17) HT_ (fun K hK => ?_); refine gs_ Tryd.func25 #[.agg #[.int .i64 a0_0, .slice A0_1 l0_1.length c0_1]] ?_
      with_reducible refine (tangramref03_Valid.calls kj11 a0_0 _ _ l0_1 t259 _ ?side1 ?side2 A39.out).mono ?_
      (case side1 => repeat (first | exact (Kd.C_below HR0_1.out HB.out) | (with_reducible refine Kd.C_alloc ?_ _) | (with_reducible refine Kd.C_drewN ?_ _) | (with_reducible refine Kd.C_drew ?_)))
      (case side2 => exact HC0_1.out)
      rintro e w48 ⟨rfl, hb⟩; refine ⟨_, rfl, ?_⟩; replace HO257 := ry HO257 hb; replace BK228 := kx BK228 hb; replace BK229 := kx BK229 hb; replace HB := hs (hb2 HB GE228 GE229) hb
      (try clear hb)
      (try clear hb2)
      (try clear hk)
      (try clear hi)
      refine hK.out _ _ ⟨bc BK228 0, bc BK228 1, bc BK229 0, bc BK229 1⟩ (fun hHeld => ?_); clear hK K; refine nm_ (some 73) ?_; refine pu_ 5 (some 74) (pf 6 17) HT_ ?_; refine pu_ 6 (some 75) (pf 7 17) HT_ ?_; refine tk4_ 7 (some 76) (pf 8 17) HT_ HW_ hHeld ?_; refine tk4_ 9 (some 78) #[T_,T_,T_,T_,T_,T_,T_,T_,F_,T_,F_,F_,F_,F_,F_,F_,F_] HT_ HW_ hHeld ?_; refine tk4_ 11 (some 80) #[T_,T_,T_,T_,T_,T_,T_,T_,F_,T_,F_,T_,F_,F_,F_,F_,F_] HT_ HW_ hHeld ?_; refine tk4_ 12 (some 81) #[T_,T_,T_,T_,T_,T_,T_,T_,F_,T_,F_,T_,T_,F_,F_,F_,F_] HT_ HW_ hHeld ?_; refine on_ 8 (some 77) #[T_,T_,T_,T_,T_,T_,T_,T_,T_,T_,F_,T_,T_,F_,F_,F_,F_] HT_ (fun K hK => ?_); refine gs_ Tryd.func18 #[.agg #[.int .i64 a0_0, .slice A0_1 l0_1.length c0_1]] ?_
      with_reducible refine (tangramref03_Copy.calls kj11 a0_0 _ _ l0_1 t260 t261 _ ?side1 ?side2 A41.out).mono ?_
      (case side1 => repeat (first | exact (Kd.C_below HR0_1.out HB.out) | (with_reducible refine Kd.C_alloc ?_ _) | (with_reducible refine Kd.C_drewN ?_ _) | (with_reducible refine Kd.C_drew ?_)))
      (case side2 => exact HC0_1.out)
      rintro e w49 ⟨v262, rfl, ho0, hb⟩; refine ⟨_, rfl, ?_⟩; have HO263 := Aside0.mk (Kd.R_lower (Kd.R_newB (Kd.R_new' ho0 (Kd.R_lt (rx HO257))) (bx BK229)) (below_size (hb2 HB GE228 GE229))); replace HO257 := el (rx HO257) ho0 hb; replace BK228 := kx BK228 hb; replace BK229 := kx BK229 hb; replace HB := hs (hb2 HB GE228 GE229) hb
      (try clear hb)
      (try clear hb2)
      (try clear hk)
      (try clear hi)
      (try clear ho0)
      obtain ⟨Ao50, co50, eo50⟩ := Kd.R_slice HO263.out
      (first | subst eo50 | obtain ⟨rfl, rfl⟩ := sx eo50)
      refine hK.out _ _ ⟨bc BK228 0, bc BK228 1, bc BK229 0, bc BK229 1⟩ (fun hHeld => ?_); clear hK K; refine nm_ (some 77) ?_; refine on_ 10 (some 79) (pf 13 17) HT_ (fun K hK => ?_); refine gs_ Tryd.func26 #[.agg #[.int .i64 t260, .slice Ao50 t261.length co50], .agg #[.int .i64 a1_0, .int .i64 a1_1]] ?_
      with_reducible refine (simple_Find.calls kj11 t260 _ _ t261 a1_0 a1_1 t264 _ ?side1 ?side2 A42.out).mono ?_
      (case side1 => exact cr HO263)
      (case side2 => exact (Kd.R_reads' HO263.out).2.1)
      rintro e w51 ⟨rfl, hb⟩; refine ⟨_, rfl, ?_⟩; replace HO257 := ry HO257 hb; replace HO263 := ry HO263 hb; replace BK228 := kx BK228 hb; replace BK229 := kx BK229 hb; replace HB := hs (hb2 HB GE228 GE229) hb
      (try clear hb)
      (try clear hb2)
      (try clear hk)
      (try clear hi)
      refine hK.out _ _ ⟨bc BK228 0, bc BK228 1, bc BK229 0, bc BK229 1⟩ (fun hHeld => ?_); clear hK K; refine nm_ (some 79) ?_; refine on_ 13 (some 82) (pf 14 17) HT_ (fun K hK => ?_); refine gs_ Tryd.func27 #[.agg #[.int .i64 a0_0, .slice A0_1 l0_1.length c0_1], .agg #[.int .i64 a1_0, .int .i64 a1_1]] ?_
      with_reducible refine (tangramref03_Find.calls kj11 a0_0 _ _ l0_1 a1_0 a1_1 t265 _ ?side1 ?side2 A43.out).mono ?_
      (case side1 => repeat (first | exact (Kd.C_below HR0_1.out HB.out) | (with_reducible refine Kd.C_alloc ?_ _) | (with_reducible refine Kd.C_drewN ?_ _) | (with_reducible refine Kd.C_drew ?_)))
      (case side2 => exact HC0_1.out)
      rintro e w52 ⟨rfl, hb⟩; refine ⟨_, rfl, ?_⟩; replace HO257 := ry HO257 hb; replace HO263 := ry HO263 hb; replace BK228 := kx BK228 hb; replace BK229 := kx BK229 hb; replace HB := hs (hb2 HB GE228 GE229) hb
      (try clear hb)
      (try clear hb2)
      (try clear hk)
      (try clear hi)
      refine hK.out _ _ ⟨bc BK228 0, bc BK228 1, bc BK229 0, bc BK229 1⟩ (fun hHeld => ?_); clear hK K; refine nm_ (some 82) ?_; refine pu_ 14 (some 83) (pf 15 17) HT_ ?_; refine pu_ 15 (some 84) (pf 16 17) HT_ ?_; refine pu_ 16 (some 6) (pf 17 17) HT_ ?_; refine done_ (done_of HT_.out (by kernel_rfl)) ?_
      try go_wp2
      go_ret
      exact ⟨by first | rfl | (simp [errW_none, errW_some] <;> rfl) | (simp [*, errW_none, errW_some] <;> rfl), hb2 HB GE228 GE229⟩
     ·rw [if_neg c40] at H; have c40b0 : (t258 == t259) = false := by simpa using c40
      (try (have c40b1 : decide (t258 = t259) = false := by simpa using c40))
      (try (have c40b2 : (t258 == t259) = false := by simpa using c40))
      (try (have c40b3 : ¬ (t258 = t259) := by simpa using c40))
      clear c40; obtain rfl := Option.some.inj H
      try go_wp2
      replace BK228 := bd BK228; replace BK229 := bd BK229; replace HB := Aside0.mk (below_drew1 HB.out); refine start_ (n := 17) (S := fun w' => w'.cell? ⟨gb228, 0, none⟩ = some (.int .i64 a0_0) ∧ w'.cell? ⟨gb228, 1, none⟩ = some (.slice A0_1 l0_1.length c0_1)) (ds := []) (pf 0 17) (by kernel_rfl) rfl rfl ⟨bc BK228 0, bc BK228 1⟩ (fun hHeld => ?_); refine with_tabW tangramlaw03_SimpleAsks.tab9 tangramlaw03_SimpleAsks.bits9 (fun HT_ HW_ => ?_); generalize wc.drew = w53 at BK228 BK229 HB hHeld ⊢; refine tk2_ 0 (some 69) (pf 1 17) HT_ HW_ hHeld ?_; refine tk2_ 3 (some 72) #[T_,F_,F_,T_,F_,F_,F_,F_,F_,F_,F_,F_,F_,F_,F_,F_,F_] HT_ HW_ hHeld ?_; refine on_ 1 (some 70) #[T_,T_,F_,T_,F_,F_,F_,F_,F_,F_,F_,F_,F_,F_,F_,F_,F_] HT_ (fun K hK => ?_); refine gs_ Tryd.func18 #[.agg #[.int .i64 a0_0, .slice A0_1 l0_1.length c0_1]] ?_
      with_reducible refine (tangramref03_Copy.calls kj11 a0_0 _ _ l0_1 t254 t255 _ ?side1 ?side2 A37.out).mono ?_
      (case side1 => repeat (first | exact (Kd.C_below HR0_1.out HB.out) | (with_reducible refine Kd.C_alloc ?_ _) | (with_reducible refine Kd.C_drewN ?_ _) | (with_reducible refine Kd.C_drew ?_)))
      (case side2 => exact HC0_1.out)
      rintro e w54 ⟨v256, rfl, ho0, hb⟩; refine ⟨_, rfl, ?_⟩; have HO257 := Aside0.mk (Kd.R_lower (Kd.R_newB ho0 (bx BK229)) (below_size (hb2 HB GE228 GE229))); replace BK228 := kx BK228 hb; replace BK229 := kx BK229 hb; replace HB := hs (hb2 HB GE228 GE229) hb
      (try clear hb)
      (try clear hb2)
      (try clear hk)
      (try clear hi)
      (try clear ho0)
      obtain ⟨Ao55, co55, eo55⟩ := Kd.R_slice HO257.out
      (first | subst eo55 | obtain ⟨rfl, rfl⟩ := sx eo55)
      refine hK.out _ _ ⟨bc BK228 0, bc BK228 1⟩ (fun hHeld => ?_); clear hK K; refine nm_ (some 70) ?_; refine on_ 2 (some 71) (pf 4 17) HT_ (fun K hK => ?_); refine gs_ Tryd.func24 #[.agg #[.int .i64 t254, .slice Ao55 t255.length co55]] ?_
      with_reducible refine (simple_Valid.calls kj11 t254 _ _ t255 t258 _ ?side1 ?side2 A38.out).mono ?_
      (case side1 => exact cr HO257)
      (case side2 => exact (Kd.R_reads' HO257.out).2.1)
      rintro e w56 ⟨rfl, hb⟩; refine ⟨_, rfl, ?_⟩; replace HO257 := ry HO257 hb; replace BK228 := kx BK228 hb; replace BK229 := kx BK229 hb; replace HB := hs (hb2 HB GE228 GE229) hb
      (try clear hb)
      (try clear hb2)
      (try clear hk)
      (try clear hi)
      refine hK.out _ _ ⟨bc BK228 0, bc BK228 1⟩ (fun hHeld => ?_); clear hK K; refine nm_ (some 71) ?_; refine on_ 4 (some 73) (pf 5 17) HT_ (fun K hK => ?_); refine gs_ Tryd.func25 #[.agg #[.int .i64 a0_0, .slice A0_1 l0_1.length c0_1]] ?_
      with_reducible refine (tangramref03_Valid.calls kj11 a0_0 _ _ l0_1 t259 _ ?side1 ?side2 A39.out).mono ?_
      (case side1 => repeat (first | exact (Kd.C_below HR0_1.out HB.out) | (with_reducible refine Kd.C_alloc ?_ _) | (with_reducible refine Kd.C_drewN ?_ _) | (with_reducible refine Kd.C_drew ?_)))
      (case side2 => exact HC0_1.out)
      rintro e w57 ⟨rfl, hb⟩; refine ⟨_, rfl, ?_⟩; replace HO257 := ry HO257 hb; replace BK228 := kx BK228 hb; replace BK229 := kx BK229 hb; replace HB := hs (hb2 HB GE228 GE229) hb
      (try clear hb)
      (try clear hb2)
      (try clear hk)
      (try clear hi)
      refine hK.out _ _ ⟨bc BK228 0, bc BK228 1⟩ (fun hHeld => ?_); clear hK K; refine nm_ (some 73) ?_; refine pu_ 5 (some 74) (pf 6 17) HT_ ?_; refine pu_ 6 (some 75) (pf 7 17) HT_ ?_; refine pn_ 7 (some 76) (pf 8 17) HT_ ?_; refine pn_ 8 (some 77) (pf 9 17) HT_ ?_; refine pn_ 9 (some 78) (pf 10 17) HT_ ?_; refine pn_ 10 (some 79) (pf 11 17) HT_ ?_; refine pn_ 11 (some 80) (pf 12 17) HT_ ?_; refine pn_ 12 (some 81) (pf 13 17) HT_ ?_; refine pn_ 13 (some 82) (pf 14 17) HT_ ?_; refine pn_ 14 (some 83) (pf 15 17) HT_ ?_; refine pu_ 15 (some 84) (pf 16 17) HT_ ?_; refine pu_ 16 (some 6) (pf 17 17) HT_ ?_; refine done_ (done_of HT_.out (by kernel_rfl)) ?_
      try go_wp2
      go_ret
      exact ⟨by first | rfl | (simp [errW_none, errW_some] <;> rfl) | (simp [*, errW_none, errW_some] <;> rfl), hb2 HB GE228 GE229⟩
 ·replace c5 := Bool.eq_false_iff.mpr c5; subst c5; rw [if_neg (show ¬ (false = true) by decide)] at H; obtain rfl := Option.some.inj H
  go_enter Tryd.func5, Tryd.ntmps5
  go_wp2_with (first | ((with_reducible refine gate_dst (N := 3) rfl ?_); refine be_ 3 #[.int .i64 a0_0, .slice A0_1 l0_1.length c0_1] 26 ?_; intro gb228 hg w58 hbox hb; have BK228 := Aside0.mk (hbox); have GW228 := wq (hb0 HB) hg; have GE228 := wq (hb0 HB) hg; replace HB := hs (hb0 HB) hb; clear hb hbox hg) | ((with_reducible refine gate_dst (N := 4) rfl ?_); refine be_ 4 #[.int .i64 a1_0, .int .i64 a1_1] 42 ?_; intro gb229 hg w59 hbox hb; have BK229 := Aside0.mk (hbox); have GW229 := wq (hb1 HB GE228) hg; have GE229 := wq (hb1 HB GE228) hg; replace HB := hs (hb1 HB GE228) hb; have NB228_229 := lx BK228 hg; have NB229_228 := gx BK228 hg; replace BK228 := kx BK228 hb; clear hb hbox hg) | ((with_reducible refine gate_callee (f := 11) rfl ?_); refine gl_ (some 17) Tryd.func11 #[] ?_; (with_reducible refine (tangramlaw03_wakes.calls  false _ ?sideT A4.out).mono ?_); (case sideT => exact tb HT (hb0 HB)); rintro e w60 ⟨rfl, hb⟩; refine ⟨_, rfl, ?_⟩; replace BK228 := kx BK228 hb; replace BK229 := kx BK229 hb; replace HB := hs (hb2 HB GE228 GE229) hb; (try clear hb); (try clear hb2); (try clear hk); (try clear hi)))
  go_ret
  exact ⟨by first | rfl | (simp [errW_none, errW_some] <;> rfl) | (simp [*, errW_none, errW_some] <;> rfl), hb2 HB GE228 GE229⟩

end Go.Proofs.YthejafdcdcchbaaDoor.PSimA
