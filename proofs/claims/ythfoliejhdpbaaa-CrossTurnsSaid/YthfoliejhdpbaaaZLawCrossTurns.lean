-- WRITTEN by rowgen.py of this session: the row of the law tangramlaw26_CrossTurns, out of its Pure and the printed walk. Not trusted: Lean checks it.
import Derived.Test.YthfoliejhdpbaaaRows
import Derived.Test.YthfoliejhdpbaaaZPCroAx39
import Derived.Test.YthfoliejhdpbaaaZPureCrossTurns
import Derived.Test.YthfoliejhdpbaaaZXOpen
import Derived.WalkKit
import Derived.ProofKit
import Derived.OpenShut
import Derived.ShutString
import Derived.ChangeOld
import Derived.Below
import Derived.SizedLaws
namespace Go.Proofs.Ythfoliejhdpbaaa.crossTurns
open Go.ChangeShapes Go.WideShapes Go.ChangeAt Go.RowKit Go.Proofs.YthfoliejhdpbaaaX
open Go.ChangeMaps (open_string shut_string)
open Go.Proofs.YthfoliejhdpbaaaW.PrintWords
set_option linter.unusedVariables false
theorem own : ownKnob Try.prog.godebug = none := by kernel_rfl
theorem laidOut : laidOutB Try.prog = true := by kernel_rfl
set_option maxRecDepth 100000 in
theorem lifted (os : Os) (started : os.Started) (H : Type) (enc : TypeId × Value → H) :
    ReturnsInHanded {} Try.checked os 4 .any (Rows.crossTurnsSpec.pre6 enc Try.prog Try.f4 Rows.crossTurnsRow.domain false) (Rows.crossTurnsSpec.post enc Try.prog Try.f4 false true false false) := by
  refine returnsInHanded_of_change_sized (C := Try.checked) own started (by kernel_rfl) Try.func4
    (ChangeSpec.witness6 (enc := enc) (C := Try.checked) false ⟨#[], #[.agg #[.int .i64 0, .int .i64 0], .agg #[.int .i64 0, .int .i64 0], .agg #[.int .i64 0, .int .i64 0], .agg #[.int .i64 0, .int .i64 0]], []⟩ 8 (by kernel_rfl) (by kernel_rfl) (by kernel_rfl) (by kernel_rfl)) ?_
  intro W base args ds gs before hval0 hW hcnd hsz0 _
  have hsz : (DataW.weightsEach Try.prog (Try.f4.params.toList ++ Rows.crossTurnsSpec.plain.varTypes Try.prog) (ds ++ gs)).all (· ≤ reachBytes) = true := hsz0
  have hval : ∀ (j : Nat) t v, Try.f4.params[j]? = some t → args[j]? = some v → Value.okWide Try.prog W .any base t v := hval0
  have hW' := hW
  obtain ⟨p, q, hA0, hV, rfl, hfz, hnd⟩ := hW
  have hA : DataW.TrodAll enc Try.prog W 0 (fun _ => true) true Try.f4.params.toList args.toList ds p := hA0
  rw [Try.params4] at hA hval hsz
  obtain ⟨v0, vs0, d0, ds0, p0, q0, hargs, rfl, rfl, h0, r0⟩ := trodAll_cons hA
  obtain ⟨v1, vs1, d1, ds1, p1, q1, rfl, rfl, rfl, h1, r1⟩ := trodAll_cons r0
  obtain ⟨v2, vs2, d2, ds2, p2, q2, rfl, rfl, rfl, h2, r2⟩ := trodAll_cons r1
  obtain ⟨v3, vs3, d3, ds3, p3, q3, rfl, rfl, rfl, h3, r3⟩ := trodAll_cons r2
  obtain ⟨rfl, rfl, rfl⟩ := trodAll_nil r3
  obtain rfl : args = #[v0, v1, v2, v3] := by cases args; simp_all
  obtain ⟨rfl, rfl⟩ := trodVars_none hV
  obtain ⟨cs0, rfl, _⟩ := okWide_struct Try.underlying23 (hval 0 23 v0 rfl rfl)
  have k0 := h0
  have lt0 : ∀ x ∈ p0, x.block < W.heap.size := by obtain ⟨m, hm⟩ := k0; exact DataW.trod_lt m _ _ _ hm
  obtain ⟨u0, hK0, wf0⟩ := OpenK.arg (OpenK.pair (OpenK.int Try.underlying3) (OpenK.int Try.underlying3) Try.underlying23 rfl rfl rfl rfl (by kernel_rfl) (by kernel_rfl) (by kernel_rfl)) h0 hsz (j := 0) (t := 23) rfl rfl
  obtain ⟨x0_0, y0_0⟩ := u0
  obtain ⟨d0_0, e0_0, q0_0, m0_0, r0_0⟩ := hK0
  obtain ⟨f0_0, g0_0⟩ := wf0
  obtain rfl : cs0 = #[.int .i64 x0_0, .int .i64 y0_0] := Array.toList_inj.1 (by have e_ : cs0.toList = _ := q0_0; rw [e_, show _ = _ from m0_0, show _ = _ from r0_0]; rfl)
  obtain ⟨cs1, rfl, _⟩ := okWide_struct Try.underlying23 (hval 1 23 v1 rfl rfl)
  have k1 := h1
  have lt1 : ∀ x ∈ p1, x.block < W.heap.size := by obtain ⟨m, hm⟩ := k1; exact DataW.trod_lt m _ _ _ hm
  obtain ⟨u1, hK1, wf1⟩ := OpenK.arg (OpenK.pair (OpenK.int Try.underlying3) (OpenK.int Try.underlying3) Try.underlying23 rfl rfl rfl rfl (by kernel_rfl) (by kernel_rfl) (by kernel_rfl)) h1 hsz (j := 1) (t := 23) rfl rfl
  obtain ⟨x1_0, y1_0⟩ := u1
  obtain ⟨d1_0, e1_0, q1_0, m1_0, r1_0⟩ := hK1
  obtain ⟨f1_0, g1_0⟩ := wf1
  obtain rfl : cs1 = #[.int .i64 x1_0, .int .i64 y1_0] := Array.toList_inj.1 (by have e_ : cs1.toList = _ := q1_0; rw [e_, show _ = _ from m1_0, show _ = _ from r1_0]; rfl)
  obtain ⟨cs2, rfl, _⟩ := okWide_struct Try.underlying23 (hval 2 23 v2 rfl rfl)
  have k2 := h2
  have lt2 : ∀ x ∈ p2, x.block < W.heap.size := by obtain ⟨m, hm⟩ := k2; exact DataW.trod_lt m _ _ _ hm
  obtain ⟨u2, hK2, wf2⟩ := OpenK.arg (OpenK.pair (OpenK.int Try.underlying3) (OpenK.int Try.underlying3) Try.underlying23 rfl rfl rfl rfl (by kernel_rfl) (by kernel_rfl) (by kernel_rfl)) h2 hsz (j := 2) (t := 23) rfl rfl
  obtain ⟨x2_0, y2_0⟩ := u2
  obtain ⟨d2_0, e2_0, q2_0, m2_0, r2_0⟩ := hK2
  obtain ⟨f2_0, g2_0⟩ := wf2
  obtain rfl : cs2 = #[.int .i64 x2_0, .int .i64 y2_0] := Array.toList_inj.1 (by have e_ : cs2.toList = _ := q2_0; rw [e_, show _ = _ from m2_0, show _ = _ from r2_0]; rfl)
  obtain ⟨cs3, rfl, _⟩ := okWide_struct Try.underlying23 (hval 3 23 v3 rfl rfl)
  have k3 := h3
  have lt3 : ∀ x ∈ p3, x.block < W.heap.size := by obtain ⟨m, hm⟩ := k3; exact DataW.trod_lt m _ _ _ hm
  obtain ⟨u3, hK3, wf3⟩ := OpenK.arg (OpenK.pair (OpenK.int Try.underlying3) (OpenK.int Try.underlying3) Try.underlying23 rfl rfl rfl rfl (by kernel_rfl) (by kernel_rfl) (by kernel_rfl)) h3 hsz (j := 3) (t := 23) rfl rfl
  obtain ⟨x3_0, y3_0⟩ := u3
  obtain ⟨d3_0, e3_0, q3_0, m3_0, r3_0⟩ := hK3
  obtain ⟨f3_0, g3_0⟩ := wf3
  obtain rfl : cs3 = #[.int .i64 x3_0, .int .i64 y3_0] := Array.toList_inj.1 (by have e_ : cs3.toList = _ := q3_0; rw [e_, show _ = _ from m3_0, show _ = _ from r3_0]; rfl)
  clear hA0 hval0 hsz0 hsz
  obtain ⟨k, hp⟩ := Pure.CrossTurns x0_0 y0_0 x1_0 y1_0 x2_0 y2_0 x3_0 y3_0 f0_0 g0_0 f1_0 g1_0 f2_0 g2_0 f3_0 g3_0
  refine (PCroA.tangramlaw26_CrossTurns.calls k x0_0 y0_0 x1_0 y1_0 x2_0 y2_0 x3_0 y3_0 true W  hp).mono fun e W' ⟨he, bel0⟩ => ?_
  have bel : Below W.heap.size W W' := bel0
  subst he
  exact ⟨_, rfl, _, _, _, [], _, [], hW', trodAll_mk1 (shut_bool Try.underlying4 _), (trodAll_cons_mk (Below.trod laidOut (by kernel_rfl) (of_decide_eq_true (by kernel_rfl)) k0 bel lt0) (trodAll_cons_mk (Below.trod laidOut (by kernel_rfl) (of_decide_eq_true (by kernel_rfl)) k1 bel lt1) (trodAll_cons_mk (Below.trod laidOut (by kernel_rfl) (of_decide_eq_true (by kernel_rfl)) k2 bel lt2) (trodAll_cons_mk (Below.trod laidOut (by kernel_rfl) (of_decide_eq_true (by kernel_rfl)) k3 bel lt3) trodAll_mk0)))), rfl, bel.frame _, fun h => by cases h⟩
theorem over : Rows.crossTurnsRow.holds Try.pinned (OpenSpec.ofChange Rows.crossTurnsSpec) :=
  OpenClaim.holds_of_wide 4 Try.f4 rfl rfl rfl rfl rfl rfl rfl ⟨rfl, rfl, rfl, rfl, rfl⟩ rfl rfl rfl rfl rfl (by kernel_rfl) Try.func4 (by kernel_rfl)
    (of_decide_eq_true (by kernel_rfl)) (by unfold Func.isWrapper; first | (rw [if_pos (by decide +kernel)]; kernel_rfl) | (rw [if_neg (by decide +kernel)]; exact ⟨rfl, rfl⟩))
    (fun os started H enc _ => lifted os started H enc)
theorem proved : Rows.CrossTurnsSaid := over
#print axioms proved
end Go.Proofs.Ythfoliejhdpbaaa.crossTurns
namespace Go.Proofs.Ythfoliejhdpbaaa
/-- The row, under a short name, for the claim. -/
theorem crossTurns_holds : Rows.CrossTurnsSaid := crossTurns.proved
end Go.Proofs.Ythfoliejhdpbaaa
