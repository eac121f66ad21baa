-- WRITTEN by rowgen.py of this session: the row of the law tangramlaw26_CrossMoved, out of its Pure and the printed walk. Not trusted: Lean checks it.
import Derived.Test.YthfoliejhdpbaaaRows
import Derived.Test.YthfoliejhdpbaaaZPCroAx53
import Derived.Test.YthfoliejhdpbaaaZPureCrossMoved
import Derived.Test.YthfoliejhdpbaaaZXOpen
import Derived.WalkKit
import Derived.ProofKit
import Derived.OpenShut
import Derived.ShutString
import Derived.ChangeOld
import Derived.Below
import Derived.SizedLaws
namespace Go.Proofs.Ythfoliejhdpbaaa.crossMoved
open Go.ChangeShapes Go.WideShapes Go.ChangeAt Go.RowKit Go.Proofs.YthfoliejhdpbaaaX
open Go.ChangeMaps (open_string shut_string)
open Go.Proofs.YthfoliejhdpbaaaW.PrintWords
set_option linter.unusedVariables false
theorem own : ownKnob Try.prog.godebug = none := by kernel_rfl
theorem laidOut : laidOutB Try.prog = true := by kernel_rfl
set_option maxRecDepth 100000 in
theorem lifted (os : Os) (started : os.Started) (H : Type) (enc : TypeId × Value → H) :
    ReturnsInHanded {} Try.checked os 8 .any (Rows.crossMovedSpec.pre6 enc Try.prog Try.f8 Rows.crossMovedRow.domain false) (Rows.crossMovedSpec.post enc Try.prog Try.f8 false true false false) := by
  refine returnsInHanded_of_change_sized (C := Try.checked) own started (by kernel_rfl) Try.func8
    (ChangeSpec.witness6 (enc := enc) (C := Try.checked) false ⟨#[], #[.agg #[.int .i64 0, .slice none 0 0], .slice none 0 0, .int .i64 0, .int .i64 0, .int .i64 0], []⟩ 8 (by kernel_rfl) (by kernel_rfl) (by kernel_rfl) (by kernel_rfl)) ?_
  intro W base args ds gs before hval0 hW hcnd hsz0 _
  have hsz : (DataW.weightsEach Try.prog (Try.f8.params.toList ++ Rows.crossMovedSpec.plain.varTypes Try.prog) (ds ++ gs)).all (· ≤ reachBytes) = true := hsz0
  have hval : ∀ (j : Nat) t v, Try.f8.params[j]? = some t → args[j]? = some v → Value.okWide Try.prog W .any base t v := hval0
  have hW' := hW
  obtain ⟨p, q, hA0, hV, rfl, hfz, hnd⟩ := hW
  have hA : DataW.TrodAll enc Try.prog W 0 (fun _ => true) true Try.f8.params.toList args.toList ds p := hA0
  rw [Try.params8] at hA hval hsz
  obtain ⟨v0, vs0, d0, ds0, p0, q0, hargs, rfl, rfl, h0, r0⟩ := trodAll_cons hA
  obtain ⟨v1, vs1, d1, ds1, p1, q1, rfl, rfl, rfl, h1, r1⟩ := trodAll_cons r0
  obtain ⟨v2, vs2, d2, ds2, p2, q2, rfl, rfl, rfl, h2, r2⟩ := trodAll_cons r1
  obtain ⟨v3, vs3, d3, ds3, p3, q3, rfl, rfl, rfl, h3, r3⟩ := trodAll_cons r2
  obtain ⟨v4, vs4, d4, ds4, p4, q4, rfl, rfl, rfl, h4, r4⟩ := trodAll_cons r3
  obtain ⟨rfl, rfl, rfl⟩ := trodAll_nil r4
  obtain rfl : args = #[v0, v1, v2, v3, v4] := by cases args; simp_all
  obtain ⟨rfl, rfl⟩ := trodVars_none hV
  obtain ⟨cs0, rfl, _⟩ := okWide_struct Try.underlying31 (hval 0 31 v0 rfl rfl)
  have k0 := h0
  have lt0 : ∀ x ∈ p0, x.block < W.heap.size := by obtain ⟨m, hm⟩ := k0; exact DataW.trod_lt m _ _ _ hm
  obtain ⟨u0, hK0, wf0⟩ := OpenK.arg (OpenK.pair (OpenK.int Try.underlying3) (OpenK.slice (B := 16) (OpenK.iso (OpenK.pair (OpenK.int Try.underlying3) (OpenK.int Try.underlying3) Try.underlying62 rfl rfl rfl rfl (by kernel_rfl) (by kernel_rfl) (by kernel_rfl)) (fun x : PCroA.S62 => (x.f0, x.f1)) (fun p => ⟨p.1, p.2⟩) (fun _ => rfl)) Try.underlying29 (by kernel_rfl) (by kernel_rfl)) Try.underlying31 rfl rfl rfl rfl (by kernel_rfl) (by kernel_rfl) (by kernel_rfl)) h0 hsz (j := 0) (t := 31) rfl rfl
  obtain ⟨x0_0, y0_0⟩ := u0
  obtain ⟨d0_0, e0_0, q0_0, m0_0, r0_0⟩ := hK0
  obtain ⟨f0_0, g0_0⟩ := wf0
  obtain ⟨B0_1, z0_1, Q0_1, C0_1, R0_1⟩ := r0_0
  obtain ⟨wa0_1, wb0_1, wc0_1⟩ := g0_0
  obtain rfl : cs0 = #[.int .i64 x0_0, .slice B0_1 y0_0.length z0_1] := Array.toList_inj.1 (by have e_ : cs0.toList = _ := q0_0; rw [e_, show _ = _ from m0_0, show _ = _ from Q0_1]; rfl)
  obtain ⟨A1, len1, c1, rfl⟩ := okWide_slice Try.underlying32 (hval 1 32 v1 rfl rfl)
  have k1 := h1
  have lt1 : ∀ x ∈ p1, x.block < W.heap.size := by obtain ⟨m, hm⟩ := k1; exact DataW.trod_lt m _ _ _ hm
  obtain ⟨u1, hK1, wf1⟩ := OpenK.arg (OpenK.slice (B := 16) (OpenK.iso (OpenK.pair (OpenK.int Try.underlying3) (OpenK.int Try.underlying3) Try.underlying23 rfl rfl rfl rfl (by kernel_rfl) (by kernel_rfl) (by kernel_rfl)) (fun x : PCroA.S23 => (x.f0, x.f1)) (fun p => ⟨p.1, p.2⟩) (fun _ => rfl)) Try.underlying32 (by kernel_rfl) (by kernel_rfl)) h1 hsz (j := 1) (t := 32) rfl rfl
  obtain ⟨B1_0, z1_0, Q1_0, C1_0, R1_0⟩ := hK1
  obtain ⟨wa1_0, wb1_0, wc1_0⟩ := wf1
  obtain ⟨rfl, rfl, rfl⟩ : A1 = B1_0 ∧ len1 = u1.length ∧ c1 = z1_0 := by have e_ : [Value.slice A1 len1 c1] = _ := Q1_0; simpa using e_
  obtain ⟨a2, rfl, rfl, rfl, w2⟩ := open_int Try.underlying3 (hval 2 3 v2 rfl rfl) h2
  obtain ⟨a3, rfl, rfl, rfl, w3⟩ := open_int Try.underlying3 (hval 3 3 v3 rfl rfl) h3
  obtain ⟨a4, rfl, rfl, rfl, w4⟩ := open_int Try.underlying3 (hval 4 3 v4 rfl rfl) h4
  clear hA0 hval0 hsz0 hsz
  obtain ⟨k, hp⟩ := Pure.CrossMoved x0_0 y0_0 u1 a2 a3 a4 f0_0 wa0_1 wb0_1 wc0_1 wa1_0 wb1_0 wc1_0 w2 w3 w4
  refine (PCroA.tangramlaw26_CrossMoved.calls k x0_0 _ _ y0_0 _ _ u1 a2 a3 a4 true W R0_1 C0_1 R1_0 C1_0 hp).mono fun e W' ⟨he, bel0⟩ => ?_
  have bel : Below W.heap.size W W' := bel0
  subst he
  exact ⟨_, rfl, _, _, _, [], _, [], hW', trodAll_mk1 (shut_bool Try.underlying4 _), (trodAll_cons_mk (Below.trod laidOut (by kernel_rfl) (of_decide_eq_true (by kernel_rfl)) k0 bel lt0) (trodAll_cons_mk (Below.trod laidOut (by kernel_rfl) (of_decide_eq_true (by kernel_rfl)) k1 bel lt1) (trodAll_cons_mk (shut_int Try.underlying3 w2) (trodAll_cons_mk (shut_int Try.underlying3 w3) (trodAll_cons_mk (shut_int Try.underlying3 w4) trodAll_mk0))))), rfl, bel.frame _, fun h => by cases h⟩
theorem over : Rows.crossMovedRow.holds Try.pinned (OpenSpec.ofChange Rows.crossMovedSpec) :=
  OpenClaim.holds_of_wide 8 Try.f8 rfl rfl rfl rfl rfl rfl rfl ⟨rfl, rfl, rfl, rfl, rfl⟩ rfl rfl rfl rfl rfl (by kernel_rfl) Try.func8 (by kernel_rfl)
    (of_decide_eq_true (by kernel_rfl)) (by unfold Func.isWrapper; first | (rw [if_pos (by decide +kernel)]; kernel_rfl) | (rw [if_neg (by decide +kernel)]; exact ⟨rfl, rfl⟩))
    (fun os started H enc _ => lifted os started H enc)
theorem proved : Rows.CrossMovedSaid := over
#print axioms proved
end Go.Proofs.Ythfoliejhdpbaaa.crossMoved
namespace Go.Proofs.Ythfoliejhdpbaaa
/-- The row, under a short name, for the claim. -/
theorem crossMoved_holds : Rows.CrossMovedSaid := crossMoved.proved
end Go.Proofs.Ythfoliejhdpbaaa
