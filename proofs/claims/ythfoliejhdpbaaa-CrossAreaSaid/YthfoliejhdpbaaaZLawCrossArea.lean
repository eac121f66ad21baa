-- WRITTEN by rowgen.py of this session: the row of the law tangramlaw26_CrossArea, out of its Pure and the printed walk. Not trusted: Lean checks it.
import Derived.Test.YthfoliejhdpbaaaRows
import Derived.Test.YthfoliejhdpbaaaZPCroAx43
import Derived.Test.YthfoliejhdpbaaaZPureCrossArea
import Derived.Test.YthfoliejhdpbaaaZXOpen
import Derived.WalkKit
import Derived.ProofKit
import Derived.OpenShut
import Derived.ShutString
import Derived.ChangeOld
import Derived.Below
import Derived.SizedLaws
namespace Go.Proofs.Ythfoliejhdpbaaa.crossArea
open Go.ChangeShapes Go.WideShapes Go.ChangeAt Go.RowKit Go.Proofs.YthfoliejhdpbaaaX
open Go.ChangeMaps (open_string shut_string)
open Go.Proofs.YthfoliejhdpbaaaW.PrintWords
set_option linter.unusedVariables false
theorem own : ownKnob Try.prog.godebug = none := by kernel_rfl
theorem laidOut : laidOutB Try.prog = true := by kernel_rfl
set_option maxRecDepth 100000 in
theorem lifted (os : Os) (started : os.Started) (H : Type) (enc : TypeId × Value → H) :
    ReturnsInHanded {} Try.checked os 7 .any (Rows.crossAreaSpec.pre6 enc Try.prog Try.f7 Rows.crossAreaRow.domain false) (Rows.crossAreaSpec.post enc Try.prog Try.f7 false true false false) := by
  refine returnsInHanded_of_change_sized (C := Try.checked) own started (by kernel_rfl) Try.func7
    (ChangeSpec.witness6 (enc := enc) (C := Try.checked) false ⟨#[], #[.slice none 0 0], []⟩ 8 (by kernel_rfl) (by kernel_rfl) (by kernel_rfl) (by kernel_rfl)) ?_
  intro W base args ds gs before hval0 hW hcnd hsz0 _
  have hsz : (DataW.weightsEach Try.prog (Try.f7.params.toList ++ Rows.crossAreaSpec.plain.varTypes Try.prog) (ds ++ gs)).all (· ≤ reachBytes) = true := hsz0
  have hval : ∀ (j : Nat) t v, Try.f7.params[j]? = some t → args[j]? = some v → Value.okWide Try.prog W .any base t v := hval0
  have hW' := hW
  obtain ⟨p, q, hA0, hV, rfl, hfz, hnd⟩ := hW
  have hA : DataW.TrodAll enc Try.prog W 0 (fun _ => true) true Try.f7.params.toList args.toList ds p := hA0
  rw [Try.params7] at hA hval hsz
  obtain ⟨v0, vs0, d0, ds0, p0, q0, hargs, rfl, rfl, h0, r0⟩ := trodAll_cons hA
  obtain ⟨rfl, rfl, rfl⟩ := trodAll_nil r0
  obtain rfl : args = #[v0] := by cases args; simp_all
  obtain ⟨rfl, rfl⟩ := trodVars_none hV
  obtain ⟨A0, len0, c0, rfl⟩ := okWide_slice Try.underlying32 (hval 0 32 v0 rfl rfl)
  have k0 := h0
  have lt0 : ∀ x ∈ p0, x.block < W.heap.size := by obtain ⟨m, hm⟩ := k0; exact DataW.trod_lt m _ _ _ hm
  obtain ⟨u0, hK0, wf0⟩ := OpenK.arg (OpenK.slice (B := 16) (OpenK.iso (OpenK.pair (OpenK.int Try.underlying3) (OpenK.int Try.underlying3) Try.underlying23 rfl rfl rfl rfl (by kernel_rfl) (by kernel_rfl) (by kernel_rfl)) (fun x : PCroA.S23 => (x.f0, x.f1)) (fun p => ⟨p.1, p.2⟩) (fun _ => rfl)) Try.underlying32 (by kernel_rfl) (by kernel_rfl)) h0 hsz (j := 0) (t := 32) rfl rfl
  obtain ⟨B0_0, z0_0, Q0_0, C0_0, R0_0⟩ := hK0
  obtain ⟨wa0_0, wb0_0, wc0_0⟩ := wf0
  obtain ⟨rfl, rfl, rfl⟩ : A0 = B0_0 ∧ len0 = u0.length ∧ c0 = z0_0 := by have e_ : [Value.slice A0 len0 c0] = _ := Q0_0; simpa using e_
  clear hA0 hval0 hsz0 hsz
  obtain ⟨k, hp⟩ := Pure.CrossArea u0 wa0_0 wb0_0 wc0_0
  refine (PCroA.tangramlaw26_CrossArea.calls k _ _ u0 true W R0_0 C0_0 hp).mono fun e W' ⟨he, bel0⟩ => ?_
  have bel : Below W.heap.size W W' := bel0
  subst he
  exact ⟨_, rfl, _, _, _, [], _, [], hW', trodAll_mk1 (shut_bool Try.underlying4 _), (trodAll_cons_mk (Below.trod laidOut (by kernel_rfl) (of_decide_eq_true (by kernel_rfl)) k0 bel lt0) trodAll_mk0), rfl, bel.frame _, fun h => by cases h⟩
theorem over : Rows.crossAreaRow.holds Try.pinned (OpenSpec.ofChange Rows.crossAreaSpec) :=
  OpenClaim.holds_of_wide 7 Try.f7 rfl rfl rfl rfl rfl rfl rfl ⟨rfl, rfl, rfl, rfl, rfl⟩ rfl rfl rfl rfl rfl (by kernel_rfl) Try.func7 (by kernel_rfl)
    (of_decide_eq_true (by kernel_rfl)) (by unfold Func.isWrapper; first | (rw [if_pos (by decide +kernel)]; kernel_rfl) | (rw [if_neg (by decide +kernel)]; exact ⟨rfl, rfl⟩))
    (fun os started H enc _ => lifted os started H enc)
theorem proved : Rows.CrossAreaSaid := over
#print axioms proved
end Go.Proofs.Ythfoliejhdpbaaa.crossArea
namespace Go.Proofs.Ythfoliejhdpbaaa
/-- The row, under a short name, for the claim. -/
theorem crossArea_holds : Rows.CrossAreaSaid := crossArea.proved
end Go.Proofs.Ythfoliejhdpbaaa
