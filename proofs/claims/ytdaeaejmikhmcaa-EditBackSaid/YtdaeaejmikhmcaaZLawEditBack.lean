-- WRITTEN by rowgen.py of this session: the row of the law tangramlaw14_EditBack, out of its Pure and the printed walk. Not trusted: Lean checks it.
import Derived.Test.YtdaeaejmikhmcaaRows
import Derived.Test.YtdaeaejmikhmcaaZPEditCx43
import Derived.Test.YtdaeaejmikhmcaaZPureEditBack
import Derived.Test.YtdaeaejmikhmcaaZXOpen
import Derived.WalkKit
import Derived.ProofKit
import Derived.OpenShut
import Derived.ShutString
import Derived.ChangeOld
import Derived.Below
import Derived.SizedLaws
namespace Go.Proofs.Ytdaeaejmikhmcaa.editBack
open Go.ChangeShapes Go.WideShapes Go.ChangeAt Go.RowKit Go.Proofs.YtdaeaejmikhmcaaX
open Go.ChangeMaps (open_string shut_string)
open Go.Proofs.YtdaeaejmikhmcaaW.PrintWords
set_option linter.unusedVariables false
theorem own : ownKnob Try.prog.godebug = none := by kernel_rfl
theorem laidOut : laidOutB Try.prog = true := by kernel_rfl
set_option maxRecDepth 100000 in
theorem lifted (os : Os) (started : os.Started) (H : Type) (enc : TypeId × Value → H) :
    ReturnsInHanded {} Try.checked os 8 .any (Rows.editBackSpec.pre6 enc Try.prog Try.f8 Rows.editBackRow.domain false) (Rows.editBackSpec.post enc Try.prog Try.f8 false true false false) := by
  refine returnsInHanded_of_change_sized (C := Try.checked) own started (by kernel_rfl) Try.func8
    (ChangeSpec.witness6 (enc := enc) (C := Try.checked) false ⟨#[], #[.agg #[.int .i64 0, .slice none 0 0], .int .i64 0, .agg #[.int .i64 0, .int .i64 0]], []⟩ 8 (by kernel_rfl) (by kernel_rfl) (by kernel_rfl) (by kernel_rfl)) ?_
  intro W base args ds gs before hval0 hW hcnd hsz0 _
  have hsz : (DataW.weightsEach Try.prog (Try.f8.params.toList ++ Rows.editBackSpec.plain.varTypes Try.prog) (ds ++ gs)).all (· ≤ reachBytes) = true := hsz0
  have hval : ∀ (j : Nat) t v, Try.f8.params[j]? = some t → args[j]? = some v → Value.okWide Try.prog W .any base t v := hval0
  have hW' := hW
  obtain ⟨p, q, hA0, hV, rfl, hfz, hnd⟩ := hW
  have hA : DataW.TrodAll enc Try.prog W 0 (fun _ => true) true Try.f8.params.toList args.toList ds p := hA0
  rw [Try.params8] at hA hval hsz
  obtain ⟨v0, vs0, d0, ds0, p0, q0, hargs, rfl, rfl, h0, r0⟩ := trodAll_cons hA
  obtain ⟨v1, vs1, d1, ds1, p1, q1, rfl, rfl, rfl, h1, r1⟩ := trodAll_cons r0
  obtain ⟨v2, vs2, d2, ds2, p2, q2, rfl, rfl, rfl, h2, r2⟩ := trodAll_cons r1
  obtain ⟨rfl, rfl, rfl⟩ := trodAll_nil r2
  obtain rfl : args = #[v0, v1, v2] := by cases args; simp_all
  obtain ⟨rfl, rfl⟩ := trodVars_none hV
  obtain ⟨cs0, rfl, _⟩ := okWide_struct Try.underlying25 (hval 0 25 v0 rfl rfl)
  have k0 := h0
  have lt0 : ∀ x ∈ p0, x.block < W.heap.size := by obtain ⟨m, hm⟩ := k0; exact DataW.trod_lt m _ _ _ hm
  obtain ⟨u0, hK0, wf0⟩ := OpenK.arg (OpenK.pair (OpenK.int Try.underlying3) (OpenK.slice (B := 16) (OpenK.iso (OpenK.pair (OpenK.int Try.underlying3) (OpenK.int Try.underlying3) Try.underlying46 rfl rfl rfl rfl (by kernel_rfl) (by kernel_rfl) (by kernel_rfl)) (fun x : PEditC.S46 => (x.f0, x.f1)) (fun p => ⟨p.1, p.2⟩) (fun _ => rfl)) Try.underlying23 (by kernel_rfl) (by kernel_rfl)) Try.underlying25 rfl rfl rfl rfl (by kernel_rfl) (by kernel_rfl) (by kernel_rfl)) h0 hsz (j := 0) (t := 25) rfl rfl
  obtain ⟨x0_0, y0_0⟩ := u0
  obtain ⟨d0_0, e0_0, q0_0, m0_0, r0_0⟩ := hK0
  obtain ⟨f0_0, g0_0⟩ := wf0
  obtain ⟨B0_1, z0_1, Q0_1, C0_1, R0_1⟩ := r0_0
  obtain ⟨wa0_1, wb0_1, wc0_1⟩ := g0_0
  obtain rfl : cs0 = #[.int .i64 x0_0, .slice B0_1 y0_0.length z0_1] := Array.toList_inj.1 (by have e_ : cs0.toList = _ := q0_0; rw [e_, show _ = _ from m0_0, show _ = _ from Q0_1]; rfl)
  obtain ⟨a1, rfl, rfl, rfl, w1⟩ := open_int Try.underlying3 (hval 1 3 v1 rfl rfl) h1
  obtain ⟨cs2, rfl, _⟩ := okWide_struct Try.underlying46 (hval 2 46 v2 rfl rfl)
  have k2 := h2
  have lt2 : ∀ x ∈ p2, x.block < W.heap.size := by obtain ⟨m, hm⟩ := k2; exact DataW.trod_lt m _ _ _ hm
  obtain ⟨u2, hK2, wf2⟩ := OpenK.arg (OpenK.pair (OpenK.int Try.underlying3) (OpenK.int Try.underlying3) Try.underlying46 rfl rfl rfl rfl (by kernel_rfl) (by kernel_rfl) (by kernel_rfl)) h2 hsz (j := 2) (t := 46) rfl rfl
  obtain ⟨x2_0, y2_0⟩ := u2
  obtain ⟨d2_0, e2_0, q2_0, m2_0, r2_0⟩ := hK2
  obtain ⟨f2_0, g2_0⟩ := wf2
  obtain rfl : cs2 = #[.int .i64 x2_0, .int .i64 y2_0] := Array.toList_inj.1 (by have e_ : cs2.toList = _ := q2_0; rw [e_, show _ = _ from m2_0, show _ = _ from r2_0]; rfl)
  clear hA0 hval0 hsz0 hsz
  obtain ⟨k, hp⟩ := Pure.EditBack x0_0 y0_0 a1 x2_0 y2_0 f0_0 wa0_1 wb0_1 wc0_1 w1 f2_0 g2_0
  refine (PEditC.tangramlaw14_EditBack.calls k x0_0 _ _ y0_0 a1 x2_0 y2_0 true W R0_1 C0_1 hp).mono fun e W' ⟨he, bel0⟩ => ?_
  have bel : Below W.heap.size W W' := bel0
  subst he
  exact ⟨_, rfl, _, _, _, [], _, [], hW', trodAll_mk1 (shut_bool Try.underlying4 _), (trodAll_cons_mk (Below.trod laidOut (by kernel_rfl) (of_decide_eq_true (by kernel_rfl)) k0 bel lt0) (trodAll_cons_mk (shut_int Try.underlying3 w1) (trodAll_cons_mk (Below.trod laidOut (by kernel_rfl) (of_decide_eq_true (by kernel_rfl)) k2 bel lt2) trodAll_mk0))), rfl, bel.frame _, fun h => by cases h⟩
theorem over : Rows.editBackRow.holds Try.pinned (OpenSpec.ofChange Rows.editBackSpec) :=
  OpenClaim.holds_of_wide 8 Try.f8 rfl rfl rfl rfl rfl rfl rfl ⟨rfl, rfl, rfl, rfl, rfl⟩ rfl rfl rfl rfl rfl (by kernel_rfl) Try.func8 (by kernel_rfl)
    (of_decide_eq_true (by kernel_rfl)) (by unfold Func.isWrapper; first | (rw [if_pos (by decide +kernel)]; kernel_rfl) | (rw [if_neg (by decide +kernel)]; exact ⟨rfl, rfl⟩))
    (fun os started H enc _ => lifted os started H enc)
theorem proved : Rows.EditBackSaid := over
#print axioms proved
end Go.Proofs.Ytdaeaejmikhmcaa.editBack
namespace Go.Proofs.Ytdaeaejmikhmcaa
/-- The row, under a short name, for the claim. -/
theorem editBack_holds : Rows.EditBackSaid := editBack.proved
end Go.Proofs.Ytdaeaejmikhmcaa
