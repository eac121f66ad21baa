-- PRINTED by print.py: the row of the law tangramlaw03_SimpleReads, out of its Pure (the session's) and the printed walk. Not trusted: Lean checks it.
import Derived.Test.YthejafdcdcchbaaDoorRows
import Derived.Test.YthejafdcdcchbaaDoorZPSimAx43
import Derived.Test.YthejafdcdcchbaaDoorZPureSimpleReads
import Derived.Test.YthejafdcdcchbaaDoorCards
import Derived.Test.YthejafdcdcchbaaDoorTie
import Derived.Deep.DeepHandedRow
import Derived.SevenTiedAt
import Derived.LaidLaws
import Derived.Stop.LaidErr
import Derived.Lib.LaidTab
import Derived.WalkKit
import Derived.ProofKit
import Derived.OpenShut
import Derived.ShutString
import Derived.ChangeOld
import Derived.Below
import Derived.SizedLaws
import Derived.Test.YthejafdcdcchbaaDoorV
namespace Go.Proofs.YthejafdcdcchbaaDoor.simpleReads
open Go.ChangeShapes Go.WideShapes Go.ChangeAt Go.RowKit
open Go.ChangeMaps (open_string shut_string)
set_option linter.unusedVariables false
set_option linter.unusedSimpArgs false
theorem own : ownKnob Tryd.prog.godebug = none := by kernel_rfl
theorem laidOut : laidOutB Tryd.prog = true := by kernel_rfl
def IsRow (k : IntKind) (w : World) (a : Option Addr) (len cap : Nat) (zs : List Int) : Prop :=
 (a = none ∧ len = 0 ∧ cap = 0 ∧ zs = []) ∨
 ∃ x, a = some x ∧ len ≤ cap ∧ cap ≤ maxLen ∧ zs.length = cap ∧ (∀ i, i < zs.length → w.cell? (x.add i) = some (.int k (zs.getD i 0))) ∧ ∀ n ∈ zs, (Lit.int k n).wf = true
abbrev sp : OpenSpec := OpenSpec.ofChange Rows.simpleReadsSpec
def tabOf (k : IntKind) (l : List Int) : Obj → Obj
  | .cells _ t frozen => .cells (l.map fun z => Value.int k z).toArray t frozen
  | o => o
def t32 : List Int := [0, 1, 28, 2, 29, 14, 24, 3, 30, 22, 20, 15, 25, 17, 4, 8, 31, 27, 13, 23, 21, 19, 16, 7, 26, 12, 18, 6, 11, 5, 10, 9]
def t64 : List Int := [0, 1, 56, 2, 57, 49, 28, 3, 61, 58, 42, 50, 38, 29, 17, 4, 62, 47, 59, 36, 45, 43, 51, 22, 53, 39, 33, 30, 24, 18, 12, 5, 63, 55, 48, 27, 60, 41, 37, 16, 46, 35, 44, 21, 52, 32, 23, 11, 54, 26, 40, 15, 34, 20, 31, 10, 25, 14, 19, 9, 13, 8, 7, 6]
noncomputable def laidWorld (os : Os) : World :=
  { World.holding Tryd.prog os ⟨#[], #[], []⟩ with heap := (((World.holding Tryd.prog os ⟨#[], #[], []⟩).heap.modify 0 (tabOf .u64 Lib.pow10Tab)).modify 2 (tabOf .u8 t32)).modify 3 (tabOf .u8 t64) }
theorem laid_met (os : Os) (args : Array Value) : laidMet Tryd.prog Rows.simpleReadsRow.laid ((laidWorld os).forCall (fun _ _ => 0) ⟨#[], args, []⟩).memory :=
  laidMet_of_run' 8 (by kernel_rfl) (by kernel_rfl)
theorem witness_row (os : Os) {H : Type} (enc : TypeId × Value → H) :
    sp.preRow enc Tryd.prog Tryd.f9 Rows.simpleReadsRow.domain false Rows.simpleReadsRow.laid ((laidWorld os).forCall (fun _ _ => 0) ⟨#[], #[.slice none 0 0], []⟩).memory #[.slice none 0 0] := by
  have hw : (DataW.whole enc Tryd.prog ((laidWorld os).forCall (fun _ _ => 0) ⟨#[], #[.slice none 0 0], []⟩).memory Tryd.f9.params.toList sp.vars false (#[.slice none 0 0] : Array Value).toList 8).map (fun x => (x.1, x.2.1)) =
      some ([.nil], []) := by kernel_rfl
  obtain ⟨⟨x1, x2, x3⟩, hx, hx1⟩ := Option.map_eq_some_iff.1 hw
  simp only [Prod.mk.injEq] at hx1
  obtain ⟨rfl, rfl⟩ := hx1
  exact OpenSpec.preRow_of_cond 8 hx (by kernel_rfl) (fun k hk => by cases hk) (by kernel_rfl) (laid_met os _)
set_option maxRecDepth 100000 in
theorem lifted (os : Os) (started : os.Started) (H : Type) (enc : TypeId × Value → H) (F : Stop.Interp) :
  ReturnsInHanded {} Tryd.checked os 9 .any (sp.preRow enc Tryd.prog Tryd.f9 Rows.simpleReadsRow.domain false Rows.simpleReadsRow.laid) ((sp.at F).post enc Tryd.prog Tryd.f9 false true false false) := by
 refine returnsInHanded_of_row (C := Tryd.checked) (s := sp) own started (by kernel_rfl) Tryd.func9
  (witness_row_at (enc := enc) (C := Tryd.checked) false (laidWorld os) #[.slice none 0 0] rfl (by kernel_rfl) (by kernel_rfl) (by kernel_rfl) (witness_row os enc)) ?_
 intro W base args ds gs before hval0 hW hcnd _ hsz0 hL hsh _; have hT : PSimA.TabW W := Lib.tabIs_of_head (g := 0) (t := 141) (e := 120) (n := 20) (by kernel_rfl) (by kernel_rfl) Tryd.underlying141 Tryd.underlying120 (by kernel_rfl) (by kernel_rfl) hL.tail.tail; have hsz : (DataW.weightsEach Tryd.prog (Tryd.f9.params.toList ++ Rows.simpleReadsSpec.plain.varTypes Tryd.prog) (ds ++ gs)).all (· ≤ reachBytes) = true := hsz0; have hval : ∀ (j : Nat) t v, Tryd.f9.params[j]? = some t → args[j]? = some v → Value.okWide Tryd.prog W .any base t v := hval0; have hW' := hW; obtain ⟨p, q, hA0, hV, rfl, hfz, hnd⟩ := hW; have hA : DataW.TrodAll enc Tryd.prog W 0 (fun _ => true) true Tryd.f9.params.toList args.toList ds p := hA0; rw [Tryd.params9] at hA hval hsz; obtain ⟨v0, vs0, d0, ds0, p0, q0, hargs, rfl, rfl, h0, r0⟩ := trodAll_cons hA; obtain ⟨rfl, rfl, rfl⟩ := trodAll_nil r0; obtain rfl : args = #[v0] := by cases args; simp_all
 obtain ⟨rfl, rfl⟩ := trodVars_none hV; obtain ⟨a0, len0, cap0, rfl⟩ := okWide_slice Tryd.underlying56 (hval 0 56 v0 rfl rfl); have k0 := h0; have lt0 : ∀ x ∈ p0, x.block < W.heap.size := by obtain ⟨m, hm⟩ := k0; exact DataW.trod_lt m _ _ _ hm
 obtain ⟨z0, w0⟩ : ∃ zs, IsRow .u8 W a0 len0 cap0 zs := by
  obtain ⟨fuel, hf⟩ := h0
  rcases open_ints Tryd.underlying56 Tryd.underlying5 (by kernel_rfl) hf with ⟨hcs, _⟩ | ⟨x, l, c, zs, hcs, _, hl, hm, hz, _, hcell, hwz⟩
  ·simp [Value.cells] at hcs
   obtain ⟨rfl, rfl, rfl⟩ := hcs; exact ⟨[], .inl ⟨rfl, rfl, rfl, rfl⟩⟩
  ·simp [Value.cells] at hcs
   obtain ⟨rfl, rfl, rfl⟩ := hcs; exact ⟨zs, .inr ⟨_, rfl, hl, hm, by simpa using hz, hcell, hwz⟩⟩
 have y0 : len0 * 1 ≤ 140737488351232 := Go.Proofs.YthejafdcdcchbaaDoorW.PrintWords.sized_ints hsz (j := 0) (t := 56) rfl rfl Tryd.underlying56 Tryd.underlying5 (by kernel_rfl) (by kernel_rfl) h0; clear hA0 hval0 hsz0 hsz; refine (PSimA.tangramlaw03_SimpleReads.walk Pure.SimpleReads a0 len0 cap0 z0 W hT w0 y0).mono fun e W' ⟨he, bel⟩ => ?_
 subst he; exact ⟨_, rfl, _, _, _, [], _, [], hW', trodAll_mk1 (shut_bool Tryd.underlying4 _), (trodAll_cons_mk (Below.trod laidOut (by kernel_rfl) (of_decide_eq_true (by kernel_rfl)) k0 bel lt0) trodAll_mk0), rfl, bel.frame _, fun h => by cases h⟩
theorem over : Rows.simpleReadsRow.holds Tryd.pinned (OpenSpec.ofChange Rows.simpleReadsSpec) :=
 OpenClaim.holds_of_cond 9 Tryd.f9 rfl rfl rfl rfl rfl rfl rfl ⟨rfl, rfl, rfl, rfl, rfl⟩ rfl rfl rfl rfl rfl (by kernel_rfl) Tryd.func9 (by kernel_rfl)
  (of_decide_eq_true (by kernel_rfl)) (by unfold Func.isWrapper; first | (rw [if_pos (by decide +kernel)]; kernel_rfl) | (rw [if_neg (by decide +kernel)]; exact ⟨rfl, rfl⟩))
  (fun os started H enc _ F => by rw [OpenClaim.pre_eq_preRow]; exact lifted os started H enc F)
theorem proved : Rows.SimpleReadsSaid := over
theorem card : Rows.SimpleReadsCardSaid :=
  Claim7.holds_tied_plain_at .later [] [.data, .data, .data] true (true, "63b82a061c178418602bf4ab6da3678f1b6bf1544a2b209ad97358707310d6c2") true
    over (fun _ h => by cases h) (by kernel_rfl) (fun _ h => by cases h) simpleReads_row_tie rfl ⟨rfl, rfl⟩ (by kernel_rfl) rfl
    (fun f fn hf hfn => by
      obtain rfl : f = 9 := Option.some.inj ((show Tryd.prog.funcNamed "tangram/tangramlaw03.SimpleReads" = some 9 by kernel_rfl).symm.trans hf) |>.symm
      obtain rfl : fn = Tryd.f9 := (Option.some.inj (Tryd.func9.symm.trans hfn)).symm
      exact ⟨by kernel_rfl, fun j t ht => by
        rw [Tryd.params9] at ht
        have hm : t ∈ [56] := by
          have hm := Array.mem_of_getElem? ht
          simp only [List.mem_toArray, List.mem_cons, List.not_mem_nil, or_false] at hm ⊢
          revert hm
          first | exact id | (intro hm; rcases hm with rfl | rfl <;> simp) | (intro hm; rcases hm with rfl | rfl | rfl <;> simp)
        have hall : ([56].all fun u => !Tryd.prog.wantsStandIn u) = true := by kernel_rfl
        exact (show Tryd.prog.wantsStandIn t = false by simpa using List.all_eq_true.1 hall t hm)⟩)
    (by kernel_rfl)
#print axioms card
end Go.Proofs.YthejafdcdcchbaaDoor.simpleReads
namespace Go.Proofs.YthejafdcdcchbaaDoor
/-- The card, under a short name, for the claim. -/
theorem simpleReads_holds : Rows.SimpleReadsCardSaid := simpleReads.card
end Go.Proofs.YthejafdcdcchbaaDoor
