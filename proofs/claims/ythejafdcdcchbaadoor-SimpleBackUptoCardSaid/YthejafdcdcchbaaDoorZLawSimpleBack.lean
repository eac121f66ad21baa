-- WRITTEN by rowgen.py of this session: the row of the law tangramlaw03_SimpleBack, out of its Pure and the printed walk. Not trusted: Lean checks it.
import Derived.Test.YthejafdcdcchbaaDoorRows
import Derived.Test.YthejafdcdcchbaaDoorZPSimAx48
import Derived.Test.YthejafdcdcchbaaDoorZPureSimpleBack
import Derived.Test.YthejafdcdcchbaaDoorZXOpen
import Derived.Test.YthejafdcdcchbaaDoorCards
import Derived.Test.YthejafdcdcchbaaDoorTie
import Derived.Deep.DeepHandedRow
import Derived.SevenTiedAt
import Derived.LaidLaws
import Derived.Stop.LaidErr
import Derived.Lib.LaidTab
import Derived.WalkKit
import Derived.ProofKit
import Derived.OpenShut
import Derived.ShutString
import Derived.ChangeOld
import Derived.Below
import Derived.SizedLaws
namespace Go.Proofs.YthejafdcdcchbaaDoor.simpleBack
open Go.ChangeShapes Go.WideShapes Go.ChangeAt Go.RowKit Go.Proofs.YthejafdcdcchbaaDoorX
open Go.ChangeMaps (open_string shut_string)
open Go.Proofs.YthejafdcdcchbaaDoorW.PrintWords
set_option linter.unusedVariables false
set_option linter.unusedSimpArgs false
theorem own : ownKnob Tryd.prog.godebug = none := by kernel_rfl
theorem laidOut : laidOutB Tryd.prog = true := by kernel_rfl
abbrev sp : OpenSpec := Rows.OpenSpec.upto Rows.simpleBackSpec
theorem bulk_lits {H : Type} (k : IntKind) : ∀ zs : List Int, zs.length ≤ Rows.uptoBulkAll (H := H) (lits k zs)
  | [] => Nat.zero_le _
  | z :: r => by
    have := bulk_lits (H := H) k r
    simp only [lits, List.map_cons, Rows.uptoBulkAll, Rows.uptoBulk, List.length_cons] at this ⊢
    omega
theorem bulk_row {H : Type} (k : IntKind) (zs : List Int) (n : Nat) (m : Nat) (h : n ≤ zs.length) : n ≤ Rows.uptoBulk (H := H) (.slice (lits k (zs.take n)) (lits k (zs.drop m))) := by
  have := bulk_lits (H := H) k (zs.take n)
  simp only [Rows.uptoBulk]
  rw [List.length_take] at this
  omega
def tabOf (k : IntKind) (l : List Int) : Obj → Obj
  | .cells _ t frozen => .cells (l.map fun z => Value.int k z).toArray t frozen
  | o => o
def t32 : List Int := [0, 1, 28, 2, 29, 14, 24, 3, 30, 22, 20, 15, 25, 17, 4, 8, 31, 27, 13, 23, 21, 19, 16, 7, 26, 12, 18, 6, 11, 5, 10, 9]
def t64 : List Int := [0, 1, 56, 2, 57, 49, 28, 3, 61, 58, 42, 50, 38, 29, 17, 4, 62, 47, 59, 36, 45, 43, 51, 22, 53, 39, 33, 30, 24, 18, 12, 5, 63, 55, 48, 27, 60, 41, 37, 16, 46, 35, 44, 21, 52, 32, 23, 11, 54, 26, 40, 15, 34, 20, 31, 10, 25, 14, 19, 9, 13, 8, 7, 6]
noncomputable def laidWorld (os : Os) : World :=
  { World.holding Tryd.prog os ⟨#[], #[], []⟩ with heap := (((World.holding Tryd.prog os ⟨#[], #[], []⟩).heap.modify 0 (tabOf .u64 Lib.pow10Tab)).modify 2 (tabOf .u8 t32)).modify 3 (tabOf .u8 t64) }
theorem laid_met (os : Os) (args : Array Value) : laidMet Tryd.prog Rows.simpleBackUptoRow.laid ((laidWorld os).forCall (fun _ _ => 0) ⟨#[], args, []⟩).memory :=
  laidMet_of_run' 8 (by kernel_rfl) (by kernel_rfl)
theorem witness_row (os : Os) {H : Type} (enc : TypeId × Value → H) :
    sp.preRow enc Tryd.prog Tryd.f10 Rows.simpleBackUptoRow.domain false Rows.simpleBackUptoRow.laid ((laidWorld os).forCall (fun _ _ => 0) ⟨#[], #[.agg #[.int .i64 0, .slice none 0 0], .slice none 0 0, .slice none 0 0], []⟩).memory #[.agg #[.int .i64 0, .slice none 0 0], .slice none 0 0, .slice none 0 0] := by
  have hw : (DataW.whole enc Tryd.prog ((laidWorld os).forCall (fun _ _ => 0) ⟨#[], #[.agg #[.int .i64 0, .slice none 0 0], .slice none 0 0, .slice none 0 0], []⟩).memory Tryd.f10.params.toList sp.vars false (#[.agg #[.int .i64 0, .slice none 0 0], .slice none 0 0, .slice none 0 0] : Array Value).toList 8).map (fun x => (x.1, x.2.1)) =
      some ([.agg [.lit (.int .i64 0), .nil], .nil, .nil], []) := by kernel_rfl
  obtain ⟨⟨x1, x2, x3⟩, hx, hx1⟩ := Option.map_eq_some_iff.1 hw
  simp only [Prod.mk.injEq] at hx1
  obtain ⟨rfl, rfl⟩ := hx1
  exact OpenSpec.preRow_of_cond 8 hx (by kernel_rfl) (fun k hk => by cases hk; rfl) (by kernel_rfl) (laid_met os _)
set_option maxRecDepth 100000 in
theorem lifted (os : Os) (started : os.Started) (H : Type) (enc : TypeId × Value → H) (F : Stop.Interp) :
    ReturnsInHanded {} Tryd.checked os 10 .any (sp.preRow enc Tryd.prog Tryd.f10 Rows.simpleBackUptoRow.domain false Rows.simpleBackUptoRow.laid) ((sp.at F).post enc Tryd.prog Tryd.f10 false true false false) := by
  refine returnsInHanded_of_row (C := Tryd.checked) (s := sp) own started (by kernel_rfl) Tryd.func10
    (witness_row_at (enc := enc) (C := Tryd.checked) false (laidWorld os) #[.agg #[.int .i64 0, .slice none 0 0], .slice none 0 0, .slice none 0 0] rfl (by kernel_rfl) (by kernel_rfl) (by kernel_rfl) (witness_row os enc)) ?_
  intro W base args ds gs before hval0 hW hcnd hcond0 hsz0 hL hsh _
  have hbk : Rows.uptoBulkAll (ds ++ gs) ≤ 1048576 := of_decide_eq_true (hcond0 _ rfl)
  have hT : PSimA.TabW W := Lib.tabIs_of_head (g := 0) (t := 141) (e := 120) (n := 20) (by kernel_rfl) (by kernel_rfl) Tryd.underlying141 Tryd.underlying120 (by kernel_rfl) (by kernel_rfl) hL.tail.tail
  have hsz : (DataW.weightsEach Tryd.prog (Tryd.f10.params.toList ++ Rows.simpleBackSpec.plain.varTypes Tryd.prog) (ds ++ gs)).all (· ≤ reachBytes) = true := hsz0
  have hval : ∀ (j : Nat) t v, Tryd.f10.params[j]? = some t → args[j]? = some v → Value.okWide Tryd.prog W .any base t v := hval0
  have hW' := hW
  obtain ⟨p, q, hA0, hV, rfl, hfz, hnd⟩ := hW
  have hA : DataW.TrodAll enc Tryd.prog W 0 (fun _ => true) true Tryd.f10.params.toList args.toList ds p := hA0
  rw [Tryd.params10] at hA hval hsz
  obtain ⟨v0, vs0, d0, ds0, p0, q0, hargs, rfl, rfl, h0, r0⟩ := trodAll_cons hA
  obtain ⟨v1, vs1, d1, ds1, p1, q1, rfl, rfl, rfl, h1, r1⟩ := trodAll_cons r0
  obtain ⟨v2, vs2, d2, ds2, p2, q2, rfl, rfl, rfl, h2, r2⟩ := trodAll_cons r1
  obtain ⟨rfl, rfl, rfl⟩ := trodAll_nil r2
  obtain rfl : args = #[v0, v1, v2] := by cases args; simp_all
  obtain ⟨rfl, rfl⟩ := trodVars_none hV
  obtain ⟨cs0, rfl, _⟩ := okWide_struct Tryd.underlying26 (hval 0 26 v0 rfl rfl)
  have k0 := h0
  have lt0 : ∀ x ∈ p0, x.block < W.heap.size := by obtain ⟨m, hm⟩ := k0; exact DataW.trod_lt m _ _ _ hm
  obtain ⟨u0, hK0, wf0⟩ := OpenK.arg (OpenK.pair (OpenK.int Tryd.underlying3) (OpenK.slice (B := 16) (OpenK.iso (OpenK.pair (OpenK.int Tryd.underlying3) (OpenK.int Tryd.underlying3) Tryd.underlying42 rfl rfl rfl rfl (by kernel_rfl) (by kernel_rfl) (by kernel_rfl)) (fun x : PSimA.S42 => (x.f0, x.f1)) (fun p => ⟨p.1, p.2⟩) (fun _ => rfl)) Tryd.underlying24 (by kernel_rfl) (by kernel_rfl)) Tryd.underlying26 rfl rfl rfl rfl (by kernel_rfl) (by kernel_rfl) (by kernel_rfl)) h0 hsz (j := 0) (t := 26) rfl rfl
  obtain ⟨x0_0, y0_0⟩ := u0
  obtain ⟨d0_0, e0_0, q0_0, m0_0, r0_0⟩ := hK0
  obtain ⟨f0_0, g0_0⟩ := wf0
  obtain ⟨B0_1, z0_1, Q0_1, C0_1, R0_1⟩ := r0_0
  obtain ⟨wa0_1, wb0_1, wc0_1⟩ := g0_0
  obtain rfl : cs0 = #[.int .i64 x0_0, .slice B0_1 y0_0.length z0_1] := Array.toList_inj.1 (by have e_ : cs0.toList = _ := q0_0; rw [e_, show _ = _ from m0_0, show _ = _ from Q0_1]; rfl)
  obtain ⟨A1, len1, c1, rfl⟩ := okWide_slice Tryd.underlying45 (hval 1 45 v1 rfl rfl)
  have k1 := h1
  have lt1 : ∀ x ∈ p1, x.block < W.heap.size := by obtain ⟨m, hm⟩ := k1; exact DataW.trod_lt m _ _ _ hm
  have y1 : len1 ≤ 1048576 := by
    have b1 : len1 ≤ Rows.uptoBulk d1 := by
      obtain ⟨fuel, hf⟩ := h1
      rcases open_ints Tryd.underlying45 Tryd.underlying3 (by kernel_rfl) hf with ⟨hcs, _⟩ | ⟨x, l, c, zs, hcs, _, hl, hm, hz, hx, _, _⟩
      · simp [Value.cells] at hcs
        omega
      · simp [Value.cells] at hcs
        obtain ⟨rfl, rfl, rfl⟩ := hcs
        obtain rfl := (Prod.mk.inj hx).1
        exact bulk_row _ zs _ _ (by rw [hz]; split <;> omega)
    have hbk_ := hbk
    simp only [List.cons_append, List.nil_append, List.append_nil, Rows.uptoBulkAll] at hbk_
    omega
  obtain ⟨u1, hK1, wf1⟩ := OpenK.arg (OpenK.slice (B := 8) (OpenK.int Tryd.underlying3) Tryd.underlying45 (by kernel_rfl) (by kernel_rfl)) h1 hsz (j := 1) (t := 45) rfl rfl
  obtain ⟨B1_0, z1_0, Q1_0, C1_0, R1_0⟩ := hK1
  obtain ⟨wa1_0, wb1_0, wc1_0⟩ := wf1
  obtain ⟨rfl, rfl, rfl⟩ : A1 = B1_0 ∧ len1 = u1.length ∧ c1 = z1_0 := by have e_ : [Value.slice A1 len1 c1] = _ := Q1_0; simpa using e_
  obtain ⟨A2, len2, c2, rfl⟩ := okWide_slice Tryd.underlying45 (hval 2 45 v2 rfl rfl)
  have k2 := h2
  have lt2 : ∀ x ∈ p2, x.block < W.heap.size := by obtain ⟨m, hm⟩ := k2; exact DataW.trod_lt m _ _ _ hm
  have y2 : len2 ≤ 1048576 := by
    have b2 : len2 ≤ Rows.uptoBulk d2 := by
      obtain ⟨fuel, hf⟩ := h2
      rcases open_ints Tryd.underlying45 Tryd.underlying3 (by kernel_rfl) hf with ⟨hcs, _⟩ | ⟨x, l, c, zs, hcs, _, hl, hm, hz, hx, _, _⟩
      · simp [Value.cells] at hcs
        omega
      · simp [Value.cells] at hcs
        obtain ⟨rfl, rfl, rfl⟩ := hcs
        obtain rfl := (Prod.mk.inj hx).1
        exact bulk_row _ zs _ _ (by rw [hz]; split <;> omega)
    have hbk_ := hbk
    simp only [List.cons_append, List.nil_append, List.append_nil, Rows.uptoBulkAll] at hbk_
    omega
  obtain ⟨u2, hK2, wf2⟩ := OpenK.arg (OpenK.slice (B := 8) (OpenK.int Tryd.underlying3) Tryd.underlying45 (by kernel_rfl) (by kernel_rfl)) h2 hsz (j := 2) (t := 45) rfl rfl
  obtain ⟨B2_0, z2_0, Q2_0, C2_0, R2_0⟩ := hK2
  obtain ⟨wa2_0, wb2_0, wc2_0⟩ := wf2
  obtain ⟨rfl, rfl, rfl⟩ : A2 = B2_0 ∧ len2 = u2.length ∧ c2 = z2_0 := by have e_ : [Value.slice A2 len2 c2] = _ := Q2_0; simpa using e_
  clear hA0 hval0 hsz0 hsz
  obtain ⟨k, hp⟩ := Pure.SimpleBack x0_0 y0_0 u1 u2 f0_0 wa0_1 wb0_1 wc0_1 wa1_0 y1 wc1_0 wa2_0 y2 wc2_0
  refine (PSimA.tangramlaw03_SimpleBack.calls k x0_0 _ _ y0_0 _ _ u1 _ _ u2 true W hT R0_1 C0_1 R1_0 C1_0 R2_0 C2_0 hp).mono fun e W' ⟨he, bel0⟩ => ?_
  have bel : Below W.heap.size W W' := bel0
  subst he
  exact ⟨_, rfl, _, _, _, [], _, [], hW', trodAll_mk1 (shut_bool Tryd.underlying4 _), (trodAll_cons_mk (Below.trod laidOut (by kernel_rfl) (of_decide_eq_true (by kernel_rfl)) k0 bel lt0) (trodAll_cons_mk (Below.trod laidOut (by kernel_rfl) (of_decide_eq_true (by kernel_rfl)) k1 bel lt1) (trodAll_cons_mk (Below.trod laidOut (by kernel_rfl) (of_decide_eq_true (by kernel_rfl)) k2 bel lt2) trodAll_mk0))), rfl, bel.frame _, fun h => by cases h⟩
theorem over : Rows.simpleBackUptoRow.holds Tryd.pinned sp :=
  OpenClaim.holds_of_cond 10 Tryd.f10 rfl rfl rfl rfl rfl rfl rfl ⟨rfl, rfl, rfl, rfl, rfl⟩ rfl rfl rfl rfl rfl (by kernel_rfl) Tryd.func10 (by kernel_rfl)
    (of_decide_eq_true (by kernel_rfl)) (by unfold Func.isWrapper; first | (rw [if_pos (by decide +kernel)]; kernel_rfl) | (rw [if_neg (by decide +kernel)]; exact ⟨rfl, rfl⟩))
    (fun os started H enc _ F => by rw [OpenClaim.pre_eq_preRow]; exact lifted os started H enc F)
theorem proved : Rows.SimpleBackUptoSaid := over
theorem card : Rows.SimpleBackUptoCardSaid :=
  Claim7.holds_tied_plain_at .later [] [.data, .data, .data] true (true, "63b82a061c178418602bf4ab6da3678f1b6bf1544a2b209ad97358707310d6c2") true
    over (fun _ h => by cases h) (by kernel_rfl) (fun _ h => by cases h) simpleBackUpto_row_tie rfl ⟨rfl, rfl⟩ (by kernel_rfl) rfl
    (fun f fn hf hfn => by
      obtain rfl : f = 10 := Option.some.inj ((show Tryd.prog.funcNamed "tangram/tangramlaw03.SimpleBack" = some 10 by kernel_rfl).symm.trans hf) |>.symm
      obtain rfl : fn = Tryd.f10 := (Option.some.inj (Tryd.func10.symm.trans hfn)).symm
      exact ⟨by kernel_rfl, fun j t ht => by
        rw [Tryd.params10] at ht
        have hm : t ∈ [26, 45] := by
          have hm := Array.mem_of_getElem? ht
          simp only [List.mem_toArray, List.mem_cons, List.not_mem_nil, or_false] at hm ⊢
          revert hm
          first | exact id | (intro hm; rcases hm with rfl | rfl <;> simp) | (intro hm; rcases hm with rfl | rfl | rfl <;> simp)
        have hall : ([26, 45].all fun u => !Tryd.prog.wantsStandIn u) = true := by kernel_rfl
        exact (show Tryd.prog.wantsStandIn t = false by simpa using List.all_eq_true.1 hall t hm)⟩)
    (by kernel_rfl)
#print axioms card
end Go.Proofs.YthejafdcdcchbaaDoor.simpleBack
namespace Go.Proofs.YthejafdcdcchbaaDoor
/-- The card, under a short name, for the claim. -/
theorem simpleBack_holds : Rows.SimpleBackUptoCardSaid := simpleBack.card
end Go.Proofs.YthejafdcdcchbaaDoor
