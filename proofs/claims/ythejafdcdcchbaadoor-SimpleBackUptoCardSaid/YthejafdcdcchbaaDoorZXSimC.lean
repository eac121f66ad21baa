-- simple.Make, walked by hand.
import Derived.Test.YthejafdcdcchbaaDoorZXSimA
import Derived.Test.YthejafdcdcchbaaDoorZXSimB
import Derived.Test.YthejafdcdcchbaaDoorV
import Derived.Deep.LoopGhost
import Derived.WalkKit
set_option linter.unusedVariables false
set_option linter.unusedSimpArgs false
namespace Go.Proofs.YthejafdcdcchbaaDoor.PSimA
open Go.RowKit Go.Maps Go.Proofs Go.Proofs.YthejafdcdcchbaaDoorW.PrintWords Go.Proofs.YthejafdcdcchbaaDoorW.PrintLast Go.Proofs.YthejafdcdcchbaaDoorW.PrintMore Go.Proofs.YthejafdcdcchbaaDoorX
noncomputable abbrev RB : Value → Option (DataW Unit × List MemPlace) := plainElem (H := Unit) Tryd.prog 4
theorem own_blk {w w' : World} {R : Value → Option (DataW Unit × List MemPlace)} {b n : Nat} {D : DataW Unit} (h : w.ownsMap Tryd.prog 42 R b n D) (e : w'.heap[b]? = w.heap[b]?) : w'.ownsMap Tryd.prog 42 R b n D := by
  obtain ⟨es, clock, hb, r⟩ := h
  exact ⟨es, clock, e.trans hb, r⟩
theorem ranges_blk {w w' : World} {R : Value → Option (DataW Unit × List MemPlace)} {b r n : Nat} {D : DataW Unit} {left : Lit → Bool} {cnt : Nat} (h : w.ranges Tryd.prog 42 R b r n D left cnt) (e : w'.heap[b]? = w.heap[b]?) (e' : w'.heap[r]? = w.heap[r]?) : w'.ranges Tryd.prog 42 R b r n D left cnt := by
  obtain ⟨es, clock, since, seen, c0, h1, h2, h3, h4, h5, h6⟩ := h
  exact ⟨es, clock, since, seen, c0, e.trans h1, h2, h3, h4, e'.trans h5, h6⟩
structure Bw where
  b : Bool
theorem plainElem_bool_inv {v : Value} {z : DataW Unit × List MemPlace} (h : RB v = some z) : ∃ c, v = .bool c := by
  cases v <;> simp [RB, plainElem, Tryd.underlying4] at h
  exact ⟨_, rfl⟩
theorem below_grown {w W W1 : World} {b : Nat} (h : Below w.heap.size w W) (hg : W.grownBy W1 (some b)) (hb : w.heap.size ≤ b) : Below w.heap.size w W1 :=
  ⟨hg.os.trans h.os, hg.tape.trans h.tape, hg.output.trans h.output, Nat.le_trans h.size hg.size, fun i hi => (hg.block i (Nat.lt_of_lt_of_le hi h.size) (by intro e; cases e; omega)).trans (h.block i hi)⟩
/-- The map at B reads as D: the edges of l; the result's box at g. -/
def Mk (w W : World) (g B n : Nat) (D : DataW Unit) (l : List S42) : Prop :=
  W.ownsMap Tryd.prog 42 RB B n D ∧ MapE D l ∧ W.heap[g]? = some (.cells #[.int .i64 0, .slice none 0 0] 26 (0, 0)) ∧ Below w.heap.size w W ∧ w.heap.size ≤ B ∧ w.heap.size ≤ g ∧ g ≠ B
theorem own_lt {w : World} {R : Value → Option (DataW Unit × List MemPlace)} {b n : Nat} {D : DataW Unit} (h : w.ownsMap Tryd.prog 42 R b n D) : b < w.heap.size := h.lt
theorem Mk.below {w W W1 : World} {g B n : Nat} {D : DataW Unit} {l : List S42} (h : Mk w W g B n D l) (hb : Below W.heap.size W W1) : Mk w W1 g B n D l :=
  ⟨own_blk h.1 (hb.block B h.1.lt), h.2.1, (hb.block g (blk_lt h.2.2.1)).trans h.2.2.1, below_then h.2.2.2.1 h.2.2.2.1.size hb, h.2.2.2.2⟩
theorem Mk.set {w W : World} {g B n : Nat} {D : DataW Unit} {l : List S42} (h : Mk w W g B n D l) {gb : Nat} (h1 : B ≠ gb) (h2 : g ≠ gb) (h3 : w.heap.size ≤ gb) (i : Nat) (v : Value) : Mk w (W.setCell ⟨gb, i, none⟩ v) g B n D l :=
  ⟨h.1.setCell (a := ⟨gb, i, none⟩) h1 v, h.2.1, blk_far h.2.2.1 h2 _, below_set h.2.2.2.1 h3, h.2.2.2.2⟩
theorem Mk.turn {w W W1 : World} {g B n n' : Nat} {D D' : DataW Unit} {l l' : List S42} (h : Mk w W g B n D l) (ho : W1.ownsMap Tryd.prog 42 RB B n' D') (hg : W.grownBy W1 (some B)) (hm : MapE D' l') : Mk w W1 g B n' D' l' :=
  ⟨ho, hm, (hg.block g (blk_lt h.2.2.1) (by intro e; cases e; exact h.2.2.2.2.2.2 rfl)).trans h.2.2.1, below_grown h.2.2.2.1 hg h.2.2.2.2.1, h.2.2.2.2⟩
def MakeP (w w' : World) (e : Ending) (r : Int × List S42 × Int) : Prop := ∃ v, e = .returned (.tuple #[.agg #[.int .i64 r.1, v], .int .i64 r.2.2]) ∧ Kd.R k42 42 w' w.heap.size (fun _ => True) v r.2.1 ∧ Below w.heap.size w w'
def Smal (n : Int) (l : List S42) : Prop := ∀ x ∈ l, 0 ≤ x.f0 ∧ x.f0 < x.f1 ∧ x.f1 < n
theorem wfi_of {a : Int} (h0 : 0 ≤ a) (h1 : a ≤ 1048576) : wfi a := by unfold wfi; simp [Lit.wf, IntKind.min, IntKind.max, IntKind.bits, IntKind.signed]; omega
set_option maxHeartbeats 4000000 in
set_option maxRecDepth 100000 in
theorem make_range (n : Int) (A : Option Addr) (k c : Nat) (w : World) (h : n < 0 ∨ 1048576 < n) : Calls Tryd.prog 13 #[.int .i64 n, .slice A k c] w fun e w' => MakeP w w' e (0, [], 2) := by
  by_cases h1 : n < 0
  · have d1 : decide (n < 0) = true := decide_eq_true h1
    clear h
    go_enter Tryd.func13, Tryd.ntmps13
    go_wp2
    refine bodyPost_ret (v := .tuple #[.agg #[.int .i64 0, .slice none 0 0], .int .i64 2]) (by simp [results, Tryd.results13, go_sem]) rfl ⟨.slice none 0 0, rfl, Kd.R_nil _ _ _ _ _, ?_⟩
    exact below_alloc (Below.refl _ _) _
  · have d1 : decide (n < 0) = false := decide_eq_false h1
    have d2 : decide (1048576 < n) = true := decide_eq_true (by omega)
    clear h
    go_enter Tryd.func13, Tryd.ntmps13
    go_wp2
    refine bodyPost_ret (v := .tuple #[.agg #[.int .i64 0, .slice none 0 0], .int .i64 2]) (by simp [results, Tryd.results13, go_sem]) rfl ⟨.slice none 0 0, rfl, Kd.R_nil _ _ _ _ _, ?_⟩
    exact below_alloc (Below.refl _ _) _
/-- The ranging over the map: what was collected, in the graph's box. -/
def Rg (w W : World) (g B r q n0 : Nat) (n : Int) (D : DataW Unit) (left : Lit → Bool) (cnt : Nat) (u : Value) (ss : List S42) : Prop :=
  W.ranges Tryd.prog 42 RB B r n0 D left cnt ∧ W.heap[g]? = some (.cells #[.int .i64 0, .slice none 0 0] 26 (0, 0)) ∧ W.heap[q]? = some (.cells #[.int .i64 n, u] 26 (0, 0)) ∧ Kd.R k42 42 W w.heap.size (fun k_ => k_ ≠ B ∧ k_ ≠ r) u ss ∧ Below w.heap.size w W ∧
    (w.heap.size ≤ g ∧ w.heap.size ≤ B ∧ w.heap.size ≤ r ∧ w.heap.size ≤ q) ∧ g ≠ B ∧ g ≠ r ∧ g ≠ q ∧ q ≠ B ∧ q ≠ r
theorem ranges_lt {w : World} {R : Value → Option (DataW Unit × List MemPlace)} {b r n : Nat} {D : DataW Unit} {left : Lit → Bool} {cnt : Nat} (h : w.ranges Tryd.prog 42 R b r n D left cnt) : b < w.heap.size ∧ r < w.heap.size := ⟨h.owns.lt, h.lt⟩
theorem Rg.below {w W W1 : World} {g B r q n0 : Nat} {n : Int} {D : DataW Unit} {left : Lit → Bool} {cnt : Nat} {u : Value} {ss : List S42} (h : Rg w W g B r q n0 n D left cnt u ss) (hb : Below W.heap.size W W1) : Rg w W1 g B r q n0 n D left cnt u ss :=
  ⟨ranges_blk h.1 (hb.block B (ranges_lt h.1).1) (hb.block r (ranges_lt h.1).2), (hb.block g (blk_lt h.2.1)).trans h.2.1, (hb.block q (blk_lt h.2.2.1)).trans h.2.2.1, Kd.R_below h.2.2.2.1 hb, below_then h.2.2.2.2.1 h.2.2.2.2.1.size hb, h.2.2.2.2.2⟩
/-- a box laid and filled -/
theorem Rg.box {w W W1 : World} {g B r q n0 : Nat} {n : Int} {D : DataW Unit} {left : Lit → Bool} {cnt : Nat} {u : Value} {ss : List S42} (h : Rg w W g B r q n0 n D left cnt u ss) {gb : Nat} (hg : gb = W.heap.size) (hb : Below W.heap.size W W1) (a b : Value) :
    Rg w ((W1.setCell ⟨gb, 0, none⟩ a).setCell ⟨gb, 1, none⟩ b) g B r q n0 n D left cnt u ss := by
  have h1 := h.below hb
  obtain ⟨l1, l2⟩ := ranges_lt h.1
  have l3 := blk_lt h.2.1
  have l4 := blk_lt h.2.2.1
  have hz := h.2.2.2.2.1.size
  have hle : w.heap.size ≤ gb := by omega
  have q1 := Kd.R_below (Kd.R_elderB h.2.2.2.1 gb (Nat.le_of_eq hg.symm)) hb
  have n1 : g ≠ gb := by omega
  have n2 : q ≠ gb := by omega
  have n3 : B ≠ gb := by omega
  have n4 : r ≠ gb := by omega
  refine ⟨ranges_blk h1.1 ?_ ?_, blk_far (blk_far h1.2.1 n1 _) n1 _, blk_far (blk_far h1.2.2.1 n2 _) n2 _, ?_, below_set (below_set h1.2.2.2.2.1 hle) hle, h.2.2.2.2.2⟩
  · rw [Below.heap_setCell _ ⟨gb, 1, none⟩ _ B n3, Below.heap_setCell _ ⟨gb, 0, none⟩ _ B n3]
  · rw [Below.heap_setCell _ ⟨gb, 1, none⟩ _ r n4, Below.heap_setCell _ ⟨gb, 0, none⟩ _ r n4]
  · exact Kd.R_mono (Kd.R_far (p := ⟨gb, 1, none⟩) (Kd.R_far (p := ⟨gb, 0, none⟩) q1 (fun _ hk => hk.2) a) (fun _ hk => hk.2) b) (fun _ hk => hk.1)
theorem Rg.next {w W W1 : World} {g B r q n0 : Nat} {n : Int} {D : DataW Unit} {left left' : Lit → Bool} {cnt cnt' : Nat} {u : Value} {ss : List S42} (h : Rg w W g B r q n0 n D left cnt u ss) (hr : W1.ranges Tryd.prog 42 RB B r n0 D left' cnt') (hg : W.grownBy W1 (some r)) : Rg w W1 g B r q n0 n D left' cnt' u ss :=
  ⟨hr, blk_grown h.2.1 hg (by intro e; cases e; exact h.2.2.2.2.2.2.2.1 rfl), blk_grown h.2.2.1 hg (by intro e; cases e; exact h.2.2.2.2.2.2.2.2.2.2 rfl), Kd.R_mono (Kd.R_keptB h.2.2.2.1 (S := fun k => k = r) ⟨hg.size, fun i hi hne => hg.block i hi (by intro e; cases e; exact hne rfl)⟩ (fun k hk hs => hk.2 hs)) (fun _ hk => hk.1), below_grown h.2.2.2.2.1 hg h.2.2.2.2.2.1.2.2.1, h.2.2.2.2.2⟩
theorem Rg.grow {w W W1 : World} {g B r q n0 : Nat} {n : Int} {D : DataW Unit} {left : Lit → Bool} {cnt : Nat} {u v : Value} {ss ss' : List S42} (h : Rg w W g B r q n0 n D left cnt u ss)
    (hg : W.grownBy W1 u.ownBlock) (ho : Kd.R k42 42 W1 w.heap.size (fun k_ => k_ ≠ B ∧ k_ ≠ r) v ss') (hb : Below w.heap.size w W1) : Rg w (W1.setCell ⟨q, 1, none⟩ v) g B r q n0 n D left cnt v ss' := by
  have nB := Kd.R_away h.2.2.2.1 (g := B) (fun _ hk => hk.1)
  have nr := Kd.R_away h.2.2.2.1 (g := r) (fun _ hk => hk.2)
  have ng := Kd.R_ne h.2.2.2.1 h.2.1 (by decide)
  have nq := Kd.R_ne h.2.2.2.1 h.2.2.1 (by decide)
  have h1 := h.1.kept hg nB nr
  have h2 := blk_grown h.2.1 hg ng
  have h3 := blk_grown h.2.2.1 hg nq
  obtain ⟨e1, e2, e3, e4, e5⟩ := h.2.2.2.2.2.2
  have hq : w.heap.size ≤ q := h.2.2.2.2.2.1.2.2.2
  refine ⟨ranges_blk h1 (Below.heap_setCell _ ⟨q, 1, none⟩ _ B (fun e => e4 e.symm)) (Below.heap_setCell _ ⟨q, 1, none⟩ _ r (fun e => e5 e.symm)), blk_far h2 e3 _, blk_put h3 1 _ rfl, ?_, below_set hb hq, h.2.2.2.2.2⟩
  exact Kd.R_mono (Kd.R_far (p := ⟨q, 1, none⟩) (Kd.R_types ho h3 (by decide)) (fun _ hk => hk.2) v) (fun _ hk => hk.1)
theorem drop_53 (l : List S53) (i : Nat) (h : i < l.length) : l.take (i + 1) = l.take i ++ [rd_T53 l (i : Int)] := by
  rw [List.take_succ_eq_append_getElem h]
  unfold rd_T53
  rw [Int.toNat_natCast, List.getD_eq_getElem?_getD, List.getElem?_eq_getElem h]
  rfl
set_option maxHeartbeats 4000000 in
set_option maxRecDepth 100000 in
theorem make_loop (n : Int) (A : Option Addr) (c : Nat) (l : List S53) (w : World) (hC : Kd.C k53 w A l.length l) (hl : l.length ≤ 8796093022208) (h0 : 0 ≤ n) (h1 : n ≤ 1048576) :
    Calls Tryd.prog 13 #[.int .i64 n, .slice A l.length c] w fun e w' => MakeP w w' e (if l.any (badP n) = true then (0, [], 2) else if 4194304 < (mkE l).length then (0, [], 141) else (n, mkE l, 0)) := by
  have d1 : decide (n < 0) = false := decide_eq_false (by omega)
  have d2 : decide (1048576 < n) = false := decide_eq_false (by omega)
  have hmm := @run_makeMap Tryd.prog
  obtain ⟨R, hR⟩ : ∃ R, (if l.any (badP n) = true then ((0 : Int), ([] : List S42), (2 : Int)) else if 4194304 < (mkE l).length then (0, [], 141) else (n, mkE l, 0)) = R := ⟨_, rfl⟩
  have HC := Aside0.mk hC
  have HL := Aside0.mk hl
  have HR := Aside0.mk hR
  have HN : Aside0 (0 ≤ n ∧ n ≤ 1048576) := ⟨⟨h0, h1⟩⟩
  rw [hR]
  clear hC hl hR h0 h1
  go_enter Tryd.func13, Tryd.ntmps13
  go_upto_region 4 with fail
  have MK : Aside0 (Mk w ((w.alloc (Obj.cells #[Value.int IntKind.i64 0, Value.slice none 0 0] 26)).alloc (Obj.map #[] 0)) w.heap.size (w.heap.size + 1) 0 (.map []) (mkE [])) :=
    ⟨by
      refine ⟨?_, ?_, blk_alloc (blk_new w _) _, below_alloc (below_alloc (Below.refl _ _) _) _, by omega, by omega, by omega⟩
      · have := World.ownsMap_made (H := Unit) (w.alloc (Obj.cells #[Value.int IntKind.i64 0, Value.slice none 0 0] 26)) Tryd.prog 42 RB
        simpa using this
      · intro a b _ _
        simp [mkE, Maps.has]⟩
  obtain ⟨g, hg⟩ : ∃ g, w.heap.size = g := ⟨_, rfl⟩
  have HG := Aside0.mk hg
  have MK1 := MK.out
  clear MK
  have hs : (w.alloc (Obj.cells #[Value.int IntKind.i64 0, Value.slice none 0 0] 26)).heap.size = g + 1 := by rw [← hg]; simp
  rw [hg] at MK1
  try rw [hg]
  generalize (w.alloc (Obj.cells #[Value.int IntKind.i64 0, Value.slice none 0 0] 26)).alloc (Obj.map #[] 0) = w2 at MK1 ⊢
  obtain ⟨B, hB⟩ : ∃ B, g + 1 = B := ⟨_, rfl⟩
  rw [hB] at MK1 ⊢
  clear hg hs hB hmm
  have MK2 := Aside0.mk MK1
  clear MK1
  go_upto_block 0 with fail
  go_cut [] (fun wc => ∃ (D : DataW Unit), Aside0 (l.any (badP n) = false ∧ Okl (mkE l) ∧ Smal n (mkE l)) ∧ Aside0 (Mk w wc g B l.length D (mkE l)))
  case rest =>
   obtain ⟨D, HI, MK⟩ := hcut
   have HS : Aside0 (Maps.size D = (mkE l).length) := ⟨size_E MK.out.1 MK.out.2.1 HI.out.2.1 (mkE_sorted l)⟩
   have MB := Aside0.mk MK.out.2.2.1
   have r0 := bc MB 0
   have r1 := bc MB 1
   have q0 := blk_frozen MB.out 0
   have q1 := blk_frozen MB.out 1
   by_cases c1 : 4194304 < (mkE l).length
   · have HB : Aside0 (R = (0, [], 141)) := ⟨by rw [← HR.out, if_neg (by rw [HI.out.1]; decide), if_pos c1]⟩
     have e1 : decide (4194304 < Maps.size D) = true := decide_eq_true (by rw [HS.out]; exact c1)
     have e2 : decide ((4194304 : Int) < ((Maps.size D : Nat) : Int)) = true := decide_eq_true (by rw [HS.out]; omega)
     clear c1
     go_wp2_with (at_len; refine wpList_len_own _ rfl _ 69 rfl 42 4 Tryd.underlying69 RB B l.length D rfl MK.out.1 ?_)
     rw [HB.out]
     have RB1 := blk_put (u := .slice none 0 0) (blk_put (u := .int .i64 0) MB.out 0 rfl) 1 rfl
     have y0 := (blk_cell RB1 0).trans rfl
     have y1 := (blk_cell RB1 1).trans rfl
     refine bodyPost_ret (v := .tuple #[.agg #[.int .i64 0, .slice none 0 0], .int .i64 141]) (by simp [results, Tryd.results13, go_sem, y0, y1]) rfl ⟨.slice none 0 0, rfl, Kd.R_nil _ _ _ _ _, ?_⟩
     exact below_set (below_set MK.out.2.2.2.1 MK.out.2.2.2.2.2.1) MK.out.2.2.2.2.2.1
   · have HB : Aside0 (R = (n, mkE l, 0)) := ⟨by rw [← HR.out, if_neg (by rw [HI.out.1]; decide), if_neg c1]⟩
     have e1 : decide (4194304 < Maps.size D) = false := decide_eq_false (by rw [HS.out]; exact c1)
     have e2 : decide ((4194304 : Int) < ((Maps.size D : Nat) : Int)) = false := decide_eq_false (by rw [HS.out]; omega)
     have HC1 := Aside0.mk c1
     clear c1
     go_upto_block 2 with (first | (at_len; refine wpList_len_own _ rfl _ 69 rfl 42 4 Tryd.underlying69 RB B l.length D rfl MK.out.1 ?_) | ((with_reducible refine gate_dst (N := 10) rfl ?_); refine be_ 10 #[.int .i64 0, .slice none 0 0] 26 ?_; intro q hg w3 hbox hb; clear r0 r1 q0 q1 MB; have B8 := Aside0.mk hbox; have NQ : Aside0 (g ≠ q ∧ B ≠ q ∧ w.heap.size ≤ q) := ⟨by have h1 := MK.out.1.lt; have h2 := blk_lt MK.out.2.2.1; have h3 := MK.out.2.2.2.1.size; exact ⟨by omega, by omega, by omega⟩⟩; replace MK : Aside0 (Mk w w3 g B l.length D (mkE l)) := ⟨MK.out.below hb⟩; clear hbox hb hg; have z0 := bc B8 0; have z1 := bc B8 1; have f0 := blk_frozen B8.out 0; have f1 := blk_frozen B8.out 1) | ((with_reducible refine gate_store (t := 26) (p := 10) rfl ?_); refine store_event (t := 26) (p := 10) (v := ?vo9) (w1 := ((w3.setCell ⟨q, 0, none⟩ (.int .i64 n)).setCell ⟨q, 1, none⟩ (.slice none 0 0))) ?hg ?ho ?hn ?hr ?_; (case ho => rfl); (case hg => rfl); (case hn => rfl); (case hr => first | (go_simp; done) | (go_simp; rfl)); intro w4 hw; clear z0 z1 f0 f1; replace MK : Aside0 (Mk w w4 g B l.length D (mkE l)) := ⟨by rw [hw]; exact (MK.out.set NQ.out.2.1 NQ.out.1 NQ.out.2.2 _ _).set NQ.out.2.1 NQ.out.1 NQ.out.2.2 _ _⟩; replace B8 : Aside0 (w4.heap[q]? = some (.cells #[.int .i64 n, .slice none 0 0] 26 (0, 0))) := ⟨by rw [hw]; exact blk_put (blk_put B8.out 0 _ rfl) 1 _ rfl⟩; clear hw) | (at_range; refine wpList_range_own _ rfl _ 69 rfl 42 4 lawE Tryd.underlying69 RB B l.length D rfl MK.out.1 ?_; intro w0 hrg0 hg0 hs0; have RG : Aside0 (Rg w w0 g B w4.heap.size q l.length n D (Maps.has D) (Maps.size D) (.slice none 0 0) []) := ⟨by have l1 := MK.out.1.lt; have l2 := blk_lt MK.out.2.2.1; have l3 := blk_lt B8.out; have l4 := MK.out.2.2.2.1.size; exact ⟨hrg0, blk_grown MK.out.2.2.1 hg0 (by simp), blk_grown B8.out hg0 (by simp), Kd.R_nil _ _ _ _ _, ⟨hg0.os.trans MK.out.2.2.2.1.os, hg0.tape.trans MK.out.2.2.2.1.tape, hg0.output.trans MK.out.2.2.2.1.output, Nat.le_trans l4 hg0.size, fun i hi => (hg0.block i (Nat.lt_of_lt_of_le hi l4) (by simp)).trans (MK.out.2.2.2.1.block i hi)⟩, ⟨MK.out.2.2.2.2.2.1, MK.out.2.2.2.2.1, by omega, NQ.out.2.2⟩, MK.out.2.2.2.2.2.2, by omega, NQ.out.1, fun e => NQ.out.2.1 e.symm, by omega⟩⟩; have WG : Aside0 (MapE D (mkE l)) := ⟨MK.out.2.1⟩; clear hrg0 hg0 hs0 MK B8 NQ; generalize w4.heap.size = r at RG ⊢; go_frame))
     go_cut [] (fun wd => ∃ (left : Lit → Bool) (cnt : Nat) (u : Value) (ss : List S42), Aside0 (Rg w wd g B r q l.length n D left cnt u ss) ∧ Aside0 ((mkE l).Perm ss))
     case rest =>
      clear RG
      obtain ⟨left, cnt, u, ss, RG, PM⟩ := hcut
      obtain ⟨Au, cu, eu⟩ := Kd.R_slice RG.out.2.2.2.1
      subst eu
      have BQ := Aside0.mk RG.out.2.2.1
      have y0 := bc BQ 0
      have y1 := bc BQ 1
      go_upto_region 22 with (go_at_call 36; refine (sort_c (l := ss) (r := mkE l) (w0 := w) (fun x hx => by have h1 := HI.out.2.2 x (PM.out.mem_iff.2 hx); have h2 := HN.out; exact ⟨⟨by omega, by omega⟩, ⟨by omega, by omega⟩⟩) PM.out ((mkE_sorted l).imp (fun {a b} (h : lt42 a b) => show Le42 a b by unfold lt42 at h; unfold Le42; omega)) (by have := PM.out.length_eq; have := HC1.out; omega) RG.out.2.2.2.2.1 (Kd.R_tight rfl RG.out.2.2.2.1)).mono ?_; rintro e w5 ⟨rfl, ho, hB, hk⟩; have HO := Aside0.mk ho; have HBB := Aside0.mk hB; have BG : Aside0 (w5.heap[g]? = some (.cells #[.int .i64 0, .slice none 0 0] 26 (0, 0))) := ⟨blk_kept RG.out.2.1 hk (Kd.R_ne RG.out.2.2.2.1 RG.out.2.1 (by decide))⟩; have BQ5 : Aside0 (w5.heap[q]? = some (.cells #[.int .i64 n, .slice Au ss.length cu] 26 (0, 0))) := ⟨blk_kept BQ.out hk (Kd.R_ne RG.out.2.2.2.1 BQ.out (by decide))⟩; clear ho hB hk y0 y1)
      have y0 := bc BQ5 0
      have y1 := bc BQ5 1
      have s0 := bc BG 0
      have s1 := bc BG 1
      have t0 := blk_frozen BG.out 0
      have t1 := blk_frozen BG.out 1
      go_wp2
      rw [HB.out]
      have RB1 := blk_put (u := .slice Au ss.length cu) (blk_put (u := .int .i64 n) BG.out 0 rfl) 1 rfl
      have v0 := (blk_cell RB1 0).trans rfl
      have v1 := (blk_cell RB1 1).trans rfl
      have hle := RG.out.2.2.2.2.2.1.1
      refine bodyPost_ret (v := .tuple #[.agg #[.int .i64 n, .slice Au ss.length cu], .int .i64 0]) (by simp [results, Tryd.results13, go_sem, v0, v1]) rfl ⟨.slice Au ss.length cu, rfl, ?_, below_set (below_set HBB.out hle) hle⟩
      exact Kd.R_mono (Kd.R_far (p := ⟨g, 1, none⟩) (Kd.R_far (p := ⟨g, 0, none⟩) (Kd.R_types HO.out BG.out (by decide)) (fun _ hk => hk.2) (.int .i64 n)) (fun _ hk => hk.2) (.slice Au ss.length cu)) (fun _ hk => trivial)
     go_wp2
     go_loopg [11] (Maps.size D) (fun kq v11 wr => ∃ (left : Lit → Bool) (cnt : Nat) (u : Value) (ss : List S42), Aside0 (Rg w wr g B r q l.length n D left cnt u ss) ∧ Aside0 (CollE D left ss) ∧ Aside0 (cnt = kq ∧ ss.length + cnt ≤ Maps.size D))
     case atStart => exact ⟨_, _, .slice none 0 0, [], RG, ⟨CollE.start D⟩, ⟨by simp⟩⟩
     case round =>
      clear RG
      obtain ⟨left, cnt, u, ss, RG, CO, HK⟩ := hrel
      go_wp2_with (at_next; refine wpList_next_ranges _ rfl _ rfl 42 lawE RB (fun x : S42 => Value.agg #[.int .i64 x.f0, .int .i64 x.f1]) (fun c : Bw => Value.bool c.b) (fun key kl h => by obtain ⟨x, e, _⟩ := key_inv h; exact ⟨⟨x.1, x.2⟩, e⟩) (fun v y h => by obtain ⟨c, e⟩ := plainElem_bool_inv h; exact ⟨⟨c⟩, e⟩) B r l.length D left cnt rfl RG.out.1 ?_ ?_)
      · intro _ hl0
        have HL0 := Aside0.mk hl0
        clear hl0
        go_wp2
        go_meet
        case rel => exact ⟨left, cnt, u, ss, RG, ⟨CO.out.perm WG.out HI.out.2.1 (mkE_sorted l) HL0.out⟩⟩
      · intro x cb kl yd yp w1 cnt1 hkey hlk hv hat hrg1 hlt hg1 hs1 hen
        obtain ⟨cb⟩ := cb
        obtain ⟨x', ex, ek, wx0, wx1⟩ := key_inv hkey
        obtain ⟨x0, x1⟩ := x
        obtain ⟨e0, e1'⟩ : x0 = x'.1 ∧ x1 = x'.2 := by simpa using ex
        rw [← e0, ← e1'] at ek
        rw [← e0] at wx0
        rw [← e1'] at wx1
        subst ek
        replace RG : Aside0 (Rg w w1 g B r q l.length n D (fun z => left z && !z.sameKey (kE x0 x1)) cnt1 u ss) := ⟨RG.out.next hrg1 hg1⟩
        replace CO := Aside0.mk (CO.out.step wx0 wx1 hlk hat)
        have HLT := Aside0.mk hlt
        obtain ⟨Au, cu, eu⟩ := Kd.R_slice RG.out.2.2.2.1
        subst eu
        have RV := Aside0.mk RG.out.2.2.2.1
        clear hkey hlk hv hat hrg1 hlt hg1 hs1 ex e0 e1' wx0 wx1 RV
        dsimp only at hen
        obtain ⟨ys, hys⟩ : ∃ y_ : List S42, y_ = ss ++ [⟨x0, x1⟩] := ⟨_, rfl⟩
        have NY := Aside0.mk hys
        clear hys
        go_wp2_with (first | ((with_reducible refine gate_dst (N := 11) rfl ?_); refine be_ 11 #[.int .i64 0, .int .i64 0] 42 ?_; intro gb hg w2 hbox hb; have HG1 := Aside0.mk hg; have HB1 := Aside0.mk hb; have B8 := Aside0.mk hbox; clear hbox hb hg; have z0 := bc B8 0; have z1 := bc B8 1; have f0 := blk_frozen B8.out 0; have f1 := blk_frozen B8.out 1) | ((with_reducible refine gate_store (t := 42) (p := 11) rfl ?_); refine store_event (t := 42) (p := 11) (v := ?vo8) (w1 := ((w2.setCell ⟨gb, 0, none⟩ (.int .i64 x0)).setCell ⟨gb, 1, none⟩ (.int .i64 x1))) ?hg ?ho ?hn ?hr ?_; (case ho => rfl); (case hg => rfl); (case hn => rfl); (case hr => first | (go_simp; done) | (go_simp; rfl)); intro w4 hw; clear z0 z1 f0 f1; replace RG : Aside0 (Rg w w4 g B r q l.length n D (fun z => left z && !z.sameKey (kE x0 x1)) cnt1 (.slice Au ss.length cu) ss) := ⟨by rw [hw]; exact RG.out.box HG1.out HB1.out _ _⟩; replace B8 : Aside0 (w4.heap[gb]? = some (.cells #[.int .i64 x0, .int .i64 x1] 42 (0, 0))) := ⟨by rw [hw]; exact blk_put (blk_put B8.out 0 _ rfl) 1 _ rfl⟩; clear hw HG1 HB1; have z0 := bc B8 0; have z1 := bc B8 1; have BQ := Aside0.mk RG.out.2.2.1; have y0 := bc BQ 0; have y1 := bc BQ 1; have RV := Aside0.mk RG.out.2.2.2.1; have RBel := Aside0.mk RG.out.2.2.2.2.1) | ((with_reducible refine gate_builtin (b := .append) (xs := #[.tmp 70, .tmp 72]) rfl ?_); at_builtin; refine Kd.R_append k42 (w0 := w) w.heap.size rfl (.tmp 70) (.tmp 72) 24 42 (.agg #[(.int .i64 0), (.int .i64 0)]) 16 rfl Tryd.underlying24 info42 rfl (by decide) (by omega) (.slice Au ss.length cu) ss (⟨x0, x1⟩ : S42) [.int .i64 x0, .int .i64 x1] (fun k_ => k_ ≠ B ∧ k_ ≠ r) (fun _ => False) rfl (by first | (go_simp; done) | (go_simp; rfl)) ?aP (fun _ hk => hk.elim) ?aF ?aO ?aB ?aS ?aL ?_; (case aP => exact k42_mkM _ _ _ (⟨x0, x1⟩ : S42)); (case aB => exact hb0 RBel); (case aF => exact (fun k_ hk => ⟨fun e_ => absurd hk (Nat.not_le_of_lt (by rw [e_]; have := (ranges_lt RG.out.1).1; simp; omega)), fun e_ => absurd hk (Nat.not_le_of_lt (by rw [e_]; have := (ranges_lt RG.out.1).2; simp; omega))⟩)); (case aO => exact rx RV); (case aS => exact (below_size (hb0 RBel))); (case aL => have := HK.out; have := HC1.out; have := HS.out; omega); intro v9 w9 ho hb hg hat; rw [← NY.out] at ho; obtain ⟨A9, c9, e9⟩ := Kd.R_slice ho; subst e9; have RZ : Aside0 (Rg w (w9.setCell ⟨q, 1, none⟩ (.slice A9 ys.length c9)) g B r q l.length n D (fun z => left z && !z.sameKey (kE x0 x1)) cnt1 (.slice A9 ys.length c9) ys) := ⟨Rg.grow RG.out hg ho hb⟩; have BQ9 := Aside0.mk (blk_grown BQ.out hg (Kd.R_ne RV.out BQ.out (by decide))); clear y0 y1 BQ; have y1 := bc BQ9 1; have y2 := blk_frozen BQ9.out 1; clear ho hb hg hat))
        go_roundg cnt1
        case measure => have := HK.out.1; have := HLT.out; omega
        case rel => exact ⟨_, cnt1, _, ys, RZ, by rw [NY.out]; exact CO, ⟨rfl, by have := HK.out.2; have := HLT.out; rw [NY.out]; simp; omega⟩⟩
  go_wp2
  go_loopg [22] l.length (fun kq v22 w' => ∃ (i : Nat) (D : DataW Unit), v22 = .int .i64 (i : Int) ∧ Aside0 (i + kq = l.length) ∧ Aside0 ((l.take i).any (badP n) = false ∧ Okl (mkE (l.take i)) ∧ Smal n (mkE (l.take i))) ∧ Aside0 (Mk w w' g B i D (mkE (l.take i))))
  case atStart => exact ⟨0, .map [], rfl, ⟨by omega⟩, ⟨by simp, by simp [Okl, mkE], by simp [Smal, mkE]⟩, MK2⟩
  case round =>
    clear MK2
    obtain ⟨i, D, rfl, HK, HI, MK⟩ := hrel
    by_cases hi : i < l.length
    · have hi1 : decide ((i : Int) < (l.length : Int)) = true := decide_eq_true (by omega)
      have hi2 : decide (i < l.length) = true := decide_eq_true hi
      obtain ⟨ad, ea, hx0, hx1⟩ := at_T53 (Kd.C_below HC.out MK.out.2.2.2.1) (i : Int) (by omega) (by omega)
      cases ea
      rw [Int.toNat_natCast] at hx0 hx1
      have hp := eq_true (show (0 : Int) ≤ (i : Int) by omega)
      have hq := eq_true (show (i : Int) < (l.length : Int) by omega)
      have HT := Aside0.mk (drop_53 l i hi)
      have hib : i < 8796093022208 := by have := HL.out; omega
      have HLT := Aside0.mk hi
      clear hi
      cases gk with
      | zero => exact absurd HK.out (by have := HLT.out; omega)
      | succ k1 =>
        generalize rd_T53 l (i : Int) = p at HT hx0 hx1
        obtain ⟨a, b⟩ := p
        dsimp only at hx0 hx1
        by_cases c1 : badP n ⟨a, b⟩ = true
        · have HB : Aside0 (R = (0, [], 2)) := ⟨by
            rw [← HR.out, if_pos]
            have hm : l.take (i + 1) ++ l.drop (i + 1) = l := List.take_append_drop _ _
            rw [← hm, HT.out, List.any_append, List.any_append]
            simp [c1]⟩
          by_cases c2 : min a b < 0
          · have e1 : decide (min a b < 0) = true := decide_eq_true c2
            clear c1 c2
            go_wp2_with (first | ((with_reducible refine gate_dst (N := 8) rfl ?_); refine be_ 8 #[.int .i64 0, .int .i64 0] 53 ?_; intro gb hg w3 hbox hb; have B8 := Aside0.mk hbox; have NB : Aside0 (B ≠ gb ∧ g ≠ gb ∧ w.heap.size ≤ gb) := ⟨by have h1 := MK.out.1.lt; have h2 := blk_lt MK.out.2.2.1; have h3 := MK.out.2.2.2.1.size; exact ⟨by omega, by omega, by omega⟩⟩; replace MK : Aside0 (Mk w w3 g B i D (mkE (l.take i))) := ⟨MK.out.below hb⟩; clear hbox hb hg; have z0 := bc B8 0; have z1 := bc B8 1; have f0 := blk_frozen B8.out 0; have f1 := blk_frozen B8.out 1) | ((with_reducible refine gate_store (t := 53) (p := 8) rfl ?_); refine store_event (t := 53) (p := 8) (v := ?vo1) (w1 := ((w3.setCell ⟨gb, 0, none⟩ (.int .i64 a)).setCell ⟨gb, 1, none⟩ (.int .i64 b))) ?hg ?ho ?hn ?hr ?_; (case ho => rfl); (case hg => rfl); (case hn => rfl); (case hr => first | (go_simp; done) | (go_simp; rfl)); intro w4 hw; clear z0 z1 f0 f1; replace MK : Aside0 (Mk w w4 g B i D (mkE (l.take i))) := ⟨by rw [hw]; exact (MK.out.set NB.out.1 NB.out.2.1 NB.out.2.2 _ _).set NB.out.1 NB.out.2.1 NB.out.2.2 _ _⟩; replace B8 : Aside0 (w4.heap[gb]? = some (.cells #[.int .i64 a, .int .i64 b] 53 (0, 0))) := ⟨by rw [hw]; exact blk_put (blk_put B8.out 0 _ rfl) 1 _ rfl⟩; clear hw; have z0 := bc B8 0; have z1 := bc B8 1) | ((with_reducible refine gate_dst (N := 9) rfl ?_); refine be_ 9 #[.int .i64 0, .int .i64 0] 42 ?_; intro gc hg w5 hbox hb; clear z0 z1; have B9 := Aside0.mk hbox; have NC : Aside0 (B ≠ gc ∧ g ≠ gc ∧ w.heap.size ≤ gc) := ⟨by have h1 := MK.out.1.lt; have h2 := blk_lt MK.out.2.2.1; have h3 := MK.out.2.2.2.1.size; exact ⟨by omega, by omega, by omega⟩⟩; replace MK : Aside0 (Mk w w5 g B i D (mkE (l.take i))) := ⟨MK.out.below hb⟩; clear hbox hb hg B8 NB; have z0 := bc B9 0; have z1 := bc B9 1; have f0 := blk_frozen B9.out 0; have f1 := blk_frozen B9.out 1) | ((with_reducible refine gate_store (t := 42) (p := 9) rfl ?_); refine store_event (t := 42) (p := 9) (v := ?vo2) (w1 := ((w5.setCell ⟨gc, 0, none⟩ (.int .i64 (min a b))).setCell ⟨gc, 1, none⟩ (.int .i64 (max a b)))) ?hg ?ho ?hn ?hr ?_; (case ho => rfl); (case hg => rfl); (case hn => rfl); (case hr => first | (go_simp; done) | (go_simp; rfl)); intro w6 hw; clear z0 z1 f0 f1; replace MK : Aside0 (Mk w w6 g B i D (mkE (l.take i))) := ⟨by rw [hw]; exact (MK.out.set NC.out.1 NC.out.2.1 NC.out.2.2 _ _).set NC.out.1 NC.out.2.1 NC.out.2.2 _ _⟩; replace B9 : Aside0 (w6.heap[gc]? = some (.cells #[.int .i64 (min a b), .int .i64 (max a b)] 42 (0, 0))) := ⟨by rw [hw]; exact blk_put (blk_put B9.out 0 _ rfl) 1 _ rfl⟩; clear hw; have z0 := bc B9 0; have z1 := bc B9 1; have MB := Aside0.mk MK.out.2.2.1; have r0 := bc MB 0; have r1 := bc MB 1; have q0 := blk_frozen MB.out 0; have q1 := blk_frozen MB.out 1))
            rw [HB.out]
            have RB1 := blk_put (u := .slice none 0 0) (blk_put (u := .int .i64 0) MB.out 0 rfl) 1 rfl
            have y0 := (blk_cell RB1 0).trans rfl
            have y1 := (blk_cell RB1 1).trans rfl
            refine bodyPost_ret (v := .tuple #[.agg #[.int .i64 0, .slice none 0 0], .int .i64 2]) (by simp [results, Tryd.results13, go_sem, y0, y1]) rfl ⟨.slice none 0 0, rfl, Kd.R_nil _ _ _ _ _, ?_⟩
            exact below_set (below_set MK.out.2.2.2.1 MK.out.2.2.2.2.2.1) MK.out.2.2.2.2.2.1
          · have e1 : decide (min a b < 0) = false := decide_eq_false c2
            have e2 : decide (n ≤ max a b) = true := by
              unfold badP at c1
              simp only [e1, Bool.false_or] at c1
              exact c1
            clear c1 c2
            go_wp2_with (first | ((with_reducible refine gate_dst (N := 8) rfl ?_); refine be_ 8 #[.int .i64 0, .int .i64 0] 53 ?_; intro gb hg w3 hbox hb; have B8 := Aside0.mk hbox; have NB : Aside0 (B ≠ gb ∧ g ≠ gb ∧ w.heap.size ≤ gb) := ⟨by have h1 := MK.out.1.lt; have h2 := blk_lt MK.out.2.2.1; have h3 := MK.out.2.2.2.1.size; exact ⟨by omega, by omega, by omega⟩⟩; replace MK : Aside0 (Mk w w3 g B i D (mkE (l.take i))) := ⟨MK.out.below hb⟩; clear hbox hb hg; have z0 := bc B8 0; have z1 := bc B8 1; have f0 := blk_frozen B8.out 0; have f1 := blk_frozen B8.out 1) | ((with_reducible refine gate_store (t := 53) (p := 8) rfl ?_); refine store_event (t := 53) (p := 8) (v := ?vo1) (w1 := ((w3.setCell ⟨gb, 0, none⟩ (.int .i64 a)).setCell ⟨gb, 1, none⟩ (.int .i64 b))) ?hg ?ho ?hn ?hr ?_; (case ho => rfl); (case hg => rfl); (case hn => rfl); (case hr => first | (go_simp; done) | (go_simp; rfl)); intro w4 hw; clear z0 z1 f0 f1; replace MK : Aside0 (Mk w w4 g B i D (mkE (l.take i))) := ⟨by rw [hw]; exact (MK.out.set NB.out.1 NB.out.2.1 NB.out.2.2 _ _).set NB.out.1 NB.out.2.1 NB.out.2.2 _ _⟩; replace B8 : Aside0 (w4.heap[gb]? = some (.cells #[.int .i64 a, .int .i64 b] 53 (0, 0))) := ⟨by rw [hw]; exact blk_put (blk_put B8.out 0 _ rfl) 1 _ rfl⟩; clear hw; have z0 := bc B8 0; have z1 := bc B8 1) | ((with_reducible refine gate_dst (N := 9) rfl ?_); refine be_ 9 #[.int .i64 0, .int .i64 0] 42 ?_; intro gc hg w5 hbox hb; clear z0 z1; have B9 := Aside0.mk hbox; have NC : Aside0 (B ≠ gc ∧ g ≠ gc ∧ w.heap.size ≤ gc) := ⟨by have h1 := MK.out.1.lt; have h2 := blk_lt MK.out.2.2.1; have h3 := MK.out.2.2.2.1.size; exact ⟨by omega, by omega, by omega⟩⟩; replace MK : Aside0 (Mk w w5 g B i D (mkE (l.take i))) := ⟨MK.out.below hb⟩; clear hbox hb hg B8 NB; have z0 := bc B9 0; have z1 := bc B9 1; have f0 := blk_frozen B9.out 0; have f1 := blk_frozen B9.out 1) | ((with_reducible refine gate_store (t := 42) (p := 9) rfl ?_); refine store_event (t := 42) (p := 9) (v := ?vo2) (w1 := ((w5.setCell ⟨gc, 0, none⟩ (.int .i64 (min a b))).setCell ⟨gc, 1, none⟩ (.int .i64 (max a b)))) ?hg ?ho ?hn ?hr ?_; (case ho => rfl); (case hg => rfl); (case hn => rfl); (case hr => first | (go_simp; done) | (go_simp; rfl)); intro w6 hw; clear z0 z1 f0 f1; replace MK : Aside0 (Mk w w6 g B i D (mkE (l.take i))) := ⟨by rw [hw]; exact (MK.out.set NC.out.1 NC.out.2.1 NC.out.2.2 _ _).set NC.out.1 NC.out.2.1 NC.out.2.2 _ _⟩; replace B9 : Aside0 (w6.heap[gc]? = some (.cells #[.int .i64 (min a b), .int .i64 (max a b)] 42 (0, 0))) := ⟨by rw [hw]; exact blk_put (blk_put B9.out 0 _ rfl) 1 _ rfl⟩; clear hw; have z0 := bc B9 0; have z1 := bc B9 1; have MB := Aside0.mk MK.out.2.2.1; have r0 := bc MB 0; have r1 := bc MB 1; have q0 := blk_frozen MB.out 0; have q1 := blk_frozen MB.out 1))
            rw [HB.out]
            have RB1 := blk_put (u := .slice none 0 0) (blk_put (u := .int .i64 0) MB.out 0 rfl) 1 rfl
            have y0 := (blk_cell RB1 0).trans rfl
            have y1 := (blk_cell RB1 1).trans rfl
            refine bodyPost_ret (v := .tuple #[.agg #[.int .i64 0, .slice none 0 0], .int .i64 2]) (by simp [results, Tryd.results13, go_sem, y0, y1]) rfl ⟨.slice none 0 0, rfl, Kd.R_nil _ _ _ _ _, ?_⟩
            exact below_set (below_set MK.out.2.2.2.1 MK.out.2.2.2.2.2.1) MK.out.2.2.2.2.2.1
        · have c1' : badP n ⟨a, b⟩ = false := by simpa using c1
          have e1 : decide (min a b < 0) = false := by
            unfold badP at c1'
            simp only [Bool.or_eq_false_iff] at c1'
            exact c1'.1
          have e2 : decide (n ≤ max a b) = false := by
            unfold badP at c1'
            simp only [Bool.or_eq_false_iff] at c1'
            exact c1'.2
          have g1 := of_decide_eq_false e1
          have g2 := of_decide_eq_false e2
          have HU : Aside0 ((Lit.int .i64 (min a b)).wf = true) := ⟨wfi_of (by omega) (by have := HN.out; omega)⟩
          have HV : Aside0 ((Lit.int .i64 (max a b)).wf = true) := ⟨wfi_of (by omega) (by have := HN.out; omega)⟩
          have HW : Aside0 (0 ≤ min a b ∧ max a b < n) := ⟨by omega⟩
          have HA : Aside0 ((l.take (i + 1)).any (badP n) = false) := ⟨by rw [HT.out, List.any_append, HI.out.1]; simp [c1']⟩
          have HO := Aside0.mk HI.out.2.1
          clear g1 g2 c1 c1'
          by_cases e : a = b
          · have e3 : (min a b == max a b) = true := by rw [beq_iff_eq]; omega
            have HE : Aside0 (max a b = min a b) := ⟨by omega⟩
            have HS : Aside0 (mkE (l.take (i + 1)) = mkE (l.take i)) := ⟨by rw [HT.out, mkE_snoc]; unfold stepE; rw [if_neg (by simp [e]), if_neg (by simp [e])]⟩
            clear e
            go_wp2_with (first | ((with_reducible refine gate_dst (N := 8) rfl ?_); refine be_ 8 #[.int .i64 0, .int .i64 0] 53 ?_; intro gb hg w3 hbox hb; have B8 := Aside0.mk hbox; have NB : Aside0 (B ≠ gb ∧ g ≠ gb ∧ w.heap.size ≤ gb) := ⟨by have h1 := MK.out.1.lt; have h2 := blk_lt MK.out.2.2.1; have h3 := MK.out.2.2.2.1.size; exact ⟨by omega, by omega, by omega⟩⟩; replace MK : Aside0 (Mk w w3 g B i D (mkE (l.take i))) := ⟨MK.out.below hb⟩; clear hbox hb hg; have z0 := bc B8 0; have z1 := bc B8 1; have f0 := blk_frozen B8.out 0; have f1 := blk_frozen B8.out 1) | ((with_reducible refine gate_store (t := 53) (p := 8) rfl ?_); refine store_event (t := 53) (p := 8) (v := ?vo1) (w1 := ((w3.setCell ⟨gb, 0, none⟩ (.int .i64 a)).setCell ⟨gb, 1, none⟩ (.int .i64 b))) ?hg ?ho ?hn ?hr ?_; (case ho => rfl); (case hg => rfl); (case hn => rfl); (case hr => first | (go_simp; done) | (go_simp; rfl)); intro w4 hw; clear z0 z1 f0 f1; replace MK : Aside0 (Mk w w4 g B i D (mkE (l.take i))) := ⟨by rw [hw]; exact (MK.out.set NB.out.1 NB.out.2.1 NB.out.2.2 _ _).set NB.out.1 NB.out.2.1 NB.out.2.2 _ _⟩; replace B8 : Aside0 (w4.heap[gb]? = some (.cells #[.int .i64 a, .int .i64 b] 53 (0, 0))) := ⟨by rw [hw]; exact blk_put (blk_put B8.out 0 _ rfl) 1 _ rfl⟩; clear hw; have z0 := bc B8 0; have z1 := bc B8 1) | ((with_reducible refine gate_dst (N := 9) rfl ?_); refine be_ 9 #[.int .i64 0, .int .i64 0] 42 ?_; intro gc hg w5 hbox hb; clear z0 z1; have B9 := Aside0.mk hbox; have NC : Aside0 (B ≠ gc ∧ g ≠ gc ∧ w.heap.size ≤ gc) := ⟨by have h1 := MK.out.1.lt; have h2 := blk_lt MK.out.2.2.1; have h3 := MK.out.2.2.2.1.size; exact ⟨by omega, by omega, by omega⟩⟩; replace MK : Aside0 (Mk w w5 g B i D (mkE (l.take i))) := ⟨MK.out.below hb⟩; clear hbox hb hg B8 NB; have z0 := bc B9 0; have z1 := bc B9 1; have f0 := blk_frozen B9.out 0; have f1 := blk_frozen B9.out 1) | ((with_reducible refine gate_store (t := 42) (p := 9) rfl ?_); refine store_event (t := 42) (p := 9) (v := ?vo2) (w1 := ((w5.setCell ⟨gc, 0, none⟩ (.int .i64 (min a b))).setCell ⟨gc, 1, none⟩ (.int .i64 (max a b)))) ?hg ?ho ?hn ?hr ?_; (case ho => rfl); (case hg => rfl); (case hn => rfl); (case hr => first | (go_simp; done) | (go_simp; rfl)); intro w6 hw; clear z0 z1 f0 f1; replace MK : Aside0 (Mk w w6 g B i D (mkE (l.take i))) := ⟨by rw [hw]; exact (MK.out.set NC.out.1 NC.out.2.1 NC.out.2.2 _ _).set NC.out.1 NC.out.2.1 NC.out.2.2 _ _⟩; replace B9 : Aside0 (w6.heap[gc]? = some (.cells #[.int .i64 (min a b), .int .i64 (max a b)] 42 (0, 0))) := ⟨by rw [hw]; exact blk_put (blk_put B9.out 0 _ rfl) 1 _ rfl⟩; clear hw; have z0 := bc B9 0; have z1 := bc B9 1; have MB := Aside0.mk MK.out.2.2.1; have r0 := bc MB 0; have r1 := bc MB 1; have q0 := blk_frozen MB.out 0; have q1 := blk_frozen MB.out 1) | (at_mapUpdate; refine wpList_mapUpdate_own _ rfl _ _ _ 69 rfl 42 4 lawE Tryd.underlying69 RB B i D rfl MK.out.1 (by have := HL.out; unfold maxLen; omega) _ _ _ rfl rfl (key_mk HU.out HV.out) _ [] (plainElem_bool Tryd.underlying4 true) ?_; intro w7 hown hgrow; replace B9 : Aside0 (w7.heap[gc]? = some (.cells #[.int .i64 (min a b), .int .i64 (max a b)] 42 (0, 0))) := ⟨(hgrow.block gc (blk_lt B9.out) (by intro e_; cases e_; exact NC.out.1 rfl)).trans B9.out⟩; have HOW := Aside0.mk hown; have HGR := Aside0.mk hgrow; clear hown hgrow z0 z1 MB r0 r1 q0 q1; have z0 := bc B9 0; have z1 := bc B9 1) | (at_delete; refine wpList_delete_own _ rfl _ _ 69 42 rfl 4 lawE Tryd.underlying69 RB B (i + 1) (D.put (kE (min a b) (max a b)) (.lit (.bool true))) rfl HOW.out _ _ rfl (key_mk HU.out HV.out) ?_; intro w8 hown hturn; replace MK : Aside0 (Mk w w8 g B (i + 1) ((D.put (kE (min a b) (max a b)) (.lit (.bool true))).del (kE (min a b) (max a b))) (mkE (l.take i))) := ⟨MK.out.turn hown ((HGR.out.andThen hturn.grown (fun j hj => Or.inr hj)) : World.grownBy _ _ (some B)) (by rw [HE.out]; exact MK.out.2.1.loop HO.out HU.out (.lit (.bool true)))⟩; clear hown hturn HOW HGR))
            go_roundg k1
            case measure => omega
            case rel => exact ⟨i + 1, _, by go_num, ⟨by have := HK.out; omega⟩, ⟨HA.out, by rw [HS.out]; exact HI.out.2.1, by rw [HS.out]; exact HI.out.2.2⟩, ⟨by rw [HS.out]; exact MK.out⟩⟩
          · have e3 : (min a b == max a b) = false := by rw [beq_eq_false_iff_ne]; omega
            have HS : Aside0 (mkE (l.take (i + 1)) = putE (mkE (l.take i)) ⟨min a b, max a b⟩) := ⟨by
              rw [HT.out, mkE_snoc]
              unfold stepE
              by_cases h1 : a < b
              · rw [if_pos h1, show min a b = a by omega, show max a b = b by omega]
              · rw [if_neg h1, if_pos (show b < a by omega), show min a b = b by omega, show max a b = a by omega]⟩
            have HP : Aside0 (Okl (putE (mkE (l.take i)) ⟨min a b, max a b⟩) ∧ Smal n (putE (mkE (l.take i)) ⟨min a b, max a b⟩)) := ⟨okl_put HO.out HU.out HV.out (by omega), fun x hx => by
              rcases (mem_putE _ _ _).1 hx with hx | rfl
              · exact HI.out.2.2 x hx
              · exact ⟨HW.out.1, by simp only; omega, HW.out.2⟩⟩
            clear e
            go_wp2_with (first | ((with_reducible refine gate_dst (N := 8) rfl ?_); refine be_ 8 #[.int .i64 0, .int .i64 0] 53 ?_; intro gb hg w3 hbox hb; have B8 := Aside0.mk hbox; have NB : Aside0 (B ≠ gb ∧ g ≠ gb ∧ w.heap.size ≤ gb) := ⟨by have h1 := MK.out.1.lt; have h2 := blk_lt MK.out.2.2.1; have h3 := MK.out.2.2.2.1.size; exact ⟨by omega, by omega, by omega⟩⟩; replace MK : Aside0 (Mk w w3 g B i D (mkE (l.take i))) := ⟨MK.out.below hb⟩; clear hbox hb hg; have z0 := bc B8 0; have z1 := bc B8 1; have f0 := blk_frozen B8.out 0; have f1 := blk_frozen B8.out 1) | ((with_reducible refine gate_store (t := 53) (p := 8) rfl ?_); refine store_event (t := 53) (p := 8) (v := ?vo1) (w1 := ((w3.setCell ⟨gb, 0, none⟩ (.int .i64 a)).setCell ⟨gb, 1, none⟩ (.int .i64 b))) ?hg ?ho ?hn ?hr ?_; (case ho => rfl); (case hg => rfl); (case hn => rfl); (case hr => first | (go_simp; done) | (go_simp; rfl)); intro w4 hw; clear z0 z1 f0 f1; replace MK : Aside0 (Mk w w4 g B i D (mkE (l.take i))) := ⟨by rw [hw]; exact (MK.out.set NB.out.1 NB.out.2.1 NB.out.2.2 _ _).set NB.out.1 NB.out.2.1 NB.out.2.2 _ _⟩; replace B8 : Aside0 (w4.heap[gb]? = some (.cells #[.int .i64 a, .int .i64 b] 53 (0, 0))) := ⟨by rw [hw]; exact blk_put (blk_put B8.out 0 _ rfl) 1 _ rfl⟩; clear hw; have z0 := bc B8 0; have z1 := bc B8 1) | ((with_reducible refine gate_dst (N := 9) rfl ?_); refine be_ 9 #[.int .i64 0, .int .i64 0] 42 ?_; intro gc hg w5 hbox hb; clear z0 z1; have B9 := Aside0.mk hbox; have NC : Aside0 (B ≠ gc ∧ g ≠ gc ∧ w.heap.size ≤ gc) := ⟨by have h1 := MK.out.1.lt; have h2 := blk_lt MK.out.2.2.1; have h3 := MK.out.2.2.2.1.size; exact ⟨by omega, by omega, by omega⟩⟩; replace MK : Aside0 (Mk w w5 g B i D (mkE (l.take i))) := ⟨MK.out.below hb⟩; clear hbox hb hg B8 NB; have z0 := bc B9 0; have z1 := bc B9 1; have f0 := blk_frozen B9.out 0; have f1 := blk_frozen B9.out 1) | ((with_reducible refine gate_store (t := 42) (p := 9) rfl ?_); refine store_event (t := 42) (p := 9) (v := ?vo2) (w1 := ((w5.setCell ⟨gc, 0, none⟩ (.int .i64 (min a b))).setCell ⟨gc, 1, none⟩ (.int .i64 (max a b)))) ?hg ?ho ?hn ?hr ?_; (case ho => rfl); (case hg => rfl); (case hn => rfl); (case hr => first | (go_simp; done) | (go_simp; rfl)); intro w6 hw; clear z0 z1 f0 f1; replace MK : Aside0 (Mk w w6 g B i D (mkE (l.take i))) := ⟨by rw [hw]; exact (MK.out.set NC.out.1 NC.out.2.1 NC.out.2.2 _ _).set NC.out.1 NC.out.2.1 NC.out.2.2 _ _⟩; replace B9 : Aside0 (w6.heap[gc]? = some (.cells #[.int .i64 (min a b), .int .i64 (max a b)] 42 (0, 0))) := ⟨by rw [hw]; exact blk_put (blk_put B9.out 0 _ rfl) 1 _ rfl⟩; clear hw; have z0 := bc B9 0; have z1 := bc B9 1; have MB := Aside0.mk MK.out.2.2.1; have r0 := bc MB 0; have r1 := bc MB 1; have q0 := blk_frozen MB.out 0; have q1 := blk_frozen MB.out 1) | (at_mapUpdate; refine wpList_mapUpdate_own _ rfl _ _ _ 69 rfl 42 4 lawE Tryd.underlying69 RB B i D rfl MK.out.1 (by have := HL.out; unfold maxLen; omega) _ _ _ rfl rfl (key_mk HU.out HV.out) _ [] (plainElem_bool Tryd.underlying4 true) ?_; intro w7 hown hgrow; replace B9 : Aside0 (w7.heap[gc]? = some (.cells #[.int .i64 (min a b), .int .i64 (max a b)] 42 (0, 0))) := ⟨(hgrow.block gc (blk_lt B9.out) (by intro e_; cases e_; exact NC.out.1 rfl)).trans B9.out⟩; replace MK : Aside0 (Mk w w7 g B (i + 1) (D.put (kE (min a b) (max a b)) (.lit (.bool true))) (putE (mkE (l.take i)) ⟨min a b, max a b⟩)) := ⟨MK.out.turn hown hgrow (MK.out.2.1.put MK.out.1.isMap HU.out HV.out _)⟩; clear hown hgrow z0 z1 MB r0 r1 q0 q1; have z0 := bc B9 0; have z1 := bc B9 1))
            go_roundg k1
            case measure => omega
            case rel => exact ⟨i + 1, _, by go_num, ⟨by have := HK.out; omega⟩, ⟨HA.out, by rw [HS.out]; exact HP.out.1, by rw [HS.out]; exact HP.out.2⟩, ⟨by rw [HS.out]; exact MK.out⟩⟩
    · have hi1 : decide ((i : Int) < (l.length : Int)) = false := decide_eq_false (by omega)
      have hi2 : decide (i < l.length) = false := decide_eq_false hi
      obtain rfl : i = l.length := by have := HK.out; omega
      clear hi
      go_wp2
      go_meet
      case rel => exact ⟨D, ⟨by have := HI.out; rw [List.take_length] at this; exact this⟩, ⟨by have := MK.out; rw [List.take_length] at this; exact this⟩⟩
theorem make_c (n : Int) (A : Option Addr) (c : Nat) (l : List S53) (w : World) (hC : Kd.C k53 w A l.length l) (hl : l.length ≤ 8796093022208) :
    Calls Tryd.prog 13 #[.int .i64 n, .slice A l.length c] w fun e w' => MakeP w w' e (makeF n l) := by
  unfold makeF
  by_cases h : n < 0 ∨ 1048576 < n
  · rw [if_pos h]
    exact make_range n A l.length c w h
  · rw [if_neg h]
    exact make_loop n A c l w hC hl (by omega) (by omega)
end Go.Proofs.YthejafdcdcchbaaDoor.PSimA
