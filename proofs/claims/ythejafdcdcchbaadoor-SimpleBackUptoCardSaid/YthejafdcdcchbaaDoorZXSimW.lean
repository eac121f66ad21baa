-- tangramlaw03.wakes: by hand: what the document's example answers.
import Derived.Test.YthejafdcdcchbaaDoorZXSimT
import Derived.Test.YthejafdcdcchbaaDoorZXSimC
import Derived.Test.YthejafdcdcchbaaDoorZPSimAx13
set_option linter.unusedVariables false
set_option linter.unusedSimpArgs false
namespace Go.Proofs.YthejafdcdcchbaaDoor.PSimA
open Go.RowKit Go.Proofs Go.Proofs.YthejafdcdcchbaaDoor.Pure Go.Proofs.YthejafdcdcchbaaDoorW.PrintWords Go.Proofs.YthejafdcdcchbaaDoorW.PrintLast Go.Proofs.YthejafdcdcchbaaDoorW.PrintMore Go.Proofs.YthejafdcdcchbaaDoorX
def LW : List S42 := [⟨0, 2⟩, ⟨1, 2⟩]
theorem mk_w : makeF 3 [⟨2, 1⟩, ⟨0, 0⟩, ⟨1, 2⟩, ⟨0, 2⟩] = (3, LW, 0) := by kernel_rfl
theorem ok_w : Ok 3 LW := by decide
theorem tx_w : textF true 3 LW = (⟨#[51, 32, 50, 10, 48, 32, 50, 10, 49, 32, 50, 10]⟩, 0) := by kernel_rfl
theorem va_w : simple_Valid.f 8 3 LW = some true := by kernel_rfl
theorem en_w : simple_Ends.f 8 3 LW 3 = some (2, 1, true) := by kernel_rfl
theorem fi_w : simple_Find.f 8 3 LW 1 2 = some 1 := by kernel_rfl
theorem C_lit53 (W : World) (fr : Nat × Nat) : Kd.C k53 (W.alloc (.cells #[.int .i64 2, .int .i64 1, .int .i64 0, .int .i64 0, .int .i64 1, .int .i64 2, .int .i64 0, .int .i64 2] 53 fr)) (some ⟨W.heap.size, 0, none⟩) 4 [⟨2, 1⟩, ⟨0, 0⟩, ⟨1, 2⟩, ⟨0, 2⟩] := by
  have hc : ∀ (j : Nat) (u : Value), (#[Value.int .i64 2, .int .i64 1, .int .i64 0, .int .i64 0, .int .i64 1, .int .i64 2, .int .i64 0, .int .i64 2] : Array Value)[j]? = some u → (W.alloc (.cells #[.int .i64 2, .int .i64 1, .int .i64 0, .int .i64 0, .int .i64 1, .int .i64 2, .int .i64 0, .int .i64 2] 53 fr)).cell? ((⟨W.heap.size, 0, none⟩ : Addr).add j) = some u := by
    intro j u hu
    have e : ((⟨W.heap.size, 0, none⟩ : Addr).add j) = ⟨W.heap.size, j, none⟩ := by
      unfold Addr.add
      split
      · simp_all
      · simp
    rw [e]
    simpa [World.cell?, World.alloc, -World.alloc_eq] using hu
  refine ⟨rfl, by decide, fun _ => ⟨_, rfl, fun j p hj => ⟨[.int .i64 p.f0, .int .i64 p.f1], rfl, k53_mk _ p, fun i u hu => ?_⟩⟩⟩
  have hi : i < 2 := (List.getElem?_eq_some_iff.1 hu).1
  refine hc (j * 2 + i) u ?_
  have hj4 : j < 4 := (List.getElem?_eq_some_iff.1 hj).1
  match j, hj4, hj with
  | 0, _, hj => cases hj; match i, hi, hu with | 0, _, hu => exact hu | 1, _, hu => exact hu
  | 1, _, hj => cases hj; match i, hi, hu with | 0, _, hu => exact hu | 1, _, hu => exact hu
  | 2, _, hj => cases hj; match i, hi, hu with | 0, _, hu => exact hu | 1, _, hu => exact hu
  | 3, _, hj => cases hj; match i, hi, hu with | 0, _, hu => exact hu | 1, _, hu => exact hu
/-- The graph: its address, and where it lies. -/
def Cw (W : World) (b o : Nat) : Prop := W.cell? ⟨b, o, none⟩ = some (.int .i64 0) ∧ W.cell? ⟨b, o + 1, none⟩ = some (.int .i64 2) ∧ W.cell? ⟨b, o + 2, none⟩ = some (.int .i64 1) ∧ W.cell? ⟨b, o + 3, none⟩ = some (.int .i64 2)
theorem Cw.of {W : World} {b o : Nat} (h : Kd.C k42 W (some ⟨b, o, none⟩) 2 LW) : Cw W b o := by
  obtain ⟨ad, e1, hx0, hx1⟩ := at_T42 h 0 (by omega) (by decide)
  cases e1
  obtain ⟨ad, e2, hy0, hy1⟩ := at_T42 h 1 (by omega) (by decide)
  cases e2
  refine ⟨?_, ?_, ?_, ?_⟩
  · simpa [Addr.add, rd_T42, LW] using hx0
  · simpa [Addr.add, rd_T42, LW] using hx1
  · simpa [Addr.add, rd_T42, LW] using hy0
  · simpa [Addr.add, rd_T42, LW] using hy1
theorem Cw.C {W : World} {b o : Nat} (h : Cw W b o) : Kd.C k42 W (some ⟨b, o, none⟩) 2 LW := by
  refine ⟨rfl, by decide, fun _ => ⟨_, rfl, fun j p hj => ⟨[.int .i64 p.f0, .int .i64 p.f1], rfl, k42_mk _ p, fun i u hu => ?_⟩⟩⟩
  have hi : i < 2 := (List.getElem?_eq_some_iff.1 hu).1
  have hj4 : j < 2 := (List.getElem?_eq_some_iff.1 hj).1
  have e : ((⟨b, o, none⟩ : Addr).add (j * 2 + i)) = ⟨b, o + (j * 2 + i), none⟩ := by
    unfold Addr.add
    split
    · simp_all
    · simp
  show W.cell? ((⟨b, o, none⟩ : Addr).add (j * 2 + i)) = some u
  rw [e]
  match j, hj4, hj with
  | 0, _, hj => cases hj; match i, hi, hu with | 0, _, hu => cases hu; exact h.1 | 1, _, hu => cases hu; exact h.2.1
  | 1, _, hj => cases hj; match i, hi, hu with | 0, _, hu => cases hu; exact h.2.2.1 | 1, _, hu => cases hu; exact h.2.2.2
def Gw (w W : World) (b o c : Nat) : Prop := Cw W b o ∧ 2 ≤ c ∧ b < W.heap.size ∧ Below w.heap.size w W
theorem Gw.below {w W W1 : World} {b o c : Nat} (h : Gw w W b o c) (hb : Below W.heap.size W W1) : Gw w W1 b o c :=
  ⟨Cw.of (Kd.C_below h.1.C hb), h.2.1, Nat.lt_of_lt_of_le h.2.2.1 hb.size, below_then h.2.2.2 h.2.2.2.size hb⟩
theorem gw_set {w W : World} {b o c g : Nat} (h : Gw w W b o c) (hn : b ≠ g) (hg : w.heap.size ≤ g) (i : Nat) (v : Value) : Gw w (W.setCell ⟨g, i, none⟩ v) b o c :=
  ⟨⟨(cell_far (p := ⟨g, i, none⟩) hn v).trans h.1.1, (cell_far (p := ⟨g, i, none⟩) hn v).trans h.1.2.1, (cell_far (p := ⟨g, i, none⟩) hn v).trans h.1.2.2.1, (cell_far (p := ⟨g, i, none⟩) hn v).trans h.1.2.2.2⟩, h.2.1, by simpa using h.2.2.1, below_set h.2.2.2 hg⟩
theorem make_w (w : World) (fr : Nat × Nat) : Calls Tryd.prog 13 #[.int .i64 3, .slice (some ⟨w.heap.size, 0, none⟩) 4 4] (w.alloc (.cells #[.int .i64 2, .int .i64 1, .int .i64 0, .int .i64 0, .int .i64 1, .int .i64 2, .int .i64 0, .int .i64 2] 53 fr)) fun e w' => ∃ b o c, e = .returned (.tuple #[.agg #[.int .i64 3, .slice (some ⟨b, o, none⟩) 2 c], .int .i64 0]) ∧ Gw w w' b o c := by
  refine (make_c 3 _ 4 _ _ (C_lit53 w fr) (by decide)).mono ?_
  intro e w' hP
  rw [mk_w] at hP
  obtain ⟨v, rfl, hR, hb⟩ := hP
  obtain ⟨Ao, co, rfl⟩ := Kd.R_slice hR
  have hC := (Kd.R_reads' hR).2.2
  obtain ⟨ad, e1, hx0, hx1⟩ := at_T42 hC 0 (by omega) (by decide)
  cases e1
  obtain ⟨b, o, s⟩ := ad
  obtain rfl : s = none := by simpa [Addr.add] using World.cell?_spot hx0
  exact ⟨b, o, co, rfl, Cw.of hC, (Kd.R_reads' hR).2.1, World.block_lt_of_cell? w' _ hx0, below_then ((Below.refl _ _).alloc (Nat.le_refl _) _) (by simp) hb⟩
theorem text_w {w W : World} {b o c : Nat} (h : Gw w W b o c) (hT : TabW W) : Calls Tryd.prog 17 #[.agg #[.int .i64 3, .slice (some ⟨b, o, none⟩) 2 c]] W fun e w' => e = .returned (.tuple #[.string ⟨#[51, 32, 50, 10, 48, 32, 50, 10, 49, 32, 50, 10]⟩, .int .i64 0]) ∧ Gw w w' b o c ∧ Below W.heap.size W w' := by
  refine (simpleText_c 8 3 _ c LW true W hT h.1.C h.2.1 va_w).mono ?_
  rintro e w' ⟨rfl, hb⟩
  rw [tx_w]
  exact ⟨rfl, h.below hb, hb⟩
theorem ends_w {w W : World} {b o c : Nat} (h : Gw w W b o c) : Calls Tryd.prog 19 #[.agg #[.int .i64 3, .slice (some ⟨b, o, none⟩) 2 c], .int .i64 3] W fun e w' => e = .returned (.tuple #[.int .i64 2, .int .i64 1, .bool true]) ∧ Gw w w' b o c ∧ Below W.heap.size W w' := by
  refine (simple_Ends.calls 8 3 _ c LW 3 2 1 true W h.1.C h.2.1 en_w).mono ?_
  rintro e w' ⟨rfl, hb⟩
  exact ⟨rfl, h.below hb, hb⟩
theorem valid_w {w W : World} {b o c : Nat} (h : Gw w W b o c) : Calls Tryd.prog 24 #[.agg #[.int .i64 3, .slice (some ⟨b, o, none⟩) 2 c]] W fun e w' => e = .returned (.bool true) ∧ Gw w w' b o c ∧ Below W.heap.size W w' := by
  refine (simple_Valid.calls 8 3 _ c LW true W h.1.C h.2.1 va_w).mono ?_
  rintro e w' ⟨rfl, hb⟩
  exact ⟨rfl, h.below hb, hb⟩
theorem find_w {w W : World} {b o c : Nat} (h : Gw w W b o c) : Calls Tryd.prog 26 #[.agg #[.int .i64 3, .slice (some ⟨b, o, none⟩) 2 c], .agg #[.int .i64 1, .int .i64 2]] W fun e w' => e = .returned (.int .i64 1) ∧ Gw w w' b o c ∧ Below W.heap.size W w' := by
  refine (simple_Find.calls 8 3 _ c LW 1 2 1 W h.1.C h.2.1 fi_w).mono ?_
  rintro e w' ⟨rfl, hb⟩
  exact ⟨rfl, h.below hb, hb⟩
/-- The graph's box at g. -/
def Bx (w W : World) (g b o c : Nat) : Prop := W.heap[g]? = some (.cells #[.int .i64 3, .slice (some ⟨b, o, none⟩) 2 c] 26 (0, 0)) ∧ Gw w W b o c
set_option maxHeartbeats 8000000 in
set_option maxRecDepth 100000 in
theorem wakes_c (w : World) (hT : TabW w) : Calls Tryd.prog 11 #[] w fun e w' => e = .returned (.bool true) ∧ Below w.heap.size w w' := by
  have hu26 := Tryd.underlying26
  have hu42 := Tryd.underlying42
  have hu53 := Tryd.underlying53
  have HT := Aside0.mk hT
  clear hT
  go_enter Tryd.func11, Tryd.ntmps11
  go_upto_region 2 with (first | (go_at_call 13; refine (make_w _ _).mono ?_; rintro e w1 ⟨b, o, c, rfl, hx⟩; have GW := Aside0.mk hx; clear hx) | ((with_reducible refine gate_dst (N := 1) rfl ?_); refine be_ 1 #[.int .i64 0, .slice none 0 0] 26 ?_; intro g hg w2 hbox hb; have B1 := Aside0.mk hbox; have HN : Aside0 (b ≠ g ∧ w.heap.size ≤ g) := ⟨by have h1 := GW.out.2.2.1; have h2 := GW.out.2.2.2.size; exact ⟨by omega, by omega⟩⟩; replace GW : Aside0 (Gw w w2 b o c) := ⟨GW.out.below hb⟩; clear hbox hb hg; have z0 := bc B1 0; have z1 := bc B1 1; have f0 := blk_frozen B1.out 0; have f1 := blk_frozen B1.out 1) | ((with_reducible refine gate_store (t := 26) (p := 1) rfl ?_); refine store_event (t := 26) (p := 1) (v := ?vo1) (w1 := ((w2.setCell ⟨g, 0, none⟩ (.int .i64 3)).setCell ⟨g, 1, none⟩ (.slice (some ⟨b, o, none⟩) 2 c))) ?hg ?ho ?hn ?hr ?_; (case ho => rfl); (case hg => rfl); (case hn => rfl); (case hr => first | (go_simp; done) | (go_simp; rfl)); intro w3 hw; clear z0 z1 f0 f1; replace GW : Aside0 (Gw w w3 b o c) := ⟨by rw [hw]; exact gw_set (gw_set GW.out HN.out.1 HN.out.2 _ _) HN.out.1 HN.out.2 _ _⟩; replace B1 : Aside0 (w3.heap[g]? = some (.cells #[.int .i64 3, .slice (some ⟨b, o, none⟩) 2 c] 26 (0, 0))) := ⟨by rw [hw]; exact blk_put (blk_put B1.out 0 _ rfl) 1 _ rfl⟩; clear hw; have z0 := bc B1 0; have z1 := bc B1 1; have y0 := GW.out.1.1; have y1 := GW.out.1.2.1; have y2 := GW.out.1.2.2.1; have y3 := GW.out.1.2.2.2))
  go_wp2_with (first | (go_at_call 17; clear y0 y1 y2 y3; refine (text_w GW.out (tb HT GW.out.2.2.2)).mono ?_; rintro e w4 ⟨rfl, hx, hb⟩; replace B1 := kx B1 hb; replace GW := Aside0.mk hx; clear hx hb z0 z1; have z0 := bc B1 0; have z1 := bc B1 1) | (go_at_call 19; refine (ends_w GW.out).mono ?_; rintro e w5 ⟨rfl, hx, hb⟩; replace B1 := kx B1 hb; replace GW := Aside0.mk hx; clear hx hb z0 z1; have z0 := bc B1 0; have z1 := bc B1 1) | (go_at_call 24; refine (valid_w GW.out).mono ?_; rintro e w6 ⟨rfl, hx, hb⟩; replace B1 := kx B1 hb; replace GW := Aside0.mk hx; clear hx hb z0 z1; have z0 := bc B1 0; have z1 := bc B1 1) | (go_at_call 26; refine (find_w GW.out).mono ?_; rintro e w7 ⟨rfl, hx, hb⟩; replace B1 := kx B1 hb; replace GW := Aside0.mk hx; clear hx hb z0 z1; have z0 := bc B1 0; have z1 := bc B1 1))
  go_ret
  exact ⟨rfl, GW.out.2.2.2⟩
end Go.Proofs.YthejafdcdcchbaaDoor.PSimA
