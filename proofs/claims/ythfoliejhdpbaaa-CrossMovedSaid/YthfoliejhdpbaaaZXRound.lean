-- By hand: cross.round: a row of half-edges sorted where it lies.
import Derived.Test.YthfoliejhdpbaaaZXAng2
set_option linter.unusedVariables false
set_option linter.unusedSimpArgs false
namespace Go.Proofs.Ythfoliejhdpbaaa.PCroA
open Go.Shelf Go.RowKit Go.Lib Go.Sort Go.Proofs Go.Proofs.YthfoliejhdpbaaaW.PrintWords Go.Proofs.YthfoliejhdpbaaaW.PrintLast Go.Proofs.YthfoliejhdpbaaaW.PrintMore Go.Proofs.YthfoliejhdpbaaaX
/-- An element of the row. -/
structure Mb (l : List Int) where
  v : Int
  h : v ∈ l
def Mb.enc {l : List Int} (x : Mb l) : Value := .int .i64 x.v
abbrev Dr (dirs : List S23) (h : Int) : S23 := rd_T23 dirs h
def Mb.cf (dirs : List S23) {l : List Int} (x y : Mb l) : Int := angF (Dr dirs x.v) (Dr dirs y.v)
/-- what the row becomes -/
def roundF (dirs : List S23) (l : List Int) : List Int := l.mergeSort fun x y => !decide (angF (Dr dirs y) (Dr dirs x) < 0)
/-- directions that can be told apart -/
def Apart (dirs : List S23) (l : List Int) : Prop :=
  (∀ x ∈ l, (0 ≤ x ∧ x < dirs.length) ∧ Dir (Dr dirs x) ∧ (-8388608 ≤ (Dr dirs x).f0 ∧ (Dr dirs x).f0 ≤ 8388608) ∧ (-8388608 ≤ (Dr dirs x).f1 ∧ (Dr dirs x).f1 ≤ 8388608)) ∧
  ∀ x ∈ l, ∀ y ∈ l, ¬ angF (Dr dirs x) (Dr dirs y) < 0 → ¬ angF (Dr dirs y) (Dr dirs x) < 0 → x = y
theorem mul_bd {a b : Int} (ha : -8388608 ≤ a ∧ a ≤ 8388608) (hb : -8388608 ≤ b ∧ b ≤ 8388608) : -70368744177664 ≤ a * b ∧ a * b ≤ 70368744177664 := by
  have h1 : 0 ≤ (8388608 - a) * (8388608 - b) := Int.mul_nonneg (by omega) (by omega)
  have h2 : 0 ≤ (8388608 + a) * (8388608 + b) := Int.mul_nonneg (by omega) (by omega)
  have h3 : 0 ≤ (8388608 - a) * (8388608 + b) := Int.mul_nonneg (by omega) (by omega)
  have h4 : 0 ≤ (8388608 + a) * (8388608 - b) := Int.mul_nonneg (by omega) (by omega)
  simp only [Int.sub_mul, Int.mul_sub, Int.add_mul, Int.mul_add] at h1 h2 h3 h4
  omega
theorem X2_wrap {a b : S23} (ha : (-8388608 ≤ a.f0 ∧ a.f0 ≤ 8388608) ∧ (-8388608 ≤ a.f1 ∧ a.f1 ≤ 8388608)) (hb : (-8388608 ≤ b.f0 ∧ b.f0 ≤ 8388608) ∧ (-8388608 ≤ b.f1 ∧ b.f1 ≤ 8388608)) :
    wrap64 (wrap64 (a.f0 * b.f1) - wrap64 (a.f1 * b.f0)) = X2 a b := by
  have h1 := mul_bd ha.1 hb.2
  have h2 := mul_bd ha.2 hb.1
  have q1 : wrap64 (a.f0 * b.f1) = a.f0 * b.f1 := w64 (by omega) (by omega)
  have q2 : wrap64 (a.f1 * b.f0) = a.f1 * b.f0 := w64 (by omega) (by omega)
  rw [q1, q2, w64 (by omega) (by omega)]
  rfl
theorem Mb.swo {dirs : List S23} {l : List Int} (h : Apart dirs l) : Sort.SWO (ltOf (Mb.cf dirs (l := l))) where
  irrefl x := by
    unfold ltOf Mb.cf
    exact decide_eq_false (ang_irrefl _)
  trans x y z h1 h2 := by
    unfold ltOf Mb.cf at *
    exact decide_eq_true (ang_trans (h.1 _ x.h).2.1 (h.1 _ y.h).2.1 (h.1 _ z.h).2.1 (of_decide_eq_true h1) (of_decide_eq_true h2))
  ntrans x y z h1 h2 := by
    unfold ltOf Mb.cf at *
    exact decide_eq_false (ang_ntrans (h.1 _ x.h).2.1 (h.1 _ y.h).2.1 (h.1 _ z.h).2.1 (of_decide_eq_false h1) (of_decide_eq_false h2))
theorem Mb.total {dirs : List S23} {l : List Int} (h : Apart dirs l) (x y : Mb l) (h1 : ltOf (Mb.cf dirs) x y = false) (h2 : ltOf (Mb.cf dirs) y x = false) : x = y := by
  unfold ltOf Mb.cf at h1 h2
  have := h.2 _ x.h _ y.h (of_decide_eq_false h1) (of_decide_eq_false h2)
  obtain ⟨a, ha⟩ := x
  obtain ⟨b, hb⟩ := y
  simp only at this
  subst this
  rfl
theorem sw_block {α : Type} [Inhabited α] (enc : α → Value) (w : World) (g off m : Nat) (dk : Array α) (os : Array Obj) (i : Nat) (hi : i < w.heap.size) (hn : g ≠ i) : (sortWorld enc w g off m dk os).heap[i]? = w.heap[i]? := by
  show ((w.heap.modify g (onCells (putCells enc off dk))) ++ os)[i]? = _
  rw [Array.getElem?_append_left (by simpa using hi), Array.getElem?_modify, if_neg hn]
theorem sw_cell {α : Type} [Inhabited α] (enc : α → Value) (w : World) (g off m : Nat) (dk : Array α) (os : Array Obj) {p : Addr} {v : Value} (hp : w.cell? p = some v) (hn : g ≠ p.block) : (sortWorld enc w g off m dk os).cell? p = some v := by
  have hi := World.block_lt_of_cell? w _ hp
  rw [← hp]
  unfold World.cell?
  rw [sw_block enc w g off m dk os p.block hi hn]
theorem add_block (p : Addr) (n : Nat) : (p.add n).block = p.block := by unfold Addr.add; split <;> rfl
/-- slices.SortFunc over a row of half-edges by the closure, the two boxes at g1, g2. -/
theorem sortR_c (dirs : List S23) (l : List Int) (hA : Apart dirs l) (hne : l ≠ []) (g1 g2 : Nat) (ad : Addr) (cp : Nat) (g cap : Nat) (w : World) (cur : Array Value) (e : Nat)
    (hh : w.heap[g]? = some (.cells cur e (0, 0))) (hcur : ∀ j (h : j < l.length), cur[j]? = some (.int .i64 l[j]))
    (hb1 : w.cell? ⟨g1, 0, none⟩ = some (.func (.func 50) #[] #[])) (hb2 : w.cell? ⟨g2, 0, none⟩ = some (.slice (some ad) dirs.length cp)) (n1 : g ≠ g1) (n2 : g ≠ g2) (n3 : g ≠ ad.block)
    (hcl : ∀ i : Int, 0 ≤ i → i < dirs.length → w.cell? (ad.add (i.toNat * 2)) = some (.int .i64 (rd_T23 dirs i).f0) ∧ w.cell? ⟨(ad.add (i.toNat * 2)).block, (ad.add (i.toNat * 2)).off + 1, none⟩ = some (.int .i64 (rd_T23 dirs i).f1))
    (hl : l.length < 4611686018427387904) :
    Calls Try.prog 62 #[.slice (some ⟨g, 0, none⟩) l.length cap, .func (.func 63) #[] #[.pointer (some ⟨g1, 0, none⟩), .pointer (some ⟨g2, 0, none⟩)]] w fun e' w' => e' = .returned (.tuple #[]) ∧
      ∃ (n : Nat) (os : Array Obj) (cur' : Array Value), w' = grow (Sort.ahead (mapBlock w g fun _ => cur') n) os ∧ cur'.size = cur.size ∧ (∀ j (h : j < (roundF dirs l).length), cur'[j]? = some (.int .i64 (roundF dirs l)[j])) := by
  obtain ⟨x0, hx0⟩ := List.exists_mem_of_ne_nil l hne
  haveI : Inhabited (Mb l) := ⟨⟨x0, hx0⟩⟩
  obtain ⟨lb, hlb⟩ : ∃ lb : List (Mb l), lb.map Mb.v = l := ⟨l.attach.map fun x => ⟨x.1, x.2⟩, by rw [List.map_map]; exact List.attach_map_subtype_val l⟩
  have hll : lb.length = l.length := by have := congrArg List.length hlb; simpa using this
  have eg : ∀ args w, (callFunc 63 args).run Try.prog w = .ok (.enter 63 args) w := enters_of Try.func63 (by kernel_rfl) rfl
  have hg : g < w.heap.size := (Array.getElem?_eq_some_iff.1 hh).1
  have hc : CmpLays1 Try.prog 63 #[.pointer (some ⟨g1, 0, none⟩), .pointer (some ⟨g2, 0, none⟩)] Mb.enc (Mb.cf dirs) g 0 lb.toArray.size w := fun m os dk hdk x y => by
    have hx := hA.1 _ x.h
    have hy := hA.1 _ y.h
    exact clos_q g1 g2 ad cp dirs x.v y.v hx.1.1 hx.1.2 hy.1.1 hy.1.2 _ (sw_cell Mb.enc w g 0 m dk os hb1 n1) (sw_cell Mb.enc w g 0 m dk os hb2 n2)
      (fun i h0 h1 => ⟨sw_cell Mb.enc w g 0 m dk os (hcl i h0 h1).1 (by rw [add_block]; exact n3), sw_cell Mb.enc w g 0 m dk os (hcl i h0 h1).2 (by show g ≠ (ad.add (i.toNat * 2)).block; rw [add_block]; exact n3)⟩) (X2_wrap ⟨hx.2.2.1, hx.2.2.2⟩ ⟨hy.2.2.1, hy.2.2.2⟩)
  have hH : Holds Mb.enc w g 0 lb.toArray := by
    intro j hj
    have hj' : j < l.length := by simpa [hll] using hj
    have hjb : j < lb.length := by omega
    rw [Nat.zero_add]
    refine ⟨?_, blk_frozen hh j⟩
    refine (blk_cell hh j).trans ?_
    rw [hcur j hj', getElem!_pos _ j (by simpa using hj)]
    simp only [List.getElem_toArray, Mb.enc]
    congr 2
    have : (lb.map Mb.v)[j]'(by simpa using hjb) = l[j] := by simp only [hlb]
    rw [List.getElem_map] at this
    exact this.symm
  have h := Try.slices_SortFunc_total Mb.enc (fun x => rfl) (Mb.cf dirs) (Mb.swo hA) 63 #[.pointer (some ⟨g1, 0, none⟩), .pointer (some ⟨g2, 0, none⟩)] g 0 cap lb.toArray w eg hc hH hg (by simpa [hll] using hl) (Mb.total hA)
  rw [show lb.toArray.size = l.length by simp [hll]] at h
  refine h.mono ?_
  rintro e' w' ⟨rfl, n, os, rfl⟩
  have hm : (lb.mergeSort fun x y => !(ltOf (Mb.cf dirs)) y x).map Mb.v = roundF dirs l := by
    have h' := List.map_mergeSort (f := Mb.v) (r := fun x y => !(ltOf (Mb.cf dirs (l := l))) y x) (s := fun x y => !decide (angF (Dr dirs y) (Dr dirs x) < 0)) (l := lb) (fun a _ b _ => rfl)
    rw [hlb] at h'
    exact h'
  refine ⟨rfl, n, os, putCells Mb.enc 0 (lb.toArray.toList.mergeSort fun x y => !(ltOf (Mb.cf dirs)) y x).toArray cur, ?_, by simp [putCells], ?_⟩
  · unfold sortWorld putRow
    congr 1
    show mapBlock (Sort.ahead w n) g _ = Sort.ahead (mapBlock w g _) n
    unfold mapBlock Sort.ahead
    simp only
    congr 1
    apply Array.ext_getElem?
    intro i
    rw [Array.getElem?_modify, Array.getElem?_modify]
    by_cases c : g = i
    · subst c
      rw [if_pos rfl, if_pos rfl, hh]
      rfl
    · rw [if_neg c, if_neg c]
  · intro j hj
    have hj' : j < (lb.mergeSort fun x y => !(ltOf (Mb.cf dirs)) y x).length := by rw [← hm] at hj; simpa using hj
    have hc2 : j < cur.size := by
      have hjl : j < l.length := by
        rw [List.length_mergeSort] at hj'
        omega
      exact (Array.getElem?_eq_some_iff.1 (hcur j hjl)).1
    simp only [putCells]
    rw [Array.getElem?_mapIdx, Array.getElem?_eq_getElem hc2, Option.map_some, if_pos (by simp; simpa using hj'), Nat.sub_zero, getElem!_pos _ j (by simpa using hj')]
    simp only [Mb.enc]
    congr 2
    have : ((lb.mergeSort fun x y => !(ltOf (Mb.cf dirs)) y x).map Mb.v)[j]'(by simpa using hj') = (roundF dirs l)[j] := by simp only [hm]
    rw [List.getElem_map] at this
    simpa using this
/-- cross.round: the row sorted where it lies; no other block that stood before is touched. -/
theorem round_c (dirs : List S23) (l : List Int) (hA : Apart dirs l) (A : Option Addr) (cp : Nat) (u : Value) (base : Nat) (P0 : Nat → Prop) (w : World)
    (ho : Kd.R (Kd.int .i64) 3 w base P0 u l) (hC : Kd.C k23 w A dirs.length dirs) (hfar : ∀ a, A = some a → some a.block ≠ u.ownBlock) (hl : l.length < 4611686018427387904) :
    Calls Try.prog 49 #[u, .slice A dirs.length cp, .func (.func 50) #[] #[]] w fun e w' => e = .returned (.tuple #[]) ∧ Kd.R (Kd.int .i64) 3 w' base P0 u (roundF dirs l) ∧ w.grownBy w' u.ownBlock := by
  have hmf : ∀ (fn : Fn) (first cap : Array Value) (w : World), (Instr.makeFunc fn first cap).run Try.prog w = .ok (.func fn first cap) w := fun _ _ _ _ => rfl
  have hown := Kd.own_of_R ho
  obtain ⟨hil, hcase⟩ := hown
  by_cases hne : l = []
  · subst hne
    obtain ⟨p, c0, hu⟩ : ∃ p c0, u = .slice p 0 c0 := by
      rcases hcase with ⟨h, _⟩ | ⟨g, cap, cur, h, _⟩
      · exact ⟨none, 0, h⟩
      · exact ⟨_, _, h⟩
    subst hu
    have hr : roundF dirs [] = [] := by simp [roundF]
    rw [hr]
    have HO := Aside0.mk ho
    clear ho hcase hil hC hfar hA hl
    have hs := fun fv W => Try.slices_SortFunc_none (α := Int) p c0 fv W
    go_enter Try.func49, Try.ntmps49
    go_wp2_with (go_at_call 62; refine (hs _ _).mono ?_; rintro e w' ⟨rfl, rfl⟩)
    go_end0
    refine ⟨rfl, Kd.R_alloc (Kd.R_alloc HO.out _) _, ?_⟩
    exact ⟨rfl, rfl, rfl, by simp; omega, fun i hi _ => by
      have hb := below_alloc (below_alloc (Below.refl w.heap.size w) (Obj.cells #[Value.slice A dirs.length cp] 32)) (Obj.cells #[Value.func (Fn.func 50) #[] #[]] 77)
      exact hb.block i hi⟩
  · rcases hcase with ⟨_, h0⟩ | ⟨g, cap, cur, rfl, hbg, hh, hnc, hcm, hcs, htk⟩
    · exact absurd (List.eq_nil_of_length_eq_zero h0) hne
    · have hg : g < w.heap.size := (Array.getElem?_eq_some_iff.1 hh).1
      obtain ⟨x0, hx0⟩ := List.exists_mem_of_ne_nil l hne
      obtain ⟨ad, e0, _⟩ := at_T23 hC x0 (hA.1 x0 hx0).1.1 (hA.1 x0 hx0).1.2
      subst e0
      have n3 : g ≠ ad.block := fun e_ => hfar ad rfl (by rw [← e_]; rfl)
      have hcl : ∀ i : Int, 0 ≤ i → i < dirs.length → w.cell? (ad.add (i.toNat * 2)) = some (.int .i64 (rd_T23 dirs i).f0) ∧ w.cell? ⟨(ad.add (i.toNat * 2)).block, (ad.add (i.toNat * 2)).off + 1, none⟩ = some (.int .i64 (rd_T23 dirs i).f1) := fun i h0 h1 => by
        obtain ⟨ad', e1, a, b⟩ := at_T23 hC i h0 h1
        obtain rfl : ad = ad' := by injection e1
        exact ⟨a, b⟩
      have hb := below_alloc (below_alloc (Below.refl w.heap.size w) (Obj.cells #[Value.slice (some ad) dirs.length cp] 32)) (Obj.cells #[Value.func (Fn.func 50) #[] #[]] 77)
      have hh1 := (hb.block g hg).trans hh
      have hs1 : ((w.alloc (Obj.cells #[Value.slice (some ad) dirs.length cp] 32)).alloc (Obj.cells #[Value.func (Fn.func 50) #[] #[]] 77)).heap.size = w.heap.size + 2 := by simp
      have hcur : ∀ j (h : j < l.length), cur[j]? = some (.int .i64 l[j]) := fun j h => by
        have e1 : (cur.toList.take (l.length * 1))[j]? = (encs (Value.int .i64) l)[j]? := by rw [htk]
        rw [List.getElem?_take_of_lt (by omega)] at e1
        rw [Array.getElem?_toList] at e1
        rw [e1]
        simp [encs, h]
      have hS := sortR_c dirs l hA hne (w.heap.size + 1) w.heap.size ad cp g cap ((w.alloc (Obj.cells #[Value.slice (some ad) dirs.length cp] 32)).alloc (Obj.cells #[Value.func (Fn.func 50) #[] #[]] 77)) cur 3 hh1 hcur (by simp) (by simp) (by omega) (by omega) n3
        (fun i h0 h1 => ⟨(hb.cell (World.block_lt_of_cell? w _ (hcl i h0 h1).1)).trans (hcl i h0 h1).1, (hb.cell (World.block_lt_of_cell? w _ (hcl i h0 h1).2)).trans (hcl i h0 h1).2⟩) hl
      have HO := Aside0.mk ho
      have HX : Aside0 (base ≤ g ∧ l.length ≤ cap ∧ cap ≤ maxLen ∧ cur.size = cap * 1) := ⟨⟨hbg, hnc, hcm, hcs⟩⟩
      have HH := Aside0.mk hh1
      have HBb := Aside0.mk hb
      have HG := Aside0.mk hg
      clear ho hC hfar hcl hcur htk hh hh1 hb hbg hnc hcm hcs hil hl n3 hg hx0 hne hA
      go_enter Try.func49, Try.ntmps49
      go_wp2_with (go_at_call 62; refine hS.mono ?_; rintro e w' ⟨rfl, n, os, cur', rfl, hc1, hc2⟩)
      go_end0
      have hg := HG.out
      have hgw : g < ((w.alloc (Obj.cells #[Value.slice (some ad) dirs.length cp] 32)).alloc (Obj.cells #[Value.func (Fn.func 50) #[] #[]] 77)).heap.size := by rw [hs1]; omega
      generalize (w.alloc (Obj.cells #[Value.slice (some ad) dirs.length cp] 32)).alloc (Obj.cells #[Value.func (Fn.func 50) #[] #[]] 77) = W1 at HH HBb hs1 hgw ⊢
      have hblk : ∀ i, i < W1.heap.size → (grow (Sort.ahead (mapBlock W1 g fun _ => cur') n) os).heap[i]? = if g = i then some (.cells cur' 3 (0, 0)) else W1.heap[i]? := by
        intro i hi
        show ((W1.heap.modify g (onCells fun _ => cur')) ++ os)[i]? = _
        rw [Array.getElem?_append_left (by simpa using hi), Array.getElem?_modify]
        by_cases c : g = i
        · subst c
          rw [if_pos rfl, if_pos rfl, HH.out]
          rfl
        · rw [if_neg c, if_neg c]
      have hsz : W1.heap.size ≤ (grow (Sort.ahead (mapBlock W1 g fun _ => cur') n) os).heap.size := by
        show W1.heap.size ≤ ((W1.heap.modify g (onCells fun _ => cur')) ++ os).size
        simp
      have hlen : (roundF dirs l).length = l.length := List.length_mergeSort ..
      refine ⟨rfl, Kd.R_of_own (h1 := fun _ => rfl) ?_ HO.out.1, ?_⟩
      · refine ⟨by simp [encs], Or.inr ⟨g, cap, cur', by rw [hlen], HX.out.1, by rw [hblk g hgw, if_pos rfl], by rw [hlen]; exact HX.out.2.1, HX.out.2.2.1, by rw [hc1]; exact HX.out.2.2.2, ?_⟩⟩
        apply List.ext_getElem?
        intro j
        by_cases c : j < (roundF dirs l).length
        · rw [List.getElem?_take_of_lt (by omega), Array.getElem?_toList, hc2 j c]
          simp [encs, c]
        · rw [List.getElem?_eq_none (by simp; omega), List.getElem?_eq_none (by simp [encs]; omega)]
      · have hb := HBb.out
        exact ⟨hb.os, hb.tape, hb.output, Nat.le_trans hb.size hsz, fun i hi hn => by
          rw [hblk i (by omega), if_neg (fun e_ => hn (by rw [← e_]; rfl))]
          exact hb.block i hi⟩
end Go.Proofs.Ythfoliejhdpbaaa.PCroA
