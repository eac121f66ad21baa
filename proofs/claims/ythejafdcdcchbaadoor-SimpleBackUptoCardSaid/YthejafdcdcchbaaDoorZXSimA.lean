-- By hand: simple.compare over numbers below 2^21, and slices.SortFunc by it.
import Derived.Test.YthejafdcdcchbaaDoorZPSimAx0
import Derived.Test.YthejafdcdcchbaaDoorZXSort
import Derived.Test.YthejafdcdcchbaaDoorZXShelf
import Derived.StillTailTactics
import Derived.Lib.Small
import Derived.Lib.Walk
set_option linter.unusedVariables false
set_option linter.unusedSimpArgs false
namespace Go.Proofs.YthejafdcdcchbaaDoor.PSimA
open Go.Shelf Go.RowKit Go.Lib Go.Sort Go.Proofs Go.Proofs.YthejafdcdcchbaaDoorW.PrintWords Go.Proofs.YthejafdcdcchbaaDoorW.PrintLast Go.Proofs.YthejafdcdcchbaaDoorW.PrintMore Go.Proofs.YthejafdcdcchbaaDoorX
/-- An edge whose numbers are small. -/
structure Bd where
  e : S42
  h : (0 ≤ e.f0 ∧ e.f0 ≤ 2097152) ∧ (0 ≤ e.f1 ∧ e.f1 ≤ 2097152)
instance : Inhabited Bd := ⟨⟨⟨0, 0⟩, by decide⟩⟩
def Bd.cf (x y : Bd) : Int := if x.e.f0 ≠ y.e.f0 then x.e.f0 - y.e.f0 else x.e.f1 - y.e.f1
def Bd.enc (x : Bd) : List Value := [.int .i64 x.e.f0, .int .i64 x.e.f1]
set_option maxHeartbeats 1000000 in
set_option maxRecDepth 20000 in
theorem compare_c (a b c d : Int) (ha : 0 ≤ a ∧ a ≤ 2097152) (hb : 0 ≤ b ∧ b ≤ 2097152) (hc : 0 ≤ c ∧ c ≤ 2097152) (hd : 0 ≤ d ∧ d ≤ 2097152) (W : World) :
    Calls Tryd.prog 37 #[.agg #[.int .i64 a, .int .i64 b], .agg #[.int .i64 c, .int .i64 d]] W fun e w' => e = .returned (.int .i64 (if a ≠ c then a - c else b - d)) ∧ ∃ q os', w' = grow (W.drewN q) os' := by
  obtain ⟨ha0, ha1⟩ := ha
  obtain ⟨hb0, hb1⟩ := hb
  obtain ⟨hc0, hc1⟩ := hc
  obtain ⟨hd0, hd1⟩ := hd
  have hg : ∀ o1 o2, ∃ q os', (W.alloc o1).alloc o2 = grow (W.drewN q) os' := fun o1 o2 => ⟨0, #[o1] ++ #[o2], by rw [alloc_eq_grow, alloc_eq_grow, grow_grow]; rfl⟩
  by_cases h : a = c
  · have h1 : (a == c) = true := beq_iff_eq.mpr h
    have h2 : (a != c) = false := bne_eq_false_iff_eq.mpr h
    rw [if_neg (by simp [h])]
    clear h
    go_enter Tryd.func37, Tryd.ntmps37
    go_wp2
    go_ret
    exact ⟨rfl, hg _ _⟩
  · have h1 : (a == c) = false := beq_eq_false_iff_ne.mpr h
    have h2 : (a != c) = true := bne_iff_ne.mpr h
    rw [if_pos h]
    clear h
    go_enter Tryd.func37, Tryd.ntmps37
    go_wp2
    go_ret
    exact ⟨rfl, hg _ _⟩
theorem Bd.lt_iff (x y : Bd) : ltOf Bd.cf x y = true ↔ x.e.f0 < y.e.f0 ∨ x.e.f0 = y.e.f0 ∧ x.e.f1 < y.e.f1 := by
  unfold ltOf Bd.cf
  simp only [decide_eq_true_eq]
  split <;> omega
theorem Bd.swo : Sort.SWO (ltOf Bd.cf) where
  irrefl x := by
    cases h : ltOf Bd.cf x x
    · rfl
    · rw [Bd.lt_iff] at h; omega
  trans x y z h1 h2 := by rw [Bd.lt_iff] at h1 h2 ⊢; omega
  ntrans x y z h1 h2 := by
    cases h : ltOf Bd.cf x z
    · rfl
    · have h1' : ¬ ltOf Bd.cf x y = true := by rw [h1]; exact Bool.false_ne_true
      have h2' : ¬ ltOf Bd.cf y z = true := by rw [h2]; exact Bool.false_ne_true
      rw [Bd.lt_iff] at h h1' h2'; omega
theorem Bd.total (x y : Bd) (h1 : ltOf Bd.cf x y = false) (h2 : ltOf Bd.cf y x = false) : x = y := by
  have h1' : ¬ ltOf Bd.cf x y = true := by rw [h1]; exact Bool.false_ne_true
  have h2' : ¬ ltOf Bd.cf y x = true := by rw [h2]; exact Bool.false_ne_true
  rw [Bd.lt_iff] at h1' h2'
  obtain ⟨⟨a, b⟩, hx⟩ := x
  obtain ⟨⟨c, d⟩, hy⟩ := y
  simp only at h1' h2'
  have e1 : a = c := by omega
  have e2 : b = d := by omega
  subst e1; subst e2
  rfl
section
variable {α : Type} [Inhabited α]
theorem sort_given1 {d : Kd α} {P : Program} {f : FuncId} (e : TypeId) (enc : α → List Value) (k : Nat) (hk0 : 0 < k) (hsz : d.sz = k) (hk : ∀ x, (enc x).length = k)
    (hMo : ∀ (w : World) (base : Nat) (ok : Nat → Prop) (x : α) (cs : List Value), d.M w base ok x cs → cs = enc x) (hMm : ∀ (w : World) (base : Nat) (ok : Nat → Prop) (x : α), d.M w base ok x (enc x))
    (l r : List α) (hlen : r.length = l.length) (fv : Value)
    (hnone : ∀ (p : Option Addr) (cap : Nat) (w : World), Calls P f #[.slice p 0 cap, fv] w fun e w' => e = .returned (.tuple #[]) ∧ w' = w)
    (hsort : ∀ (blk off cap : Nat) (w : World), HoldsK enc k w blk off l.toArray → blk < w.heap.size → l.length < 4611686018427387904 →
      Calls P f #[.slice (some ⟨blk, off, none⟩) l.length cap, fv] w fun e w' => e = .returned (.tuple #[]) ∧ ∃ n os, w' = sortWorldK enc k w blk off n r.toArray os)
    (P0 : Nat → Prop) (u : Value) (w0 w : World) (hB : Below w0.heap.size w0 w) (ho : d.R e w w0.heap.size P0 u l) (hl : l.length < 4611686018427387904) :
    Calls P f #[u, fv] w fun e' w' => e' = .returned (.tuple #[]) ∧ d.R e w' w0.heap.size (fun k_ => P0 k_ ∨ w.heap.size ≤ k_) u r ∧ Below w0.heap.size w0 w' ∧ Kept w w' (fun k_ => P0 k_) := by
  obtain ⟨hok, inner, hown, hrep⟩ := ho
  have hrep' : inner = (flatK enc k l.toArray).toList := reps_flat hk0 (by rw [← hsz]; exact hrep) (fun p c hp => hMo _ _ _ _ _ hp) hk
  have hown0 := hown
  obtain ⟨hil, hcase⟩ := hown
  rcases hcase with ⟨rfl, hn⟩ | ⟨g, cap, cur, rfl, hbg, hh, hnc, hcm, hcs, htk⟩
  · have : l = [] := List.eq_nil_of_length_eq_zero hn
    subst this
    obtain rfl : r = [] := List.eq_nil_of_length_eq_zero (by rw [hlen]; rfl)
    refine (hnone none 0 w).mono ?_
    rintro e' w' ⟨rfl, rfl⟩
    exact ⟨rfl, Kd.R_nil _ _ _ _ _, hB, Kept.refl _ _⟩
  · have hg : g < w.heap.size := (Array.getElem?_eq_some_iff.1 hh).1
    rw [hsz] at hcs htk
    have hH : HoldsK enc k w g 0 l.toArray := by
      intro j hj
      have hj' : j < l.length * k := by simpa using hj
      rw [Nat.zero_add]
      refine ⟨?_, hown0.frozenAt j⟩
      have := hown0.cellAt j (by rw [hsz]; exact hj')
      rw [this, hrep', List.getElem?_eq_getElem (by simpa using hj'), Array.getElem_toList]
      simp only [id]
      rw [getElem!_pos]
    refine (hsort g 0 cap w hH hg hl).mono ?_
    rintro e' w' ⟨rfl, n, os, rfl⟩
    have hblk : ∀ i, i < w.heap.size → (sortWorldK enc k w g 0 n r.toArray os).heap[i]? = if g = i then some (.cells (putCells id 0 (flatK enc k r.toArray) cur) e (0, 0)) else w.heap[i]? := by
      intro i hi
      have hs : ((w.heap.modify g (onCells (putCells id 0 (flatK enc k r.toArray)))) ++ os)[i]? = (w.heap.modify g (onCells (putCells id 0 (flatK enc k r.toArray))))[i]? := Array.getElem?_append_left (by simpa using hi)
      show ((w.heap.modify g (onCells (putCells id 0 (flatK enc k r.toArray)))) ++ os)[i]? = _
      rw [hs, Array.getElem?_modify]
      by_cases hgi : g = i
      · subst hgi
        rw [if_pos rfl, if_pos rfl, hh]
        rfl
      · rw [if_neg hgi, if_neg hgi]
    have hsize : w.heap.size ≤ (sortWorldK enc k w g 0 n r.toArray os).heap.size := by
      show w.heap.size ≤ ((w.heap.modify g (onCells (putCells id 0 (flatK enc k r.toArray)))) ++ os).size
      simp
    have hcl : l.length * k ≤ cur.size := by rw [hcs]; exact Nat.mul_le_mul_right _ hnc
    refine ⟨rfl, ⟨fun k' hk' => .inl (hok k' hk'), (flatK enc k r.toArray).toList, ⟨?_, .inr ⟨g, cap, _, by rw [hlen], hbg, by rw [hblk g hg, if_pos rfl], by rw [hlen]; exact hnc, hcm, ?_, ?_⟩⟩, ?_⟩, ?_, ?_⟩
    · simp [hsz]
    · rw [hsz]
      simpa [putCells] using hcs
    · rw [hsz]
      have := putCells_take (flatK enc k r.toArray) cur (by simpa [hlen] using hcl)
      rw [size_flatK] at this
      simpa using this
    · rw [hsz]
      exact reps_of_flat hk0 (fun p => hMm _ _ _ p) hk
    · exact ⟨hB.os, hB.tape, hB.output, Nat.le_trans hB.size hsize, fun i hi => by
        rw [hblk i (Nat.lt_of_lt_of_le hi hB.size), if_neg (by omega)]
        exact hB.block i hi⟩
    · refine ⟨hsize, fun i hi hS => ?_⟩
      rw [hblk i hi, if_neg]
      rintro rfl
      exact hS (hok g rfl)
end
instance : Inhabited S42 := ⟨⟨0, 0⟩⟩
def enc42 (x : S42) : List Value := [.int .i64 x.f0, .int .i64 x.f1]
def Le42 (x y : S42) : Prop := x.f0 < y.f0 ∨ x.f0 = y.f0 ∧ x.f1 ≤ y.f1
theorem flat_bd (lb : List Bd) : flatK Bd.enc 2 lb.toArray = flatK enc42 2 (lb.map Bd.e).toArray := by
  simp only [flatK]
  apply Array.ext
  · simp
  · intro t h1 h2
    have ht : t < lb.length * 2 := by simpa using h1
    have hd : t / 2 < lb.length := by omega
    simp [hd, Bd.enc, enc42]
theorem sort_c {u : Value} {l r : List S42} {P0 : Nat → Prop} {w0 w : World} (hb : ∀ x ∈ l, (0 ≤ x.f0 ∧ x.f0 ≤ 2097152) ∧ (0 ≤ x.f1 ∧ x.f1 ≤ 2097152)) (hp : r.Perm l) (hs : r.Pairwise Le42) (hl : l.length < 4611686018427387904)
    (hB : Below w0.heap.size w0 w) (ho : Kd.R k42 42 w w0.heap.size P0 u l) :
    Calls Tryd.prog 36 #[u, .func (Fn.func 37) #[] #[]] w fun e' w' => e' = .returned (.tuple #[]) ∧ Kd.R k42 42 w' w0.heap.size (fun k_ => P0 k_ ∨ w.heap.size ≤ k_) u r ∧ Below w0.heap.size w0 w' ∧ Kept w w' (fun k_ => P0 k_) := by
  have eg : ∀ args w, (callFunc 37 args).run Tryd.prog w = .ok (.enter 37 args) w := enters_of Tryd.func37 (by kernel_rfl) rfl
  obtain ⟨lb, hlb⟩ : ∃ lb : List Bd, lb.map Bd.e = l := ⟨l.attach.map fun x => ⟨x.1, hb x.1 x.2⟩, by rw [List.map_map]; exact List.attach_map_subtype_val l⟩
  have hbr : ∀ x ∈ r, (0 ≤ x.f0 ∧ x.f0 ≤ 2097152) ∧ (0 ≤ x.f1 ∧ x.f1 ≤ 2097152) := fun x hx => hb x (hp.mem_iff.1 hx)
  obtain ⟨rb, hrb⟩ : ∃ rb : List Bd, rb.map Bd.e = r := ⟨r.attach.map fun x => ⟨x.1, hbr x.1 x.2⟩, by rw [List.map_map]; exact List.attach_map_subtype_val r⟩
  refine sort_given1 42 enc42 2 (by decide) rfl (fun _ => rfl) (fun _ _ _ _ _ hM => k42_openM hM) (fun _ _ _ _ => k42_mkM _ _ _ _) l r hp.length_eq (.func (Fn.func 37) #[] #[]) ?_ ?_ P0 u w0 w hB ho hl
  · intro p cap w
    exact AnyF.slices_SortFunc_none Tryd.sortE p cap _ w
  · intro blk off cap w hH hblk hl
    have hH' : HoldsK Bd.enc 2 w blk off lb.toArray := by
      have e := flat_bd lb
      rw [hlb] at e
      unfold HoldsK at hH ⊢
      rw [e]
      exact hH
    have hc : CmpLays Tryd.prog 37 #[] Bd.enc 2 Bd.cf blk off lb.toArray.size w := fun m os dk hdk x y => compare_c x.e.f0 x.e.f1 y.e.f0 y.e.f1 x.h.1 x.h.2 y.h.1 y.h.2 _
    have hll : lb.length = l.length := by rw [← hlb]; simp
    have := AnyQ.slices_SortFunc_total Tryd.sortE 2 Tryd.isAgg42 Tryd.sizeOf42 Bd.enc (fun _ => rfl) (fun x v hv => by simp [Bd.enc] at hv; rcases hv with rfl | rfl <;> rfl) Bd.cf Bd.swo 37 #[] blk off cap lb.toArray w eg hc hH' hblk (by simpa [hll] using hl) Bd.total
    rw [show lb.toArray.size = l.length by simp [hll]] at this
    refine this.mono ?_
    rintro e w' ⟨rfl, n, os, rfl⟩
    refine ⟨rfl, n, os, ?_⟩
    have hm : lb.mergeSort (fun x y => !(ltOf Bd.cf) y x) = rb := by
      have hle : ∀ x y : Bd, (!(ltOf Bd.cf) y x) = true ↔ Le42 x.e y.e := fun x y => by
        rw [Bool.not_eq_true', ← Bool.not_eq_true, Bd.lt_iff]
        unfold Le42
        omega
      have h1 : (lb.mergeSort fun x y => !(ltOf Bd.cf) y x).Pairwise (fun x y => Le42 x.e y.e) := by
        refine (List.pairwise_mergeSort (le := fun x y => !(ltOf Bd.cf) y x) (fun a b c h1 h2 => ?_) (fun a b => ?_) lb).imp (fun h => (hle _ _).1 h)
        · rw [hle] at h1 h2 ⊢
          unfold Le42 at *
          omega
        · rw [Bool.or_eq_true, hle, hle]
          unfold Le42
          omega
      have h2 : rb.Pairwise (fun x y => Le42 x.e y.e) := by
        have := hs
        rw [← hrb, List.pairwise_map] at this
        exact this
      have inj : ∀ x y : Bd, x.e = y.e → x = y := fun x y h => by cases x; cases y; simp only at h; subst h; rfl
      have h3 : lb.Perm rb := by
        have : (lb.map Bd.e).Perm (rb.map Bd.e) := by rw [hlb, hrb]; exact hp.symm
        let g : S42 → Bd := fun x => if h : (0 ≤ x.f0 ∧ x.f0 ≤ 2097152) ∧ (0 ≤ x.f1 ∧ x.f1 ≤ 2097152) then ⟨x, h⟩ else default
        have hg : ∀ x : Bd, g x.e = x := fun x => by simp only [g]; rw [dif_pos x.h]
        have h4 := this.map g
        rw [List.map_map, List.map_map] at h4
        have hid : g ∘ Bd.e = id := funext hg
        rw [hid, List.map_id, List.map_id] at h4
        exact h4
      refine List.Perm.eq_of_pairwise (le := fun x y : Bd => Le42 x.e y.e) (fun a b _ _ h1 h2 => ?_) h1 h2 ((List.mergeSort_perm lb _).trans h3)
      apply inj
      unfold Le42 at h1 h2
      obtain ⟨⟨a0, a1⟩, _⟩ := a
      obtain ⟨⟨b0, b1⟩, _⟩ := b
      simp only [S42.mk.injEq]
      simp only at h1 h2
      omega
    rw [show lb.toArray.toList = lb from rfl, hm]
    have hf := flat_bd rb
    rw [hrb] at hf
    simp only [sortWorldK, putRowK, hf]
end Go.Proofs.YthejafdcdcchbaaDoor.PSimA
