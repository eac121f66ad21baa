-- Own words: slices.SortFunc over a row of the call's own, in the print's form, out of the shelf's contract.
import Derived.Test.YthejafdcdcchbaaDoorV
import Derived.Shelf.SlSortCmp.NoneTotal
set_option linter.unusedVariables false
set_option linter.unusedSimpArgs false
namespace Go.Proofs.YthejafdcdcchbaaDoorX
open Go.RowKit Go.Sort Go.Lib Go.Proofs.YthejafdcdcchbaaDoorW.PrintWords
section
variable {α : Type} [Inhabited α]
theorem flat_get (enc : α → List Value) (k : Nat) (hk : ∀ x, (enc x).length = k) (xs : List α) (t : Nat) (h : t < xs.length * k) (hk0 : 0 < k) (h2 : t < (flatK enc k xs.toArray).toList.length) (hj : t / k < xs.length) :
    (flatK enc k xs.toArray).toList[t] = (enc xs[t / k])[t % k]'(by rw [hk]; exact Nat.mod_lt _ hk0) := by
  simp only [flatK, Array.getElem_toList, Array.getElem_map, Array.getElem_range]
  have e : xs.toArray[t / k]! = xs[t / k] := by simp [hj]
  rw [e, getElem!_pos]
theorem reps_flat {R : α → List Value → Prop} {enc : α → List Value} {k : Nat} {xs : List α} {inner : List Value} (hk0 : 0 < k) (h : Reps R k xs inner) (hR : ∀ p c, R p c → c = enc p) (hk : ∀ x, (enc x).length = k) :
    inner = (flatK enc k xs.toArray).toList := by
  apply List.ext_getElem
  · simp [h.1]
  · intro t h1 h2
    have ht : t < xs.length * k := by rw [← h.1]; exact h1
    have hj : t / k < xs.length := Nat.div_lt_of_lt_mul (by rwa [Nat.mul_comm])
    have hm : t % k < k := Nat.mod_lt _ hk0
    have hr := hR _ _ (h.2 (t / k) xs[t / k] (List.getElem?_eq_getElem hj))
    rw [flat_get enc k hk xs t ht hk0 h2 hj]
    have e1 : ((inner.drop (t / k * k)).take k)[t % k]? = some inner[t] := by
      rw [List.getElem?_take_of_lt hm, List.getElem?_drop, Nat.div_add_mod' t k, List.getElem?_eq_getElem h1]
    rw [hr, List.getElem?_eq_getElem (by rw [hk]; exact hm)] at e1
    exact (Option.some.inj e1).symm
theorem reps_of_flat {R : α → List Value → Prop} {enc : α → List Value} {k : Nat} {xs : List α} (hk0 : 0 < k) (hR : ∀ p, R p (enc p)) (hk : ∀ x, (enc x).length = k) : Reps R k xs (flatK enc k xs.toArray).toList := by
  refine ⟨by simp, fun j p hj => ?_⟩
  obtain ⟨hjl, rfl⟩ := List.getElem?_eq_some_iff.1 hj
  have hle : j * k + k ≤ xs.length * k := by rw [← Nat.succ_mul]; exact Nat.mul_le_mul_right _ hjl
  have : (((flatK enc k xs.toArray).toList.drop (j * k)).take k) = enc xs[j] := by
    apply List.ext_getElem
    · simp [hk]
      omega
    · intro i h1 h2
      have hi : i < k := by rw [← hk xs[j]]; exact h2
      have e1 : (j * k + i) / k = j := by rw [Nat.mul_comm, Nat.mul_add_div hk0, Nat.div_eq_of_lt hi]; rfl
      have e2 : (j * k + i) % k = i := by rw [Nat.mul_comm, Nat.mul_add_mod, Nat.mod_eq_of_lt hi]
      rw [List.getElem_take, List.getElem_drop, flat_get enc k hk xs (j * k + i) (by omega) hk0 (by simp; omega) (by rw [e1]; exact hjl)]
      simp only [e1, e2]
  rw [this]
  exact hR _
theorem putCells_take (F : Array Value) (cur : Array Value) (h : F.size ≤ cur.size) : (putCells id 0 F cur).toList.take F.size = F.toList := by
  apply List.ext_getElem
  · simp [putCells]
    omega
  · intro i h1 h2
    have hi : i < F.size := by simpa using h2
    simp [putCells, hi]
theorem sort_given {d : Kd α} {P : Program} {f : FuncId} (e : TypeId) (enc : α → List Value) (k : Nat) (hk0 : 0 < k) (hsz : d.sz = k) (hk : ∀ x, (enc x).length = k)
    (hMo : ∀ (w : World) (base : Nat) (ok : Nat → Prop) (x : α) (cs : List Value), d.M w base ok x cs → cs = enc x) (hMm : ∀ (w : World) (base : Nat) (ok : Nat → Prop) (x : α), d.M w base ok x (enc x))
    (srt : List α → List α) (hlen : ∀ l, (srt l).length = l.length) (fv : Value)
    (hnone : ∀ (p : Option Addr) (cap : Nat) (w : World), Calls P f #[.slice p 0 cap, fv] w fun e w' => e = .returned (.tuple #[]) ∧ w' = w)
    (hsort : ∀ (blk off cap : Nat) (l : List α) (w : World), HoldsK enc k w blk off l.toArray → blk < w.heap.size → l.length < 4611686018427387904 →
      Calls P f #[.slice (some ⟨blk, off, none⟩) l.length cap, fv] w fun e w' => e = .returned (.tuple #[]) ∧ ∃ n os, w' = sortWorldK enc k w blk off n (srt l).toArray os)
    (P0 : Nat → Prop) (u : Value) (l r : List α) (w0 w : World) (hB : Below w0.heap.size w0 w) (ho : d.R e w w0.heap.size P0 u l) (hl : l.length < 4611686018427387904) (h : srt l = r) :
    Calls P f #[u, fv] w fun e' w' => e' = .returned (.tuple #[]) ∧ d.R e w' w0.heap.size (fun k_ => P0 k_ ∨ w.heap.size ≤ k_) u r ∧ Below w0.heap.size w0 w' ∧ Kept w w' (fun k_ => P0 k_) := by
  subst h
  obtain ⟨hok, inner, hown, hrep⟩ := ho
  have hrep' : inner = (flatK enc k l.toArray).toList := reps_flat hk0 (by rw [← hsz]; exact hrep) (fun p c hp => hMo _ _ _ _ _ hp) hk
  have hown0 := hown
  obtain ⟨hil, hcase⟩ := hown
  rcases hcase with ⟨rfl, hn⟩ | ⟨g, cap, cur, rfl, hbg, hh, hnc, hcm, hcs, htk⟩
  · have : l = [] := List.eq_nil_of_length_eq_zero hn
    subst this
    have h0 : srt [] = [] := List.eq_nil_of_length_eq_zero (by rw [hlen]; rfl)
    rw [h0]
    refine (hnone none 0 w).mono ?_
    rintro e' w' ⟨rfl, rfl⟩
    exact ⟨rfl, Kd.R_nil _ _ _ _ _, hB, Kept.refl _ _⟩
  · have hg : g < w.heap.size := (Array.getElem?_eq_some_iff.1 hh).1
    rw [hsz] at hcs htk
    have hH : HoldsK enc k w g 0 l.toArray := by
      intro j hj
      have hj' : j < l.length * k := by simpa using hj
      rw [Nat.zero_add]
      refine ⟨?_, hown0.frozenAt j⟩
      have := hown0.cellAt j (by rw [hsz]; exact hj')
      rw [this, hrep', List.getElem?_eq_getElem (by simpa using hj'), Array.getElem_toList]
      simp only [id]
      rw [getElem!_pos]
    refine (hsort g 0 cap l w hH hg hl).mono ?_
    rintro e' w' ⟨rfl, n, os, rfl⟩
    have hblk : ∀ i, i < w.heap.size → (sortWorldK enc k w g 0 n (srt l).toArray os).heap[i]? = if g = i then some (.cells (putCells id 0 (flatK enc k (srt l).toArray) cur) e (0, 0)) else w.heap[i]? := by
      intro i hi
      have hs : ((w.heap.modify g (onCells (putCells id 0 (flatK enc k (srt l).toArray)))) ++ os)[i]? = (w.heap.modify g (onCells (putCells id 0 (flatK enc k (srt l).toArray))))[i]? := Array.getElem?_append_left (by simpa using hi)
      show ((w.heap.modify g (onCells (putCells id 0 (flatK enc k (srt l).toArray)))) ++ os)[i]? = _
      rw [hs, Array.getElem?_modify]
      by_cases hgi : g = i
      · subst hgi
        rw [if_pos rfl, if_pos rfl, hh]
        rfl
      · rw [if_neg hgi, if_neg hgi]
    have hsize : w.heap.size ≤ (sortWorldK enc k w g 0 n (srt l).toArray os).heap.size := by
      show w.heap.size ≤ ((w.heap.modify g (onCells (putCells id 0 (flatK enc k (srt l).toArray)))) ++ os).size
      simp
    have hcl : l.length * k ≤ cur.size := by rw [hcs]; exact Nat.mul_le_mul_right _ hnc
    refine ⟨rfl, ⟨fun k' hk' => .inl (hok k' hk'), (flatK enc k (srt l).toArray).toList, ⟨?_, .inr ⟨g, cap, _, by rw [hlen], hbg, by rw [hblk g hg, if_pos rfl], by rw [hlen]; exact hnc, hcm, ?_, ?_⟩⟩, ?_⟩, ?_, ?_⟩
    · simp [hsz]
    · rw [hsz]
      simpa [putCells] using hcs
    · rw [hsz]
      have := putCells_take (flatK enc k (srt l).toArray) cur (by simpa [hlen] using hcl)
      rw [size_flatK] at this
      simpa using this
    · rw [hsz]
      exact reps_of_flat hk0 (fun p => hMm _ _ _ p) hk
    · exact ⟨hB.os, hB.tape, hB.output, Nat.le_trans hB.size hsize, fun i hi => by
        rw [hblk i (Nat.lt_of_lt_of_le hi hB.size), if_neg (by omega)]
        exact hB.block i hi⟩
    · refine ⟨hsize, fun i hi hS => ?_⟩
      rw [hblk i hi, if_neg]
      rintro rfl
      exact hS (hok g rfl)
end
end Go.Proofs.YthejafdcdcchbaaDoorX
