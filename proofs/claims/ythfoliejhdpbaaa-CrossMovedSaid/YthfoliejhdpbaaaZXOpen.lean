-- Own words: an argument of whatever plain kind, opened into the print's own facts.
import Derived.Test.YthfoliejhdpbaaaV
import Derived.ChangeArms
import Derived.ChangeShapes
import Derived.DataReads
import Derived.SizedLaws
import Derived.WideShapes
set_option linter.unusedVariables false
namespace Go.Proofs.YthfoliejhdpbaaaX
open Go.RowKit Go.Proofs.YthfoliejhdpbaaaW.PrintWords
theorem addr_add (a : Addr) (m n : Nat) : (a.add m).add n = a.add (m + n) := by
  unfold Addr.add
  by_cases hm : m = 0
  · subst hm
    simp
  · by_cases hn : n = 0
    · subst hn
      simp
    · have : ¬ m + n = 0 := by omega
      simp [hm, hn, Nat.add_assoc]
/-- What reads as data of type t is a value of the kind d. -/
def OpenK {α : Type} (P : Program) (t : TypeId) (d : Kd α) (wf : α → Prop) : Prop :=
  ∀ (H : Type) (enc : TypeId × Value → H) (w : World) (base : Nat) (sp : Nat → Bool) (held : Bool) (fuel : Nat) (cs : List Value) (x : DataW H × List MemPlace),
    DataW.trod enc P w base sp held fuel t cs = some x → (∀ n ∈ x.1.weights P t, n ≤ reachBytes) → ∃ a, d.K w a cs ∧ wf a
section
variable {P : Program} {α β : Type}
theorem OpenK.int {t : TypeId} {k : IntKind} (ht : P.underlying t = some (.int k)) : OpenK P t (Kd.int k) (fun n => (Lit.int k n).wf = true) := by
  intro H enc w base sp held fuel cs x h _
  obtain ⟨n, rfl, rfl, hw⟩ := DataW.trod_int ht h
  exact ⟨n, rfl, hw⟩
theorem OpenK.bool {t : TypeId} (ht : P.underlying t = some .bool) : OpenK P t Kd.bool (fun _ => True) := by
  intro H enc w base sp held fuel cs x h _
  obtain ⟨n, rfl, rfl⟩ := DataW.trod_bool ht h
  exact ⟨n, rfl, trivial⟩
theorem OpenK.iso {t : TypeId} {d : Kd α} {wf : α → Prop} (h : OpenK P t d wf) (f : β → α) (g : α → β) (hfg : ∀ a, f (g a) = a) : OpenK P t (Kd.iso d f) (fun b => wf (f b)) := by
  intro H enc w base sp held fuel cs x hx hn
  obtain ⟨a, hk, hw⟩ := h H enc w base sp held fuel cs x hx hn
  refine ⟨g a, ?_, ?_⟩
  · show d.K w (f (g a)) cs
    rw [hfg]; exact hk
  · show wf (f (g a))
    rw [hfg]; exact hw
theorem weights_all {H : Type} {e : TypeId} : ∀ {ds : List (DataW H)} {d : DataW H}, d ∈ ds → ∀ n ∈ d.weights P e, n ∈ DataW.weightsAll P e ds
  | d0 :: ds, d, hd, n, hn => by
    simp only [DataW.weightsAll, List.mem_append]
    rcases List.mem_cons.1 hd with rfl | h
    · exact .inl hn
    · exact .inr (weights_all h n hn)
theorem OpenK.pair {t t0 t1 : TypeId} {a : Kd α} {b : Kd β} {wa : α → Prop} {wb : β → Prop} (h0 : OpenK P t0 a wa) (h1 : OpenK P t1 b wb) {f0 f1 : Field} (ht : P.underlying t = some (.struct #[f0, f1]))
    (e0 : f0.type = t0) (e1 : f1.type = t1) (o0 : f0.offset = 0) (o1 : f1.offset = a.sz) (s0 : P.cellsOf t0 = a.sz) (s1 : P.cellsOf t1 = b.sz) (s : P.cellsOf t = a.sz + b.sz) :
    OpenK P t (Kd.pair a b) (fun x => wa x.1 ∧ wb x.2) := by
  intro H enc w base sp held fuel cs x h hn
  obtain ⟨xs, n, _, rfl, hl, hlen, hf⟩ := DataW.trod_struct ht h
  match xs, hlen with
  | [x0, x1], _ =>
    have q0 := hf 0 f0 rfl
    have q1 := hf 1 f1 rfl
    rw [e0, o0, s0] at q0
    rw [e1, o1, s1] at q1
    simp only [List.drop_zero, List.getElem?_cons_zero, List.getElem?_cons_succ] at q0 q1
    have hw : ∀ n, n ∈ x0.1.weights P t0 ∨ n ∈ x1.1.weights P t1 → n ≤ reachBytes := by
      intro n h_
      refine hn n ?_
      simp only [DataW.weights, ht, List.map_cons, List.map_nil, DataW.weightsEach, e0, e1, List.mem_append, List.not_mem_nil, or_false]
      exact h_
    obtain ⟨u0, k0, w0⟩ := h0 H enc w base sp held n _ _ q0 (fun n hn => hw n (.inl hn))
    obtain ⟨u1, k1, w1⟩ := h1 H enc w base sp held n _ _ q1 (fun n hn => hw n (.inr hn))
    refine ⟨(u0, u1), ⟨cs.take a.sz, cs.drop a.sz, (List.take_append_drop _ _).symm, k0, ?_⟩, w0, w1⟩
    have : (cs.drop a.sz).take b.sz = cs.drop a.sz := List.take_of_length_le (by rw [List.length_drop, hl, s]; omega)
    rw [this] at k1
    exact k1
theorem OpenK.slice {t e : TypeId} {d : Kd α} {wf : α → Prop} (he : OpenK P e d wf) (ht : P.underlying t = some (.slice e)) (hc : P.cellsOf e = d.sz) {B : Nat} (hB : P.bytesOf e = B) :
    OpenK P t (Kd.slice e d) (fun l => l.length ≤ maxLen ∧ l.length * B ≤ 140737488351232 ∧ ∀ x ∈ l, wf x) := by
  intro H enc w base sp held fuel cs x h hn
  rcases DataW.trod_slice ht h with ⟨rfl, rfl⟩ | ⟨ad, len, cap, elems, rest, n, _, rfl, rfl, hb, hl, hm, hlen, hel, _, _⟩
  · exact ⟨[], ⟨none, 0, rfl, Nat.le_refl _, rfl, Nat.zero_le _, fun h => absurd h (Nat.lt_irrefl _)⟩, Nat.zero_le _, by simp, fun x hx => absurd hx List.not_mem_nil⟩
  · have hbytes : len * B ≤ 140737488351232 := by
      have z := hn ((elems.length + rest.length) * P.bytesOf e) (by simp [DataW.weights, ht])
      rw [hB, hlen] at z
      exact Nat.le_trans (Nat.mul_le_mul_right _ (Nat.le_add_right _ _)) z
    have each : ∀ i, i < len → ∃ a : α, (∃ c : List Value, w.cells? base (ad.add (i * d.sz)) d.sz = some c ∧ d.K w a c) ∧ wf a := by
      intro i hi
      have q := hel i hi
      have hi2 : i < elems.length := by omega
      rw [List.getElem?_eq_getElem hi2, hc] at q
      obtain ⟨c, hc1, hc2⟩ := Option.bind_eq_some_iff.1 q
      obtain ⟨a, ka, wa⟩ := he H enc w base sp held n c _ hc2 (fun m hm => hn m (by
        simp only [DataW.weights, ht, List.mem_cons, List.mem_append]
        exact .inr (.inl (weights_all (List.mem_map.2 ⟨elems[i], List.getElem_mem hi2, rfl⟩) m hm))))
      exact ⟨a, ⟨c, hc1, ka⟩, wa⟩
    have : ∀ m, m ≤ len → ∃ l : List α, l.length = m ∧ ∀ i p, l[i]? = some p → (∃ c : List Value, w.cells? base (ad.add (i * d.sz)) d.sz = some c ∧ d.K w p c) ∧ wf p := by
      intro m
      induction m with
      | zero => exact fun _ => ⟨[], rfl, fun i p h => by simp at h⟩
      | succ m ih =>
        intro hm'
        obtain ⟨l, hll, hl2⟩ := ih (by omega)
        obtain ⟨a, ha⟩ := each m (by omega)
        refine ⟨l ++ [a], by simp [hll], fun i p hp => ?_⟩
        by_cases hi : i < l.length
        · rw [List.getElem?_append_left hi] at hp
          exact hl2 i p hp
        · rw [List.getElem?_append_right (by omega)] at hp
          have hi0 : i - l.length = 0 := by
            by_cases h0 : i - l.length = 0
            · exact h0
            · rw [List.getElem?_eq_none (by simp; omega)] at hp; cases hp
          rw [hi0] at hp
          have : i = m := by omega
          subst this
          cases hp
          exact ha
    obtain ⟨l, hll, hl2⟩ := this len (Nat.le_refl _)
    refine ⟨l, ⟨some ad, cap, by rw [hll], by omega, hll.trans hll.symm |> fun _ => ?_⟩, by omega, by rw [hll]; exact hbytes, fun x hx => ?_⟩
    · refine ⟨rfl, ?_, fun _ => ⟨ad, rfl, fun j p hj => ?_⟩⟩
      · have : maxLen ≤ 9223372036854775807 := by decide
        omega
      · obtain ⟨⟨c, hc1, hk⟩, _⟩ := hl2 j p hj
        obtain ⟨_, hcl, hce⟩ := World.cells?_some hc1
        refine ⟨c, hcl, hk, fun i u hu => ?_⟩
        have hi : i < d.sz := by rw [← hcl]; exact (List.getElem?_eq_some_iff.1 hu).1
        have := hce i hi
        rw [hu] at this
        rw [← this, addr_add]
    · obtain ⟨i, hi, rfl⟩ := List.mem_iff_getElem.1 hx
      exact (hl2 i _ (List.getElem?_eq_getElem hi)).2
/-- An argument that is a struct, opened. -/
theorem OpenK.arg {H : Type} {enc : TypeId × Value → H} {w : World} {base : Nat} {sp : Nat → Bool} {held : Bool} {t : TypeId} {v : Value} {dt : DataW H} {ps : List MemPlace} {d : Kd α} {wf : α → Prop} (h : OpenK P t d wf)
    (hd : DataW.Trod enc P w base sp held t v dt ps) {ts : List TypeId} {ds : List (DataW H)} {j : Nat} (hsz : (DataW.weightsEach P ts ds).all (· ≤ reachBytes) = true) (h1 : ts[j]? = some t) (h2 : ds[j]? = some dt) :
    ∃ a, d.K w a v.cells.toList ∧ wf a := by
  obtain ⟨fuel, hf⟩ := hd
  refine h H enc w base sp held fuel _ _ hf (fun n hn => ?_)
  have := List.all_eq_true.1 hsz _ (DataW.weights_mem_each h1 h2 n hn)
  simpa using this
end
end Go.Proofs.YthfoliejhdpbaaaX
