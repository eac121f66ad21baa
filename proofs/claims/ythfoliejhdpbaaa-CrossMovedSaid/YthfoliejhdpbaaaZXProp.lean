-- The map of cross.Proper: keys are points; what it reads as: the points met so far.
import Derived.Test.YthfoliejhdpbaaaZPCroAx0
import Derived.Test.YthfoliejhdpbaaaZXPure
import Derived.Maps.Own
import Derived.Maps.OwnSet
import Derived.Maps.RangeWalk
import Derived.DeepKeys4
import Derived.Sort.KeysCollected
set_option linter.unusedVariables false
set_option linter.unusedSimpArgs false
set_option maxRecDepth 100000
namespace Go.Proofs.Ythfoliejhdpbaaa.PCroA
open Go.RowKit Go.Maps Go.Proofs Go.Proofs.YthfoliejhdpbaaaW.PrintWords Go.Proofs.YthfoliejhdpbaaaW.PrintLast Go.Proofs.YthfoliejhdpbaaaW.PrintMore Go.Proofs.YthfoliejhdpbaaaX
theorem laidOutP : laidOutB Try.prog = true := by kernel_rfl
theorem wideP : (match Try.prog.underlying 23 with | some (.array _ _) | some (.struct _) => true | _ => false) = true := by kernel_rfl
theorem lawP : Keyed Try.prog 23 := Keyed.of_law (deep_law_laid laidOutP (m := 3) (by omega) (of_decide_eq_true (by kernel_rfl)) (by kernel_rfl) wideP)
theorem cells23 : Try.prog.cellsOf 23 = 2 := by kernel_rfl
theorem cells3 : Try.prog.cellsOf 3 = 1 := by kernel_rfl
theorem ktP : Try.prog.keyType 23 = true := by kernel_rfl
def kP (a b : Int) : Lit := .string (keyBytes [.int .i64 a, .int .i64 b])
theorem szP : ∃ d, Try.prog.types.size + 1 = d + 2 := ⟨Try.prog.types.size - 1, by have : 1 ≤ Try.prog.types.size := of_decide_eq_true (by kernel_rfl); omega⟩
theorem lits3 (d : Nat) (v : Value) : Try.prog.keyLits (d + 1) 3 [v] = match v with | .int .i64 n => if (Lit.int .i64 n).wf = true then some [.int .i64 n] else none | _ => none := by
  rw [Program.keyLits.eq_def]
  simp only [Try.underlying3]
  cases v <;> try rfl
  rename_i k n
  cases k <;> simp
theorem lits23 (d : Nat) (u v : Value) : Try.prog.keyLits (d + 2) 23 [u, v] = (do let x ← Try.prog.keyLits (d + 1) 3 [u]; let y ← Try.prog.keyLits (d + 1) 3 [v]; pure (x ++ y)) := by
  rw [Program.keyLits.eq_def]
  simp only [Try.underlying23, cells23]
  simp [cells3]
  cases Try.prog.keyLits (d + 1) 3 [u] <;> cases Try.prog.keyLits (d + 1) 3 [v] <;> simp
theorem keyP_mk {a b : Int} (ha : (Lit.int .i64 a).wf = true) (hb : (Lit.int .i64 b).wf = true) : keyOf Try.prog 23 (.agg #[.int .i64 a, .int .i64 b]) = some (kP a b) := by
  obtain ⟨d, hd⟩ := szP
  unfold keyOf
  simp only [Try.underlying23, ktP, hd]
  simp [Value.formed, Try.underlying23, cells23, Value.cells, lits23, lits3, ha, hb, kP]
theorem keyP_inv {v : Value} {l : Lit} (h : keyOf Try.prog 23 v = some l) : ∃ x : Int × Int, v = .agg #[.int .i64 x.1, .int .i64 x.2] ∧ l = kP x.1 x.2 ∧ (Lit.int .i64 x.1).wf = true ∧ (Lit.int .i64 x.2).wf = true := by
  obtain ⟨d, hd⟩ := szP
  unfold keyOf at h
  simp only [Try.underlying23, ktP, hd] at h
  cases v <;> simp [Value.formed, Try.underlying23, cells23] at h
  rename_i cs
  obtain ⟨hs, ls, hl, he⟩ := h
  obtain ⟨u, v, rfl⟩ : ∃ u v, cs = #[u, v] := by
    obtain ⟨c⟩ := cs
    match c, hs with
    | [u, v], _ => exact ⟨u, v, rfl⟩
  replace hl : Try.prog.keyLits (d + 2) 23 [u, v] = some ls := hl
  rw [lits23, lits3, lits3] at hl
  cases u with
  | int k1 n1 =>
    cases k1 <;> first | (simp at hl; done) | skip
    cases v with
    | int k2 n2 =>
      cases k2 <;> first | (simp at hl; done) | skip
      by_cases h1 : (Lit.int .i64 n1).wf = true
      · by_cases h2 : (Lit.int .i64 n2).wf = true
        · simp [h1, h2] at hl
          exact ⟨(n1, n2), rfl, by rw [← he, ← hl]; rfl, h1, h2⟩
        · simp [h1, h2] at hl
      · simp [h1] at hl
    | _ => simp at hl
  | _ => simp at hl
theorem kP_inj {a b c d : Int} (ha : (Lit.int .i64 a).wf = true) (hb : (Lit.int .i64 b).wf = true) (hc : (Lit.int .i64 c).wf = true) (hd : (Lit.int .i64 d).wf = true) (h : kP a b = kP c d) : a = c ∧ b = d := by
  have h1 := keyP_mk ha hb
  have h2 := keyP_mk hc hd
  rw [h] at h1
  have := lawP.inj h1 h2
  simpa using this
theorem kP_key {a b : Int} (ha : (Lit.int .i64 a).wf = true) (hb : (Lit.int .i64 b).wf = true) : WideAt.IsKeyLit (kP a b) := lawP.key (keyP_mk ha hb)
noncomputable abbrev RI : Value → Option (DataW Unit × List MemPlace) := plainElem (H := Unit) Try.prog 3
def wfi (a : Int) : Prop := (Lit.int .i64 a).wf = true
instance (a : Int) : Decidable (wfi a) := by unfold wfi; infer_instance
def MapP (D : DataW Unit) (l : List S23) : Prop := ∀ a b, wfi a → wfi b → (Maps.has D (kP a b) = true ↔ (⟨a, b⟩ : S23) ∈ l)
theorem MapP.put {D : DataW Unit} {l : List S23} (h : MapP D l) (hD : Maps.IsMap D) {u v : Int} (hu : wfi u) (hv : wfi v) (d : DataW Unit) : MapP (D.put (kP u v) d) (l ++ [⟨u, v⟩]) := by
  intro a b ha hb
  rw [List.mem_append, List.mem_singleton, ← h a b ha hb]
  by_cases e : kP a b = kP u v
  · obtain ⟨rfl, rfl⟩ := kP_inj ha hb hu hv e
    rw [Maps.has_put_same hD (kP_key ha hb)]
    simp
  · rw [Maps.has_put_other e]
    constructor
    · exact Or.inl
    · rintro (h | h)
      · exact h
      · exact absurd (by cases h; rfl) e
theorem own_blk {w w' : World} {R : Value → Option (DataW Unit × List MemPlace)} {b n : Nat} {D : DataW Unit} (h : w.ownsMap Try.prog 23 R b n D) (e : w'.heap[b]? = w.heap[b]?) : w'.ownsMap Try.prog 23 R b n D := by
  obtain ⟨es, clock, hb, r⟩ := h
  exact ⟨es, clock, e.trans hb, r⟩
theorem own_ne {w : World} {R : Value → Option (DataW Unit × List MemPlace)} {b n g : Nat} {D : DataW Unit} {cs : Array Value} {t : Nat} {f : Nat × Nat} (h : w.ownsMap Try.prog 23 R b n D) (hg : w.heap[g]? = some (.cells cs t f)) : b ≠ g := by
  obtain ⟨es, clock, hb, r⟩ := h
  rintro rfl
  rw [hb] at hg
  cases hg
theorem below_grown {w W W1 : World} {b : Nat} (h : Below w.heap.size w W) (hg : W.grownBy W1 (some b)) (hb : w.heap.size ≤ b) : Below w.heap.size w W1 :=
  ⟨hg.os.trans h.os, hg.tape.trans h.tape, hg.output.trans h.output, Nat.le_trans h.size hg.size, fun i hi => (hg.block i (Nat.lt_of_lt_of_le hi h.size) (by intro e; cases e; omega)).trans (h.block i hi)⟩
/-- The map at B reads as the points of l. -/
def Mp (w W : World) (B : Nat) (l : List S23) : Prop := ∃ D, W.ownsMap Try.prog 23 RI B l.length D ∧ MapP D l ∧ w.heap.size ≤ B
theorem Mp.new {w W : World} (h : Below w.heap.size w W) : Mp w (W.alloc (Obj.map #[] 0)) W.heap.size [] :=
  ⟨.map [], World.ownsMap_made (H := Unit) W Try.prog 23 RI, fun a b _ _ => by simp [Maps.has], h.size⟩
theorem zero3 (w : World) : (zeroValue 3).run Try.prog w = .ok (.int .i64 0) w := by go_simp
instance : DecidableEq S23 := fun x y => decidable_of_iff (x.f0 = y.f0 ∧ x.f1 = y.f1) (by cases x; cases y; simp)
def hasF (l : List S23) (a b : Int) : Option (Int × Bool) := if wfi a ∧ wfi b then some (0, decide ((⟨a, b⟩ : S23) ∈ l)) else none
theorem hasF_wf {l : List S23} {a b r1 : Int} {r2 : Bool} (h : hasF l a b = some (r1, r2)) : wfi a ∧ wfi b := by
  unfold hasF at h
  by_cases c : wfi a ∧ wfi b
  · exact c
  · rw [if_neg c] at h; cases h
theorem hasF_is {D : DataW Unit} {l : List S23} {a b r1 : Int} {r2 : Bool} (h : hasF l a b = some (r1, r2)) (hm : MapP D l) : Maps.has D (kP a b) = r2 := by
  have c := hasF_wf h
  unfold hasF at h
  rw [if_pos c] at h
  simp only [Option.some.injEq, Prod.mk.injEq] at h
  obtain ⟨_, rfl⟩ := h
  have := hm a b c.1 c.2
  cases e : Maps.has D (kP a b)
  · rw [e] at this
    rw [decide_eq_false (fun x => by have := this.2 x; cases this)]
  · rw [e] at this
    rw [decide_eq_true (this.1 rfl)]
theorem wf_idx {x : Int} {n : Nat} (h0 : 0 ≤ x) (h1 : x < n) (hn : n ≤ 9223372036854775807) : (Lit.int .i64 x).wf = true := by simp [Lit.wf, IntKind.min, IntKind.max, IntKind.bits, IntKind.signed]; omega
end Go.Proofs.Ythfoliejhdpbaaa.PCroA
