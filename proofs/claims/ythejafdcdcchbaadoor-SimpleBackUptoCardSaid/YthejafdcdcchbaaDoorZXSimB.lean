-- Keys of a map by edges: what an edge reads as; the sorted list of the edges put in one by one.
import Derived.Test.YthejafdcdcchbaaDoorZPSimAx0
import Derived.Test.YthejafdcdcchbaaDoorZXPure
import Derived.Maps.Own
import Derived.Maps.OwnSet
import Derived.Maps.RangeWalk
import Derived.DeepKeys4
import Derived.Sort.KeysCollected
set_option linter.unusedVariables false
set_option linter.unusedSimpArgs false
set_option maxRecDepth 100000
namespace Go.Proofs.YthejafdcdcchbaaDoor.PSimA
open Go.RowKit Go.Maps Go.Proofs Go.Proofs.YthejafdcdcchbaaDoorW.PrintWords Go.Proofs.YthejafdcdcchbaaDoorW.PrintLast Go.Proofs.YthejafdcdcchbaaDoorW.PrintMore Go.Proofs.YthejafdcdcchbaaDoorX
theorem laidOutE : laidOutB Tryd.prog = true := by kernel_rfl
theorem wideE : (match Tryd.prog.underlying 42 with | some (.array _ _) | some (.struct _) => true | _ => false) = true := by kernel_rfl
theorem lawE : Keyed Tryd.prog 42 := Keyed.of_law (deep_law_laid laidOutE (m := 3) (by omega) (of_decide_eq_true (by kernel_rfl)) (by kernel_rfl) wideE)
theorem cells42 : Tryd.prog.cellsOf 42 = 2 := by kernel_rfl
theorem cells3 : Tryd.prog.cellsOf 3 = 1 := by kernel_rfl
theorem ktE : Tryd.prog.keyType 42 = true := by kernel_rfl
def kE (a b : Int) : Lit := .string (keyBytes [.int .i64 a, .int .i64 b])
theorem szE : ∃ d, Tryd.prog.types.size + 1 = d + 2 := ⟨Tryd.prog.types.size - 1, by have : 1 ≤ Tryd.prog.types.size := of_decide_eq_true (by kernel_rfl); omega⟩
theorem lits3 (d : Nat) (v : Value) : Tryd.prog.keyLits (d + 1) 3 [v] = match v with | .int .i64 n => if (Lit.int .i64 n).wf = true then some [.int .i64 n] else none | _ => none := by
  rw [Program.keyLits.eq_def]
  simp only [Tryd.underlying3]
  cases v <;> try rfl
  rename_i k n
  cases k <;> simp
theorem lits42 (d : Nat) (u v : Value) : Tryd.prog.keyLits (d + 2) 42 [u, v] = (do let x ← Tryd.prog.keyLits (d + 1) 3 [u]; let y ← Tryd.prog.keyLits (d + 1) 3 [v]; pure (x ++ y)) := by
  rw [Program.keyLits.eq_def]
  simp only [Tryd.underlying42, cells42]
  simp [cells3]
  cases Tryd.prog.keyLits (d + 1) 3 [u] <;> cases Tryd.prog.keyLits (d + 1) 3 [v] <;> simp
theorem key_mk {a b : Int} (ha : (Lit.int .i64 a).wf = true) (hb : (Lit.int .i64 b).wf = true) : keyOf Tryd.prog 42 (.agg #[.int .i64 a, .int .i64 b]) = some (kE a b) := by
  obtain ⟨d, hd⟩ := szE
  unfold keyOf
  simp only [Tryd.underlying42, ktE, hd]
  simp [Value.formed, Tryd.underlying42, cells42, Value.cells, lits42, lits3, ha, hb, kE]
theorem key_inv {v : Value} {l : Lit} (h : keyOf Tryd.prog 42 v = some l) : ∃ x : Int × Int, v = .agg #[.int .i64 x.1, .int .i64 x.2] ∧ l = kE x.1 x.2 ∧ (Lit.int .i64 x.1).wf = true ∧ (Lit.int .i64 x.2).wf = true := by
  obtain ⟨d, hd⟩ := szE
  unfold keyOf at h
  simp only [Tryd.underlying42, ktE, hd] at h
  cases v <;> simp [Value.formed, Tryd.underlying42, cells42] at h
  rename_i cs
  obtain ⟨hs, ls, hl, he⟩ := h
  obtain ⟨u, v, rfl⟩ : ∃ u v, cs = #[u, v] := by
    obtain ⟨c⟩ := cs
    match c, hs with
    | [u, v], _ => exact ⟨u, v, rfl⟩
  replace hl : Tryd.prog.keyLits (d + 2) 42 [u, v] = some ls := hl
  rw [lits42, lits3, lits3] at hl
  cases u with
  | int k1 n1 =>
    cases k1 <;> first | (simp at hl; done) | skip
    cases v with
    | int k2 n2 =>
      cases k2 <;> first | (simp at hl; done) | skip
      by_cases h1 : (Lit.int .i64 n1).wf = true
      · by_cases h2 : (Lit.int .i64 n2).wf = true
        · simp [h1, h2] at hl
          exact ⟨(n1, n2), rfl, by rw [← he, ← hl]; rfl, h1, h2⟩
        · simp [h1, h2] at hl
      · simp [h1] at hl
    | _ => simp at hl
  | _ => simp at hl
theorem kE_inj {a b c d : Int} (ha : (Lit.int .i64 a).wf = true) (hb : (Lit.int .i64 b).wf = true) (hc : (Lit.int .i64 c).wf = true) (hd : (Lit.int .i64 d).wf = true) (h : kE a b = kE c d) : a = c ∧ b = d := by
  have h1 := key_mk ha hb
  have h2 := key_mk hc hd
  rw [h] at h1
  have := lawE.inj h1 h2
  simpa using this
theorem kE_key {a b : Int} (ha : (Lit.int .i64 a).wf = true) (hb : (Lit.int .i64 b).wf = true) : WideAt.IsKeyLit (kE a b) := lawE.key (key_mk ha hb)
/-! ### the edges of pairs, in order -/
def lt42 (a b : S42) : Prop := a.f0 < b.f0 ∨ a.f0 = b.f0 ∧ a.f1 < b.f1
instance (a b : S42) : Decidable (lt42 a b) := by unfold lt42; infer_instance
instance : DecidableEq S42 := fun a b => decidable_of_iff (a.f0 = b.f0 ∧ a.f1 = b.f1) ⟨fun h => by cases a; cases b; simp_all, fun h => by subst h; exact ⟨rfl, rfl⟩⟩
def putE : List S42 → S42 → List S42
  | [], e => [e]
  | x :: r, e => if lt42 x e then x :: putE r e else if x = e then x :: r else e :: x :: r
theorem mem_putE (e y : S42) : ∀ l : List S42, y ∈ putE l e ↔ y ∈ l ∨ y = e
  | [] => by simp [putE]
  | x :: r => by
    unfold putE
    split
    · simp only [List.mem_cons, mem_putE e y r]
      constructor
      · rintro (h | h | h) <;> simp [h]
      · rintro ((h | h) | h) <;> simp [h]
    · split
      · rename_i h1 h2
        subst h2
        simp only [List.mem_cons]
        constructor
        · intro h; exact Or.inl h
        · rintro (h | h)
          · exact h
          · exact Or.inl h
      · simp only [List.mem_cons]
        constructor
        · rintro (h | h | h) <;> simp [h]
        · rintro ((h | h) | h) <;> simp [h]
theorem lt42_trans {a b c : S42} (h1 : lt42 a b) (h2 : lt42 b c) : lt42 a c := by unfold lt42 at *; omega
theorem putE_sorted (e : S42) : ∀ l : List S42, l.Pairwise lt42 → (putE l e).Pairwise lt42
  | [], _ => by simp [putE]
  | x :: r, h => by
    obtain ⟨h1, h2⟩ := List.pairwise_cons.1 h
    unfold putE
    split
    · rename_i c
      refine List.pairwise_cons.2 ⟨fun z hz => ?_, putE_sorted e r h2⟩
      rcases (mem_putE e z r).1 hz with hz | rfl
      · exact h1 z hz
      · exact c
    · split
      · exact h
      · rename_i c1 c2
        have c3 : lt42 e x := by
          have : ¬ (x.f0 = e.f0 ∧ x.f1 = e.f1) := fun h' => c2 (by cases x; cases e; simp_all)
          unfold lt42 at *
          omega
        refine List.pairwise_cons.2 ⟨fun z hz => ?_, h⟩
        rcases List.mem_cons.1 hz with rfl | hz
        · exact c3
        · exact lt42_trans c3 (h1 z hz)
def stepE (l : List S42) (p : S53) : List S42 := if p.f0 < p.f1 then putE l ⟨p.f0, p.f1⟩ else if p.f1 < p.f0 then putE l ⟨p.f1, p.f0⟩ else l
def mkE (ps : List S53) : List S42 := ps.foldl stepE []
theorem mkE_snoc (ps : List S53) (p : S53) : mkE (ps ++ [p]) = stepE (mkE ps) p := by simp [mkE, List.foldl_append]
theorem stepE_sorted (l : List S42) (p : S53) (h : l.Pairwise lt42) : (stepE l p).Pairwise lt42 := by
  unfold stepE
  split
  · exact putE_sorted _ _ h
  · split
    · exact putE_sorted _ _ h
    · exact h
theorem fold_sorted : ∀ (ps : List S53) (l : List S42), l.Pairwise lt42 → (ps.foldl stepE l).Pairwise lt42
  | [], l, h => h
  | p :: ps, l, h => fold_sorted ps _ (stepE_sorted l p h)
theorem mkE_sorted (ps : List S53) : (mkE ps).Pairwise lt42 := fold_sorted ps [] List.Pairwise.nil
theorem lt42_irrefl (a : S42) : ¬ lt42 a a := by unfold lt42; omega
theorem nodup_of_lt {l : List S42} (h : l.Pairwise lt42) : l.Nodup := h.imp (fun {a b} (h : lt42 a b) => show a ≠ b from fun e => lt42_irrefl a (by subst e; exact h))
theorem perm_mkE {l m : List S42} (hl : l.Nodup) (hm : m.Pairwise lt42) (h : ∀ x, x ∈ l ↔ x ∈ m) : m.Perm l := (List.perm_ext_iff_of_nodup (nodup_of_lt hm) hl).2 fun x => (h x).symm
/-- what Make answers -/
def badP (n : Int) (p : S53) : Bool := decide (min p.f0 p.f1 < 0) || decide (n ≤ max p.f0 p.f1)
def makeF (n : Int) (ps : List S53) : Int × List S42 × Int :=
  if n < 0 ∨ 1048576 < n then (0, [], 2)
  else if ps.any (badP n) = true then (0, [], 2)
  else if 4194304 < (mkE ps).length then (0, [], 141)
  else (n, mkE ps, 0)
/-! ### the map of the edges and the list of them -/
def wfi (a : Int) : Prop := (Lit.int .i64 a).wf = true
def MapE (D : DataW Unit) (l : List S42) : Prop := ∀ a b, wfi a → wfi b → (Maps.has D (kE a b) = true ↔ (⟨a, b⟩ : S42) ∈ l)
def Okl (l : List S42) : Prop := ∀ x ∈ l, x.f0 < x.f1 ∧ wfi x.f0 ∧ wfi x.f1
theorem MapE.put {D : DataW Unit} {l : List S42} (h : MapE D l) (hD : Maps.IsMap D) {u v : Int} (hu : wfi u) (hv : wfi v) (d : DataW Unit) : MapE (D.put (kE u v) d) (putE l ⟨u, v⟩) := by
  intro a b ha hb
  rw [mem_putE, ← h a b ha hb]
  by_cases e : kE a b = kE u v
  · obtain ⟨rfl, rfl⟩ := kE_inj ha hb hu hv e
    rw [Maps.has_put_same hD (kE_key ha hb)]
    simp
  · rw [Maps.has_put_other e]
    constructor
    · exact Or.inl
    · rintro (h | h)
      · exact h
      · exact absurd (by cases h; rfl) e
theorem MapE.loop {D : DataW Unit} {l : List S42} (h : MapE D l) (ho : Okl l) {u : Int} (hu : wfi u) (d : DataW Unit) : MapE ((D.put (kE u u) d).del (kE u u)) l := by
  intro a b ha hb
  by_cases e : kE a b = kE u u
  · obtain ⟨rfl, rfl⟩ := kE_inj ha hb hu hu e
    rw [Maps.has_del_same]
    constructor
    · intro h; cases h
    · intro hm
      have := (ho _ hm).1
      simp at this
  · rw [Maps.has_del_other e, Maps.has_put_other e]
    exact h a b ha hb
theorem okl_put {l : List S42} (ho : Okl l) {u v : Int} (hu : wfi u) (hv : wfi v) (h : u < v) : Okl (putE l ⟨u, v⟩) := by
  intro x hx
  rcases (mem_putE _ _ _).1 hx with hx | rfl
  · exact ho x hx
  · exact ⟨h, hu, hv⟩
def CollE (D0 : DataW Unit) (left : Lit → Bool) (ss : List S42) : Prop := ss.Nodup ∧ (∀ x ∈ ss, wfi x.f0 ∧ wfi x.f1) ∧ ∀ a b, wfi a → wfi b → ((⟨a, b⟩ : S42) ∈ ss ↔ (Maps.has D0 (kE a b) = true ∧ left (kE a b) = false))
theorem CollE.start (D0 : DataW Unit) : CollE D0 (Maps.has D0) [] := ⟨List.nodup_nil, by simp, fun a b _ _ => by cases Maps.has D0 (kE a b) <;> simp⟩
theorem sameKey_kE {a b c d : Int} : (kE a b).sameKey (kE c d) = true ↔ kE a b = kE c d := by
  constructor
  · intro h
    by_cases e : kE a b = kE c d
    · exact e
    · rw [Maps.sameKey_ne e] at h; cases h
  · intro h; rw [h]; simp [kE, Lit.sameKey]
theorem CollE.step {D0 : DataW Unit} {left : Lit → Bool} {ss : List S42} (h : CollE D0 left ss) {u v : Int} (hu : wfi u) (hv : wfi v) {y : DataW Unit} (hlk : left (kE u v) = true) (hat : ∀ zd, D0.atKey (kE u v) zd = y) :
    CollE D0 (fun z => left z && !z.sameKey (kE u v)) (ss ++ [⟨u, v⟩]) := by
  have hhas : Maps.has D0 (kE u v) = true := Maps.has_true_of_atKey hat
  have hnew : (⟨u, v⟩ : S42) ∉ ss := fun hx => by have := ((h.2.2 u v hu hv).1 hx).2; rw [hlk] at this; cases this
  refine ⟨List.nodup_append.2 ⟨h.1, by simp, fun a ha b hb => by simp at hb; subst hb; exact fun e => hnew (e ▸ ha)⟩, ?_, fun a b ha hb => ?_⟩
  · intro x hx
    rcases List.mem_append.1 hx with hx | hx
    · exact h.2.1 x hx
    · simp at hx; subst hx; exact ⟨hu, hv⟩
  · by_cases e : kE a b = kE u v
    · obtain ⟨rfl, rfl⟩ := kE_inj ha hb hu hv e
      simp [hhas, sameKey_kE.2 rfl]
    · have e1 : (kE a b).sameKey (kE u v) = false := by rw [← Bool.not_eq_true, sameKey_kE]; exact e
      have e2 : ¬ ((⟨a, b⟩ : S42) = ⟨u, v⟩) := fun h' => e (by cases h'; rfl)
      simp only [List.mem_append, List.mem_singleton, h.2.2 a b ha hb, e1, e2, or_false]
      simp
theorem CollE.perm {D0 : DataW Unit} {left : Lit → Bool} {ss l : List S42} (h : CollE D0 left ss) (hm : MapE D0 l) (ho : Okl l) (hs : l.Pairwise lt42) (hl : ∀ kl, left kl = false) : l.Perm ss := by
  refine perm_mkE h.1 hs (fun x => ?_)
  constructor
  · intro hx
    obtain ⟨hu, hv⟩ := h.2.1 x hx
    exact (hm _ _ hu hv).1 ((h.2.2 _ _ hu hv).1 hx).1
  · intro hx
    obtain ⟨_, hu, hv⟩ := ho x hx
    exact (h.2.2 _ _ hu hv).2 ⟨(hm _ _ hu hv).2 hx, hl _⟩
theorem size_E {w : World} {b n : Nat} {D : DataW Unit} {l : List S42} {R : Value → Option (DataW Unit × List MemPlace)} (h : w.ownsMap Tryd.prog 42 R b n D) (hm : MapE D l) (ho : Okl l) (hs : l.Pairwise lt42) : Maps.size D = l.length := by
  obtain ⟨es, hD, hpw, _⟩ := h.entries lawE
  obtain ⟨es', hD', hko⟩ := h.keysOf
  obtain rfl : es = es' := by rw [hD] at hD'; simpa using hD'
  subst hD
  rw [Maps.size_eq]
  have h1 : (es.map Prod.fst).Nodup := List.pairwise_map.2 hpw
  have h2 : (l.map fun x => kE x.f0 x.f1).Nodup := by
    refine List.pairwise_map.2 ((nodup_of_lt hs).imp_of_mem fun {a b} ha hb hne e => hne ?_)
    obtain ⟨_, a1, a2⟩ := ho a ha
    obtain ⟨_, b1, b2⟩ := ho b hb
    obtain ⟨e1, e2⟩ := kE_inj a1 a2 b1 b2 e
    cases a; cases b; simp_all
  have h3 : (es.map Prod.fst).Perm (l.map fun x => kE x.f0 x.f1) := by
    refine (List.perm_ext_iff_of_nodup h1 h2).2 fun k => ?_
    constructor
    · intro hk
      obtain ⟨p, hp, rfl⟩ := List.mem_map.1 hk
      obtain ⟨v, hv⟩ := hko p hp
      obtain ⟨x, _, hx, w1, w2⟩ := key_inv hv
      have hh : Maps.has (.map es) (kE x.1 x.2) = true := by
        rw [Maps.has_eq, List.any_eq_true]
        exact ⟨p, hp, by rw [hx]; exact sameKey_kE.2 rfl⟩
      exact List.mem_map.2 ⟨⟨x.1, x.2⟩, (hm _ _ w1 w2).1 hh, hx.symm⟩
    · intro hk
      obtain ⟨x, hx, rfl⟩ := List.mem_map.1 hk
      obtain ⟨_, w1, w2⟩ := ho x hx
      have hh := (hm _ _ w1 w2).2 hx
      rw [Maps.has_eq, List.any_eq_true] at hh
      obtain ⟨p, hp, hs⟩ := hh
      obtain ⟨v, hv⟩ := hko p hp
      obtain ⟨y, _, hy, _, _⟩ := key_inv hv
      rw [hy] at hs
      exact List.mem_map.2 ⟨p, hp, by rw [hy]; exact sameKey_kE.1 hs⟩
  have := h3.length_eq
  simpa using this
end Go.Proofs.YthejafdcdcchbaaDoor.PSimA
