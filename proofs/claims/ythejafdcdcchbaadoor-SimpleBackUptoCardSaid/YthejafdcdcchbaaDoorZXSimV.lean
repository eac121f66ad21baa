-- layer 3 (simple), pure: a valid graph is made again of its edges in any order, with ends changed about, loops and doubles put between; Read of a text.
import Derived.Test.YthejafdcdcchbaaDoorZXSimG
import Derived.Test.YthejafdcdcchbaaDoorZXSimF
import Derived.Test.YthejafdcdcchbaaDoorZXSimH
import Derived.Test.YthejafdcdcchbaaDoorZXBack
import Derived.Test.YthejafdcdcchbaaDoorZPSimAx38
set_option linter.unusedVariables false
set_option linter.unusedSimpArgs false
namespace Go.Proofs.YthejafdcdcchbaaDoor.Pure
open Go.RowKit Go.Proofs.YthejafdcdcchbaaDoor.PSimA Go.Proofs.YthejafdcdcchbaaDoorW.PrintWords Go.Proofs.YthejafdcdcchbaaDoorW.PrintLast Go.Proofs.YthejafdcdcchbaaDoorX
def nrm (p : S53) : S42 := if p.f0 < p.f1 then ⟨p.f0, p.f1⟩ else ⟨p.f1, p.f0⟩
theorem mem_stepE (l : List S42) (p : S53) (e : S42) : e ∈ stepE l p ↔ e ∈ l ∨ (p.f0 ≠ p.f1 ∧ e = nrm p) := by
  unfold stepE nrm
  split
  · rename_i h
    rw [mem_putE]
    exact ⟨fun x => x.elim Or.inl fun y => Or.inr ⟨by omega, y⟩, fun x => x.elim Or.inl fun y => Or.inr y.2⟩
  · split
    · rw [mem_putE]
      exact ⟨fun x => x.elim Or.inl fun y => Or.inr ⟨by omega, y⟩, fun x => x.elim Or.inl fun y => Or.inr y.2⟩
    · exact ⟨Or.inl, fun x => x.elim id fun y => absurd (show p.f0 = p.f1 by omega) y.1⟩
theorem mem_fold (e : S42) : ∀ (ps : List S53) (l : List S42), e ∈ ps.foldl stepE l ↔ e ∈ l ∨ ∃ p ∈ ps, p.f0 ≠ p.f1 ∧ e = nrm p := by
  intro ps
  induction ps with
  | nil => intro l; simp
  | cons p ps ih =>
    intro l
    rw [List.foldl_cons, ih, mem_stepE]
    simp only [List.mem_cons, exists_eq_or_imp]
    exact or_assoc
theorem mem_mkE (e : S42) (ps : List S53) : e ∈ mkE ps ↔ ∃ p ∈ ps, p.f0 ≠ p.f1 ∧ e = nrm p := by
  unfold mkE
  rw [mem_fold]
  simp
theorem lt_uniq : ∀ (a b : List S42), a.Pairwise lt42 → b.Pairwise lt42 → (∀ e, e ∈ a ↔ e ∈ b) → a = b
  | [], [], _, _, _ => rfl
  | [], y :: b, _, _, h => absurd ((h y).2 (List.mem_cons_self ..)) (by simp)
  | x :: a, [], _, _, h => absurd ((h x).1 (List.mem_cons_self ..)) (by simp)
  | x :: a, y :: b, ha, hb, h => by
    obtain ⟨ha1, ha2⟩ := List.pairwise_cons.1 ha
    obtain ⟨hb1, hb2⟩ := List.pairwise_cons.1 hb
    have e : x = y := by
      rcases List.mem_cons.1 ((h x).1 (List.mem_cons_self ..)) with c | c
      · exact c
      · rcases List.mem_cons.1 ((h y).2 (List.mem_cons_self ..)) with d | d
        · exact d.symm
        · exact absurd (lt42_trans (hb1 x c) (ha1 y d)) (lt42_irrefl y)
    subst e
    congr 1
    refine lt_uniq a b ha2 hb2 fun z => ⟨fun hz => ?_, fun hz => ?_⟩
    · rcases List.mem_cons.1 ((h z).1 (List.mem_cons_of_mem _ hz)) with c | c
      · subst c; exact absurd (ha1 z hz) (lt42_irrefl z)
      · exact c
    · rcases List.mem_cons.1 ((h z).2 (List.mem_cons_of_mem _ hz)) with c | c
      · subst c; exact absurd (hb1 z hz) (lt42_irrefl z)
      · exact c
/-- pairs that say the graph's edges, and loops -/
def Inv (n : Int) (l : List S42) (ps : List S53) : Prop :=
  (∀ p ∈ ps, (0 ≤ p.f0 ∧ p.f0 < n) ∧ 0 ≤ p.f1 ∧ p.f1 < n) ∧ ∀ e : S42, (∃ p ∈ ps, p.f0 ≠ p.f1 ∧ e = nrm p) ↔ e ∈ l
theorem ok_edges {n : Int} {l : List S42} (h : Ok n l) : ∀ x ∈ l, 0 ≤ x.f0 ∧ x.f0 < x.f1 ∧ x.f1 < n := by
  intro x hx
  obtain ⟨j, hj, rfl⟩ := List.getElem_of_mem hx
  have g1 := (h.2.2 j hj).1
  unfold Ed G rd_T42 at g1
  rw [Int.toNat_natCast, List.getD_eq_getElem?_getD, List.getElem?_eq_getElem hj] at g1
  simp only [Option.getD_some] at g1
  omega
theorem Inv.start {n : Int} {l : List S42} (h : Ok n l) : Inv n l (pairsOf l) := by
  have he := ok_edges h
  refine ⟨fun p hp => ?_, fun e => ⟨?_, fun hx => ?_⟩⟩
  · obtain ⟨x, hx, rfl⟩ := List.mem_map.1 hp
    have := he x hx
    dsimp only
    omega
  · rintro ⟨p, hp, _, rfl⟩
    obtain ⟨x, hx, rfl⟩ := List.mem_map.1 hp
    have := he x hx
    unfold nrm
    dsimp only
    rw [if_pos (by omega)]
    exact hx
  · have := he e hx
    refine ⟨⟨e.f0, e.f1⟩, List.mem_map.2 ⟨e, hx, rfl⟩, by dsimp only; omega, ?_⟩
    unfold nrm
    dsimp only
    rw [if_pos (by omega)]
theorem Inv.make {n : Int} {l : List S42} {ps : List S53} (h : Ok n l) (hi : Inv n l ps) : makeF n ps = (n, l, 0) := by
  have e : mkE ps = l := lt_uniq _ _ (mkE_sorted ps) (h.sorted.imp fun {a b} x => x) fun e => (mem_mkE e ps).trans (hi.2 e)
  unfold makeF
  have h1 := h.1
  have h2 := h.2.1
  rw [if_neg (by omega), if_neg, e, if_neg (by omega)]
  intro c
  obtain ⟨p, hp1, hp2⟩ := List.any_eq_true.1 c
  have := hi.1 p hp1
  unfold badP at hp2
  simp only [Bool.or_eq_true, decide_eq_true_eq] at hp2
  omega
def flp (p : S53) : S53 := ⟨p.f1, p.f0⟩
theorem nrm_flp (p : S53) (h : p.f0 ≠ p.f1) : nrm (flp p) = nrm p := by
  unfold nrm flp
  dsimp only
  by_cases c : p.f0 < p.f1
  · rw [if_pos c, if_neg (by omega)]
  · rw [if_neg c, if_pos (by omega)]
/-- the same pairs, some turned about -/
def Like (ps qs : List S53) : Prop := (∀ p ∈ ps, ∃ q ∈ qs, p = q ∨ p = flp q) ∧ ∀ q ∈ qs, ∃ p ∈ ps, p = q ∨ p = flp q
theorem Like.trans {a b c : List S53} (h : Like a b) (g : Like b c) : Like a c := by
  refine ⟨fun p hp => ?_, fun q hq => ?_⟩
  · obtain ⟨q, hq, e⟩ := h.1 p hp
    obtain ⟨r, hr, f⟩ := g.1 q hq
    refine ⟨r, hr, ?_⟩
    rcases e with rfl | rfl <;> rcases f with rfl | rfl
    · exact Or.inl rfl
    · exact Or.inr rfl
    · exact Or.inr rfl
    · exact Or.inl rfl
  · obtain ⟨r, hr, f⟩ := g.2 q hq
    obtain ⟨p, hp, e⟩ := h.2 r hr
    refine ⟨p, hp, ?_⟩
    rcases e with rfl | rfl <;> rcases f with rfl | rfl
    · exact Or.inl rfl
    · exact Or.inr rfl
    · exact Or.inr rfl
    · exact Or.inl rfl
theorem Inv.like {n : Int} {l : List S42} {ps qs : List S53} (h : Inv n l qs) (g : Like ps qs) : Inv n l ps := by
  refine ⟨fun p hp => ?_, fun e => ⟨?_, fun he => ?_⟩⟩
  · obtain ⟨q, hq, e⟩ := g.1 p hp
    have := h.1 q hq
    rcases e with rfl | rfl
    · exact this
    · exact ⟨this.2, this.1⟩
  · rintro ⟨p, hp, hne, rfl⟩
    obtain ⟨q, hq, e⟩ := g.1 p hp
    rcases e with rfl | rfl
    · exact (h.2 _).1 ⟨p, hq, hne, rfl⟩
    · have hne' : q.f0 ≠ q.f1 := fun c => hne c.symm
      rw [nrm_flp q hne']
      exact (h.2 _).1 ⟨q, hq, hne', rfl⟩
  · obtain ⟨q, hq, hne, rfl⟩ := (h.2 e).2 he
    obtain ⟨p, hp, e⟩ := g.2 q hq
    rcases e with rfl | rfl
    · exact ⟨p, hp, hne, rfl⟩
    · exact ⟨flp q, hp, fun c => hne c.symm, (nrm_flp q hne).symm⟩
theorem Inv.loop {n : Int} {l : List S42} {ps : List S53} (h : Inv n l ps) {v : Int} (h0 : 0 ≤ v) (h1 : v < n) : Inv n l (ps ++ [⟨v, v⟩]) := by
  refine ⟨fun p hp => ?_, fun e => ?_⟩
  · rcases List.mem_append.1 hp with hp | hp
    · exact h.1 p hp
    · obtain rfl := List.mem_singleton.1 hp
      exact ⟨⟨h0, h1⟩, h0, h1⟩
  · rw [← h.2 e]
    constructor
    · rintro ⟨p, hp, hne, he⟩
      rcases List.mem_append.1 hp with hp | hp
      · exact ⟨p, hp, hne, he⟩
      · obtain rfl := List.mem_singleton.1 hp
        exact absurd rfl hne
    · rintro ⟨p, hp, hne, he⟩
      exact ⟨p, List.mem_append_left _ hp, hne, he⟩
theorem P_set (l : List S53) (j : Nat) (h : j < l.length) (a : S53) : P (l.set j a) j = a := by
  rw [P_get _ _ (by rw [List.length_set]; exact h), List.getElem_set_self]
theorem mem_swap {l : List S53} {j k : Nat} (hj : j < l.length) (hk : k < l.length) {q : S53} (hq : q ∈ l) : q ∈ (l.set j l[k]).set k l[j] := by
  obtain ⟨i, hi, rfl⟩ := List.getElem_of_mem hq
  by_cases c1 : i = j
  · subst c1
    exact List.mem_set (by rw [List.length_set]; exact hk) _
  · by_cases c2 : i = k
    · subst c2
      have e : ((l.set j l[i]).set i l[j])[j]'(by simp; exact hj) = l[i] := by
        rw [List.getElem_set_ne (by omega), List.getElem_set_self]
      have m := List.getElem_mem (l := (l.set j l[i]).set i l[j]) (n := j) (by simp; exact hj)
      rw [e] at m
      exact m
    · have e : ((l.set j l[k]).set k l[j])[i]'(by simp; exact hi) = l[i] := by
        rw [List.getElem_set_ne (by omega), List.getElem_set_ne (by omega)]
      have m := List.getElem_mem (l := (l.set j l[k]).set k l[j]) (n := i) (by simp; exact hi)
      rw [e] at m
      exact m
theorem like_swap (l : List S53) (j k : Nat) (hj : j < l.length) (hk : k < l.length) : Like ((l.set j (P l k)).set k (P l j)) l := by
  rw [P_get l k hk, P_get l j hj]
  refine ⟨fun p hp => ⟨p, ?_, Or.inl rfl⟩, fun q hq => ⟨q, mem_swap hj hk hq, Or.inl rfl⟩⟩
  rcases List.mem_or_eq_of_mem_set hp with hp | hp
  · rcases List.mem_or_eq_of_mem_set hp with hp | hp
    · exact hp
    · rw [hp]; exact List.getElem_mem _
  · rw [hp]; exact List.getElem_mem _
theorem like_flip (l : List S53) (j : Nat) (hj : j < l.length) : Like (l.set j (flp (P l j))) l := by
  rw [P_get l j hj]
  refine ⟨fun p hp => ?_, fun q hq => ?_⟩
  · rcases List.mem_or_eq_of_mem_set hp with hp | hp
    · exact ⟨p, hp, Or.inl rfl⟩
    · exact ⟨l[j], List.getElem_mem _, Or.inr hp⟩
  · obtain ⟨i, hi, rfl⟩ := List.getElem_of_mem hq
    by_cases c : i = j
    · subst c
      exact ⟨_, List.mem_set hi _, Or.inr rfl⟩
    · have e : (l.set j (flp l[j]))[i]'(by simp; exact hi) = l[i] := by rw [List.getElem_set_ne (by omega)]
      have m := List.getElem_mem (l := l.set j (flp l[j])) (n := i) (by simp; exact hi)
      rw [e] at m
      exact ⟨l[i], m, Or.inl rfl⟩
theorem like_app (l : List S53) (k : Nat) (hk : k < l.length) : Like (l ++ [P l k]) l := by
  rw [P_get l k hk]
  refine ⟨fun p hp => ⟨p, ?_, Or.inl rfl⟩, fun q hq => ⟨q, List.mem_append_left _ hq, Or.inl rfl⟩⟩
  rcases List.mem_append.1 hp with hp | hp
  · exact hp
  · obtain rfl := List.mem_singleton.1 hp
    exact List.getElem_mem _
/-- one turn of the law's loop -/
def turnP (l : List S53) (j k : Nat) : List S53 :=
  (((l.set j ⟨(P l k).f0, (P l k).f1⟩).set k ⟨(P l j).f0, (P l j).f1⟩).set j ⟨(P ((l.set j ⟨(P l k).f0, (P l k).f1⟩).set k ⟨(P l j).f0, (P l j).f1⟩) j).f1, (P ((l.set j ⟨(P l k).f0, (P l k).f1⟩).set k ⟨(P l j).f0, (P l j).f1⟩) j).f1⟩)
theorem turn_like (l : List S53) (j k : Nat) (hj : j < l.length) (hk : k < l.length) (y1 y2 y3 : List S53) (e1 : y1 = (l.set j ⟨(P l k).f0, (P l k).f1⟩).set k ⟨(P l j).f0, (P l j).f1⟩) (e2 : y2 = y1.set j ⟨(P y1 j).f1, (P y1 j).f1⟩) (e3 : y3 = y2.set j ⟨(P y2 j).f0, (P y1 j).f0⟩) :
    y3.length = l.length ∧ Like (y3 ++ [⟨(P y3 k).f0, (P y3 k).f1⟩]) l := by
  have l1 : y1.length = l.length := by rw [e1]; simp
  have l2 : y2.length = l.length := by rw [e2, List.length_set, l1]
  have l3 : y3.length = l.length := by rw [e3, List.length_set, l2]
  refine ⟨l3, ?_⟩
  have q2 : P y2 j = ⟨(P y1 j).f1, (P y1 j).f1⟩ := by rw [e2]; exact P_set y1 j (by omega) _
  have q3 : y3 = y1.set j (flp (P y1 j)) := by rw [e3, q2, e2, List.set_set]; rfl
  have a1 : Like y1 l := by rw [e1]; exact like_swap l j k hj hk
  have a3 : Like y3 y1 := by rw [q3]; exact like_flip y1 j (by omega)
  exact (like_app y3 k (by omega)).trans (a3.trans a1)
theorem pairs_l0 (n : Int) (l : List S42) (hl : l.length ≤ 8796093022208) : ∀ (d i : Nat), i + d = l.length → Ev (fun k => tangramref03_Pairs.l0 k (pairsOf (l.take i)) (i : Int) n l) (pairsOf l) := by
  intro d
  induction d with
  | zero =>
    intro i hi
    refine Ev.succ ?_
    simp only [tangramref03_Pairs.l0]
    refine Ev.neg (by omega) (Ev.val ?_)
    rw [List.take_of_length_le (by omega)]
  | succ d ih =>
    intro i hi
    have hi' : i < l.length := by omega
    refine Ev.succ ?_
    simp only [tangramref03_Pairs.l0, rdG]
    refine Ev.pos (by omega) (Ev.pos (by omega) (Ev.pos ?_ ?_))
    · unfold pairsOf
      rw [List.length_map, List.length_take]
      omega
    · rw [wi i l hl hi']
      have e : pairsOf (l.take i) ++ [⟨(G l i).f0, (G l i).f1⟩] = pairsOf (l.take (i + 1)) := by
        rw [take_G l i hi']
        simp [pairsOf]
      rw [e]
      exact ih (i + 1) (by omega)
theorem pairs_ev (n : Int) (l : List S42) (hl : l.length ≤ 8796093022208) : Ev (fun k => tangramref03_Pairs.f k n l) (pairsOf l) := by
  unfold tangramref03_Pairs.f
  exact pairs_l0 n l hl l.length 0 (by omega)
end Go.Proofs.YthejafdcdcchbaaDoor.Pure
