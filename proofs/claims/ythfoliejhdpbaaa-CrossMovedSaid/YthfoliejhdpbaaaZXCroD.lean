-- Plain facts on the printed functions of layer 26 (cross): two edges meet where they may not; the first such pair.
import Derived.Test.YthfoliejhdpbaaaZXCroC
import Derived.Test.YthfoliejhdpbaaaZXCroV
import Derived.Test.YthfoliejhdpbaaaZPCroAx16
set_option linter.unusedVariables false
set_option linter.unusedSimpArgs false
namespace Go.Proofs.Ythfoliejhdpbaaa.Pure
open Go.RowKit Go.Proofs.Ythfoliejhdpbaaa.PCroA Go.Proofs.YthfoliejhdpbaaaW.PrintWords Go.Proofs.YthfoliejhdpbaaaW.PrintLast Go.Proofs.YthfoliejhdpbaaaW.PrintMore Go.Proofs.YthfoliejhdpbaaaX
/-! two edges -/
def Q (p : List S23) (x : Int) : S23 := rd_T23 p x
theorem rdQ (p : List S23) (x : Int) : rd_T23 p x = Q p x := rfl
theorem w01 : wrap64 (0 + 1) = 1 := by rw [w64 (by omega) (by omega)]; rfl
theorem w11 : wrap64 (1 + 1) = 2 := by rw [w64 (by omega) (by omega)]; rfl
theorem Q_nat (p : List S23) (j : Nat) : Q p (j : Int) = P p j := rfl
theorem Q_P (p : List S23) {x : Int} (h : 0 ≤ x) : Q p x = P p x.toNat := by
  rw [← Q_nat, Int.toNat_of_nonneg h]
def stp (α β c d : Int) (s : Int × Int × Int) : Int × Int × Int := if α = c then (α, β, d) else s
def onq (p : List S23) (x y z : Int) : Bool := decide (OnV (Q p x) (Q p y) (Q p z)) || decide (OnV (Q p x) (Q p z) (Q p y))
def st4 (e f : S62) (s : Int × Int × Int) : Int × Int × Int := stp e.f1 e.f0 f.f1 f.f0 (stp e.f1 e.f0 f.f0 f.f1 (stp e.f0 e.f1 f.f1 f.f0 (stp e.f0 e.f1 f.f0 f.f1 s)))
def finV (p : List S23) (e f : S62) (s : Int × Int × Int) : Bool := if s.1 < 0 then decide (MeetV (Q p e.f0) (Q p e.f1) (Q p f.f0) (Q p f.f1)) else onq p s.1 s.2.1 s.2.2
def wrongV (p : List S23) (e f : S62) : Bool := finV p e f (st4 e f (-1, 0, 0))
theorem stp_neg {α β c d : Int} {s : Int × Int × Int} (h : ¬ α = c) : stp α β c d s = s := if_neg h
theorem stp_pos {α β c d : Int} {s : Int × Int × Int} (h : α = c) : stp α β c d s = (α, β, d) := if_pos h
theorem wrongV_any (p : List S23) (e f : S62) (y z : Int) : finV p e f (st4 e f (-1, y, z)) = wrongV p e f := by
  unfold wrongV st4
  by_cases h4 : e.f1 = f.f1
  · rw [stp_pos h4, stp_pos h4]
  by_cases h3 : e.f1 = f.f0
  · rw [stp_neg h4, stp_neg h4, stp_pos h3, stp_pos h3]
  by_cases h2 : e.f0 = f.f1
  · rw [stp_neg h4, stp_neg h4, stp_neg h3, stp_neg h3, stp_pos h2, stp_pos h2]
  by_cases h1 : e.f0 = f.f0
  · rw [stp_neg h4, stp_neg h4, stp_neg h3, stp_neg h3, stp_neg h2, stp_neg h2, stp_pos h1, stp_pos h1]
  rw [stp_neg h4, stp_neg h4, stp_neg h3, stp_neg h3, stp_neg h2, stp_neg h2, stp_neg h1, stp_neg h1]
  rfl
def InR (p : List S23) (x : Int) : Prop := 0 ≤ x ∧ x < (p.length : Int)
def Rg (p : List S23) (s : Int × Int × Int) : Prop := s.1 < 0 ∨ (InR p s.1 ∧ InR p s.2.1 ∧ InR p s.2.2)
theorem Rg.stp {p : List S23} {α β c d : Int} {s : Int × Int × Int} (h : Rg p s) (ha : InR p α) (hb : InR p β) (hd : InR p d) : Rg p (stp α β c d s) := by
  unfold Pure.stp
  split
  · exact Or.inr ⟨ha, hb, hd⟩
  · exact h
def InE (p : List S23) (e : S62) : Prop := InR p e.f0 ∧ InR p e.f1
theorem Rg.st4 {p : List S23} {e f : S62} {s : Int × Int × Int} (h : Rg p s) (he : InE p e) (hf : InE p f) : Rg p (st4 e f s) :=
  (((h.stp he.1 he.2 hf.2).stp he.1 he.2 hf.1).stp he.2 he.1 hf.2).stp he.2 he.1 hf.1
theorem inQ {p : List S23} (hp : InAll p) {x : Int} (h : InR p x) : In (Q p x) := by
  rw [Q_P p h.1]; exact hp _ (by have := h.2; have := h.1; omega)
theorem onV_of {a b c : S23} (ha : In a) (hb : In b) (hc : In c) : decide (OnP a b c) = decide (OnV a b c) := by
  rw [decide_eq_decide]; exact ⟨fun h => ⟨⟨ha, hb, hc⟩, h⟩, fun h => h.2⟩
theorem meetV_of {a b c d : S23} (ha : In a) (hb : In b) (hc : In c) (hd : In d) : decide (MeetP a b c d) = decide (MeetV a b c d) := by
  rw [decide_eq_decide]; exact ⟨fun h => ⟨⟨ha, hb, hc, hd⟩, h⟩, fun h => h.2⟩
/-! the program's wrong -/
section
variable {p : List S23} {e f : S62}
theorem wrong_end (hp : InAll p) (he : InE p e) (hf : InE p f) (s : Int × Int × Int) (hs : Rg p s) (a b c d i : Int) (hi : i = 2) :
    Ev (fun k => cross_wrong.l0 k p s.1 s.2.1 s.2.2 a b c d i e.f0 e.f1 f.f0 f.f1) (finV p e f s) := by
  subst hi
  refine Ev.succ ?_
  simp only [cross_wrong.l0, rdQ]
  refine Ev.neg (by decide) ?_
  unfold finV
  refine Ev.ite (fun h => ?_) (fun h => ?_)
  · rw [if_pos h]
    refine Ev.pos he.1.1 (Ev.pos he.1.2 (Ev.pos he.2.1 (Ev.pos he.2.2 (Ev.pos hf.1.1 (Ev.pos hf.1.2 (Ev.pos hf.2.1 (Ev.pos hf.2.2 ?_)))))))
    rw [← meetV_of (inQ hp he.1) (inQ hp he.2) (inQ hp hf.1) (inQ hp hf.2)]
    exact Ev.andThen (meet_ev (inQ hp he.1) (inQ hp he.2) (inQ hp hf.1) (inQ hp hf.2)) (Ev.now _)
  · rw [if_neg h]
    obtain hs | hs := hs
    · exact absurd hs h
    obtain ⟨h1, h2, h3⟩ := hs
    refine Ev.pos h1.1 (Ev.pos h1.2 (Ev.pos h2.1 (Ev.pos h2.2 (Ev.pos h3.1 (Ev.pos h3.2 ?_)))))
    refine Ev.andThen' (on_eq (inQ hp h1) (inQ hp h2) (inQ hp h3)) ?_
    unfold onq
    rw [onV_of (inQ hp h1) (inQ hp h2) (inQ hp h3)]
    refine Ev.ite (fun g => Ev.val (by rw [g, Bool.true_or])) (fun g => ?_)
    rw [Bool.eq_false_iff.2 g, Bool.false_or]
    refine Ev.andThen' (on_eq (inQ hp h1) (inQ hp h3) (inQ hp h2)) (Ev.val ?_)
    rw [onV_of (inQ hp h1) (inQ hp h3) (inQ hp h2)]
theorem wrong_l1 (s : Int × Int × Int) (a b c d i α β : Int) (v : Bool)
    (h : Ev (fun k => cross_wrong.l0 k p (stp α β f.f1 f.f0 (stp α β f.f0 f.f1 s)).1 (stp α β f.f1 f.f0 (stp α β f.f0 f.f1 s)).2.1 (stp α β f.f1 f.f0 (stp α β f.f0 f.f1 s)).2.2 a b c d (wrap64 (i + 1)) e.f0 e.f1 f.f0 f.f1) v) :
    Ev (fun k => cross_wrong.l1 k p s.1 s.2.1 s.2.2 a b c d i f.f0 f.f1 f.f1 f.f0 0 e.f0 e.f1 f.f0 f.f1 α β) v := by
  have last : ∀ s : Int × Int × Int, Ev (fun k => cross_wrong.l0 k p (stp α β f.f1 f.f0 s).1 (stp α β f.f1 f.f0 s).2.1 (stp α β f.f1 f.f0 s).2.2 a b c d (wrap64 (i + 1)) e.f0 e.f1 f.f0 f.f1) v →
      Ev (fun k => cross_wrong.l1 k p s.1 s.2.1 s.2.2 a b c d i f.f0 f.f1 f.f1 f.f0 1 e.f0 e.f1 f.f0 f.f1 α β) v := by
    intro s h
    refine Ev.succ ?_
    simp only [cross_wrong.l1, comps_Sets_numbers.f]
    refine Ev.pos (by decide) (Ev.andThen' (a := (f.f1, f.f0)) rfl ?_)
    refine Ev.ite (fun g => ?_) (fun g => ?_)
    · rw [stp_pos g] at h
      refine Ev.succ ?_
      simp only [cross_wrong.l1, w11]
      exact Ev.neg (by decide) h
    · rw [stp_neg g] at h
      refine Ev.succ ?_
      simp only [cross_wrong.l1, w11]
      exact Ev.neg (by decide) h
  refine Ev.succ ?_
  simp only [cross_wrong.l1, comps_Sets_numbers.f]
  refine Ev.pos (by decide) (Ev.andThen' (a := (f.f0, f.f1)) rfl ?_)
  refine Ev.ite (fun g => ?_) (fun g => ?_)
  · rw [stp_pos (c := f.f0) g] at h
    rw [w01]; exact last (α, β, f.f1) h
  · rw [stp_neg (c := f.f0) g] at h
    rw [w01]; exact last s h
theorem wrong_l0 (s : Int × Int × Int) (a b c d i α β : Int) (hi : i < 2) (hn : pickF a b c d i = some (α, β)) (v : Bool)
    (h : Ev (fun k => cross_wrong.l0 k p (stp α β f.f1 f.f0 (stp α β f.f0 f.f1 s)).1 (stp α β f.f1 f.f0 (stp α β f.f0 f.f1 s)).2.1 (stp α β f.f1 f.f0 (stp α β f.f0 f.f1 s)).2.2 a b c d (wrap64 (i + 1)) e.f0 e.f1 f.f0 f.f1) v) :
    Ev (fun k => cross_wrong.l0 k p s.1 s.2.1 s.2.2 a b c d i e.f0 e.f1 f.f0 f.f1) v := by
  refine Ev.succ ?_
  simp only [cross_wrong.l0, comps_Sets_numbers.f]
  exact Ev.pos hi (Ev.andThen' hn (wrong_l1 s a b c d i α β v h))
theorem wrong_ev (hp : InAll p) (he : InE p e) (hf : InE p f) : Ev (fun k => cross_wrong.f k e.f0 e.f1 f.f0 f.f1 p) (wrongV p e f) := by
  unfold cross_wrong.f
  refine wrong_l0 (-1, 0, 0) e.f0 e.f1 e.f1 e.f0 0 e.f0 e.f1 (by decide) rfl _ ?_
  refine wrong_l0 (stp e.f0 e.f1 f.f1 f.f0 (stp e.f0 e.f1 f.f0 f.f1 (-1, 0, 0))) e.f0 e.f1 e.f1 e.f0 _ e.f1 e.f0 (by rw [w01]; decide) (by rw [w01]; rfl) _ ?_
  rw [w01]
  exact wrong_end hp he hf (st4 e f (-1, 0, 0)) (Rg.st4 (Or.inl (by decide)) he hf) _ _ _ _ _ w11
end
/-! First -/
def innerF (p : List S23) (l : List S62) (i : Nat) : Nat → Nat → Option Nat
  | 0, _ => none
  | d + 1, j => if wrongV p (G l i) (G l j) = true then some j else innerF p l i d (j + 1)
def thenF (i : Nat) (o : Option Nat) (r : Int × Int × Int) : Int × Int × Int := match o with | some j => ((i : Int), (j : Int), 0) | none => r
def outerF (p : List S23) (l : List S62) : Nat → Nat → Int × Int × Int
  | 0, _ => (-1, -1, 0)
  | d + 1, i => thenF i (innerF p l i d (i + 1)) (outerF p l d (i + 1))
theorem inE_of {n : Int} {l : List S62} {p : List S23} (h : Ok n l) (hn : (p.length : Int) = n) (j : Nat) (hj : j < l.length) : InE p (G l j) := by
  have := (h.2.2 j hj).1
  unfold Ed at this
  unfold InE InR
  omega
theorem first_l1 {n : Int} {l : List S62} {p : List S23} (h : Ok n l) (hn : (p.length : Int) = n) (hp : InAll p) (i : Nat) (hi : i < l.length) (r : Int × Int × Int) (x : Int)
    (hr : Ev (fun k => cross_First.l0 k p l (l.length : Int) (wrap64 (x + 1)) n l) r) : ∀ (d j : Nat), j + d = l.length →
    Ev (fun k => cross_First.l1 k p (i : Int) (j : Int) l (l.length : Int) x n l (G l i).f0 (G l i).f1) (thenF i (innerF p l i d j) r) := by
  intro d
  induction d with
  | zero =>
    intro j hj
    refine Ev.succ ?_
    simp only [cross_First.l1]
    exact Ev.neg (by omega) hr
  | succ d ih =>
    intro j hj
    refine Ev.succ ?_
    simp only [cross_First.l1, rdG]
    refine Ev.pos (by omega) (Ev.pos (by omega) ?_)
    refine Ev.andThen (wrong_ev hp (inE_of h hn i hi) (inE_of h hn j (by omega))) ?_
    unfold innerF
    refine Ev.ite (fun g => Ev.val (by rw [if_pos g]; rfl)) (fun g => ?_)
    rw [if_neg g, wi j l (by have := h.2.1; omega) (by omega)]
    exact ih (j + 1) (by omega)
theorem first_l0 {n : Int} {l : List S62} {p : List S23} (h : Ok n l) (hn : (p.length : Int) = n) (hp : InAll p) : ∀ (d i : Nat), i + d = l.length →
    Ev (fun k => cross_First.l0 k p l (l.length : Int) (i : Int) n l) (outerF p l d i) := by
  intro d
  induction d with
  | zero =>
    intro i hi
    refine Ev.succ ?_
    simp only [cross_First.l0]
    exact Ev.neg (by omega) (Ev.now _)
  | succ d ih =>
    intro i hi
    refine Ev.succ ?_
    simp only [cross_First.l0, rdG]
    refine Ev.pos (by omega) (Ev.pos (by omega) (Ev.pos (by omega) ?_))
    have e := wi i l (by have := h.2.1; omega) (by omega)
    rw [e]
    exact first_l1 h hn hp i (by omega) _ (i : Int) (by rw [e]; exact ih (i + 1) (by omega)) d (i + 1) (by omega)
/-! drawn, First -/
def Dw (n : Int) (p : List S23) : Prop := (p.length : Int) = n ∧ InAll p
instance (n : Int) (p : List S23) : Decidable (Dw n p) := inferInstanceAs (Decidable (_ ∧ _))
def drawnV (n : Int) (l : List S62) (p : List S23) : Int := if Ok n l then (if Dw n p then 0 else 260) else 1
theorem drawn_ev (n : Int) (l : List S62) (p : List S23) (hp : p.length ≤ 8796093022208) : Ev (fun k => cross_drawn.f k n l p) (drawnV n l p) := by
  unfold cross_drawn.f drawnV
  refine Ev.andThen (valid_ev n l) (Ev.ite (fun h => ?_) (fun h => Ev.val (by rw [if_neg (fun o => h (decide_eq_true o))])))
  rw [if_pos (of_decide_eq_true h)]
  refine Ev.ite (fun h2 => ?_) (fun h2 => Ev.val (by rw [if_neg (fun o => h2 o.1)]))
  refine Ev.andThen (beyond_ev p hp) (Ev.ite (fun h3 => Ev.val ?_) (fun h3 => Ev.val ?_))
  · rw [if_neg (fun o => of_decide_eq_true h3 o.2)]
  · rw [if_pos ⟨h2, Classical.not_not.1 (fun h4 => h3 (decide_eq_true h4))⟩]
def firstV (n : Int) (l : List S62) (p : List S23) : Int × Int × Int := if Ok n l then (if Dw n p then outerF p l l.length 0 else (0, 0, 260)) else (0, 0, 1)
theorem first_ev (n : Int) (l : List S62) (p : List S23) (hp : p.length ≤ 8796093022208) : Ev (fun k => cross_First.f k n l p) (firstV n l p) := by
  unfold cross_First.f firstV
  refine Ev.andThen (drawn_ev n l p hp) ?_
  unfold drawnV
  by_cases h : Ok n l
  · by_cases h2 : Dw n p
    · rw [if_pos h, if_pos h, if_pos h2, if_pos h2]
      exact Ev.pos rfl (first_l0 h h2.1 h2.2 l.length 0 (by omega))
    · rw [if_pos h, if_pos h, if_neg h2, if_neg h2]
      exact Ev.neg (by decide) (Ev.now _)
  · rw [if_neg h, if_neg h]
    exact Ev.neg (by decide) (Ev.now _)
end Go.Proofs.Ythfoliejhdpbaaa.Pure
