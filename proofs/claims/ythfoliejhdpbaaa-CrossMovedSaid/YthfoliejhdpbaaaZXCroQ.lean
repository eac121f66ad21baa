-- Plain facts on layer 26 (cross): a drawing moved and drawn larger.
import Derived.Test.YthfoliejhdpbaaaZXCroO
set_option linter.unusedVariables false
set_option linter.unusedSimpArgs false
namespace Go.Proofs.Ythfoliejhdpbaaa.Pure
open Go.RowKit Go.Proofs.Ythfoliejhdpbaaa.PCroA Go.Proofs.YthfoliejhdpbaaaW.PrintWords Go.Proofs.YthfoliejhdpbaaaW.PrintLast Go.Proofs.YthfoliejhdpbaaaW.PrintMore Go.Proofs.YthfoliejhdpbaaaX
def mv (t dx dy : Int) (a : S23) : S23 := ⟨a.f0 * t + dx, a.f1 * t + dy⟩
def sc (t : Int) (a : S23) : S23 := ⟨a.f0 * t, a.f1 * t⟩
section
variable {t dx dy : Int}
theorem mn_le (a b c : Int) : min a b ≤ c ↔ a ≤ c ∨ b ≤ c := by omega
theorem le_mx (a b c : Int) : c ≤ max a b ↔ c ≤ a ∨ c ≤ b := by omega
theorem le_mv (ht : 1 ≤ t) (a b d : Int) : a * t + d ≤ b * t + d ↔ a ≤ b := by
  constructor
  · intro h
    have : a * t ≤ b * t := by omega
    exact Int.le_of_mul_le_mul_right this (by omega)
  · intro h
    have := Int.mul_le_mul_of_nonneg_right h (by omega : 0 ≤ t)
    omega
theorem prod_mv (a b c : S23) : prod (mv t dx dy a) (mv t dx dy b) (mv t dx dy c) = t * t * prod a b c := by unfold prod mv; grind
theorem sg_tt (ht : 1 ≤ t) (n : Int) : sg (t * t * n) = sg n := by
  have h2 : 0 < t * t := Int.mul_pos (by omega) (by omega)
  rcases Int.lt_trichotomy n 0 with q | q | q
  · have : t * t * n < 0 := Int.mul_neg_of_pos_of_neg h2 q
    rw [sg_neg q, sg_neg this]
  · rw [q, Int.mul_zero]
  · have : 0 < t * t * n := Int.mul_pos h2 q
    rw [sg_pos q, sg_pos this]
theorem tt_zero (ht : 1 ≤ t) (n : Int) : t * t * n = 0 ↔ n = 0 := by
  have h2 : t * t ≠ 0 := by have : 0 < t * t := Int.mul_pos (by omega) (by omega); omega
  exact ⟨fun h => (Int.mul_eq_zero.1 h).resolve_left h2, fun h => by rw [h, Int.mul_zero]⟩
theorem bx_mv (ht : 1 ≤ t) (a b c : S23) : Bx (mv t dx dy a) (mv t dx dy b) (mv t dx dy c) ↔ Bx a b c := by
  unfold Bx mv
  dsimp only
  have e1 := le_mv ht a.f0 c.f0 dx; have e2 := le_mv ht b.f0 c.f0 dx; have e3 := le_mv ht c.f0 a.f0 dx; have e4 := le_mv ht c.f0 b.f0 dx
  have e5 := le_mv ht a.f1 c.f1 dy; have e6 := le_mv ht b.f1 c.f1 dy; have e7 := le_mv ht c.f1 a.f1 dy; have e8 := le_mv ht c.f1 b.f1 dy
  simp only [mn_le, le_mx, e1, e2, e3, e4, e5, e6, e7, e8]
theorem onP_mv (ht : 1 ≤ t) (a b c : S23) : OnP (mv t dx dy a) (mv t dx dy b) (mv t dx dy c) ↔ OnP a b c := by
  unfold OnP
  rw [prod_mv, tt_zero ht, bx_mv ht]
theorem lt_mv (ht : 1 ≤ t) (a b c e d : Int) : min (a * t + d) (b * t + d) ≤ max (c * t + d) (e * t + d) ↔ min a b ≤ max c e := by
  simp only [mn_le, le_mx, le_mv ht]
theorem over_mv (ht : 1 ≤ t) (a b c d : S23) : Over (mv t dx dy a) (mv t dx dy b) (mv t dx dy c) (mv t dx dy d) ↔ Over a b c d := by
  unfold Over mv
  dsimp only
  rw [lt_mv ht, lt_mv ht, lt_mv ht, lt_mv ht]
theorem meetP_mv (ht : 1 ≤ t) (a b c d : S23) : MeetP (mv t dx dy a) (mv t dx dy b) (mv t dx dy c) (mv t dx dy d) ↔ MeetP a b c d := by
  unfold MeetP
  rw [over_mv ht, prod_mv, prod_mv, prod_mv, prod_mv, sg_tt ht, sg_tt ht, sg_tt ht, sg_tt ht]
theorem mv_inj (ht : 1 ≤ t) {a b : S23} (h : mv t dx dy a = mv t dx dy b) : a = b := by
  have h0 := congrArg S23.f0 h
  have h1 := congrArg S23.f1 h
  unfold mv at h0 h1
  dsimp only at h0 h1
  have e0 : a.f0 = b.f0 := Int.eq_of_mul_eq_mul_right (by omega) (by omega : a.f0 * t = b.f0 * t)
  have e1 : a.f1 = b.f1 := Int.eq_of_mul_eq_mul_right (by omega) (by omega : a.f1 * t = b.f1 * t)
  cases a; cases b; simp_all
theorem dif_mv (a b : S23) : dif (mv t dx dy a) (mv t dx dy b) = sc t (dif a b) := by
  unfold dif mv sc
  dsimp only
  rw [Int.sub_mul, Int.sub_mul]
  congr 1 <;> omega
theorem sc_neg (ht : 1 ≤ t) (x : Int) : x * t < 0 ↔ x < 0 := by
  have := le_mv ht 0 x 0
  omega
theorem sc_zero (ht : 1 ≤ t) (x : Int) : x * t = 0 ↔ x = 0 := ⟨fun h => (Int.mul_eq_zero.1 h).resolve_right (by omega), fun h => by rw [h, Int.zero_mul]⟩
theorem half_sc (ht : 1 ≤ t) (a : S23) : halfI (sc t a) = halfI a := by
  unfold halfI sc
  dsimp only
  simp only [sc_neg ht, sc_zero ht]
theorem X2_sc (a b : S23) : X2 (sc t a) (sc t b) = t * t * X2 a b := by unfold X2 sc; grind
theorem sgn_sg (n : Int) : sgn n = sg n := rfl
theorem ang_sc (ht : 1 ≤ t) (a b : S23) : angF (sc t a) (sc t b) = angF a b := by
  unfold angF
  rw [half_sc ht, half_sc ht, X2_sc, sgn_sg, sgn_sg, sg_tt ht]
theorem ins_sc (ht : 1 ≤ t) {D D' : List S23} (x : Int) (hx : Dr D' x = sc t (Dr D x)) : ∀ l, (∀ y ∈ l, Dr D' y = sc t (Dr D y)) → insS D' x l = insS D x l
  | [], _ => rfl
  | y :: l, h => by
    unfold insS
    rw [hx, h y (List.mem_cons_self ..), ang_sc ht, ins_sc ht x hx l (fun z hz => h z (List.mem_cons_of_mem _ hz))]
theorem round_sc (ht : 1 ≤ t) {D D' : List S23} : ∀ l, (∀ y ∈ l, Dr D' y = sc t (Dr D y)) → roundS D' l = roundS D l
  | [], _ => rfl
  | x :: l, h => by
    have e := round_sc ht l (fun z hz => h z (List.mem_cons_of_mem _ hz))
    show insS D' x (roundS D' l) = insS D x (roundS D l)
    rw [e]
    exact ins_sc ht x (h x (List.mem_cons_self ..)) _ (fun y hy => h y (List.mem_cons_of_mem _ ((roundS_perm D l).mem_iff.1 hy)))
end
/-! the moved drawing -/
/-- moved, within the limits -/
structure Moved (t dx dy : Int) (p p' : List S23) : Prop where
  ht : 1 ≤ t
  e : p' = p.map (mv t dx dy)
  hp : InAll p
  hp' : InAll p'
namespace Moved
variable {t dx dy : Int} {p p' : List S23} (m : Moved t dx dy p p')
include m
theorem len : p'.length = p.length := by rw [m.e, List.length_map]
theorem at_ (j : Nat) (h : j < p.length) : P p' j = mv t dx dy (P p j) := by
  rw [P_get p' j (by rw [m.len]; exact h), P_get p j h]
  simp only [m.e, List.getElem_map]
theorem atQ {x : Int} (h : InR p x) : Q p' x = mv t dx dy (Q p x) := by
  rw [Q_P p' h.1, Q_P p h.1]
  exact m.at_ _ (by have := h.1; have := h.2; omega)
theorem onQ {x y z : Int} (hx : InR p x) (hy : InR p y) (hz : InR p z) : decide (OnV (Q p' x) (Q p' y) (Q p' z)) = decide (OnV (Q p x) (Q p y) (Q p z)) := by
  have r : ∀ {x}, InR p x → InR p' x := fun h => ⟨h.1, by rw [m.len]; exact h.2⟩
  rw [← onV_of (inQ m.hp' (r hx)) (inQ m.hp' (r hy)) (inQ m.hp' (r hz)), ← onV_of (inQ m.hp hx) (inQ m.hp hy) (inQ m.hp hz), m.atQ hx, m.atQ hy, m.atQ hz]
  rw [decide_eq_decide]
  exact onP_mv m.ht _ _ _
theorem wrong_ {e f : S62} (he : InE p e) (hf : InE p f) : wrongV p' e f = wrongV p e f := by
  have r : ∀ {x}, InR p x → InR p' x := fun h => ⟨h.1, by rw [m.len]; exact h.2⟩
  have hs : Rg p (st4 e f (-1, 0, 0)) := Rg.st4 (Or.inl (by decide)) he hf
  unfold wrongV finV
  by_cases c : (st4 e f (-1, 0, 0)).1 < 0
  · rw [if_pos c, if_pos c]
    rw [← meetV_of (inQ m.hp' (r he.1)) (inQ m.hp' (r he.2)) (inQ m.hp' (r hf.1)) (inQ m.hp' (r hf.2)), ← meetV_of (inQ m.hp he.1) (inQ m.hp he.2) (inQ m.hp hf.1) (inQ m.hp hf.2)]
    rw [m.atQ he.1, m.atQ he.2, m.atQ hf.1, m.atQ hf.2, decide_eq_decide]
    exact meetP_mv m.ht _ _ _ _
  · rw [if_neg c, if_neg c]
    obtain ⟨h1, h2, h3⟩ := hs.resolve_left c
    unfold onq
    rw [m.onQ h1 h2 h3, m.onQ h1 h3 h2]
theorem inner_ {n : Int} {l : List S62} (h : Ok n l) (hn : (p.length : Int) = n) (i : Nat) (hi : i < l.length) : ∀ (d j : Nat), j + d = l.length → innerF p' l i d j = innerF p l i d j := by
  intro d
  induction d with
  | zero => intro j _; rfl
  | succ d ih =>
    intro j hj
    unfold innerF
    rw [m.wrong_ (inE_of h hn i hi) (inE_of h hn j (by omega)), ih (j + 1) (by omega)]
theorem outer_ {n : Int} {l : List S62} (h : Ok n l) (hn : (p.length : Int) = n) : ∀ (d i : Nat), i + d = l.length → outerF p' l d i = outerF p l d i := by
  intro d
  induction d with
  | zero => intro i _; rfl
  | succ d ih =>
    intro i hi
    unfold outerF
    rw [ih (i + 1) (by omega), m.inner_ h hn i (by omega) d (i + 1) (by omega)]
theorem dw (n : Int) : Dw n p' ↔ Dw n p := by
  unfold Dw
  rw [m.len]
  exact ⟨fun q => ⟨q.1, m.hp⟩, fun q => ⟨q.1, m.hp'⟩⟩
theorem first_ (n : Int) (l : List S62) : firstV n l p' = firstV n l p := by
  unfold firstV
  by_cases h : Ok n l
  · rw [if_pos h, if_pos h]
    by_cases h2 : Dw n p
    · rw [if_pos h2, if_pos ((m.dw n).2 h2), m.outer_ h h2.1 _ _ (by omega)]
    · rw [if_neg h2, if_neg (fun q => h2 ((m.dw n).1 q))]
  · rw [if_neg h, if_neg h]
theorem drawn_ (n : Int) (l : List S62) : drawnV n l p' = drawnV n l p := by
  unfold drawnV
  by_cases h2 : Dw n p
  · rw [if_pos h2, if_pos ((m.dw n).2 h2)]
  · rw [if_neg h2, if_neg (fun q => h2 ((m.dw n).1 q))]
theorem two_ {v : Nat} (hv : v < p.length) : TwoF p' v ↔ TwoF p v := by
  unfold TwoF
  refine ⟨fun h w hw e => h w hw ?_, fun h w hw e => h w hw ?_⟩
  · rw [m.at_ v hv, m.at_ w (by omega), e]
  · rw [m.at_ v hv, m.at_ w (by omega)] at e
    exact mv_inj m.ht e
theorem off_ {n : Int} {l : List S62} (h : Ok n l) (hn : (p.length : Int) = n) {v : Nat} (hv : v < p.length) : OffF p' l v ↔ OffF p l v := by
  unfold OffF badE
  have key : ∀ e, e < l.length → (OnV (Q p' (G l e).f0) (Q p' (G l e).f1) (P p' v) ↔ OnV (Q p (G l e).f0) (Q p (G l e).f1) (P p v)) := by
    intro e he
    have hE := inE_of h hn e he
    have := m.onQ hE.1 hE.2 (z := (v : Int)) ⟨by omega, by omega⟩
    rw [Q_nat, Q_nat, decide_eq_decide] at this
    exact this
  exact ⟨fun q e he b => q e he ⟨b.1, b.2.1, (key e he).2 b.2.2⟩, fun q e he b => q e he ⟨b.1, b.2.1, (key e he).1 b.2.2⟩⟩
theorem proper_ (n : Int) (l : List S62) : ProperV n l p' ↔ ProperV n l p := by
  unfold ProperV
  rw [m.dw n, m.len]
  constructor
  · rintro ⟨⟨h, hd⟩, ⟨h1, h2⟩, h3⟩
    exact ⟨⟨h, hd⟩, ⟨fun v hv => (m.two_ hv).1 (h1 v hv), fun v hv => (m.off_ h hd.1 hv).1 (h2 v hv)⟩, by rw [← m.outer_ h hd.1 _ _ (by omega)]; exact h3⟩
  · rintro ⟨⟨h, hd⟩, ⟨h1, h2⟩, h3⟩
    exact ⟨⟨h, hd⟩, ⟨fun v hv => (m.two_ hv).2 (h1 v hv), fun v hv => (m.off_ h hd.1 hv).2 (h2 v hv)⟩, by rw [m.outer_ h hd.1 _ _ (by omega)]; exact h3⟩
theorem rounds_ {n : Int} {l : List S62} (hP : ProperV n l p) : (rowsV l p'.length).map (roundS (dirsV p' l)) = (rowsV l p.length).map (roundS (dirsV p l)) := by
  rw [m.len]
  refine List.map_congr_left fun x hx => ?_
  have h := hP.1.1
  have hR := rowsV_inv h hP.1.2.1
  have hn' : (p'.length : Int) = n := by rw [m.len]; exact hP.1.2.1
  have hD := dirsV_inv p l
  have hD' := dirsV_inv p' l
  obtain ⟨v, hv, rfl⟩ := List.mem_iff_getElem.1 hx
  have e : (rowsV l p.length)[v] = (rowsV l p.length).getD v [] := by rw [List.getD_eq_getElem?_getD, List.getElem?_eq_getElem hv]; rfl
  refine round_sc m.ht _ fun y hy => ?_
  rw [e] at hy
  obtain ⟨j, hj, q⟩ := (hR.2 v).1 y hy
  have hE := inE_of h hP.1.2.1 j hj
  have d1 := hD.2 j hj
  have d2 := hD'.2 j hj
  rcases q with ⟨rfl, q⟩ | ⟨rfl, q⟩
  · show rd_T23 _ _ = sc t (rd_T23 _ _)
    rw [d1.1, d2.1, m.atQ hE.1, m.atQ hE.2, dif_mv]
  · show rd_T23 _ _ = sc t (rd_T23 _ _)
    rw [d1.2, d2.2, m.atQ hE.1, m.atQ hE.2, dif_mv]
theorem rot_ (n : Int) (l : List S62) : rotV n l p' = rotV n l p := by
  unfold rotV
  rw [m.drawn_]
  by_cases h : drawnV n l p = 0
  · rw [if_pos h, if_pos h]
    by_cases hP : ProperV n l p
    · rw [if_pos hP, if_pos ((m.proper_ n l).2 hP), m.rounds_ hP]
    · rw [if_neg hP, if_neg (fun q => hP ((m.proper_ n l).1 q))]
  · rw [if_neg h, if_neg h]
end Moved
end Go.Proofs.Ythfoliejhdpbaaa.Pure
