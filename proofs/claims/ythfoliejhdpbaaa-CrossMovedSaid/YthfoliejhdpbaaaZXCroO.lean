-- Plain facts on layer 26 (cross): round a vertex of a proper drawing no two half-edges have one direction.
import Derived.Test.YthfoliejhdpbaaaZXCroN
set_option linter.unusedVariables false
set_option linter.unusedSimpArgs false
namespace Go.Proofs.Ythfoliejhdpbaaa.Pure
open Go.RowKit Go.Proofs.Ythfoliejhdpbaaa.PCroA Go.Proofs.YthfoliejhdpbaaaW.PrintWords Go.Proofs.YthfoliejhdpbaaaW.PrintLast Go.Proofs.YthfoliejhdpbaaaW.PrintMore Go.Proofs.YthfoliejhdpbaaaX
theorem Lt.trans {a b c : S62} (h1 : Lt a b) (h2 : Lt b c) : Lt a c := by unfold Lt at *; omega
theorem lt_all {n : Int} {l : List S62} (h : Ok n l) (i : Nat) : ∀ d, i + (d + 1) < l.length → Lt (G l i) (G l (i + (d + 1))) := by
  intro d
  induction d with
  | zero => intro hd; have := (h.2.2 (i + 1) hd).2 (by omega); simpa using this
  | succ d ih =>
    intro hd
    have := (h.2.2 (i + (d + 1 + 1)) hd).2 (by omega)
    exact (ih (by omega)).trans (by simpa using this)
theorem edge_inj {n : Int} {l : List S62} (h : Ok n l) {i j : Nat} (hi : i < l.length) (hj : j < l.length) (e0 : (G l i).f0 = (G l j).f0) (e1 : (G l i).f1 = (G l j).f1) : i = j := by
  rcases Nat.lt_trichotomy i j with q | q | q
  · have := lt_all h i (j - i - 1) (by omega)
    rw [show i + (j - i - 1 + 1) = j by omega] at this
    unfold Lt at this; omega
  · exact q
  · have := lt_all h j (i - j - 1) (by omega)
    rw [show j + (i - j - 1 + 1) = i by omega] at this
    unfold Lt at this; omega
def Btw (u w : S23) : Prop := (min 0 u.f0 ≤ w.f0 ∧ w.f0 ≤ max 0 u.f0) ∧ min 0 u.f1 ≤ w.f1 ∧ w.f1 ≤ max 0 u.f1
theorem ray_one {u w : S23} (hu : Up u) (hw : Up w) (h : u.f1 * w.f0 = u.f0 * w.f1) (hle : w.f1 ≤ u.f1) (h1 : u.f1 ≠ 0) : Btw u w := by
  have hw1 : 0 ≤ w.f1 := by unfold Up at hw; omega
  have hu1 : 0 ≤ u.f1 := by unfold Up at hu; omega
  exact ⟨along h h1 (by omega) (by omega), by omega, by omega⟩
theorem ray_up {u w : S23} (hu : Up u) (hw : Up w) (h : X2 u w = 0) : Btw u w ∨ Btw w u := by
  have h1 : u.f1 * w.f0 = u.f0 * w.f1 := by unfold X2 at h; omega
  have h2 : w.f1 * u.f0 = w.f0 * u.f1 := by rw [Int.mul_comm w.f1, Int.mul_comm w.f0]; exact h1.symm
  have hw1 : 0 ≤ w.f1 := by unfold Up at hw; omega
  have hu1 : 0 ≤ u.f1 := by unfold Up at hu; omega
  by_cases c : u.f1 = 0
  · have hux : 0 < u.f0 := by unfold Up at hu; omega
    have hw0 : w.f1 = 0 := by
      rw [c, Int.zero_mul] at h1
      rcases Int.mul_eq_zero.1 h1.symm with q | q
      · omega
      · exact q
    have hwx : 0 < w.f0 := by unfold Up at hw; omega
    rcases Int.le_total w.f0 u.f0 with q | q
    · left; unfold Btw; omega
    · right; unfold Btw; omega
  · by_cases c2 : w.f1 = 0
    · exfalso
      have hwx : 0 < w.f0 := by unfold Up at hw; omega
      rw [c2, Int.mul_zero] at h1
      rcases Int.mul_eq_zero.1 h1 with q | q <;> omega
    · rcases Int.le_total w.f1 u.f1 with q | q
      · exact Or.inl (ray_one hu hw h1 q c)
      · exact Or.inr (ray_one hw hu h2 q c2)
theorem Btw.ngt {u w : S23} (h : Btw (ngt u) (ngt w)) : Btw u w := by
  unfold Btw PCroA.ngt at *; dsimp only at h; omega
theorem X2_sw (u w : S23) : X2 w u = -X2 u w := by unfold X2; rw [Int.mul_comm w.f0, Int.mul_comm w.f1]; omega
theorem btw_on {o a b : S23} (h : Btw (dif a o) (dif b o)) (hx : X2 (dif a o) (dif b o) = 0) : OnP o a b := by
  refine ⟨hx, ?_⟩
  unfold Btw dif at h; dsimp only at h
  unfold Bx; omega
theorem ray {o a b : S23} (hh : halfI (dif a o) = halfI (dif b o)) (hx : X2 (dif a o) (dif b o) = 0) (da : Dir (dif a o)) (db : Dir (dif b o)) : OnP o a b ∨ OnP o b a := by
  have hx2 : X2 (dif b o) (dif a o) = 0 := by rw [X2_sw, hx]; rfl
  have key : Btw (dif a o) (dif b o) ∨ Btw (dif b o) (dif a o) := by
    rcases half_01 (dif a o) with q | q
    · exact ray_up (half_up da q) (half_up db (hh ▸ q)) hx
    · have := ray_up (half_dn q) (half_dn (hh ▸ q)) (by rw [X2_ngt]; exact hx)
      exact this.imp Btw.ngt Btw.ngt
  exact key.imp (fun k => btw_on k hx) (fun k => btw_on k hx2)
theorem ang_same {a b : S23} (h1 : ¬ angF a b < 0) (h2 : ¬ angF b a < 0) : halfI a = halfI b ∧ X2 a b = 0 := by
  rw [ang_lt] at h1 h2
  have e := X2_sw a b
  have hh : halfI a = halfI b := by
    by_cases c : halfI a < halfI b
    · exact absurd (Or.inl c) h1
    · by_cases c2 : halfI b < halfI a
      · exact absurd (Or.inl c2) h2
      · omega
  refine ⟨hh, ?_⟩
  by_cases c : 0 < X2 a b
  · exact absurd (Or.inr ⟨hh, c⟩) h1
  · by_cases c2 : 0 < X2 b a
    · exact absurd (Or.inr ⟨hh.symm, c2⟩) h2
    · omega
/-- edge j joins v and w; h is its half-edge from v -/
def Way (l : List S62) (j v w : Nat) (h : Int) : Prop := (h = ((2 * j : Nat) : Int) ∧ (G l j).f0 = (v : Int) ∧ (G l j).f1 = (w : Int)) ∨ (h = ((2 * j + 1 : Nat) : Int) ∧ (G l j).f1 = (v : Int) ∧ (G l j).f0 = (w : Int))
theorem way_of {n : Int} {l : List S62} {p D : List S23} (h : Ok n l) (hn : (p.length : Int) = n) (hD : DInv p l l.length D) {v : Nat} {x : Int} (hf : Hf l l.length v x) :
    ∃ j w, j < l.length ∧ w < p.length ∧ v < p.length ∧ w ≠ v ∧ Way l j v w x ∧ rd_T23 D x = dif (P p w) (P p v) := by
  obtain ⟨j, hj, q⟩ := hf
  have hE := (h.2.2 j hj).1
  unfold Ed at hE
  have hd := hD.2 j hj
  rcases q with ⟨rfl, q⟩ | ⟨rfl, q⟩
  · refine ⟨j, (G l j).f1.toNat, hj, by omega, by omega, by omega, Or.inl ⟨rfl, q, by omega⟩, ?_⟩
    rw [hd.1, q, Q_nat, Q_P p (by omega)]
  · refine ⟨j, (G l j).f0.toNat, hj, by omega, by omega, by omega, Or.inr ⟨rfl, q, by omega⟩, ?_⟩
    rw [hd.2, q, Q_nat, Q_P p (by omega)]
/-- a third vertex would lie on the edge -/
theorem no_on {n : Int} {l : List S62} {p : List S23} (hP : ProperV n l p) {j v w w2 : Nat} {x : Int} (hj : j < l.length) (hw : Way l j v w x) (hv : v < p.length) (hwl : w < p.length) (h2 : w2 < p.length) (n1 : w2 ≠ v) (n2 : w2 ≠ w)
    (ho : OnP (P p v) (P p w) (P p w2)) : False := by
  have hI := hP.1.2.2
  refine (hP.2.1.2 w2 h2) j hj ?_
  rcases hw with ⟨_, e0, e1⟩ | ⟨_, e1, e0⟩
  · refine ⟨by omega, by omega, ?_⟩
    rw [e0, e1, Q_nat, Q_nat]
    exact ⟨⟨hI v hv, hI w hwl, hI w2 h2⟩, ho⟩
  · refine ⟨by omega, by omega, ?_⟩
    rw [e0, e1, Q_nat, Q_nat]
    exact ⟨⟨hI w hwl, hI v hv, hI w2 h2⟩, ho.swap⟩
theorem dir_of {n : Int} {l : List S62} {p : List S23} (hP : ProperV n l p) {v w : Nat} (hv : v < p.length) (hw : w < p.length) (hne : w ≠ v) : Dir (dif (P p w) (P p v)) := by
  have : ¬ P p w = P p v := by
    rcases Nat.lt_or_gt_of_ne hne with q | q
    · exact fun e => hP.2.1.1 v hv w q e.symm
    · exact hP.2.1.1 w hw v q
  unfold Dir dif
  by_cases c : (P p w).f0 = (P p v).f0
  · by_cases c2 : (P p w).f1 = (P p v).f1
    · exact absurd (by cases hA : P p w; cases hB : P p v; rw [hA, hB] at c c2; simp_all) this
    · right; dsimp only; omega
  · left; dsimp only; omega
def rows0 (n : Nat) : List (List Int) := List.replicate n []
def dirs0 (l : List S62) : List S23 := List.replicate (2 * l.length) z23
def rowsV (l : List S62) (n : Nat) : List (List Int) := rowsF l l.length 0 (rows0 n)
def dirsV (p : List S23) (l : List S62) : List S23 := dirsF p l l.length 0 (dirs0 l)
theorem rows0_inv (l : List S62) (n : Nat) : RInv l n 0 (rows0 n) := by
  refine ⟨by simp [rows0], fun v => ?_⟩
  have : (rows0 n).getD v [] = [] := by
    unfold rows0
    rw [List.getD_eq_getElem?_getD, List.getElem?_replicate]
    split <;> rfl
  rw [this]
  exact ⟨fun h hh => absurd hh (by simp), by simp⟩
theorem dirs0_inv (p : List S23) (l : List S62) : DInv p l 0 (dirs0 l) := ⟨by simp [dirs0], fun j hj => absurd hj (by omega)⟩
theorem rowsV_inv {n : Int} {l : List S62} {p : List S23} (h : Ok n l) (hn : (p.length : Int) = n) : RInv l p.length l.length (rowsV l p.length) :=
  rows_inv (fun j hj => by rw [hn]; exact (h.2.2 j hj).1) _ _ _ (by omega) (rows0_inv l p.length)
theorem dirsV_inv (p : List S23) (l : List S62) : DInv p l l.length (dirsV p l) := dirs_inv _ _ _ (by omega) (dirs0_inv p l)
theorem rotOk {n : Int} {l : List S62} {p : List S23} (hP : ProperV n l p) : RotOk (rowsV l p.length) (dirsV p l) := by
  have h := hP.1.1
  have hd := hP.1.2
  have hR := rowsV_inv h hd.1
  have hD := dirsV_inv p l
  have hn := h.1
  have hl := h.2.1
  have hI := hd.2
  have hpn := hd.1
  refine ⟨by rw [hR.1]; omega, fun x hx => ?_⟩
  obtain ⟨v, hv, rfl⟩ := List.mem_iff_getElem.1 hx
  have e : (rowsV l p.length)[v] = (rowsV l p.length).getD v [] := by rw [List.getD_eq_getElem?_getD, List.getElem?_eq_getElem hv]; rfl
  rw [e]
  have hv2 := hR.2 v
  refine ⟨⟨fun x hx => ?_, fun x hx y hy h1 h2 => ?_⟩, by omega⟩
  · obtain ⟨j, w, hj, hw, hvp, hne, hway, hdr⟩ := way_of h hd.1 hD (hv2.1 x hx)
    have b1 := hI w hw
    have b2 := hI v hvp
    unfold In at b1 b2
    refine ⟨?_, ?_, ?_, ?_⟩
    · rw [hD.1]
      rcases hway with ⟨rfl, _⟩ | ⟨rfl, _⟩ <;> omega
    · show Dir (rd_T23 _ x); rw [hdr]; exact dir_of hP hvp hw hne
    · show _ ≤ (rd_T23 _ x).f0 ∧ (rd_T23 _ x).f0 ≤ _; rw [hdr]; unfold dif; dsimp only; omega
    · show _ ≤ (rd_T23 _ x).f1 ∧ (rd_T23 _ x).f1 ≤ _; rw [hdr]; unfold dif; dsimp only; omega
  · obtain ⟨j, w, hj, hw, hvp, hne, hway, hdr⟩ := way_of h hd.1 hD (hv2.1 x hx)
    obtain ⟨j2, w2, hj2, hw2, _, hne2, hway2, hdr2⟩ := way_of h hd.1 hD (hv2.1 y hy)
    have g := ang_same h1 h2
    rw [show Dr (dirsV p l) x = rd_T23 (dirsV p l) x from rfl, show Dr (dirsV p l) y = rd_T23 (dirsV p l) y from rfl, hdr, hdr2] at g
    by_cases c : w2 = w
    · subst c
      rcases hway with ⟨rfl, a0, a1⟩ | ⟨rfl, a1, a0⟩ <;> rcases hway2 with ⟨rfl, b0, b1⟩ | ⟨rfl, b1, b0⟩
      · rw [edge_inj h hj hj2 (a0.trans b0.symm) (a1.trans b1.symm)]
      · have q1 := (h.2.2 j hj).1; have q2 := (h.2.2 j2 hj2).1; unfold Ed at q1 q2; omega
      · have q1 := (h.2.2 j hj).1; have q2 := (h.2.2 j2 hj2).1; unfold Ed at q1 q2; omega
      · rw [edge_inj h hj hj2 (a0.trans b0.symm) (a1.trans b1.symm)]
    · exfalso
      rcases ray g.1 g.2 (dir_of hP hvp hw hne) (dir_of hP hvp hw2 hne2) with q | q
      · exact no_on hP hj hway hvp hw hw2 hne2 c q
      · exact no_on hP hj2 hway2 hvp hw2 hw hne (fun e => c e.symm) q
/-! Rotation -/
def rotV (n : Int) (l : List S62) (p : List S23) : List (List Int) × Int :=
  if drawnV n l p = 0 then (if ProperV n l p then (canonV ((rowsV l p.length).map (roundS (dirsV p l))), 0) else ([], 2)) else ([], drawnV n l p)
theorem rowsR_len {n : Int} {l : List S62} {p : List S23} (hP : ProperV n l p) : (((rowsV l p.length).map (roundS (dirsV p l))).length ≤ 1048576) ∧ ∀ x ∈ (rowsV l p.length).map (roundS (dirsV p l)), x.length ≤ 8796093022208 := by
  have hR := rowsV_inv hP.1.1 hP.1.2.1
  have hn := hP.1.1.1
  have hl := hP.1.1.2.1
  have hpn := hP.1.2.1
  refine ⟨by rw [List.length_map, hR.1]; omega, fun x hx => ?_⟩
  obtain ⟨y, hy, rfl⟩ := List.mem_map.1 hx
  rw [(roundS_perm _ y).length_eq]
  obtain ⟨v, hv, rfl⟩ := List.mem_iff_getElem.1 hy
  have e : (rowsV l p.length)[v] = (rowsV l p.length).getD v [] := by rw [List.getD_eq_getElem?_getD, List.getElem?_eq_getElem hv]; rfl
  rw [e]
  have := (hR.2 v).2
  omega
theorem rotation_ev (n : Int) (l : List S62) (p : List S23) (hp : p.length < 8796093022208) : Ev (fun k => cross_Rotation.f k n l p) (rotV n l p) := by
  unfold cross_Rotation.f rotV
  refine Ev.andThen (drawn_ev n l p (by omega)) ?_
  refine Ev.ite (fun h0 => ?_) (fun h0 => Ev.val (by rw [if_neg h0]))
  rw [if_pos h0]
  refine Ev.andThen (proper_ev n l p hp) (Ev.ite (fun h1 => ?_) (fun h1 => Ev.val (by rw [if_neg (fun q => h1 (decide_eq_true q))])))
  have hP : ProperV n l p := of_decide_eq_true h1
  rw [if_pos hP]
  have hn := hP.1.1.1
  have hl := hP.1.1.2.1
  have hpn := hP.1.2.1
  have w1 : wrap64 (2 * (l.length : Int)) = ((2 * l.length : Nat) : Int) := by rw [w64 (by omega) (by omega)]; omega
  rw [w1]
  refine Ev.pos (by omega) (Ev.pos (by omega) (Ev.pos (by omega) (Ev.pos (by omega) ?_)))
  have hq := rotOk hP
  have hL := rowsR_len hP
  have := rot_l0 hP.1.1 hP.1.2 (canonV ((rowsV l p.length).map (roundS (dirsV p l))), 0) l.length 0 (rows0 p.length) (dirs0 l) (by omega) (rows0_inv l p.length) (dirs0_inv p l)
    (fun _ => Ev.andThen (canon_ev _ hL.1 hL.2) (Ev.now _)) hq
  rw [Int.toNat_natCast, show n.toNat = p.length by omega]
  exact this
end Go.Proofs.Ythfoliejhdpbaaa.Pure
