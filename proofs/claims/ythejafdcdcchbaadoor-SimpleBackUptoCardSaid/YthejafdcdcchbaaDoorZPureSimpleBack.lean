import Derived.Test.YthejafdcdcchbaaDoorZPSimAx48
import Derived.Test.YthejafdcdcchbaaDoorZXSimV
import Derived.Test.YthejafdcdcchbaaDoorZXSimX
namespace Go.Proofs.YthejafdcdcchbaaDoor.Pure
open Go.RowKit Go.Proofs.YthejafdcdcchbaaDoor.PSimA Go.Proofs.YthejafdcdcchbaaDoorW.PrintWords Go.Proofs.YthejafdcdcchbaaDoorW.PrintLast Go.Proofs.YthejafdcdcchbaaDoorX

theorem back_j3 (n : Int) (l : List S42) (h : Ok n l) : Ev (fun k => tangramlaw03_SimpleBack.j3 k false n l) true := by
  have hl : l.length ≤ 4194304 := h.2.1
  have st : Ev (fun k => simple_Text.f k n l) (textF true n l) := by
    unfold simple_Text.f
    refine Ev.andThen (valid_ev n l) (Ev.val ?_)
    rw [decide_eq_true h]
  refine Ev.succ ?_
  simp only [tangramlaw03_SimpleBack.j3]
  refine Ev.neg (by simp) (Ev.andThen (copy_ev n l (by omega)) (Ev.andThen st ?_))
  have t3 := text3_ev n l
  rw [decide_eq_true h] at t3
  unfold textF at t3 ⊢
  rw [if_pos rfl] at t3 ⊢
  by_cases c1 : 2097152 < l.length
  · rw [if_pos c1] at t3 ⊢
    exact Ev.neg (by simp) (Ev.andThen t3 (Ev.pos rfl (Ev.val rfl)))
  · rw [if_neg c1] at t3 ⊢
    by_cases c2 : 16777216 < (textL n l).length
    · rw [if_pos c2] at t3 ⊢
      exact Ev.neg (by simp) (Ev.andThen t3 (Ev.pos rfl (Ev.val rfl)))
    · rw [if_neg c2] at t3 ⊢
      have he := ok_edges h
      have hn := h.1
      have e : rawF (nums_ (textL n l)) = (n, pairsOf l, 0, 0) := raw_text n l (by omega) (by omega) (by omega) (by omega) (fun x hx => by
        have := he x hx
        omega)
      have hm := (Inv.start h).make h
      have rd := read_ev (nums_ (textL n l)) (by rw [nums_len]; omega)
      rw [e] at rd
      dsimp only at rd
      rw [if_pos rfl, hm] at rd
      refine Ev.pos rfl (Ev.andThen (a := (n, l, 0, 0)) ?_ ?_)
      · unfold nums_scanner_all.f
        refine Ev.pos (by show (textL n l).length ≤ _; omega) ?_
        exact rd
      · exact Ev.pos rfl (Ev.andThen (equal_ev n n l l (by omega)) (Ev.val (by simp)))
theorem back_l1 (n : Int) (l : List S42) (h : Ok n l) (x2 : List Int) (h2 : x2.length ≤ 1048576) : ∀ (d i : Nat) (ps : List S53), i + d = x2.length → Inv n l ps → ps.length + d ≤ 8388608 →
    Ev (fun k => tangramlaw03_SimpleBack.l1 k x2 ps (i : Int) n l) true := by
  have hl : l.length ≤ 4194304 := h.2.1
  intro d
  induction d with
  | zero =>
    intro i ps hi hp hs
    have em : ∀ k, simple_Make.f k n ps = some (n, l, 0) := fun k => by
      unfold simple_Make.f
      rw [if_pos (by omega), hp.make h]
    refine Ev.succ ?_
    simp only [tangramlaw03_SimpleBack.l1, em]
    refine Ev.neg (by omega) ?_
    simp only [Option.bind_some]
    refine Ev.pos (by simp) (Ev.andThen (equal_ev n n l l (by omega)) (Ev.pos (by simp) (Ev.andThen (copy_ev n l (by omega)) (Ev.andThen (same_ev n n l l (by omega)) ?_))))
    have e : (!SameR n l n l) = false := by
      unfold SameR
      simp [h]
    rw [e]
    exact back_j3 n l h
  | succ d ih =>
    intro i ps hi hp hs
    refine Ev.succ ?_
    simp only [tangramlaw03_SimpleBack.l1]
    have e1 : wrap64 ((i : Int) + 1) = ((i + 1 : Nat) : Int) := by rw [w64 (by omega) (by omega)]; omega
    refine Ev.pos (by omega) (Ev.pos (by omega) ?_)
    rw [e1]
    by_cases c1 : rd x2 (i : Int) ≥ 0
    · refine Ev.pos c1 ?_
      by_cases c2 : rd x2 (i : Int) < n
      · refine Ev.pos c2 (Ev.pos (by omega) ?_)
        exact ih (i + 1) _ (by omega) (hp.loop c1 c2) (by rw [List.length_append, List.length_singleton]; omega)
      · exact Ev.neg c2 (ih (i + 1) _ (by omega) hp (by omega))
    · exact Ev.neg c1 (ih (i + 1) _ (by omega) hp (by omega))
theorem back_l0 (n : Int) (l : List S42) (h : Ok n l) (x1 x2 : List Int) (h1 : x1.length ≤ 1048576) (h2 : x2.length ≤ 1048576) (hw : ∀ x ∈ x1, -9223372036854775808 ≤ x ∧ x ≤ 9223372036854775807) : ∀ (d i : Nat) (ps : List S53), i + d = x1.length → Inv n l ps → ps.length + d ≤ 5242880 →
    Ev (fun k => tangramlaw03_SimpleBack.l0 k x1 x2 ps (i : Int) n l) true := by
  have hl : l.length ≤ 4194304 := h.2.1
  have out : ∀ (i : Nat) (ps : List S53), Inv n l ps → ps.length ≤ 5242880 → Ev (fun k => tangramlaw03_SimpleBack.j1 k x1 x2 ps (i : Int) false n l) true := by
    intro i ps hp hs
    refine Ev.succ ?_
    simp only [tangramlaw03_SimpleBack.j1]
    exact Ev.neg (by simp) (back_l1 n l h x2 h2 x2.length 0 ps (by omega) hp (by omega))
  intro d
  induction d with
  | zero =>
    intro i ps hi hp hs
    refine Ev.succ ?_
    simp only [tangramlaw03_SimpleBack.l0]
    exact Ev.neg (by omega) (out i ps hp (by omega))
  | succ d ih =>
    intro i ps hi hp hs
    refine Ev.succ ?_
    simp only [tangramlaw03_SimpleBack.l0]
    refine Ev.pos (by omega) ?_
    by_cases c0 : ps.length = 0
    · have e : decide ((ps.length : Int) > 0) = false := decide_eq_false (by omega)
      rw [e]
      exact out i ps hp (by omega)
    · have e : decide ((ps.length : Int) > 0) = true := decide_eq_true (by omega)
      rw [e]
      have e1 : wrap64 ((i : Int) + 1) = ((i + 1 : Nat) : Int) := by rw [w64 (by omega) (by omega)]; omega
      have hj : i % ps.length < ps.length := Nat.mod_lt _ (by omega)
      have ej : Int.tmod (i : Int) (ps.length : Int) = ((i % ps.length : Nat) : Int) := by
        rw [Int.tmod_eq_emod_of_nonneg (by omega)]
        omega
      generalize i % ps.length = j at hj ej
      refine Ev.succ ?_
      simp only [tangramlaw03_SimpleBack.j1, ej, e1]
      have lo : -(ps.length : Int) < Int.tmod (rd x1 (i : Int)) (ps.length : Int) := by
        have := Int.lt_tmod_of_pos (rd x1 (i : Int)) (b := (ps.length : Int)) (by omega)
        exact this
      have hi' : Int.tmod (rd x1 (i : Int)) (ps.length : Int) < ps.length := Int.tmod_lt_of_pos _ (by omega)
      generalize Int.tmod (rd x1 (i : Int)) (ps.length : Int) = t at lo hi'
      refine Ev.pos trivial (Ev.pos (by omega) (Ev.pos (by omega) (Ev.neg (by omega) ?_)))
      by_cases ct : t < 0
      · have et : wrap64 (-t) = (((-t).toNat : Nat) : Int) := by rw [w64 (by omega) (by omega)]; omega
        have hk : (-t).toNat < ps.length := by omega
        generalize (-t).toNat = k at et hk
        refine Ev.pos ct ?_
        simp only [et, rdP, Int.toNat_natCast]
        obtain ⟨q1, q2⟩ := turn_like ps j k hj hk _ _ _ rfl rfl rfl
        refine Ev.pos (by omega) (Ev.pos (by omega) (Ev.pos (by omega) (Ev.pos (by omega) ?_)))
        refine Ev.andThen' rfl (Ev.andThen' rfl (Ev.andThen' rfl (Ev.pos (by omega) ?_)))
        exact ih (i + 1) _ (by omega) (hp.like q2) (by rw [List.length_append, List.length_singleton]; omega)
      · have et : t = ((t.toNat : Nat) : Int) := by omega
        have hk : t.toNat < ps.length := by omega
        refine Ev.neg ct ?_
        generalize t.toNat = k at et hk
        subst et
        simp only [rdP, Int.toNat_natCast]
        obtain ⟨q1, q2⟩ := turn_like ps j k hj hk _ _ _ rfl rfl rfl
        refine Ev.pos (by omega) (Ev.pos (by omega) (Ev.pos (by omega) (Ev.pos (by omega) ?_)))
        refine Ev.andThen' rfl (Ev.andThen' rfl (Ev.andThen' rfl (Ev.pos (by omega) ?_)))
        exact ih (i + 1) _ (by omega) (hp.like q2) (by rw [List.length_append, List.length_singleton]; omega)
def SimpleBackP : Prop := ∀ (a0_0 : Int) (l0_1 : List (S42)) (l1 : List Int) (l2 : List Int), (Lit.int .i64 a0_0).wf = true → l0_1.length ≤ maxLen → l0_1.length * 16 ≤ 140737488351232 → (∀ x ∈ l0_1, (Lit.int .i64 x.f0).wf = true ∧ (Lit.int .i64 x.f1).wf = true) → l1.length ≤ maxLen → l1.length ≤ 1048576 → (∀ x ∈ l1, (Lit.int .i64 x).wf = true) → l2.length ≤ maxLen → l2.length ≤ 1048576 → (∀ x ∈ l2, (Lit.int .i64 x).wf = true) → ∃ k, tangramlaw03_SimpleBack.f k a0_0 l0_1 l1 l2 = some true
theorem SimpleBack : SimpleBackP := by
  intro n l x1 x2 _ _ hl _ _ h1 hw _ h2 _
  refine Ev.out (?_ : Ev (fun k => tangramlaw03_SimpleBack.f k n l x1 x2) true)
  unfold tangramlaw03_SimpleBack.f
  refine Ev.andThen' (show tangramlaw03_wakes.f = some true from rfl) (Ev.pos rfl ?_)
  refine Ev.andThen (copy_ev n l (by omega)) (Ev.andThen (valid_ev n l) ?_)
  by_cases h : Ok n l
  · refine Ev.pos (decide_eq_true h) (Ev.andThen (pairs_ev n l (by omega)) ?_)
    have := h.2.1
    exact back_l0 n l h x1 x2 h1 h2 (ints_of hw) x1.length 0 _ (by omega) (Inv.start h) (by unfold pairsOf; rw [List.length_map]; omega)
  · refine Ev.neg (by simp [h]) (Ev.andThen (copy_ev n l (by omega)) ?_)
    have st : Ev (fun k => simple_Text.f k n l) (textF false n l) := by
      unfold simple_Text.f
      refine Ev.andThen (valid_ev n l) (Ev.val ?_)
      rw [decide_eq_false h]
    exact Ev.andThen st (Ev.val (by simp [textF]))
end Go.Proofs.YthejafdcdcchbaaDoor.Pure
