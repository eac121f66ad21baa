-- Plain facts: the document's Raw is the program's.
import Derived.Test.YtjgaicdieddekaaZXParQ
import Derived.Test.YtjgaicdieddekaaZPParAx13
set_option linter.unusedVariables false
set_option linter.unusedSimpArgs false
namespace Go.Proofs.Ytjgaicdieddekaa.PParA
open Go.RowKit Go.Proofs.YtjgaicdieddekaaW.PrintWords Go.Proofs.YtjgaicdieddekaaW.PrintLast Go.Proofs.YtjgaicdieddekaaW.PrintMore Go.Proofs.YtjgaicdieddekaaX
def told (r : RawR) : Int × List Int × List Int × Int × Int := (r.1, r.2.1.map S40.f0, r.2.1.map S40.f1, r.2.2.1, r.2.2.2)
theorem drop_L4 (L : List (List S50)) (i : Nat) (h : i < L.length) : L.drop i = rd_L4 L (i : Int) :: L.drop (i + 1) := by
  rw [List.drop_eq_getElem_cons h]
  unfold rd_L4
  rw [Int.toNat_natCast, List.getD_eq_getElem?_getD, List.getElem?_eq_getElem h]
  rfl
theorem rd_L4_mem (L : List (List S50)) (i : Nat) (h : i < L.length) : rd_L4 L (i : Int) ∈ L := by
  unfold rd_L4
  rw [Int.toNat_natCast, List.getD_eq_getElem?_getD, List.getElem?_eq_getElem h]
  exact List.getElem_mem h
theorem ref_l0r (x0 : List Int) (L : List (List S50)) (hL : ∀ x ∈ L, 0 < x.length) (hn : L.length ≤ 33554433) (N m : Int) :
    ∀ d i (ps : List S40), i + d = L.length → i = ps.length + 1 →
      Ev (fun k => tangramref02_Raw.l0 k x0 L N m (i : Int) N (ps.map S40.f0) (ps.map S40.f1) 0 0) (told (runL x0.length (L.drop i) N true m ps)) := by
  intro d
  induction d with
  | zero =>
    intro i ps hd hi
    refine Ev.succ ?_
    simp only [tangramref02_Raw.l0]
    refine Ev.neg (by omega) ?_
    rw [w64 (by omega) (by omega), List.drop_eq_nil_of_le (by omega), runL]
    refine Ev.ite (fun c => Ev.val ?_) (fun c => Ev.val ?_)
    · unfold finF
      rw [if_neg (by decide), if_pos (by omega)]
      rfl
    · unfold finF
      rw [if_neg (by decide), if_neg (by omega)]
      rfl
  | succ d ih =>
    intro i ps hd hi
    have hp := hL _ (rd_L4_mem L i (by omega))
    refine Ev.succ ?_
    simp only [tangramref02_Raw.l0]
    refine Ev.pos (by omega) ?_
    rw [drop_L4 L i (by omega), runL, w64 (by omega) (by omega)]
    generalize rd_L4 L (i : Int) = l at hp ⊢
    refine Ev.ite (fun c => ?_) (fun c => ?_)
    · refine Ev.pos (by omega) (Ev.pos (by omega) (Ev.val ?_))
      have e : lineF N true m ps l = ⟨26, (rd_T50 l 0).f1, N, true, m, ps⟩ := by unfold lineF; rw [if_neg (by decide), if_pos (by omega)]
      rw [e, if_pos (fun h_ => by cases h_)]
      rfl
    · refine Ev.pos (by omega) ?_
      have c' : ¬ m ≤ (ps.length : Int) := by omega
      refine Ev.ite (fun c2 => ?_) (fun c2 => ?_)
      · refine Ev.pos (by omega) (Ev.pos (by omega) ?_)
        have c2' : ¬ l.length ≠ 2 := by omega
        refine Ev.ite (fun c3 => Ev.val ?_) (fun c3 => Ev.ite (fun c4 => Ev.val ?_) (fun c4 => ?_))
        · have e : lineF N true m ps l = ⟨24, (rd_T50 l 0).f1, N, true, m, ps⟩ := by unfold lineF; rw [if_neg (by decide), if_neg c', if_neg c2', if_pos c3]
          rw [e, if_pos (fun h_ => by cases h_)]
          rfl
        · have e : lineF N true m ps l = ⟨24, (rd_T50 l 1).f1, N, true, m, ps⟩ := by unfold lineF; rw [if_neg (by decide), if_neg c', if_neg c2', if_neg c3, if_pos c4]
          rw [e, if_pos (fun h_ => by cases h_)]
          rfl
        · have e : lineF N true m ps l = ⟨0, 0, N, true, m, ps ++ [⟨(rd_T50 l 0).f3, (rd_T50 l 1).f3⟩]⟩ := by unfold lineF; rw [if_neg (by decide), if_neg c', if_neg c2', if_neg c3, if_neg c4]
          rw [e, if_neg (fun h_ => h_ rfl)]
          refine Ev.pos (by simp; omega) (Ev.pos (by simp; omega) ?_)
          have := ih (i + 1) (ps ++ [⟨(rd_T50 l 0).f3, (rd_T50 l 1).f3⟩]) (by omega) (by simp; omega)
          rw [show ((i + 1 : Nat) : Int) = (i : Int) + 1 by omega, List.map_append, List.map_append] at this
          exact this
      · refine Ev.pos (by omega) (Ev.val ?_)
        have e : lineF N true m ps l = ⟨23, (rd_T50 l 0).f1, N, true, m, ps⟩ := by unfold lineF; rw [if_neg (by decide), if_neg c', if_pos (by omega)]
        rw [e, if_pos (fun h_ => by cases h_)]
        rfl
theorem ref_raw (l : List Int) (hw : ∀ x ∈ l, 0 ≤ x ∧ x ≤ 255) : Ev (fun k => tangramref02_Raw.f k l) (told (rawF l)) := by
  simp only [tangramref02_Raw.f]
  unfold rawF
  refine Ev.ite (fun c => Ev.val ?_) (fun c => ?_)
  · rw [if_pos (by omega)]; rfl
  · rw [if_neg (by omega)]
    have hs := scanF_eq l (by omega)
    refine Ev.andThen (ref_scan l hw) ?_
    cases hR : scanF l with
    | error ab =>
      obtain ⟨a, b⟩ := ab
      have hb : b ≠ 0 := scn_code l _ 0 (Nat.le_refl _) (by omega) _ (hs.symm.trans hR)
      exact Ev.neg hb (Ev.val rfl)
    | ok ts =>
      have hl := scn_len l _ 0 ts (Nat.le_refl _) (by omega) (hs.symm.trans hR)
      have ht := scn_tok l _ 0 ts (Nat.le_refl _) (by omega) (hs.symm.trans hR)
      refine Ev.pos rfl ?_
      refine Ev.andThen (ref_lines ts (by omega)) ?_
      have hd := docL_len ts []
      have hp := docL_pos ts []
      dsimp only
      rw [rawT_run _ _ _ _ _ _ _ ht]
      generalize docL ts [] = L at hd hp ⊢
      refine Ev.ite (fun c1 => Ev.val ?_) (fun c1 => ?_)
      · obtain rfl : L = [] := List.eq_nil_of_length_eq_zero (by omega)
        rfl
      · obtain ⟨l1, r, rfl⟩ : ∃ l1 r, L = l1 :: r := by cases L with | nil => exact absurd rfl c1 | cons a b => exact ⟨a, b, rfl⟩
        have h1 := hp l1 (List.mem_cons_self ..)
        have e0 : rd_L4 (l1 :: r) 0 = l1 := rfl
        rw [e0, runL]
        refine Ev.pos (by simp) ?_
        refine Ev.ite (fun c2 => ?_) (fun c2 => ?_)
        · refine Ev.pos (by omega) (Ev.pos (by omega) ?_)
          have c2' : ¬ l1.length ≠ 2 := by omega
          refine Ev.ite (fun c3 => Ev.val ?_) (fun c3 => Ev.ite (fun c4 => Ev.val ?_) (fun c4 => ?_))
          · have e : lineF 0 false 0 [] l1 = ⟨21, (rd_T50 l1 0).f1, 0, false, 0, []⟩ := by unfold lineF; rw [if_pos rfl, if_neg c2', if_pos c3]
            rw [e, if_pos (fun h_ => by cases h_)]
            rfl
          · have e : lineF 0 false 0 [] l1 = ⟨22, (rd_T50 l1 1).f1, 0, false, 0, []⟩ := by unfold lineF; rw [if_pos rfl, if_neg c2', if_neg c3, if_pos c4]
            rw [e, if_pos (fun h_ => by cases h_)]
            rfl
          · have e : lineF 0 false 0 [] l1 = ⟨0, 0, (rd_T50 l1 0).f3, true, (rd_T50 l1 1).f3, []⟩ := by unfold lineF; rw [if_pos rfl, if_neg c2', if_neg c3, if_neg c4]
            rw [e, if_neg (fun h_ => h_ rfl)]
            have := ref_l0r l (l1 :: r) hp (by omega) (rd_T50 l1 0).f3 (rd_T50 l1 1).f3 r.length 1 [] (by simp; omega) rfl
            exact this
        · refine Ev.pos (by omega) (Ev.val ?_)
          have e : lineF 0 false 0 [] l1 = ⟨20, (rd_T50 l1 0).f1, 0, false, 0, []⟩ := by unfold lineF; rw [if_pos rfl, if_pos (by omega)]
          rw [e, if_pos (fun h_ => by cases h_)]
          rfl
end Go.Proofs.Ytjgaicdieddekaa.PParA
