-- Plain facts: parse.Raw, line by line ('runL' over the lines of the tokens).
import Derived.Test.YtjgaicdieddekaaZXRawE
import Derived.Test.YtjgaicdieddekaaZPParAx12
set_option linter.unusedVariables false
set_option linter.unusedSimpArgs false
namespace Go.Proofs.Ytjgaicdieddekaa.PParA
open Go.RowKit Go.Proofs.YtjgaicdieddekaaW.PrintWords Go.Proofs.YtjgaicdieddekaaW.PrintLast Go.Proofs.YtjgaicdieddekaaW.PrintMore Go.Proofs.YtjgaicdieddekaaX
/-- numbers and line's ends, then the one token of the end -/
def TokOk : List S50 → Prop
  | [] => False
  | t :: ts => (t.f0 = 3 ∧ ts = []) ∨ ((t.f0 = 1 ∨ t.f0 = 2) ∧ TokOk ts)
theorem scn_tok (l : List Int) : ∀ d i ts, l.length - i ≤ d → i ≤ l.length → scn l i = .ok ts → TokOk ts := by
  intro d
  induction d with
  | zero =>
    intro i ts hd hi h
    obtain rfl : i = l.length := by omega
    rw [scn_end] at h
    cases h
    exact Or.inl ⟨rfl, rfl⟩
  | succ d ih =>
    intro i ts hd hi h
    by_cases c : i < l.length
    · by_cases c1 : digB l (i : Int) = true
      · rw [scn_dig c1] at h
        have p := nd_pos c1
        have q := nd_le (l := l) (i := i) hi
        split at h
        · cases h
        · cases e : scn l (i + nd l i) with
          | error x => rw [e] at h; cases h
          | ok us =>
            rw [e] at h
            cases h
            exact Or.inr ⟨Or.inl rfl, ih _ us (by omega) (by omega) e⟩
      · by_cases c2 : rd l (i : Int) = 10
        · rw [scn_line c c2] at h
          cases e : scn l (i + 1) with
          | error x => rw [e] at h; cases h
          | ok us =>
            rw [e] at h
            cases h
            exact Or.inr ⟨Or.inr rfl, ih _ us (by omega) (by omega) e⟩
        · by_cases c3 : blk (rd l (i : Int)) = true
          · rw [scn_blank c c3] at h
            exact ih _ ts (by omega) (by omega) h
          · rw [scn_err c c1 c2 c3] at h
            cases h
    · exact ih i ts (by omega) hi h
/-- the lines that have numbers; ls: the first one's beginning -/
def docL : List S50 → List S50 → List (List S50)
  | [], _ => []
  | t :: ts, ls => if t.f0 = 1 then docL ts (ls ++ [t]) else if 0 < ls.length then ls :: docL ts [] else docL ts []
/-- line by line -/
def runL (n : Int) : List (List S50) → Int → Bool → Int → List S40 → RawR
  | [], N, hd, m, ps => finF n N hd m ps
  | L :: r, N, hd, m, ps =>
    if (lineF N hd m ps L).code ≠ 0 then (0, [], (lineF N hd m ps L).code, (lineF N hd m ps L).at_)
    else runL n r (lineF N hd m ps L).N (lineF N hd m ps L).hd (lineF N hd m ps L).m (lineF N hd m ps L).ps
theorem rawT_run (n : Int) : ∀ (ts ls : List S50) (N : Int) (hd : Bool) (m : Int) (ps : List S40), TokOk ts → rawT n ts ls N hd m ps = runL n (docL ts ls) N hd m ps := by
  intro ts
  induction ts with
  | nil => intro ls N hd m ps h; exact h.elim
  | cons t ts ih =>
    intro ls N hd m ps h
    rcases h with ⟨h3, rfl⟩ | ⟨h1, hr⟩
    · have n1 : ¬ t.f0 = 1 := by omega
      rw [rawT, docL, if_neg n1, if_neg n1]
      by_cases c : 0 < ls.length
      · rw [if_pos c, if_pos c, runL]
        split
        · rfl
        · first | rfl | (rw [if_pos h3]; rfl)
      · rw [if_neg c, if_neg c, if_pos h3]; rfl
    · rcases h1 with h1 | h1
      · rw [rawT, docL, if_pos h1, if_pos h1]
        exact ih _ _ _ _ _ hr
      · have n1 : ¬ t.f0 = 1 := by omega
        have n3 : ¬ t.f0 = 3 := by omega
        rw [rawT, docL, if_neg n1, if_neg n1]
        by_cases c : 0 < ls.length
        · rw [if_pos c, if_pos c, runL]
          split
          · rfl
          · first | exact ih _ _ _ _ _ hr | (rw [if_neg n3]; exact ih _ _ _ _ _ hr)
        · rw [if_neg c, if_neg c, if_neg n3]
          obtain rfl : ls = [] := List.eq_nil_of_length_eq_zero (by omega)
          exact ih _ _ _ _ _ hr
theorem docL_pos : ∀ (ts ls : List S50) (L : List S50), L ∈ docL ts ls → 0 < L.length := by
  intro ts
  induction ts with
  | nil => intro ls L h; cases h
  | cons t ts ih =>
    intro ls L h
    rw [docL] at h
    split at h
    · exact ih _ _ h
    · split at h
      · rcases List.mem_cons.1 h with rfl | h
        · assumption
        · exact ih _ _ h
      · exact ih _ _ h
theorem docL_len : ∀ (ts ls : List S50), (docL ts ls).length ≤ ts.length := by
  intro ts
  induction ts with
  | nil => intro ls; exact Nat.le_refl _
  | cons t ts ih =>
    intro ls
    rw [docL]
    split
    · have := ih (ls ++ [t]); simp; omega
    · split
      · have := ih []; simp; omega
      · have := ih []; simp; omega
theorem drop_rd' (ts : List S50) (i : Nat) (h : i < ts.length) : ts.drop i = rd_T50 ts (i : Int) :: ts.drop (i + 1) := drop_rd ts i h
theorem ref_lines0 (ts : List S50) (hn : ts.length ≤ 33554433) : ∀ d i (out : List (List S50)) (ls : List S50), i + d = ts.length → out.length ≤ i → ls.length ≤ i →
    Ev (fun k => tangramref02_lines.l0 k ts out ls (i : Int)) (out ++ docL (ts.drop i) ls) := by
  intro d
  induction d with
  | zero =>
    intro i out ls hd ho hl
    refine Ev.succ ?_
    simp only [tangramref02_lines.l0]
    refine Ev.neg (by omega) (Ev.val ?_)
    rw [List.drop_eq_nil_of_le (by omega), docL, List.append_nil]
  | succ d ih =>
    intro i out ls hd ho hl
    refine Ev.succ ?_
    simp only [tangramref02_lines.l0]
    refine Ev.pos (by omega) (Ev.pos (by omega) ?_)
    rw [drop_rd ts i (by omega), docL, w64 (by omega) (by omega)]
    refine Ev.ite (fun c => ?_) (fun c => ?_)
    · refine Ev.pos (by omega) ?_
      rw [if_pos c]
      have := ih (i + 1) out (ls ++ [rd_T50 ts (i : Int)]) (by omega) (by omega) (by simp; omega)
      rw [show ((i + 1 : Nat) : Int) = (i : Int) + 1 by omega] at this
      exact this
    · rw [if_neg c]
      refine Ev.ite (fun c2 => ?_) (fun c2 => ?_)
      · refine Ev.pos (by omega) ?_
        rw [if_pos (by omega)]
        have := ih (i + 1) (out ++ [ls]) [] (by omega) (by simp; omega) (by simp)
        rw [show ((i + 1 : Nat) : Int) = (i : Int) + 1 by omega] at this
        rw [List.append_assoc] at this
        exact this
      · rw [if_neg (by omega)]
        have := ih (i + 1) out [] (by omega) (by omega) (by simp)
        rw [show ((i + 1 : Nat) : Int) = (i : Int) + 1 by omega] at this
        exact this
theorem ref_lines (ts : List S50) (hn : ts.length ≤ 33554433) : Ev (fun k => tangramref02_lines.f k ts) (docL ts []) := by
  simp only [tangramref02_lines.f]
  exact ref_lines0 ts hn ts.length 0 [] [] (by omega) (Nat.le_refl _) (Nat.le_refl _)
end Go.Proofs.Ytjgaicdieddekaa.PParA
