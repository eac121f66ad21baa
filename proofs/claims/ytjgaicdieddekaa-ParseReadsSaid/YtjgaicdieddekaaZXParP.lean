-- Plain facts: what nums.Scan says ('scn'), piece by piece; the document's Scan says the same; two lists of tokens that are one.
import Derived.Test.YtjgaicdieddekaaZXScanD
import Derived.Test.YtjgaicdieddekaaZPParAx3
import Derived.Test.YtjgaicdieddekaaZPParAx4
import Derived.Test.YtjgaicdieddekaaZPParAx5
import Derived.Test.YtjgaicdieddekaaZXPure
import Derived.Lib.ItoaMem
set_option linter.unusedVariables false
set_option linter.unusedSimpArgs false
namespace Go.Proofs.Ytjgaicdieddekaa.PParA
open Go.RowKit Go.Proofs.YtjgaicdieddekaaW.PrintWords Go.Proofs.YtjgaicdieddekaaW.PrintLast Go.Proofs.YtjgaicdieddekaaW.PrintMore Go.Proofs.YtjgaicdieddekaaX
/-- how many digits stand from i on -/
def nd (l : List Int) (i : Nat) : Nat := ndig l (l.length + 1) i
theorem nd_all {l : List Int} {i k : Nat} (h : k < nd l i) : digB l ((i + k : Nat) : Int) = true := ndig_all l _ i k h
theorem nd_end (l : List Int) (i : Nat) : digB l ((i + nd l i : Nat) : Int) = false := ndig_end l _ i (by omega)
theorem nd_pos {l : List Int} {i : Nat} (h : digB l (i : Int) = true) : 0 < nd l i := ndig_pos l _ i h
theorem nd_le {l : List Int} {i : Nat} (h : i ≤ l.length) : i + nd l i ≤ l.length := ndig_le l _ i h
theorem nd_of {l : List Int} {i m : Nat} (h : ∀ k, k < m → digB l ((i + k : Nat) : Int) = true) (e : digB l ((i + m : Nat) : Int) = false) : nd l i = m := by
  rcases Nat.lt_trichotomy (nd l i) m with c | c | c
  · have := h _ c
    rw [nd_end] at this
    cases this
  · exact c
  · have := nd_all c
    rw [e] at this
    cases this
theorem digB_lt {l : List Int} {i : Nat} (h : digB l (i : Int) = true) : i < l.length := ((digB_iff l i).1 h).1
theorem scanG_fuel (l : List Int) : ∀ (d f f' i : Nat) (acc : List S50), l.length - i ≤ d → l.length - i ≤ f → l.length - i ≤ f' → i ≤ l.length → scanG l f i acc = scanG l f' i acc := by
  intro d
  induction d with
  | zero =>
    intro f f' i acc hd h h' hi
    have e : ¬ i < l.length := by omega
    cases f <;> cases f' <;> simp [scanG, e]
  | succ d ih =>
    intro f f' i acc hd h h' hi
    by_cases c : i < l.length
    · obtain ⟨f, rfl⟩ : ∃ g, f = g + 1 := ⟨f - 1, by omega⟩
      obtain ⟨f', rfl⟩ : ∃ g, f' = g + 1 := ⟨f' - 1, by omega⟩
      unfold scanG
      rw [if_pos c, if_pos c]
      by_cases c1 : digB l (i : Int) = true
      · rw [if_pos c1, if_pos c1]
        have p := nd_pos c1
        have q := nd_le (l := l) (i := i) hi
        unfold nd at p q
        split
        · rfl
        · exact ih _ _ _ _ (by omega) (by omega) (by omega) (by omega)
      · rw [if_neg c1, if_neg c1, ih f f' (i + 1) _ (by omega) (by omega) (by omega) (by omega), ih f f' (i + 1) acc (by omega) (by omega) (by omega) (by omega)]
    · cases f <;> cases f' <;> simp [scanG, c]
theorem scanG_acc (l : List Int) : ∀ (f i : Nat) (acc : List S50), scanG l f i acc = (scanG l f i []).map (acc ++ ·) := by
  intro f
  induction f with
  | zero => intro i acc; simp [scanG, Except.map]
  | succ f ih =>
    intro i acc
    unfold scanG
    split
    · split
      · split
        · rfl
        · rw [ih _ (acc ++ _), ih _ ([] ++ _)]
          cases scanG l f (i + ndig l (l.length + 1) i) [] <;> simp [Except.map]
      · split
        · rw [ih _ (acc ++ _), ih _ ([] ++ _)]
          cases scanG l f (i + 1) [] <;> simp [Except.map]
        · split
          · rw [ih _ acc]
          · rfl
    · simp [Except.map]
/-- What the scanner says of the bytes from i on. -/
def scn (l : List Int) (i : Nat) : Except (Int × Int) (List S50) := scanG l (l.length - i) i []
theorem scn_of (l : List Int) (f i : Nat) (acc : List S50) (hf : l.length - i ≤ f) (hi : i ≤ l.length) : scanG l f i acc = (scn l i).map (acc ++ ·) := by
  rw [scanG_acc, scn, scanG_fuel l _ f (l.length - i) i [] (Nat.le_refl _) hf (Nat.le_refl _) hi]
theorem scn_end {l : List Int} : scn l l.length = .ok [⟨3, l.length, l.length, 0⟩] := by
  unfold scn
  rw [Nat.sub_self]
  simp [scanG]
theorem map_cons (t : S50) (e : Except (Int × Int) (List S50)) : e.map ([t] ++ ·) = e.map (t :: ·) := rfl
theorem scn_dig {l : List Int} {i : Nat} (h : digB l (i : Int) = true) : scn l i = if badB l i (nd l i) = true then .error ((i : Int), 12) else (scn l (i + nd l i)).map (⟨1, i, ((i + nd l i : Nat) : Int), val l i (nd l i)⟩ :: ·) := by
  have c := digB_lt h
  have p := nd_pos h
  have q := nd_le (l := l) (i := i) (by omega)
  obtain ⟨f, hf⟩ : ∃ f, l.length - i = f + 1 := ⟨l.length - i - 1, by omega⟩
  unfold scn
  rw [hf]
  conv => lhs; unfold scanG
  rw [if_pos c, if_pos h]
  rw [show ndig l (l.length + 1) i = nd l i from rfl]
  split
  · rfl
  · rw [scn_of l f _ _ (by omega) (by omega)]
    rfl
theorem scn_line {l : List Int} {i : Nat} (hi : i < l.length) (h : rd l (i : Int) = 10) : scn l i = (scn l (i + 1)).map (⟨2, i, ((i + 1 : Nat) : Int), 0⟩ :: ·) := by
  obtain ⟨f, hf⟩ : ∃ f, l.length - i = f + 1 := ⟨l.length - i - 1, by omega⟩
  have c1 : ¬ digB l (i : Int) = true := by rw [digB_iff]; omega
  unfold scn
  rw [hf]
  conv => lhs; unfold scanG
  rw [if_pos hi, if_neg c1, if_pos h, scn_of l f _ _ (by omega) (by omega)]
  rfl
theorem map_nil (e : Except (Int × Int) (List S50)) : e.map (fun x => [] ++ x) = e := by cases e <;> rfl
theorem map_two (t : S50) (acc : List S50) (e : Except (Int × Int) (List S50)) : (e.map (t :: ·)).map (acc ++ ·) = e.map ((acc ++ [t]) ++ ·) := by cases e <;> simp [Except.map]
theorem scn_blank {l : List Int} {i : Nat} (hi : i < l.length) (h : blk (rd l (i : Int)) = true) : scn l i = scn l (i + 1) := by
  obtain ⟨f, hf⟩ : ∃ f, l.length - i = f + 1 := ⟨l.length - i - 1, by omega⟩
  have hb : rd l (i : Int) = 32 ∨ rd l (i : Int) = 9 ∨ rd l (i : Int) = 13 := of_decide_eq_true h
  have c1 : ¬ digB l (i : Int) = true := by rw [digB_iff]; omega
  have c2 : ¬ rd l (i : Int) = 10 := by omega
  unfold scn
  rw [hf]
  conv => lhs; unfold scanG
  rw [if_pos hi, if_neg c1, if_neg c2, if_pos h, scn_of l f _ _ (by omega) (by omega), map_nil]
  rfl
theorem scn_err {l : List Int} {i : Nat} (hi : i < l.length) (c1 : ¬ digB l (i : Int) = true) (c2 : ¬ rd l (i : Int) = 10) (c3 : ¬ blk (rd l (i : Int)) = true) : scn l i = .error ((i : Int), 11) := by
  obtain ⟨f, hf⟩ : ∃ f, l.length - i = f + 1 := ⟨l.length - i - 1, by omega⟩
  unfold scn
  rw [hf]
  unfold scanG
  rw [if_pos hi, if_neg c1, if_neg c2, if_neg c3]
theorem scanF_eq (l : List Int) (h : l.length ≤ 33554432) : scanF l = scn l 0 := by
  unfold scanF
  rw [if_neg (by omega)]
  rfl
/-- the three answers -/
def ansR : Except (Int × Int) (List S50) → List S50 × Int × Int
  | .ok ts => (ts, 0, 0)
  | .error ab => ([], ab.1, ab.2)
/-! ### the document's Scan -/
theorem ref_digit (c : Int) : tangramref01_digit.f c = some (decide (48 ≤ c ∧ c ≤ 57)) := by
  unfold tangramref01_digit.f
  split <;> simp <;> omega
theorem ref_blank (c : Int) : tangramref01_blank.f c = some (blk c) := by
  unfold tangramref01_blank.f blk
  split
  · simp [*]
  · split
    · simp [*]
    · simp [*]; rfl
theorem digB_rd (l : List Int) (i : Nat) (h : i < l.length) : digB l (i : Int) = decide (48 ≤ rd l (i : Int) ∧ rd l (i : Int) ≤ 57) := by
  unfold digB
  rw [decide_eq_decide]
  omega
theorem ref_l1 (l : List Int) (acc : List S50) (i : Nat) (hl : l.length ≤ 33554432) (hi : i < l.length) (hw : ∀ x ∈ l, 0 ≤ x ∧ x ≤ 255) (h : digB l (i : Int) = true) (ha : acc.length ≤ i) (R : List S50 × Int × Int)
    (hR : if badB l i (nd l i) = true then R = ([], (i : Int), 12) else Ev (fun k => tangramref01_Scan.l0 k l (acc ++ [⟨1, (i : Int), ((i + nd l i : Nat) : Int), val l i (nd l i)⟩]) ((i + nd l i : Nat) : Int)) R) :
    ∀ d j, j + d = nd l i → Ev (fun k => tangramref01_Scan.l1 k l acc (i : Int) ((i + j : Nat) : Int) (val l i j)) R := by
  have q := nd_le (l := l) (i := i) (by omega)
  have p := nd_pos h
  -- the run's end
  have stop : Ev (fun k => tangramref01_Scan.j2 k l acc (i : Int) ((i + nd l i : Nat) : Int) (val l i (nd l i)) false) R := by
    refine Ev.succ ?_
    simp only [tangramref01_Scan.j2]
    refine Ev.ff ?_
    rw [w64 (by omega) (by omega)]
    by_cases c1 : nd l i > 9
    · have b : badB l i (nd l i) = true := decide_eq_true (Or.inl c1)
      rw [if_pos b] at hR
      refine Ev.pos (by omega) (Ev.val hR.symm)
    · refine Ev.neg (by omega) ?_
      refine Ev.pos (by omega) (Ev.pos (by omega) ?_)
      refine Ev.ite (fun c2 => ?_) (fun c2 => ?_)
      · refine Ev.ite (fun c3 => ?_) (fun c3 => ?_)
        · have b : badB l i (nd l i) = true := decide_eq_true (Or.inr ⟨by omega, c2⟩)
          rw [if_pos b] at hR
          exact Ev.val hR.symm
        · have b : ¬ badB l i (nd l i) = true := by unfold badB; rw [decide_eq_true_eq]; omega
          rw [if_neg b] at hR
          exact Ev.pos (by omega) hR
      · have b : ¬ badB l i (nd l i) = true := by unfold badB; rw [decide_eq_true_eq]; omega
        rw [if_neg b] at hR
        exact Ev.pos (by omega) hR
  intro d
  induction d with
  | zero =>
    intro j hj
    obtain rfl : j = nd l i := by omega
    refine Ev.succ ?_
    simp only [tangramref01_Scan.l1]
    refine Ev.ite (fun c => ?_) (fun c => stop)
    refine Ev.pos (by omega) ?_
    refine Ev.andThen' (ref_digit _) ?_
    rw [← digB_rd l _ (by omega), nd_end]
    exact stop
  | succ d ih =>
    intro j hj
    have hj1 := nd_all (l := l) (i := i) (k := j) (by omega)
    have hj2 := (digB_iff l (i + j)).1 hj1
    refine Ev.succ ?_
    simp only [tangramref01_Scan.l1]
    refine Ev.pos (by omega) (Ev.pos (by omega) ?_)
    refine Ev.andThen' (ref_digit _) ?_
    rw [← digB_rd l _ (by omega), hj1]
    refine Ev.succ ?_
    simp only [tangramref01_Scan.j2]
    refine Ev.pos (by simp) ?_
    rw [w64 (x := ((i + j : Nat) : Int) - (i : Int)) (by omega) (by omega), w64 (x := ((i + j : Nat) : Int) + 1) (by omega) (by omega)]
    have ih := ih (j + 1) (by omega)
    rw [show ((i + (j + 1) : Nat) : Int) = ((i + j : Nat) : Int) + 1 by omega] at ih
    by_cases c : j < 9
    · refine Ev.pos (by omega) (Ev.pos (by omega) (Ev.pos (by omega) ?_))
      have vb := val_bound l i j (fun k hk => nd_all (by omega))
      have vp : (10 : Int) ^ j ≤ 10 ^ 9 := by
        have := Nat.pow_le_pow_right (n := 10) (by omega) (show j ≤ 9 by omega)
        exact_mod_cast this
      have e : val l i (j + 1) = 10 * val l i j + (rd l ((i + j : Nat) : Int) - 48) := by rw [val, if_pos c]
      rw [e] at ih
      rw [w64 (x := 10 * val l i j) (by omega) (by omega), show (rd l ((i + j : Nat) : Int) - 48) % 256 = rd l ((i + j : Nat) : Int) - 48 by omega, w64 (by omega) (by omega)]
      exact ih
    · refine Ev.neg (by omega) ?_
      have e : val l i (j + 1) = val l i j := by rw [val, if_neg c]
      rw [e] at ih
      exact ih
theorem ref_l0 (l : List Int) (hl : l.length ≤ 33554432) (hw : ∀ x ∈ l, 0 ≤ x ∧ x ≤ 255) : ∀ d i (acc : List S50), l.length - i ≤ d → i ≤ l.length → acc.length ≤ i →
    Ev (fun k => tangramref01_Scan.l0 k l acc (i : Int)) (ansR ((scn l i).map (acc ++ ·))) := by
  intro d
  induction d with
  | zero =>
    intro i acc hd hi ha
    obtain rfl : i = l.length := by omega
    refine Ev.succ ?_
    simp only [tangramref01_Scan.l0]
    refine Ev.neg (by omega) (Ev.pos (by omega) (Ev.val ?_))
    rw [scn_end]
    rfl
  | succ d ih =>
    intro i acc hd hi ha
    by_cases c : i < l.length
    · refine Ev.succ ?_
      simp only [tangramref01_Scan.l0]
      refine Ev.pos (by omega) (Ev.pos (by omega) ?_)
      refine Ev.ite (fun c1 => ?_) (fun c1 => ?_)
      · refine Ev.pos (by omega) ?_
        rw [w64 (by omega) (by omega), scn_line c c1]
        have := ih (i + 1) (acc ++ [⟨2, i, ((i + 1 : Nat) : Int), 0⟩]) (by omega) (by omega) (by simp; omega)
        rw [show ((i + 1 : Nat) : Int) = (i : Int) + 1 by omega] at this ⊢
        rw [map_two]
        exact this
      · refine Ev.andThen' (ref_blank _) ?_
        refine Ev.ite (fun c2 => ?_) (fun c2 => ?_)
        · rw [w64 (by omega) (by omega), scn_blank c c2]
          have := ih (i + 1) acc (by omega) (by omega) (by omega)
          rw [show ((i + 1 : Nat) : Int) = (i : Int) + 1 by omega] at this
          exact this
        · refine Ev.andThen' (ref_digit _) ?_
          rw [← digB_rd l _ (by omega)]
          refine Ev.ite (fun c3 => ?_) (fun c3 => ?_)
          · have p := nd_pos c3
            have q := nd_le (l := l) (i := i) hi
            have := ref_l1 l acc i hl c hw c3 ha (ansR ((scn l i).map (acc ++ ·))) ?_ (nd l i) 0 (by omega)
            · simpa [val] using this
            · rw [scn_dig c3]
              split
              · rfl
              · have := ih (i + nd l i) (acc ++ [⟨1, (i : Int), ((i + nd l i : Nat) : Int), val l i (nd l i)⟩]) (by omega) (by omega) (by simp; omega)
                rw [map_two]
                exact this
          · refine Ev.val ?_
            rw [scn_err c c3 c1 c2]
            rfl
    · exact ih i acc (by omega) hi ha
theorem ref_scan (l : List Int) (hw : ∀ x ∈ l, 0 ≤ x ∧ x ≤ 255) : Ev (fun k => tangramref01_Scan.f k l) (ansR (scanF l)) := by
  unfold tangramref01_Scan.f scanF
  by_cases h : 33554432 < l.length
  · rw [if_pos h]
    exact Ev.pos (by omega) (Ev.val rfl)
  · rw [if_neg h]
    refine Ev.neg (by omega) ?_
    have := ref_l0 l (by omega) hw l.length 0 [] (by omega) (by omega) (by simp)
    rw [scn_of l l.length 0 [] (by omega) (by omega)]
    exact this
/-! ### SameTokens -/
/-- as many tokens as bytes, and one -/
theorem scn_len (l : List Int) : ∀ d i ts, l.length - i ≤ d → i ≤ l.length → scn l i = .ok ts → ts.length ≤ l.length - i + 1 := by
  intro d
  induction d with
  | zero =>
    intro i ts hd hi h
    obtain rfl : i = l.length := by omega
    rw [scn_end] at h
    cases h
    simp
  | succ d ih =>
    intro i ts hd hi h
    by_cases c : i < l.length
    · by_cases c1 : digB l (i : Int) = true
      · rw [scn_dig c1] at h
        have p := nd_pos c1
        have q := nd_le (l := l) (i := i) hi
        split at h
        · cases h
        · cases e : scn l (i + nd l i) with
          | error x => rw [e] at h; cases h
          | ok us =>
            rw [e] at h
            cases h
            have := ih _ us (by omega) (by omega) e
            simp
            omega
      · by_cases c2 : rd l (i : Int) = 10
        · rw [scn_line c c2] at h
          cases e : scn l (i + 1) with
          | error x => rw [e] at h; cases h
          | ok us =>
            rw [e] at h
            cases h
            have := ih _ us (by omega) (by omega) e
            simp
            omega
        · by_cases c3 : blk (rd l (i : Int)) = true
          · rw [scn_blank c c3] at h
            have := ih _ ts (by omega) (by omega) h
            omega
          · rw [scn_err c c1 c2 c3] at h
            cases h
    · exact ih i ts (by omega) hi h
/-- a fault has a number -/
theorem scn_code (l : List Int) : ∀ d i, l.length - i ≤ d → i ≤ l.length → ∀ ab : Int × Int, scn l i = .error ab → ab.2 ≠ 0 := by
  intro d
  induction d with
  | zero =>
    intro i hd hi ab h
    obtain rfl : i = l.length := by omega
    rw [scn_end] at h
    cases h
  | succ d ih =>
    intro i hd hi ab h
    by_cases c : i < l.length
    · by_cases c1 : digB l (i : Int) = true
      · rw [scn_dig c1] at h
        have p := nd_pos c1
        have q := nd_le (l := l) (i := i) hi
        split at h
        · cases h; show (12 : Int) ≠ 0; decide
        · cases e : scn l (i + nd l i) with
          | error x => rw [e] at h; cases h; exact ih _ (by omega) (by omega) _ e
          | ok us => rw [e] at h; cases h
      · by_cases c2 : rd l (i : Int) = 10
        · rw [scn_line c c2] at h
          cases e : scn l (i + 1) with
          | error x => rw [e] at h; cases h; exact ih _ (by omega) (by omega) _ e
          | ok us => rw [e] at h; cases h
        · by_cases c3 : blk (rd l (i : Int)) = true
          · rw [scn_blank c c3] at h
            exact ih _ (by omega) (by omega) ab h
          · rw [scn_err c c1 c2 c3] at h
            cases h
            show (11 : Int) ≠ 0
            decide
    · exact ih i (by omega) hi ab h
/-- a fault has a place -/
theorem scn_place (l : List Int) : ∀ d i, l.length - i ≤ d → i ≤ l.length → ∀ ab : Int × Int, scn l i = .error ab → ab.1 ≤ l.length ∧ 0 ≤ ab.1 := by
  intro d
  induction d with
  | zero =>
    intro i hd hi ab h
    obtain rfl : i = l.length := by omega
    rw [scn_end] at h
    cases h
  | succ d ih =>
    intro i hd hi ab h
    by_cases c : i < l.length
    · by_cases c1 : digB l (i : Int) = true
      · rw [scn_dig c1] at h
        have p := nd_pos c1
        have q := nd_le (l := l) (i := i) hi
        split at h
        · cases h; exact ⟨by show (i : Int) ≤ l.length; omega, by show 0 ≤ (i : Int); omega⟩
        · cases e : scn l (i + nd l i) with
          | error x => rw [e] at h; cases h; exact ih _ (by omega) (by omega) _ e
          | ok us => rw [e] at h; cases h
      · by_cases c2 : rd l (i : Int) = 10
        · rw [scn_line c c2] at h
          cases e : scn l (i + 1) with
          | error x => rw [e] at h; cases h; exact ih _ (by omega) (by omega) _ e
          | ok us => rw [e] at h; cases h
        · by_cases c3 : blk (rd l (i : Int)) = true
          · rw [scn_blank c c3] at h
            exact ih _ (by omega) (by omega) ab h
          · rw [scn_err c c1 c2 c3] at h
            cases h
            exact ⟨by show (i : Int) ≤ l.length; omega, by show 0 ≤ (i : Int); omega⟩
    · exact ih i (by omega) hi ab h
theorem ans_len (l : List Int) : (ansR (scanF l)).1.length ≤ 33554433 := by
  unfold scanF
  split
  · simp [ansR]
  · rw [scn_of l l.length 0 [] (by omega) (by omega), map_nil]
    cases e : scn l 0 with
    | error x => simp [ansR]
    | ok ts =>
      have := scn_len l _ 0 ts (Nat.le_refl _) (by omega) e
      simp only [ansR]
      omega
theorem bytes_of {l : List Int} (h : ∀ x ∈ l, (Lit.int .u8 x).wf = true) : ∀ x ∈ l, 0 ≤ x ∧ x ≤ 255 := fun x hx => by
  simpa [Lit.wf, IntKind.min, IntKind.max, IntKind.signed, IntKind.bits] using h x hx
theorem ints_of {l : List Int} (h : ∀ x ∈ l, (Lit.int .i64 x).wf = true) : ∀ x ∈ l, -9223372036854775808 ≤ x ∧ x ≤ 9223372036854775807 := fun x hx => by
  simpa [Lit.wf, IntKind.min, IntKind.max, IntKind.signed, IntKind.bits] using h x hx
end Go.Proofs.Ytjgaicdieddekaa.PParA
