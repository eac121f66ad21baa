-- Plain facts: what nums.Scan says ('scn'), piece by piece; the document's Scan says the same; two lists of tokens that are one.
import Derived.Test.YthejafdcdcchbaaDoorZXScan
import Derived.Test.YthejafdcdcchbaaDoorZXPure
import Derived.Lib.ItoaMem
set_option linter.unusedVariables false
set_option linter.unusedSimpArgs false
namespace Go.Proofs.YthejafdcdcchbaaDoor.PSimA
open Go.RowKit Go.Proofs.YthejafdcdcchbaaDoorW.PrintWords Go.Proofs.YthejafdcdcchbaaDoorW.PrintLast Go.Proofs.YthejafdcdcchbaaDoorW.PrintMore Go.Proofs.YthejafdcdcchbaaDoorX
/-- how many digits stand from i on -/
def nd (l : List Int) (i : Nat) : Nat := ndig l (l.length + 1) i
theorem nd_all {l : List Int} {i k : Nat} (h : k < nd l i) : digB l ((i + k : Nat) : Int) = true := ndig_all l _ i k h
theorem nd_end (l : List Int) (i : Nat) : digB l ((i + nd l i : Nat) : Int) = false := ndig_end l _ i (by omega)
theorem nd_pos {l : List Int} {i : Nat} (h : digB l (i : Int) = true) : 0 < nd l i := ndig_pos l _ i h
theorem nd_le {l : List Int} {i : Nat} (h : i ≤ l.length) : i + nd l i ≤ l.length := ndig_le l _ i h
theorem nd_of {l : List Int} {i m : Nat} (h : ∀ k, k < m → digB l ((i + k : Nat) : Int) = true) (e : digB l ((i + m : Nat) : Int) = false) : nd l i = m := by
  rcases Nat.lt_trichotomy (nd l i) m with c | c | c
  · have := h _ c
    rw [nd_end] at this
    cases this
  · exact c
  · have := nd_all c
    rw [e] at this
    cases this
theorem digB_lt {l : List Int} {i : Nat} (h : digB l (i : Int) = true) : i < l.length := ((digB_iff l i).1 h).1
theorem scanG_fuel (l : List Int) : ∀ (d f f' i : Nat) (acc : List S95), l.length - i ≤ d → l.length - i ≤ f → l.length - i ≤ f' → i ≤ l.length → scanG l f i acc = scanG l f' i acc := by
  intro d
  induction d with
  | zero =>
    intro f f' i acc hd h h' hi
    have e : ¬ i < l.length := by omega
    cases f <;> cases f' <;> simp [scanG, e]
  | succ d ih =>
    intro f f' i acc hd h h' hi
    by_cases c : i < l.length
    · obtain ⟨f, rfl⟩ : ∃ g, f = g + 1 := ⟨f - 1, by omega⟩
      obtain ⟨f', rfl⟩ : ∃ g, f' = g + 1 := ⟨f' - 1, by omega⟩
      unfold scanG
      rw [if_pos c, if_pos c]
      by_cases c1 : digB l (i : Int) = true
      · rw [if_pos c1, if_pos c1]
        have p := nd_pos c1
        have q := nd_le (l := l) (i := i) hi
        unfold nd at p q
        split
        · rfl
        · exact ih _ _ _ _ (by omega) (by omega) (by omega) (by omega)
      · rw [if_neg c1, if_neg c1, ih f f' (i + 1) _ (by omega) (by omega) (by omega) (by omega), ih f f' (i + 1) acc (by omega) (by omega) (by omega) (by omega)]
    · cases f <;> cases f' <;> simp [scanG, c]
theorem scanG_acc (l : List Int) : ∀ (f i : Nat) (acc : List S95), scanG l f i acc = (scanG l f i []).map (acc ++ ·) := by
  intro f
  induction f with
  | zero => intro i acc; simp [scanG, Except.map]
  | succ f ih =>
    intro i acc
    unfold scanG
    split
    · split
      · split
        · rfl
        · rw [ih _ (acc ++ _), ih _ ([] ++ _)]
          cases scanG l f (i + ndig l (l.length + 1) i) [] <;> simp [Except.map]
      · split
        · rw [ih _ (acc ++ _), ih _ ([] ++ _)]
          cases scanG l f (i + 1) [] <;> simp [Except.map]
        · split
          · rw [ih _ acc]
          · rfl
    · simp [Except.map]
/-- What the scanner says of the bytes from i on. -/
def scn (l : List Int) (i : Nat) : Except (Int × Int) (List S95) := scanG l (l.length - i) i []
theorem scn_of (l : List Int) (f i : Nat) (acc : List S95) (hf : l.length - i ≤ f) (hi : i ≤ l.length) : scanG l f i acc = (scn l i).map (acc ++ ·) := by
  rw [scanG_acc, scn, scanG_fuel l _ f (l.length - i) i [] (Nat.le_refl _) hf (Nat.le_refl _) hi]
theorem scn_end {l : List Int} : scn l l.length = .ok [⟨3, l.length, l.length, 0⟩] := by
  unfold scn
  rw [Nat.sub_self]
  simp [scanG]
theorem map_cons (t : S95) (e : Except (Int × Int) (List S95)) : e.map ([t] ++ ·) = e.map (t :: ·) := rfl
theorem scn_dig {l : List Int} {i : Nat} (h : digB l (i : Int) = true) : scn l i = if badB l i (nd l i) = true then .error ((i : Int), 12) else (scn l (i + nd l i)).map (⟨1, i, ((i + nd l i : Nat) : Int), val l i (nd l i)⟩ :: ·) := by
  have c := digB_lt h
  have p := nd_pos h
  have q := nd_le (l := l) (i := i) (by omega)
  obtain ⟨f, hf⟩ : ∃ f, l.length - i = f + 1 := ⟨l.length - i - 1, by omega⟩
  unfold scn
  rw [hf]
  conv => lhs; unfold scanG
  rw [if_pos c, if_pos h]
  rw [show ndig l (l.length + 1) i = nd l i from rfl]
  split
  · rfl
  · rw [scn_of l f _ _ (by omega) (by omega)]
    rfl
theorem scn_line {l : List Int} {i : Nat} (hi : i < l.length) (h : rd l (i : Int) = 10) : scn l i = (scn l (i + 1)).map (⟨2, i, ((i + 1 : Nat) : Int), 0⟩ :: ·) := by
  obtain ⟨f, hf⟩ : ∃ f, l.length - i = f + 1 := ⟨l.length - i - 1, by omega⟩
  have c1 : ¬ digB l (i : Int) = true := by rw [digB_iff]; omega
  unfold scn
  rw [hf]
  conv => lhs; unfold scanG
  rw [if_pos hi, if_neg c1, if_pos h, scn_of l f _ _ (by omega) (by omega)]
  rfl
theorem map_nil (e : Except (Int × Int) (List S95)) : e.map (fun x => [] ++ x) = e := by cases e <;> rfl
theorem map_two (t : S95) (acc : List S95) (e : Except (Int × Int) (List S95)) : (e.map (t :: ·)).map (acc ++ ·) = e.map ((acc ++ [t]) ++ ·) := by cases e <;> simp [Except.map]
theorem scn_blank {l : List Int} {i : Nat} (hi : i < l.length) (h : blk (rd l (i : Int)) = true) : scn l i = scn l (i + 1) := by
  obtain ⟨f, hf⟩ : ∃ f, l.length - i = f + 1 := ⟨l.length - i - 1, by omega⟩
  have hb : rd l (i : Int) = 32 ∨ rd l (i : Int) = 9 ∨ rd l (i : Int) = 13 := of_decide_eq_true h
  have c1 : ¬ digB l (i : Int) = true := by rw [digB_iff]; omega
  have c2 : ¬ rd l (i : Int) = 10 := by omega
  unfold scn
  rw [hf]
  conv => lhs; unfold scanG
  rw [if_pos hi, if_neg c1, if_neg c2, if_pos h, scn_of l f _ _ (by omega) (by omega), map_nil]
  rfl
theorem scn_err {l : List Int} {i : Nat} (hi : i < l.length) (c1 : ¬ digB l (i : Int) = true) (c2 : ¬ rd l (i : Int) = 10) (c3 : ¬ blk (rd l (i : Int)) = true) : scn l i = .error ((i : Int), 11) := by
  obtain ⟨f, hf⟩ : ∃ f, l.length - i = f + 1 := ⟨l.length - i - 1, by omega⟩
  unfold scn
  rw [hf]
  unfold scanG
  rw [if_pos hi, if_neg c1, if_neg c2, if_neg c3]
theorem scanF_eq (l : List Int) (h : l.length ≤ 33554432) : scanF l = scn l 0 := by
  unfold scanF
  rw [if_neg (by omega)]
  rfl
/-- the three answers -/
def ansR : Except (Int × Int) (List S95) → List S95 × Int × Int
  | .ok ts => (ts, 0, 0)
  | .error ab => ([], ab.1, ab.2)
/-! ### the document's Scan -/
theorem scn_len (l : List Int) : ∀ d i ts, l.length - i ≤ d → i ≤ l.length → scn l i = .ok ts → ts.length ≤ l.length - i + 1 := by
  intro d
  induction d with
  | zero =>
    intro i ts hd hi h
    obtain rfl : i = l.length := by omega
    rw [scn_end] at h
    cases h
    simp
  | succ d ih =>
    intro i ts hd hi h
    by_cases c : i < l.length
    · by_cases c1 : digB l (i : Int) = true
      · rw [scn_dig c1] at h
        have p := nd_pos c1
        have q := nd_le (l := l) (i := i) hi
        split at h
        · cases h
        · cases e : scn l (i + nd l i) with
          | error x => rw [e] at h; cases h
          | ok us =>
            rw [e] at h
            cases h
            have := ih _ us (by omega) (by omega) e
            simp
            omega
      · by_cases c2 : rd l (i : Int) = 10
        · rw [scn_line c c2] at h
          cases e : scn l (i + 1) with
          | error x => rw [e] at h; cases h
          | ok us =>
            rw [e] at h
            cases h
            have := ih _ us (by omega) (by omega) e
            simp
            omega
        · by_cases c3 : blk (rd l (i : Int)) = true
          · rw [scn_blank c c3] at h
            have := ih _ ts (by omega) (by omega) h
            omega
          · rw [scn_err c c1 c2 c3] at h
            cases h
    · exact ih i ts (by omega) hi h
/-- a fault has a number -/
theorem scn_code (l : List Int) : ∀ d i, l.length - i ≤ d → i ≤ l.length → ∀ ab : Int × Int, scn l i = .error ab → ab.2 ≠ 0 := by
  intro d
  induction d with
  | zero =>
    intro i hd hi ab h
    obtain rfl : i = l.length := by omega
    rw [scn_end] at h
    cases h
  | succ d ih =>
    intro i hd hi ab h
    by_cases c : i < l.length
    · by_cases c1 : digB l (i : Int) = true
      · rw [scn_dig c1] at h
        have p := nd_pos c1
        have q := nd_le (l := l) (i := i) hi
        split at h
        · cases h; show (12 : Int) ≠ 0; decide
        · cases e : scn l (i + nd l i) with
          | error x => rw [e] at h; cases h; exact ih _ (by omega) (by omega) _ e
          | ok us => rw [e] at h; cases h
      · by_cases c2 : rd l (i : Int) = 10
        · rw [scn_line c c2] at h
          cases e : scn l (i + 1) with
          | error x => rw [e] at h; cases h; exact ih _ (by omega) (by omega) _ e
          | ok us => rw [e] at h; cases h
        · by_cases c3 : blk (rd l (i : Int)) = true
          · rw [scn_blank c c3] at h
            exact ih _ (by omega) (by omega) ab h
          · rw [scn_err c c1 c2 c3] at h
            cases h
            show (11 : Int) ≠ 0
            decide
    · exact ih i (by omega) hi ab h
/-- a fault has a place -/
theorem scn_place (l : List Int) : ∀ d i, l.length - i ≤ d → i ≤ l.length → ∀ ab : Int × Int, scn l i = .error ab → ab.1 ≤ l.length ∧ 0 ≤ ab.1 := by
  intro d
  induction d with
  | zero =>
    intro i hd hi ab h
    obtain rfl : i = l.length := by omega
    rw [scn_end] at h
    cases h
  | succ d ih =>
    intro i hd hi ab h
    by_cases c : i < l.length
    · by_cases c1 : digB l (i : Int) = true
      · rw [scn_dig c1] at h
        have p := nd_pos c1
        have q := nd_le (l := l) (i := i) hi
        split at h
        · cases h; exact ⟨by show (i : Int) ≤ l.length; omega, by show 0 ≤ (i : Int); omega⟩
        · cases e : scn l (i + nd l i) with
          | error x => rw [e] at h; cases h; exact ih _ (by omega) (by omega) _ e
          | ok us => rw [e] at h; cases h
      · by_cases c2 : rd l (i : Int) = 10
        · rw [scn_line c c2] at h
          cases e : scn l (i + 1) with
          | error x => rw [e] at h; cases h; exact ih _ (by omega) (by omega) _ e
          | ok us => rw [e] at h; cases h
        · by_cases c3 : blk (rd l (i : Int)) = true
          · rw [scn_blank c c3] at h
            exact ih _ (by omega) (by omega) ab h
          · rw [scn_err c c1 c2 c3] at h
            cases h
            exact ⟨by show (i : Int) ≤ l.length; omega, by show 0 ≤ (i : Int); omega⟩
    · exact ih i (by omega) hi ab h
theorem ans_len (l : List Int) : (ansR (scanF l)).1.length ≤ 33554433 := by
  unfold scanF
  split
  · simp [ansR]
  · rw [scn_of l l.length 0 [] (by omega) (by omega), map_nil]
    cases e : scn l 0 with
    | error x => simp [ansR]
    | ok ts =>
      have := scn_len l _ 0 ts (Nat.le_refl _) (by omega) e
      simp only [ansR]
      omega
theorem bytes_of {l : List Int} (h : ∀ x ∈ l, (Lit.int .u8 x).wf = true) : ∀ x ∈ l, 0 ≤ x ∧ x ≤ 255 := fun x hx => by
  simpa [Lit.wf, IntKind.min, IntKind.max, IntKind.signed, IntKind.bits] using h x hx
theorem ints_of {l : List Int} (h : ∀ x ∈ l, (Lit.int .i64 x).wf = true) : ∀ x ∈ l, -9223372036854775808 ≤ x ∧ x ≤ 9223372036854775807 := fun x hx => by
  simpa [Lit.wf, IntKind.min, IntKind.max, IntKind.signed, IntKind.bits] using h x hx
end Go.Proofs.YthejafdcdcchbaaDoor.PSimA
