/- nums.Scan of two texts with a line's end between them: the first's tokens, the line's end, the second's tokens moved; or the first fault of the two. -/
import Derived.Test.YtjgaicdieddekaaDoorZPNumAx11
import Derived.Test.YtjgaicdieddekaaDoorZXNumP
set_option linter.unusedVariables false
namespace Go.Proofs.YtjgaicdieddekaaDoor.Pure
open Go.RowKit Go.Proofs.YtjgaicdieddekaaDoor.PNumA Go.Proofs.YtjgaicdieddekaaDoorW.PrintWords Go.Proofs.YtjgaicdieddekaaDoorW.PrintLast
open Go.Proofs.YtjgaicdieddekaaDoorX
theorem rdj_a (a b : List Int) (i : Nat) (h : i < a.length) : Go.Proofs.YtjgaicdieddekaaDoorW.PrintWords.rd (a ++ [10] ++ b) (i : Int) = Go.Proofs.YtjgaicdieddekaaDoorW.PrintWords.rd a (i : Int) := by
  show (a ++ [10] ++ b).getD ((i : Nat) : Int).toNat 0 = a.getD ((i : Nat) : Int).toNat 0
  rw [Int.toNat_natCast, List.append_assoc, List.getD_eq_getElem?_getD, List.getD_eq_getElem?_getD, List.getElem?_append_left h]
theorem rdj_m (a b : List Int) : Go.Proofs.YtjgaicdieddekaaDoorW.PrintWords.rd (a ++ [10] ++ b) (a.length : Int) = 10 := by
  show (a ++ [10] ++ b).getD ((a.length : Nat) : Int).toNat 0 = 10
  rw [Int.toNat_natCast, List.append_assoc, List.getD_eq_getElem?_getD, List.getElem?_append_right (Nat.le_refl _), Nat.sub_self]
  rfl
theorem rdj_b (a b : List Int) (j : Nat) : Go.Proofs.YtjgaicdieddekaaDoorW.PrintWords.rd (a ++ [10] ++ b) ((a.length + 1 + j : Nat) : Int) = Go.Proofs.YtjgaicdieddekaaDoorW.PrintWords.rd b (j : Int) := by
  show (a ++ [10] ++ b).getD ((a.length + 1 + j : Nat) : Int).toNat 0 = b.getD ((j : Nat) : Int).toNat 0
  rw [Int.toNat_natCast, Int.toNat_natCast, List.getD_eq_getElem?_getD, List.getD_eq_getElem?_getD, List.getElem?_append_right (by simp), show a.length + 1 + j - (a ++ [(10 : Int)]).length = j by simp]
theorem lenj (a b : List Int) : (a ++ [10] ++ b).length = a.length + 1 + b.length := by simp; omega
theorem digj_a (a b : List Int) (i : Nat) (h : i ≤ a.length) : digB (a ++ [10] ++ b) (i : Int) = digB a (i : Int) := by
  rw [Bool.eq_iff_iff, digB_iff, digB_iff, lenj]
  by_cases c : i < a.length
  · rw [rdj_a a b i c]; omega
  · obtain rfl : i = a.length := by omega
    rw [rdj_m]; omega
theorem digj_b (a b : List Int) (j : Nat) : digB (a ++ [10] ++ b) ((a.length + 1 + j : Nat) : Int) = digB b (j : Int) := by
  rw [Bool.eq_iff_iff, digB_iff, digB_iff, lenj, rdj_b]
  omega
theorem ndj_a (a b : List Int) (i : Nat) (h : i ≤ a.length) : nd (a ++ [10] ++ b) i = nd a i := by
  have q := nd_le (l := a) (i := i) h
  refine nd_of (fun k hk => ?_) ?_
  · rw [digj_a a b _ (by omega)]; exact nd_all hk
  · rw [digj_a a b _ q]; exact nd_end a i
theorem ndj_b (a b : List Int) (j : Nat) : nd (a ++ [10] ++ b) (a.length + 1 + j) = nd b j := by
  refine nd_of (fun k hk => ?_) ?_
  · rw [show a.length + 1 + j + k = a.length + 1 + (j + k) by omega, digj_b]; exact nd_all hk
  · rw [show a.length + 1 + j + nd b j = a.length + 1 + (j + nd b j) by omega, digj_b]; exact nd_end b j
theorem valj_a (a b : List Int) (i : Nat) : ∀ m, i + m ≤ a.length → val (a ++ [10] ++ b) i m = val a i m
  | 0, _ => rfl
  | m + 1, h => by
    unfold val
    rw [valj_a a b i m (by omega), rdj_a a b (i + m) (by omega)]
theorem valj_b (a b : List Int) (j : Nat) : ∀ m, val (a ++ [10] ++ b) (a.length + 1 + j) m = val b j m
  | 0 => rfl
  | m + 1 => by
    unfold val
    rw [valj_b a b j m, show a.length + 1 + j + m = a.length + 1 + (j + m) by omega, rdj_b]
def shift (n : Nat) (t : S34) : S34 := ⟨t.f0, t.f1 + n, t.f2 + n, t.f3⟩
def moved (n : Nat) : Except (Int × Int) (List S34) → Except (Int × Int) (List S34)
  | .ok us => .ok (us.map (shift n))
  | .error e => .error (e.1 + n, e.2)
theorem moved_map (n : Nat) (t : S34) (e : Except (Int × Int) (List S34)) : moved n (e.map (t :: ·)) = (moved n e).map (shift n t :: ·) := by cases e <;> rfl
theorem scnj_b (a b : List Int) : ∀ d j, b.length - j ≤ d → j ≤ b.length → scn (a ++ [10] ++ b) (a.length + 1 + j) = moved (a.length + 1) (scn b j) := by
  intro d
  induction d with
  | zero =>
    intro j hd hj
    obtain rfl : j = b.length := by omega
    rw [← lenj a b, scn_end, scn_end, lenj]
    simp only [moved, List.map_cons, List.map_nil, shift]
    rw [show ((a.length + 1 + b.length : Nat) : Int) = (b.length : Int) + ((a.length + 1 : Nat) : Int) by omega]
  | succ d ih =>
    intro j hd hj
    by_cases c : j < b.length
    · have cL : a.length + 1 + j < (a ++ [10] ++ b).length := by rw [lenj]; omega
      by_cases c1 : digB b (j : Int) = true
      · have p := nd_pos c1
        have q := nd_le (l := b) (i := j) hj
        rw [scn_dig c1, scn_dig (by rw [digj_b]; exact c1), ndj_b, valj_b]
        have hb : badB (a ++ [10] ++ b) (a.length + 1 + j) (nd b j) = badB b j (nd b j) := by unfold badB; rw [rdj_b]
        rw [hb]
        split
        · simp only [moved]
          rw [show ((a.length + 1 + j : Nat) : Int) = (j : Int) + ((a.length + 1 : Nat) : Int) by omega]
        · rw [moved_map, ← ih (j + nd b j) (by omega) (by omega), show a.length + 1 + j + nd b j = a.length + 1 + (j + nd b j) by omega]
          simp only [shift]
          rw [show ((a.length + 1 + j : Nat) : Int) = (j : Int) + ((a.length + 1 : Nat) : Int) by omega, show ((a.length + 1 + (j + nd b j) : Nat) : Int) = ((j + nd b j : Nat) : Int) + ((a.length + 1 : Nat) : Int) by omega]
      · have c1' : ¬ digB (a ++ [10] ++ b) ((a.length + 1 + j : Nat) : Int) = true := by rw [digj_b]; exact c1
        by_cases c2 : Go.Proofs.YtjgaicdieddekaaDoorW.PrintWords.rd b (j : Int) = 10
        · rw [scn_line c c2, scn_line cL (by rw [rdj_b]; exact c2), moved_map, ← ih (j + 1) (by omega) (by omega), show a.length + 1 + j + 1 = a.length + 1 + (j + 1) by omega]
          simp only [shift]
          rw [show ((a.length + 1 + j : Nat) : Int) = (j : Int) + ((a.length + 1 : Nat) : Int) by omega, show ((a.length + 1 + (j + 1) : Nat) : Int) = ((j + 1 : Nat) : Int) + ((a.length + 1 : Nat) : Int) by omega]
        · by_cases c3 : blk (Go.Proofs.YtjgaicdieddekaaDoorW.PrintWords.rd b (j : Int)) = true
          · rw [scn_blank c c3, scn_blank cL (by rw [rdj_b]; exact c3), ← ih (j + 1) (by omega) (by omega), show a.length + 1 + j + 1 = a.length + 1 + (j + 1) by omega]
          · rw [scn_err c c1 c2 c3, scn_err cL c1' (by rw [rdj_b]; exact c2) (by rw [rdj_b]; exact c3)]
            simp only [moved]
            rw [show ((a.length + 1 + j : Nat) : Int) = (j : Int) + ((a.length + 1 : Nat) : Int) by omega]
    · exact ih j (by omega) hj
theorem map_ne {t : S34} {e : Except (Int × Int) (List S34)} {ts : List S34} (h : e.map (t :: ·) = .ok ts) : ∃ us, e = .ok us ∧ ts = t :: us := by
  cases e with
  | error x => cases h
  | ok us => cases h; exact ⟨us, rfl, rfl⟩
theorem scn_ne (l : List Int) : ∀ d i, l.length - i ≤ d → i ≤ l.length → ∀ ts, scn l i = .ok ts → ts ≠ [] := by
  intro d
  induction d with
  | zero =>
    intro i hd hi ts h
    obtain rfl : i = l.length := by omega
    rw [scn_end] at h
    cases h
    simp
  | succ d ih =>
    intro i hd hi ts h
    by_cases c : i < l.length
    · by_cases c1 : digB l (i : Int) = true
      · rw [scn_dig c1] at h
        split at h
        · cases h
        · obtain ⟨us, _, rfl⟩ := map_ne h; simp
      · by_cases c2 : Go.Proofs.YtjgaicdieddekaaDoorW.PrintWords.rd l (i : Int) = 10
        · rw [scn_line c c2] at h
          obtain ⟨us, _, rfl⟩ := map_ne h; simp
        · by_cases c3 : blk (Go.Proofs.YtjgaicdieddekaaDoorW.PrintWords.rd l (i : Int)) = true
          · rw [scn_blank c c3] at h
            exact ih _ (by omega) (by omega) ts h
          · rw [scn_err c c1 c2 c3] at h
            cases h
    · exact ih i (by omega) hi ts h
/-- the first's tokens without its end, then the rest's -/
def behind (r : Except (Int × Int) (List S34)) : Except (Int × Int) (List S34) → Except (Int × Int) (List S34)
  | .ok ts => r.map (ts.dropLast ++ ·)
  | .error e => .error e
theorem behind_map (r : Except (Int × Int) (List S34)) (t : S34) (e : Except (Int × Int) (List S34)) (h : ∀ ts, e = .ok ts → ts ≠ []) : behind r (e.map (t :: ·)) = (behind r e).map (t :: ·) := by
  cases e with
  | error x => rfl
  | ok ts =>
    have := h ts rfl
    cases r with
    | error x => rfl
    | ok us => simp only [behind, Except.map, List.dropLast_cons_of_ne_nil this, List.cons_append]
theorem scnj_a (a b : List Int) : ∀ d i, a.length - i ≤ d → i ≤ a.length → scn (a ++ [10] ++ b) i = behind ((moved (a.length + 1) (scn b 0)).map (⟨2, a.length, ((a.length + 1 : Nat) : Int), 0⟩ :: ·)) (scn a i) := by
  have hm : scn (a ++ [10] ++ b) a.length = (moved (a.length + 1) (scn b 0)).map (⟨2, a.length, ((a.length + 1 : Nat) : Int), 0⟩ :: ·) := by
    rw [scn_line (by rw [lenj]; omega) (rdj_m a b), ← scnj_b a b _ 0 (Nat.le_refl _) (by omega), Nat.add_zero]
  intro d
  induction d with
  | zero =>
    intro i hd hi
    obtain rfl : i = a.length := by omega
    rw [scn_end, hm]
    simp only [behind]
    cases moved (a.length + 1) (scn b 0) <;> simp [Except.map]
  | succ d ih =>
    intro i hd hi
    by_cases c : i < a.length
    · have cL : i < (a ++ [10] ++ b).length := by rw [lenj]; omega
      by_cases c1 : digB a (i : Int) = true
      · have p := nd_pos c1
        have q := nd_le (l := a) (i := i) hi
        rw [scn_dig c1, scn_dig (by rw [digj_a a b i hi]; exact c1), ndj_a a b i hi, valj_a a b i _ q]
        have hb : badB (a ++ [10] ++ b) i (nd a i) = badB a i (nd a i) := by unfold badB; rw [rdj_a a b i c]
        rw [hb]
        split
        · rfl
        · rw [behind_map _ _ _ (scn_ne a _ _ (Nat.le_refl _) (by omega)), ih (i + nd a i) (by omega) (by omega)]
      · have c1' : ¬ digB (a ++ [10] ++ b) (i : Int) = true := by rw [digj_a a b i hi]; exact c1
        by_cases c2 : Go.Proofs.YtjgaicdieddekaaDoorW.PrintWords.rd a (i : Int) = 10
        · rw [scn_line c c2, scn_line cL (by rw [rdj_a a b i c]; exact c2), behind_map _ _ _ (scn_ne a _ _ (Nat.le_refl _) (by omega)), ih (i + 1) (by omega) (by omega)]
        · by_cases c3 : blk (Go.Proofs.YtjgaicdieddekaaDoorW.PrintWords.rd a (i : Int)) = true
          · rw [scn_blank c c3, scn_blank cL (by rw [rdj_a a b i c]; exact c3), ih (i + 1) (by omega) (by omega)]
          · rw [scn_err c c1 c2 c3, scn_err cL c1' (by rw [rdj_a a b i c]; exact c2) (by rw [rdj_a a b i c]; exact c3)]
            rfl
    · exact ih i (by omega) hi
theorem scn_bd (l : List Int) : ∀ d i, l.length - i ≤ d → i ≤ l.length → ∀ ts, scn l i = .ok ts → ∀ t ∈ ts, 0 ≤ t.f1 ∧ t.f1 ≤ l.length ∧ 0 ≤ t.f2 ∧ t.f2 ≤ l.length := by
  intro d
  induction d with
  | zero =>
    intro i hd hi ts h t ht
    obtain rfl : i = l.length := by omega
    rw [scn_end] at h
    cases h
    simp only [List.mem_singleton] at ht
    subst ht
    simp only
    omega
  | succ d ih =>
    intro i hd hi ts h t ht
    by_cases c : i < l.length
    · by_cases c1 : digB l (i : Int) = true
      · have p := nd_pos c1
        have q := nd_le (l := l) (i := i) hi
        rw [scn_dig c1] at h
        split at h
        · cases h
        · obtain ⟨us, e, rfl⟩ := map_ne h
          rcases List.mem_cons.1 ht with rfl | ht
          · simp only; omega
          · exact ih _ (by omega) (by omega) us e t ht
      · by_cases c2 : Go.Proofs.YtjgaicdieddekaaDoorW.PrintWords.rd l (i : Int) = 10
        · rw [scn_line c c2] at h
          obtain ⟨us, e, rfl⟩ := map_ne h
          rcases List.mem_cons.1 ht with rfl | ht
          · simp only; omega
          · exact ih _ (by omega) (by omega) us e t ht
        · by_cases c3 : blk (Go.Proofs.YtjgaicdieddekaaDoorW.PrintWords.rd l (i : Int)) = true
          · rw [scn_blank c c3] at h
            exact ih _ (by omega) (by omega) ts h t ht
          · rw [scn_err c c1 c2 c3] at h
            cases h
    · exact ih i (by omega) hi ts h t ht
theorem rdT (xs : List S34) (i : Nat) (h : i < xs.length) : rd_T34 xs (i : Int) = xs[i] := by simp [rd_T34, List.getD_eq_getElem?_getD, h]
theorem joins_l1 (x y z : List S34) (n : Nat) (hn : n ≤ 30000001) (hx : x.length ≤ 33554433) (hy : y.length ≤ 33554433) (hyb : ∀ t ∈ y, 0 ≤ t.f1 ∧ t.f1 ≤ 30000000 ∧ 0 ≤ t.f2 ∧ t.f2 ≤ 30000000)
    (hz : z.length = x.length + y.length) (he : ∀ i (h : i < y.length), z[x.length + i]'(by omega) = shift n y[i]) : ∀ d i, i + d = y.length → Ev (fun k => tangramlaw01_NumsJoins.l1 k x y z (n : Int) (i : Int)) true := by
  intro d
  induction d with
  | zero =>
    intro i hi
    refine Ev.succ ?_
    simp only [tangramlaw01_NumsJoins.l1]
    exact Ev.neg (by omega) (Ev.val rfl)
  | succ d ih =>
    intro i hi
    have hi' : i < y.length := by omega
    have b := hyb _ (List.getElem_mem hi')
    have e := he i hi'
    refine Ev.succ ?_
    simp only [tangramlaw01_NumsJoins.l1]
    rw [w64 (x := (x.length : Int) + (i : Int)) (by omega) (by omega), w64 (x := (i : Int) + 1) (by omega) (by omega), show ((x.length : Int) + (i : Int)) = ((x.length + i : Nat) : Int) by omega, rdT z _ (by omega), rdT y i hi', e, w64 (x := y[i].f1 + (n : Int)) (by omega) (by omega), w64 (x := y[i].f2 + (n : Int)) (by omega) (by omega)]
    refine Ev.pos (by omega) (Ev.pos (by omega) (Ev.pos (by omega) (Ev.pos (by omega) (Ev.neg (by simp [shift]) ?_))))
    exact ih (i + 1) (by omega)
theorem joins_l0 (x y z : List S34) (n : Nat) (hn : n ≤ 30000001) (hn1 : 1 ≤ n) (hx : x.length ≤ 33554433) (hx0 : 1 ≤ x.length) (hy : y.length ≤ 33554433) (hyb : ∀ t ∈ y, 0 ≤ t.f1 ∧ t.f1 ≤ 30000000 ∧ 0 ≤ t.f2 ∧ t.f2 ≤ 30000000)
    (hz : z.length = x.length + y.length) (he : ∀ i (h : i < y.length), z[x.length + i]'(by omega) = shift n y[i]) (hm : z[x.length - 1]'(by omega) = ⟨2, (n : Int) - 1, n, 0⟩) (hf : ∀ i (h : i < x.length - 1), z[i]'(by omega) = x[i]) :
    ∀ d i, i + d = x.length - 1 → Ev (fun k => tangramlaw01_NumsJoins.l0 k x y z (n : Int) (i : Int)) true := by
  intro d
  induction d with
  | zero =>
    intro i hi
    refine Ev.succ ?_
    simp only [tangramlaw01_NumsJoins.l0]
    rw [w64 (x := (x.length : Int) - 1) (by omega) (by omega), show (x.length : Int) - 1 = ((x.length - 1 : Nat) : Int) by omega, rdT z (x.length - 1) (by omega), hm, w64 (x := (n : Int) - 1) (by omega) (by omega)]
    refine Ev.neg (by omega) (Ev.pos (by omega) (Ev.pos (by omega) (Ev.neg (by simp) ?_)))
    exact joins_l1 x y z n hn hx hy hyb hz he y.length 0 (by omega)
  | succ d ih =>
    intro i hi
    have e := hf i (by omega)
    refine Ev.succ ?_
    simp only [tangramlaw01_NumsJoins.l0]
    rw [w64 (x := (x.length : Int) - 1) (by omega) (by omega), w64 (x := (i : Int) + 1) (by omega) (by omega), rdT z i (by omega), rdT x i (by omega), e]
    refine Ev.pos (by omega) (Ev.pos (by omega) (Ev.pos (by omega) (Ev.pos (by omega) (Ev.neg (by simp) ?_))))
    exact ih (i + 1) (by omega)
theorem joins_all (a : List Int) (ts us : List S34) (ha : a.length ≤ 30000000) (hx : ts.length ≤ 33554433) (hx1 : 1 ≤ ts.length) (hy : us.length ≤ 33554433) (hyb : ∀ t ∈ us, 0 ≤ t.f1 ∧ t.f1 ≤ 30000000 ∧ 0 ≤ t.f2 ∧ t.f2 ≤ 30000000) :
    Ev (fun k => tangramlaw01_NumsJoins.l0 k ts us (ts.dropLast ++ (⟨2, a.length, ((a.length + 1 : Nat) : Int), 0⟩ : S34) :: us.map (shift (a.length + 1))) ((a.length + 1 : Nat) : Int) 0) true := by
  have hd : ts.dropLast.length = ts.length - 1 := List.length_dropLast
  have hz : (ts.dropLast ++ (⟨2, a.length, ((a.length + 1 : Nat) : Int), 0⟩ : S34) :: us.map (shift (a.length + 1))).length = ts.length + us.length := by
    rw [List.length_append, hd, List.length_cons, List.length_map]; omega
  refine joins_l0 ts us _ (a.length + 1) (by omega) (by omega) hx hx1 hy hyb hz ?_ ?_ ?_ (ts.length - 1) 0 (by omega)
  · intro i h
    apply Option.some.inj
    rw [← List.getElem?_eq_getElem, List.getElem?_append_right (by omega), hd, show ts.length + i - (ts.length - 1) = i + 1 by omega, List.getElem?_cons_succ, List.getElem?_map, List.getElem?_eq_getElem h]
    rfl
  · apply Option.some.inj
    rw [← List.getElem?_eq_getElem, List.getElem?_append_right (by omega), hd, Nat.sub_self, List.getElem?_cons_zero, show ((a.length + 1 : Nat) : Int) - 1 = a.length by omega]
  · intro i h
    apply Option.some.inj
    rw [← List.getElem?_eq_getElem, List.getElem?_append_left (by omega), List.getElem?_dropLast, if_pos h, List.getElem?_eq_getElem]
/-- what the three answers have to do with each other -/
def Good (n : Nat) (A B Z : List S34 × Int × Int) : Prop :=
  (A.2.2 ≠ 0 ∧ Z.2.2 = A.2.2) ∨ (A.2.2 = 0 ∧ B.2.2 ≠ 0 ∧ Z.2.2 = B.2.2 ∧ Z.2.1 = B.2.1 + ((n + 1 : Nat) : Int) ∧ 0 ≤ B.2.1 ∧ B.2.1 ≤ 30000000) ∨
  (A.2.2 = 0 ∧ B.2.2 = 0 ∧ Z.2.2 = 0 ∧ Z.1 = A.1.dropLast ++ (⟨2, n, ((n + 1 : Nat) : Int), 0⟩ : S34) :: B.1.map (shift (n + 1)) ∧ A.1.length ≤ 33554433 ∧ 1 ≤ A.1.length ∧ B.1.length ≤ 33554433 ∧ ∀ t ∈ B.1, 0 ≤ t.f1 ∧ t.f1 ≤ 30000000 ∧ 0 ≤ t.f2 ∧ t.f2 ≤ 30000000)
theorem good_of (a b : List Int) (h : a.length + b.length ≤ 30000000) : Good a.length (ansR (scanF a)) (ansR (scanF b)) (ansR (scanF (a ++ [10] ++ b))) := by
  rw [scanF_eq a (by omega), scanF_eq b (by omega), scanF_eq (a ++ [10] ++ b) (by rw [lenj]; omega), scnj_a a b _ 0 (Nat.le_refl _) (by omega)]
  cases ea : scn a 0 with
  | error e => exact Or.inl ⟨scn_code a _ 0 (Nat.le_refl _) (by omega) e ea, rfl⟩
  | ok ts =>
    have hx := scn_len a _ 0 ts (Nat.le_refl _) (by omega) ea
    have hx0 := scn_ne a _ 0 (Nat.le_refl _) (by omega) ts ea
    cases eb : scn b 0 with
    | error e =>
      have hb := scn_place b _ 0 (Nat.le_refl _) (by omega) e eb
      exact Or.inr (Or.inl ⟨rfl, scn_code b _ 0 (Nat.le_refl _) (by omega) e eb, rfl, rfl, hb.2, by show e.1 ≤ 30000000; omega⟩)
    | ok us =>
      have hy := scn_len b _ 0 us (Nat.le_refl _) (by omega) eb
      have hyb := scn_bd b _ 0 (Nat.le_refl _) (by omega) us eb
      exact Or.inr (Or.inr ⟨rfl, rfl, rfl, rfl, by show ts.length ≤ 33554433; omega, List.length_pos_iff.2 hx0, by show us.length ≤ 33554433; omega, fun t ht => by have := hyb t ht; omega⟩)
theorem joins_tail (a : List Int) (A B Z : List S34 × Int × Int) (ha : a.length ≤ 30000000) (h : Good a.length A B Z) :
    Ev (fun k => if A.2.2 = 0 then (if B.2.2 = 0 then (if Z.2.2 = 0 then (if (Z.1.length : Int) = wrap64 ((A.1.length : Int) + (B.1.length : Int)) then tangramlaw01_NumsJoins.j0 k A.1 B.1 Z.1 (wrap64 ((a.length : Int) + 1)) ((A.1.length : Int) == 0) else tangramlaw01_NumsJoins.j0 k A.1 B.1 Z.1 (wrap64 ((a.length : Int) + 1)) true) else tangramlaw01_NumsJoins.j0 k A.1 B.1 Z.1 (wrap64 ((a.length : Int) + 1)) true) else (if Z.2.2 = B.2.2 then some (Z.2.1 == wrap64 (B.2.1 + wrap64 ((a.length : Int) + 1))) else some false)) else some (Z.2.2 == A.2.2)) true := by
  rw [w64 (x := (a.length : Int) + 1) (by omega) (by omega)]
  rcases h with ⟨h1, h2⟩ | ⟨h1, h2, h3, h4, h5, h6⟩ | ⟨h1, h2, h3, h4, h5, h6, h7, h8⟩
  · refine Ev.neg h1 (Ev.val ?_)
    rw [h2, beq_self_eq_true]
  · refine Ev.pos h1 (Ev.neg h2 (Ev.pos h3 (Ev.val ?_)))
    rw [h4, w64 (by omega) (by omega), beq_iff_eq]
    omega
  · obtain ⟨xs, x1, x2⟩ := A
    obtain ⟨ys, y1, y2⟩ := B
    obtain ⟨zs, z1, z2⟩ := Z
    simp only at h1 h2 h3 h4 h5 h6 h7 h8 ⊢
    have hz : zs.length = xs.length + ys.length := by
      rw [h4]; simp only [List.length_append, List.length_dropLast, List.length_cons, List.length_map]; omega
    refine Ev.pos h1 (Ev.pos h2 (Ev.pos h3 ?_))
    rw [w64 (x := (xs.length : Int) + (ys.length : Int)) (by omega) (by omega)]
    refine Ev.pos (by omega) (Ev.succ ?_)
    simp only [tangramlaw01_NumsJoins.j0]
    refine Ev.neg (by simp only [beq_iff_eq]; omega) ?_
    rw [h4, show ((a.length : Int) + 1) = ((a.length + 1 : Nat) : Int) by omega]
    exact joins_all a xs ys ha h5 h6 h7 h8
theorem Ev.of_all {α : Type} {g : Nat → Option α} {a : α} (h : ∀ k, g k = some a) : Ev g a := by
  rw [show g = fun _ => some a from funext h]
  exact Ev.now _
theorem NumsJoins : tangramlaw01_NumsJoins.Pure := by
  intro a b hma hla hwa hmb hlb hwb
  refine Ev.out ?_
  have l0 : (([] : List Int)).length = 0 := rfl
  have n0 : ([] : List Int) ++ a = a := rfl
  have n1 : ([] : List Int) ++ b = b := rfl
  unfold tangramlaw01_NumsJoins.f tangramlaw01_awake.f
  refine Ev.andThen' rfl (Ev.pos rfl ?_)
  rw [w64 (x := (a.length : Int) + b.length) (by omega) (by omega)]
  by_cases c : (a.length : Int) + b.length > 30000000
  · exact Ev.pos c (Ev.val rfl)
  · refine Ev.neg c ?_
    have hg := good_of a b (by omega)
    have hL : (a ++ [10] ++ b).length ≤ 140737488355328 := by rw [lenj]; omega
    have hL1 : (a ++ [10]).length = a.length + 1 := by simp
    have sa := nums_scan a (by omega)
    have sb := nums_scan b (by omega)
    have sz := nums_scan (a ++ [10] ++ b) hL
    generalize ansR (scanF a) = A at hg sa
    generalize ansR (scanF b) = B at hg sb
    generalize ansR (scanF (a ++ [10] ++ b)) = Z at hg sz
    have tail := joins_tail a A B Z (by omega) hg
    refine Ev.andThen' rfl (Ev.pos (by rw [l0]; omega) ?_)
    rw [n0]
    refine Ev.andThen' rfl (Ev.pos (by omega) (Ev.andThen' rfl (Ev.pos (by rw [hL1]; omega) (Ev.andThen' rfl (Ev.pos (by rw [l0]; omega) ?_)))))
    rw [n0]
    refine Ev.bind (Ev.of_all sa) ?_
    refine Ev.andThen' rfl (Ev.pos (by rw [l0]; omega) ?_)
    rw [n1]
    exact Ev.bind (Ev.of_all sb) (Ev.bind (Ev.of_all sz) tail)
end Go.Proofs.YtjgaicdieddekaaDoor.Pure
