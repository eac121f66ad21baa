-- Plain facts: the document's Text is strconv's; the document's Row is nums.Line; two numerals that are one say one number.
import Derived.Test.YtjgaicdieddekaaDoorZXNumP
import Derived.Test.YtjgaicdieddekaaDoorZPNumAx6
import Derived.Test.YtjgaicdieddekaaDoorZPNumAx7
import Derived.Test.YtjgaicdieddekaaDoorZPNumAx13
import Derived.Test.YtjgaicdieddekaaDoorZPNumAx14
import Derived.Test.YtjgaicdieddekaaDoorZPNumAx17
import Derived.Lib.ItoaLen
set_option linter.unusedVariables false
set_option linter.unusedSimpArgs false
namespace Go.Proofs.YtjgaicdieddekaaDoor.PNumA
open Go.RowKit Go.Proofs.YtjgaicdieddekaaDoorW.PrintWords Go.Proofs.YtjgaicdieddekaaDoorW.PrintLast Go.Proofs.YtjgaicdieddekaaDoorW.PrintMore Go.Proofs.YtjgaicdieddekaaDoorX
/-- a text out of a list of bytes -/
def bs (l : List UInt8) : ByteArray := ⟨l.toArray⟩
theorem bs_app (a b : List UInt8) : bs a ++ bs b = bs (a ++ b) := by
  apply ByteArray.ext
  simp [bs, ByteArray.data_append]
theorem bs_size (a : List UInt8) : (bs a).size = a.length := by simp [bs, ByteArray.size]
theorem bs_data (a : List UInt8) : (bs a).data.toList = a := by simp [bs]
theorem bs_inj {a b : List UInt8} (h : bs a = bs b) : a = b := by
  have := congrArg (fun x => x.data.toList) h
  simpa [bs_data] using this
theorem toList_loop (b : ByteArray) : ∀ d i r, b.size - i ≤ d → ByteArray.toList.loop b i r = r.reverse ++ b.data.toList.drop i := by
  intro d
  induction d with
  | zero =>
    intro i r h
    rw [ByteArray.toList.loop.eq_1, if_neg (by omega), List.drop_eq_nil_of_le (by show b.data.size ≤ i; have : b.size = b.data.size := rfl; omega), List.append_nil]
  | succ d ih =>
    intro i r h
    rw [ByteArray.toList.loop.eq_1]
    by_cases c : i < b.size
    · have c' : i < b.data.toList.length := c
      rw [if_pos c, ih (i + 1) _ (by omega), List.drop_eq_getElem_cons c', List.reverse_cons, List.append_assoc]
      have : b.get! i = b.data.toList[i] := by
        show b.data[i]! = _
        rw [getElem!_pos b.data i c]
        simp
      rw [this]
      rfl
    · rw [if_neg c, List.drop_eq_nil_of_le (by show b.data.size ≤ i; have : b.size = b.data.size := rfl; omega), List.append_nil]
theorem toList_data (b : ByteArray) : b.toList = b.data.toList := by
  rw [ByteArray.toList.eq_1, toList_loop b b.size 0 [] (by omega)]
  rfl
theorem bs_toList (l : List UInt8) : (bs l).toList = l := by rw [toList_data, bs_data]
theorem bs_nil : (⟨#[]⟩ : ByteArray) = bs [] := rfl
theorem bs_one (c : UInt8) : (⟨#[c]⟩ : ByteArray) = bs [c] := rfl
theorem str_one (d : Nat) (h : d < 10) : strOfNums [(48 + (d : Int)) % 256] = bs [UInt8.ofNat (48 + d)] := by
  obtain rfl | rfl | rfl | rfl | rfl | rfl | rfl | rfl | rfl | rfl : d = 0 ∨ d = 1 ∨ d = 2 ∨ d = 3 ∨ d = 4 ∨ d = 5 ∨ d = 6 ∨ d = 7 ∨ d = 8 ∨ d = 9 := by omega
  all_goals rfl
theorem dec_big {m : Nat} (h : ¬ m < 10) : Lib.decDigits m = Lib.decDigits (m / 10) ++ [UInt8.ofNat (48 + m % 10)] := by
  rw [Lib.decDigits, dif_neg h]
/-- the digits of m > 0; of 0 none -/
def digs (m : Nat) : List UInt8 := if m = 0 then [] else Lib.decDigits m
theorem digs_step {m : Nat} (h : 0 < m) : digs m = digs (m / 10) ++ [UInt8.ofNat (48 + m % 10)] := by
  unfold digs
  rw [if_neg (by omega)]
  by_cases c : m < 10
  · rw [if_pos (by omega), Lib.decDigits_one c, Nat.mod_eq_of_lt c]
    rfl
  · rw [if_neg (by omega), dec_big c]
theorem text_l0 (x0 : Int) : ∀ (m : Nat) (xs : List UInt8) (x4 : Int), (x4 = m ∧ 0 ≤ x0 ∨ x4 = -m ∧ x0 < 0) → m ≤ 9223372036854775808 → xs.length + (Lib.nDigits m) ≤ 1000 →
    Ev (fun k => tangramref01_Text.l0 k x0 (bs xs) x4) (bs ((if x0 < 0 then [45] else []) ++ (digs m ++ xs))) := by
  intro m
  induction m using Nat.strongRecOn with
  | _ m ih =>
    intro xs x4 hx hm hs
    refine Ev.succ ?_
    simp only [tangramref01_Text.l0]
    by_cases m0 : m = 0
    · subst m0
      refine Ev.pos (by omega) ?_
      by_cases c : x0 < 0
      · refine Ev.pos c (Ev.pos (by rw [bs_size]; omega) (Ev.val ?_))
        rw [if_pos c, bs_one, bs_app]
        rfl
      · refine Ev.neg c (Ev.val ?_)
        rw [if_neg c]
        rfl
    · refine Ev.neg (by omega) ?_
      have hd : m % 10 < 10 := Nat.mod_lt _ (by omega)
      have e : Lib.nDigits (m / 10) + 1 ≤ Lib.nDigits m + 1 := by
        by_cases c : m < 10
        · have : m / 10 = 0 := by omega
          rw [this, Lib.nDigits_small c, Lib.nDigits_small (by omega)]
          omega
        · rw [Lib.nDigits_big c]
          omega
      have hn : xs.length + 1 + Lib.nDigits (m / 10) ≤ 1000 ∨ m < 10 := by
        by_cases c : m < 10
        · exact Or.inr c
        · left
          rw [Lib.nDigits_big c] at hs
          omega
      have hn' : (UInt8.ofNat (48 + m % 10) :: xs).length + Lib.nDigits (m / 10) ≤ 1000 ∨ m < 10 := by simpa using hn
      have next : ∀ y4 : Int, (y4 = ((m / 10 : Nat) : Int) ∧ 0 ≤ x0 ∨ y4 = -((m / 10 : Nat) : Int) ∧ x0 < 0) → Ev (fun k => tangramref01_Text.l0 k x0 (bs ([UInt8.ofNat (48 + m % 10)] ++ xs)) y4) (bs ((if x0 < 0 then [45] else []) ++ (digs m ++ xs))) := by
        intro y4 hy
        rw [digs_step (by omega), List.append_assoc]
        by_cases c : m < 10
        · have z : m / 10 = 0 := by omega
          rw [z] at hy ⊢
          refine Ev.succ ?_
          simp only [tangramref01_Text.l0]
          refine Ev.pos (by omega) ?_
          by_cases c : x0 < 0
          · refine Ev.pos c (Ev.pos (by rw [bs_size]; simp; omega) (Ev.val ?_))
            rw [if_pos c, bs_one, bs_app]
            rfl
          · refine Ev.neg c (Ev.val ?_)
            rw [if_neg c]
            rfl
        · exact ih (m / 10) (by omega) _ y4 hy (by omega) (by simp; omega)
      rcases hx with ⟨rfl, h0⟩ | ⟨rfl, h0⟩
      · have t1 : Int.tmod (m : Int) 10 = ((m % 10 : Nat) : Int) := by rw [Int.tmod_eq_emod_of_nonneg (by omega)]; omega
        have t2 : Int.tdiv (m : Int) 10 = ((m / 10 : Nat) : Int) := by rw [Int.tdiv_eq_ediv_of_nonneg (by omega)]; omega
        rw [t1, t2]
        refine Ev.neg (by omega) ?_
        simp only [Option.bind_some]
        rw [w64 (by omega) (by omega), w64 (by omega) (by omega), str_one _ hd, bs_app, bs_size, bs_size]
        exact Ev.pos (by simp; omega) (next _ (Or.inl ⟨rfl, h0⟩))
      · have t1 : Int.tmod (-(m : Int)) 10 = -((m % 10 : Nat) : Int) := by rw [Int.neg_tmod, Int.tmod_eq_emod_of_nonneg (by omega)]; omega
        have t2 : Int.tdiv (-(m : Int)) 10 = -((m / 10 : Nat) : Int) := by rw [Int.neg_tdiv, Int.tdiv_eq_ediv_of_nonneg (by omega)]; omega
        rw [t1, t2]
        refine Ev.ite (fun c => ?_) (fun c => ?_)
        · simp only [Option.bind_some]
          rw [w64 (x := - -((m % 10 : Nat) : Int)) (by omega) (by omega), Int.neg_neg, w64 (x := 48 + ((m % 10 : Nat) : Int)) (by omega) (by omega), w64 (by omega) (by omega), str_one _ hd, bs_app, bs_size, bs_size]
          exact Ev.pos (by simp; omega) (next _ (Or.inr ⟨rfl, h0⟩))
        · have z : m % 10 = 0 := by omega
          rw [z] at next ⊢
          simp only [Option.bind_some]
          rw [show (48 + -((0 : Nat) : Int)) = 48 + ((0 : Nat) : Int) by omega, w64 (x := 48 + ((0 : Nat) : Int)) (by omega) (by omega), w64 (by omega) (by omega), str_one 0 (by omega), bs_app, bs_size, bs_size]
          exact Ev.pos (by simp; omega) (next _ (Or.inr ⟨rfl, h0⟩))
theorem itoa_digs (n : Int) (h : n ≠ 0) : Lib.itoa n = (if n < 0 then [45] else []) ++ digs n.natAbs := by
  unfold Lib.itoa digs
  by_cases c : n < 0
  · rw [if_pos c, if_pos c, if_neg (by omega)]; rfl
  · rw [if_neg c, if_neg c, if_neg (by omega), show n.toNat = n.natAbs by omega]; rfl
theorem itoa_zero : Lib.itoa 0 = [48] := by
  rw [show (0 : Int) = ((0 : Nat) : Int) from rfl, Lib.itoa_nonneg, Lib.decDigits_one (by omega)]
  rfl
theorem ref_text (n : Int) (h0 : -9223372036854775808 ≤ n) (h1 : n ≤ 9223372036854775807) : Ev (fun k => tangramref01_Text.f k n) (bs (Lib.itoa n)) := by
  unfold tangramref01_Text.f
  refine Ev.ite (fun c => ?_) (fun c => ?_)
  · subst c
    rw [itoa_zero]
    exact Ev.val rfl
  · have nd := Lib.nDigits_le20 n.natAbs (by omega)
    have := text_l0 n n.natAbs [] n (by omega) (by omega) (by simp; omega)
    rw [List.append_nil, ← itoa_digs n c] at this
    exact this
theorem nums_text (n : Int) (h0 : -9223372036854775808 ≤ n) (h1 : n ≤ 9223372036854775807) (k : Nat) : nums_Text.f k n = some (bs (Lib.itoa n)) := by
  unfold nums_Text.f
  rw [if_pos ⟨h0, h1⟩]
  rfl
/-! ### two numerals that are one -/
theorem ofNat_inj {a b : Nat} (ha : a < 10) (hb : b < 10) (h : UInt8.ofNat (48 + a) = UInt8.ofNat (48 + b)) : a = b := by
  have := congrArg UInt8.toNat h
  simp [UInt8.toNat_ofNat'] at this
  omega
theorem dec_inj : ∀ (m n : Nat), Lib.decDigits m = Lib.decDigits n → m = n := by
  intro m
  induction m using Nat.strongRecOn with
  | _ m ih =>
    intro n h
    have hl := congrArg List.length h
    rw [Lib.decDigits_length, Lib.decDigits_length] at hl
    by_cases cm : m < 10
    · by_cases cn : n < 10
      · rw [Lib.decDigits_one cm, Lib.decDigits_one cn] at h
        exact ofNat_inj cm cn (by simpa using h)
      · rw [Lib.nDigits_small cm, Lib.nDigits_big cn] at hl
        have := Lib.nDigits_pos (n / 10)
        omega
    · by_cases cn : n < 10
      · rw [Lib.nDigits_small cn, Lib.nDigits_big cm] at hl
        have := Lib.nDigits_pos (m / 10)
        omega
      · rw [dec_big cm, dec_big cn] at h
        obtain ⟨h1, h2⟩ := List.append_inj' h rfl
        have e := ih (m / 10) (by omega) (n / 10) h1
        have := ofNat_inj (Nat.mod_lt m (by omega)) (Nat.mod_lt n (by omega)) (by simpa using h2)
        omega
theorem dec_head (m : Nat) : ∃ c r, Lib.decDigits m = c :: r ∧ 48 ≤ c.toNat ∧ c.toNat ≤ 57 := by
  induction m using Nat.strongRecOn with
  | _ m ih =>
    by_cases cm : m < 10
    · refine ⟨_, [], Lib.decDigits_one cm, ?_⟩
      simp [UInt8.toNat_ofNat']
      omega
    · obtain ⟨c, r, h, hc⟩ := ih (m / 10) (by omega)
      exact ⟨c, r ++ [UInt8.ofNat (48 + m % 10)], by rw [dec_big cm, h]; rfl, hc⟩
theorem itoa_inj (a b : Int) (h : Lib.itoa a = Lib.itoa b) : a = b := by
  unfold Lib.itoa at h
  obtain ⟨c1, r1, h1, k1⟩ := dec_head a.toNat
  obtain ⟨c2, r2, h2, k2⟩ := dec_head b.toNat
  by_cases ca : a < 0
  · by_cases cb : b < 0
    · rw [if_pos ca, if_pos cb] at h
      have := dec_inj _ _ (List.cons.inj h).2
      omega
    · rw [if_pos ca, if_neg cb, h2] at h
      have := (List.cons.inj h).1
      subst this
      exact absurd k2.1 (by decide)
  · by_cases cb : b < 0
    · rw [if_neg ca, if_pos cb, h1] at h
      have := (List.cons.inj h).1
      subst this
      exact absurd k1.1 (by decide)
    · rw [if_neg ca, if_neg cb] at h
      have := dec_inj _ _ h
      omega
/-! ### a line -/
theorem join_snoc (r : List (List UInt8)) (x sep : List UInt8) (h : r ≠ []) : Lib.join (r ++ [x]) sep = Lib.join r sep ++ sep ++ x := by
  cases r with
  | nil => exact absurd rfl h
  | cons y r =>
    rw [List.cons_append, Lib.join_cons, Lib.join_cons]
    simp [Lib.joinTail, List.append_assoc]
/-- numbers as words with a blank between -/
def wordsOf (l : List Int) : List UInt8 := Lib.join (l.map Lib.itoa) [32]
theorem words_nil : wordsOf [] = [] := rfl
theorem words_snoc (l : List Int) (n : Int) : wordsOf (l ++ [n]) = wordsOf l ++ (if l = [] then [] else [32]) ++ Lib.itoa n := by
  unfold wordsOf
  rw [List.map_append, List.map_cons, List.map_nil]
  by_cases c : l = []
  · subst c
    rw [if_pos rfl]
    simp [Lib.join_one, Lib.join_nil]
  · rw [if_neg c, join_snoc _ _ _ (by simpa using c)]
theorem words_len (l : List Int) (h : ∀ x ∈ l, -9223372036854775808 ≤ x ∧ x ≤ 9223372036854775807) : (wordsOf l).length ≤ 22 * l.length := by
  have hl : ∀ r : List Int, (∀ x ∈ r, -9223372036854775808 ≤ x ∧ x ≤ 9223372036854775807) → Lib.lens (r.map Lib.itoa) ≤ 21 * r.length := by
    intro r
    induction r with
    | nil => intro _; simp [Lib.lens]
    | cons n r ih =>
      intro h
      have := ih (fun x hx => h x (by simp [hx]))
      have k := Lib.itoa_length_le n (h n (by simp)).1 (h n (by simp)).2
      simp only [Lib.lens, List.map_cons, List.sum_cons, List.length_cons] at this ⊢
      omega
  cases l with
  | nil => simp [words_nil]
  | cons n r =>
    have := hl _ h
    unfold wordsOf
    rw [List.map_cons] at this ⊢
    rw [Lib.join_length]
    simp only [List.length_cons, List.length_nil, List.length_map] at this ⊢
    omega
theorem take_rd (l : List Int) (i : Nat) (h : i < l.length) : l.take (i + 1) = l.take i ++ [rd l (i : Int)] := by
  rw [List.take_succ_eq_append_getElem h, rd_nat l i h]
theorem line_l0 (l : List Int) (hw : ∀ x ∈ l, -9223372036854775808 ≤ x ∧ x ≤ 9223372036854775807) (hl : l.length ≤ 6000000000000) : ∀ d i, i + d = l.length → Ev (fun k => nums_Line.l0 k ((l.take i).map fun n => bs (Lib.itoa n)) l (l.length : Int) (i : Int)) (bs (wordsOf l ++ [10])) := by
  intro d
  induction d with
  | zero =>
    intro i hi
    obtain rfl : i = l.length := by omega
    refine Ev.succ ?_
    simp only [nums_Line.l0]
    refine Ev.neg (by omega) ?_
    have e : ∀ k, strings_Join.f k ((l.take l.length).map fun n => bs (Lib.itoa n)) (⟨#[32]⟩ : ByteArray) = some (bs (wordsOf l)) := by
      intro k
      unfold strings_Join.f
      have h1 : (((l.take l.length).map fun n => bs (Lib.itoa n)).map (·.data.toList)) = l.map Lib.itoa := by
        rw [List.take_length, List.map_map]
        exact List.map_congr_left fun n _ => bs_data _
      have h2 : (⟨#[32]⟩ : ByteArray).data.toList = [32] := rfl
      rw [h1, h2]
      have h3 := words_len l hw
      unfold wordsOf at h3
      rw [if_pos ⟨by simp; omega, by omega⟩]
      rfl
    simp only [e, Option.bind_some]
    have h3 := words_len l hw
    rw [bs_size, bs_one, bs_app]
    exact Ev.pos (by omega) (Ev.val rfl)
  | succ d ih =>
    intro i hi
    refine Ev.succ ?_
    simp only [nums_Line.l0]
    have hm := hw _ (rd_mem l (i : Int) (by omega) (by omega))
    refine Ev.pos (by omega) (Ev.pos (by omega) (Ev.pos (by omega) ?_))
    simp only [nums_text _ hm.1 hm.2, Option.bind_some]
    refine Ev.pos (by simp; omega) ?_
    rw [w64 (by omega) (by omega)]
    have := ih (i + 1) (by omega)
    rw [take_rd l i (by omega), List.map_append] at this
    exact this
theorem nums_line (l : List Int) (hw : ∀ x ∈ l, -9223372036854775808 ≤ x ∧ x ≤ 9223372036854775807) (hl : l.length ≤ 6000000000000) : Ev (fun k => nums_Line.f k l) (bs (wordsOf l ++ [10])) := line_l0 l hw hl l.length 0 (by omega)
theorem row_l0 (l : List Int) (hw : ∀ x ∈ l, -9223372036854775808 ≤ x ∧ x ≤ 9223372036854775807) (hl : l.length ≤ 6000000000000) : ∀ d i, i + d = l.length → Ev (fun k => tangramref01_Row.l0 k l (bs (wordsOf (l.take i))) (i : Int)) (bs (wordsOf l ++ [10])) := by
  intro d
  induction d with
  | zero =>
    intro i hi
    obtain rfl : i = l.length := by omega
    refine Ev.succ ?_
    simp only [tangramref01_Row.l0]
    have h3 := words_len l hw
    refine Ev.neg (by omega) (Ev.pos (by rw [bs_size, List.take_length]; omega) (Ev.val ?_))
    rw [bs_one, bs_app, List.take_length]
  | succ d ih =>
    intro i hi
    have h3 := words_len (l.take i) (fun x hx => hw x (List.mem_of_mem_take hx))
    have hm := hw _ (rd_mem l (i : Int) (by omega) (by omega))
    have h4 := Lib.itoa_length_le _ hm.1 hm.2
    have hlen : (l.take i).length = i := by rw [List.length_take]; omega
    rw [hlen] at h3
    have := ih (i + 1) (by omega)
    rw [take_rd l i (by omega), words_snoc] at this
    refine Ev.succ ?_
    simp only [tangramref01_Row.l0]
    refine Ev.pos (by omega) ?_
    refine Ev.ite (fun c => ?_) (fun c => ?_)
    · rw [if_neg (by intro e; rw [e] at hlen; simp at hlen; omega)] at this
      refine Ev.pos (by rw [bs_size]; omega) (Ev.pos (by omega) ?_)
      refine Ev.bind (ref_text _ hm.1 hm.2) ?_
      rw [bs_one, bs_app, bs_app, bs_size, bs_size, w64 (by omega) (by omega)]
      refine Ev.pos (by simp; omega) this
    · obtain rfl : i = 0 := by omega
      rw [if_pos (by simp)] at this
      refine Ev.pos (by omega) ?_
      refine Ev.bind (ref_text _ hm.1 hm.2) ?_
      rw [bs_app, bs_size, bs_size, w64 (by omega) (by omega)]
      refine Ev.pos (by omega) ?_
      simpa using this
theorem ref_row (l : List Int) (hw : ∀ x ∈ l, -9223372036854775808 ≤ x ∧ x ≤ 9223372036854775807) (hl : l.length ≤ 6000000000000) : Ev (fun k => tangramref01_Row.f k l) (bs (wordsOf l ++ [10])) := row_l0 l hw hl l.length 0 (by omega)
end Go.Proofs.YtjgaicdieddekaaDoor.PNumA
