-- layers 1 and 2 within layer 3, pure: a text of lines of two numbers is read back by parse.Raw ('rawF').
import Derived.Test.YthejafdcdcchbaaDoorZXSimR
import Derived.Test.YthejafdcdcchbaaDoorZXSimT
import Derived.Lib.ItoaMem
set_option linter.unusedVariables false
set_option linter.unusedSimpArgs false
namespace Go.Proofs.YthejafdcdcchbaaDoor.PSimA
open Go.RowKit Go.Proofs.YthejafdcdcchbaaDoorW.PrintWords Go.Proofs.YthejafdcdcchbaaDoorW.PrintLast Go.Proofs.YthejafdcdcchbaaDoorW.PrintMore Go.Proofs.YthejafdcdcchbaaDoorX
theorem dec_big {m : Nat} (h : ¬ m < 10) : Lib.decDigits m = Lib.decDigits (m / 10) ++ [UInt8.ofNat (48 + m % 10)] := by
  rw [Lib.decDigits, dif_neg h]
/-- the digits of m > 0; of 0 none -/
theorem dec_head (m : Nat) : ∃ c r, Lib.decDigits m = c :: r ∧ 48 ≤ c.toNat ∧ c.toNat ≤ 57 := by
  induction m using Nat.strongRecOn with
  | _ m ih =>
    by_cases cm : m < 10
    · refine ⟨_, [], Lib.decDigits_one cm, ?_⟩
      simp [UInt8.toNat_ofNat']
      omega
    · obtain ⟨c, r, h, hc⟩ := ih (m / 10) (by omega)
      exact ⟨c, r ++ [UInt8.ofNat (48 + m % 10)], by rw [dec_big cm, h]; rfl, hc⟩
def nums_ (l : List UInt8) : List Int := l.map fun c => (c.toNat : Int)
theorem ndig_le9 : ∀ k u : Nat, u < 10 ^ (k + 1) → Lib.nDigits u ≤ k + 1
  | 0, u, h => by rw [Lib.nDigits_small (by simpa using h)]; omega
  | k + 1, u, h => by
    by_cases c : u < 10
    · rw [Lib.nDigits_small c]; omega
    · rw [Lib.nDigits_big c]
      have := ndig_le9 k (u / 10) (by rw [Nat.pow_succ] at h; omega)
      omega
theorem dec_all (m : Nat) : ∀ c ∈ Lib.decDigits m, 48 ≤ c.toNat ∧ c.toNat ≤ 57 := by
  induction m using Nat.strongRecOn with
  | _ m ih =>
    by_cases cm : m < 10
    · rw [Lib.decDigits_one cm]
      intro c hc
      simp only [List.mem_singleton] at hc
      subst hc
      simp [UInt8.toNat_ofNat']
      omega
    · rw [dec_big cm]
      intro c hc
      rcases List.mem_append.1 hc with h | h
      · exact ih (m / 10) (by omega) c h
      · simp only [List.mem_singleton] at h
        subst h
        simp [UInt8.toNat_ofNat']
        omega
theorem dec_zero (m : Nat) (h : (Lib.decDigits m).length > 1) : ∀ c r, Lib.decDigits m = c :: r → c.toNat ≠ 48 := by
  induction m using Nat.strongRecOn with
  | _ m ih =>
    intro c r e
    by_cases cm : m < 10
    · rw [Lib.decDigits_one cm] at h; simp at h
    · rw [dec_big cm] at e
      by_cases c2 : m / 10 < 10
      · rw [Lib.decDigits_one c2] at e
        have := (List.cons.inj e).1
        subst this
        simp [UInt8.toNat_ofNat']
        omega
      · obtain ⟨c', r', e', _⟩ := dec_head (m / 10)
        rw [e'] at e
        have := (List.cons.inj e).1
        subst this
        refine ih (m / 10) (by omega) ?_ c' r' e'
        rw [dec_big c2]
        have := Lib.nDigits_pos (m / 10 / 10)
        rw [List.length_append, Lib.decDigits_length]
        simp
        omega
/-- a numeral read back -/
theorem val_dec (l : List Int) (i : Nat) : ∀ m : Nat, (Lib.decDigits m).length ≤ 9 → (∀ k (h : k < (Lib.decDigits m).length), Go.Proofs.YthejafdcdcchbaaDoorW.PrintWords.rd l ((i + k : Nat) : Int) = ((Lib.decDigits m)[k].toNat : Int)) → val l i (Lib.decDigits m).length = m := by
  intro m
  induction m using Nat.strongRecOn with
  | _ m ih =>
    intro h9 h
    by_cases cm : m < 10
    · have e := Lib.decDigits_one cm
      have h0 := h 0 (by rw [e]; simp)
      have hl : (Lib.decDigits m).length = 1 := by rw [e]; rfl
      rw [hl]
      have hv : (Lib.decDigits m)[0]'(by rw [hl]; omega) = UInt8.ofNat (48 + m) := by simp [e]
      rw [hv] at h0
      simp only [val, Nat.add_zero] at h0 ⊢
      rw [if_pos (by omega), h0]
      simp [UInt8.toNat_ofNat']
      omega
    · have e := dec_big cm
      have hl : (Lib.decDigits m).length = (Lib.decDigits (m / 10)).length + 1 := by rw [e]; simp
      have i1 := ih (m / 10) (by omega) (by omega) (fun k hk => by
        rw [h k (by omega)]
        have : (Lib.decDigits m)[k]'(by omega) = (Lib.decDigits (m / 10))[k] := by
          apply Option.some.inj
          rw [← List.getElem?_eq_getElem, ← List.getElem?_eq_getElem, e, List.getElem?_append_left hk]
        rw [this])
      have h2 := h (Lib.decDigits (m / 10)).length (by omega)
      have hv : (Lib.decDigits m)[(Lib.decDigits (m / 10)).length]'(by omega) = UInt8.ofNat (48 + m % 10) := by
        apply Option.some.inj
        rw [← List.getElem?_eq_getElem, e, List.getElem?_append_right (Nat.le_refl _), Nat.sub_self]
        rfl
      rw [hv] at h2
      rw [hl, val, if_pos (by omega), i1, h2]
      simp [UInt8.toNat_ofNat']
      omega
def dl (n : Int) : Nat := (Lib.itoa n).length
theorem rd_app (pre suf : List Int) (k : Nat) : Go.Proofs.YthejafdcdcchbaaDoorW.PrintWords.rd (pre ++ suf) ((pre.length + k : Nat) : Int) = suf.getD k 0 := by
  show (pre ++ suf).getD ((pre.length + k : Nat) : Int).toNat 0 = _
  rw [Int.toNat_natCast, List.getD_eq_getElem?_getD, List.getElem?_append_right (by omega), Nat.add_sub_cancel_left, List.getD_eq_getElem?_getD]
theorem scn_num1 (pre : List Int) (n : Int) (h0 : 0 ≤ n) (h1 : n ≤ 999999999) (c : Int) (hc : c = 32 ∨ c = 10) (rest : List Int) :
    scn (pre ++ (nums_ (Lib.itoa n) ++ c :: rest)) pre.length = (scn (pre ++ (nums_ (Lib.itoa n) ++ c :: rest)) (pre.length + dl n)).map (⟨1, pre.length, ((pre.length + dl n : Nat) : Int), n⟩ :: ·) := by
  obtain ⟨m, rfl⟩ := Int.eq_ofNat_of_zero_le h0
  have ei : Lib.itoa (m : Int) = Lib.decDigits m := Lib.itoa_nonneg m
  unfold dl
  rw [ei]
  have h9 : (Lib.decDigits m).length ≤ 9 := by
    rw [Lib.decDigits_length]
    exact ndig_le9 8 m (by omega)
  have hlen : (nums_ (Lib.decDigits m)).length = (Lib.decDigits m).length := by simp [nums_]
  generalize hT : pre ++ (nums_ (Lib.decDigits m) ++ c :: rest) = T
  have hTl : T.length = pre.length + (Lib.decDigits m).length + 1 + rest.length := by rw [← hT]; simp [nums_]; omega
  have hrd : ∀ k (h : k < (Lib.decDigits m).length), Go.Proofs.YthejafdcdcchbaaDoorW.PrintWords.rd T ((pre.length + k : Nat) : Int) = ((Lib.decDigits m)[k].toNat : Int) := by
    intro k h
    rw [← hT, rd_app, List.getD_eq_getElem?_getD, List.getElem?_append_left (by rw [hlen]; exact h)]
    simp [nums_, h]
  have hcc : Go.Proofs.YthejafdcdcchbaaDoorW.PrintWords.rd T ((pre.length + (Lib.decDigits m).length : Nat) : Int) = c := by
    rw [← hT, rd_app, List.getD_eq_getElem?_getD, List.getElem?_append_right (by rw [hlen]; exact Nat.le_refl _), hlen, Nat.sub_self]
    rfl
  have hdig : ∀ k, k < (Lib.decDigits m).length → digB T ((pre.length + k : Nat) : Int) = true := by
    intro k h
    have := dec_all m _ (List.getElem_mem h)
    rw [digB_iff, hrd k h]
    omega
  have hnd : nd T pre.length = (Lib.decDigits m).length := by
    refine nd_of hdig ?_
    cases q : digB T ((pre.length + (Lib.decDigits m).length : Nat) : Int)
    · rfl
    · rw [digB_iff, hcc] at q
      omega
  have hpos : 0 < (Lib.decDigits m).length := by rw [Lib.decDigits_length]; exact Lib.nDigits_pos m
  rw [scn_dig (i := pre.length) (by simpa using hdig 0 hpos), hnd, val_dec T pre.length m h9 hrd]
  rw [if_neg]
  intro hb
  have hb : (Lib.decDigits m).length > 9 ∨ (Lib.decDigits m).length > 1 ∧ Go.Proofs.YthejafdcdcchbaaDoorW.PrintWords.rd T (pre.length : Int) = 48 := of_decide_eq_true hb
  rcases hb with hb | ⟨hb, hz⟩
  · omega
  · obtain ⟨c', r', e', _⟩ := dec_head m
    have z := dec_zero m hb c' r' e'
    have h0 := hrd 0 hpos
    rw [Nat.add_zero, hz] at h0
    have : (Lib.decDigits m)[0] = c' := by simp [e']
    rw [this] at h0
    omega
theorem nums_app (a b : List UInt8) : nums_ (a ++ b) = nums_ a ++ nums_ b := by simp [nums_]
theorem nums_len (a : List UInt8) : (nums_ a).length = a.length := by simp [nums_]

theorem nums_line (a b : Int) (rest : List Int) : nums_ (lineL a b) ++ rest = nums_ (Lib.itoa a) ++ 32 :: (nums_ (Lib.itoa b) ++ 10 :: rest) := by
  unfold lineL
  simp [nums_]
/-- one line of two numbers -/
theorem scn_line2 (pre : List Int) (a b : Int) (ha0 : 0 ≤ a) (ha1 : a ≤ 999999999) (hb0 : 0 ≤ b) (hb1 : b ≤ 999999999) (rest : List Int) (ts : List S95)
    (h : scn ((pre ++ nums_ (lineL a b)) ++ rest) (pre ++ nums_ (lineL a b)).length = .ok ts) :
    ∃ (t1 t2 t3 : S95), t1.f0 = 1 ∧ t1.f3 = a ∧ t2.f0 = 1 ∧ t2.f3 = b ∧ t3.f0 = 2 ∧ scn ((pre ++ nums_ (lineL a b)) ++ rest) pre.length = .ok (t1 :: t2 :: t3 :: ts) := by
  have e0 : (pre ++ nums_ (lineL a b)) ++ rest = pre ++ (nums_ (Lib.itoa a) ++ 32 :: (nums_ (Lib.itoa b) ++ 10 :: rest)) := by rw [List.append_assoc, nums_line]
  have e1 : (pre ++ nums_ (lineL a b)) ++ rest = (pre ++ nums_ (Lib.itoa a) ++ [32]) ++ (nums_ (Lib.itoa b) ++ 10 :: rest) := by rw [e0]; simp
  have e2 : (pre ++ nums_ (lineL a b)) ++ rest = (pre ++ nums_ (Lib.itoa a) ++ [32] ++ nums_ (Lib.itoa b)) ++ 10 :: rest := by rw [e1]; simp
  have hla : (nums_ (Lib.itoa a)).length = dl a := by unfold dl; exact nums_len _
  have hlb : (nums_ (Lib.itoa b)).length = dl b := by unfold dl; exact nums_len _
  have hL : (pre ++ nums_ (lineL a b)).length = pre.length + dl a + 1 + dl b + 1 := by
    have := congrArg List.length (nums_line a b [])
    simp only [List.append_nil, List.length_append, List.length_cons, hla, hlb, List.length_nil] at this
    rw [List.length_append, this]
    omega
  have hT : ((pre ++ nums_ (lineL a b)) ++ rest).length = pre.length + dl a + 1 + dl b + 1 + rest.length := by rw [List.length_append, hL]
  have s1 := scn_num1 pre a ha0 ha1 32 (Or.inl rfl) (nums_ (Lib.itoa b) ++ 10 :: rest)
  rw [← e0] at s1
  have r1 : Go.Proofs.YthejafdcdcchbaaDoorW.PrintWords.rd ((pre ++ nums_ (lineL a b)) ++ rest) ((pre.length + dl a : Nat) : Int) = 32 := by
    have := rd_app (pre ++ nums_ (Lib.itoa a)) (32 :: (nums_ (Lib.itoa b) ++ 10 :: rest)) 0
    rw [List.append_assoc, ← e0, List.length_append, hla, Nat.add_zero] at this
    exact this
  have s2 := scn_blank (l := (pre ++ nums_ (lineL a b)) ++ rest) (i := pre.length + dl a) (by omega) (by rw [r1]; rfl)
  have s3 := scn_num1 (pre ++ nums_ (Lib.itoa a) ++ [32]) b hb0 hb1 10 (Or.inr rfl) rest
  have hp : (pre ++ nums_ (Lib.itoa a) ++ [(32 : Int)]).length = pre.length + dl a + 1 := by simp [hla]; omega
  rw [← e1, hp] at s3
  have r2 : Go.Proofs.YthejafdcdcchbaaDoorW.PrintWords.rd ((pre ++ nums_ (lineL a b)) ++ rest) ((pre.length + dl a + 1 + dl b : Nat) : Int) = 10 := by
    have := rd_app (pre ++ nums_ (Lib.itoa a) ++ [32] ++ nums_ (Lib.itoa b)) (10 :: rest) 0
    rw [← e2, List.length_append, hp, hlb, Nat.add_zero] at this
    exact this
  have s4 := scn_line (l := (pre ++ nums_ (lineL a b)) ++ rest) (i := pre.length + dl a + 1 + dl b) (by omega) r2
  rw [hL] at h
  rw [h] at s4
  rw [s4] at s3
  rw [s3] at s2
  rw [s2] at s1
  exact ⟨_, _, _, rfl, rfl, rfl, rfl, rfl, s1⟩
def pairsOf (l : List S42) : List S53 := l.map fun e => ⟨e.f0, e.f1⟩
theorem rd_two0 (t1 t2 : S95) : rd_T95 [t1, t2] 0 = t1 := rfl
theorem rd_two1 (t1 t2 : S95) : rd_T95 [t1, t2] 1 = t2 := rfl
/-- the lines of the edges -/
theorem read_lines (n : Int) (hn : n ≤ 999999999) (len : Int) (m : Int) : ∀ (es : List S42) (pre T : List Int), T = pre ++ nums_ (linesL es) → (∀ e ∈ es, (0 ≤ e.f0 ∧ e.f0 < n) ∧ 0 ≤ e.f1 ∧ e.f1 < n) →
    ∃ ts, scn T pre.length = .ok ts ∧ ∀ ps : List S53, (ps.length : Int) + es.length = m → rawT len ts [] n true m ps = (n, ps ++ pairsOf es, 0, 0) := by
  intro es
  induction es with
  | nil =>
    intro pre T hT _
    have e : T = pre := by rw [hT]; simp [linesL, nums_]
    subst e
    refine ⟨_, scn_end, fun ps h => ?_⟩
    have h' : ¬ (ps.length : Int) < m := by simp at h; omega
    unfold rawT
    rw [if_neg (show ¬ (3 : Int) = 1 by decide), if_neg (by simp), if_pos rfl]
    unfold finF
    rw [if_neg (by decide), if_neg h']
    simp [pairsOf]
  | cons e es ih =>
    intro pre T hT he
    obtain ⟨⟨a0, a1⟩, b0, b1⟩ := he e (List.mem_cons_self ..)
    have hT' : T = (pre ++ nums_ (lineL e.f0 e.f1)) ++ nums_ (linesL es) := by
      rw [hT]
      simp [linesL, nums_]
    obtain ⟨ts, h1, h2⟩ := ih (pre ++ nums_ (lineL e.f0 e.f1)) T hT' (fun x hx => he x (List.mem_cons_of_mem _ hx))
    rw [hT'] at h1
    obtain ⟨t1, t2, t3, q1, q2, q3, q4, q5, hs⟩ := scn_line2 pre e.f0 e.f1 a0 (by omega) b0 (by omega) _ ts h1
    refine ⟨t1 :: t2 :: t3 :: ts, by rw [hT']; exact hs, fun ps hps => ?_⟩
    have hlen : (ps.length : Int) + 1 + es.length = m := by rw [List.length_cons] at hps; omega
    have hl : lineF n true m ps [t1, t2] = ⟨0, 0, n, true, m, ps ++ [⟨e.f0, e.f1⟩]⟩ := by
      unfold lineF
      rw [if_neg (by decide), if_neg (by omega), if_neg (by simp), rd_two0, rd_two1, q2, q4, if_neg (by omega), if_neg (by omega)]
    rw [rawT, if_pos q1, rawT, if_pos q3, rawT, if_neg (by omega), if_pos (by simp)]
    simp only [List.nil_append, List.singleton_append]
    rw [hl, if_neg (by simp), if_neg (by omega)]
    dsimp only
    rw [h2 _ (by rw [List.length_append, List.length_singleton]; omega)]
    simp [pairsOf]
/-- a header and the lines -/
theorem raw_text (n : Int) (l : List S42) (h0 : 0 ≤ n) (h1 : n ≤ 1048576) (hl : l.length ≤ 2097152) (hb : (textL n l).length ≤ 16777216) (he : ∀ e ∈ l, (0 ≤ e.f0 ∧ e.f0 < n) ∧ 0 ≤ e.f1 ∧ e.f1 < n) :
    rawF (nums_ (textL n l)) = (n, pairsOf l, 0, 0) := by
  have hlen := nums_len (textL n l)
  unfold rawF
  rw [if_neg (by omega), scanF_eq _ (by omega)]
  have hT : nums_ (textL n l) = ([] ++ nums_ (lineL n l.length)) ++ nums_ (linesL l) := by unfold textL; simp [nums_]
  obtain ⟨ts, hs, h2⟩ := read_lines n (by omega) ((nums_ (textL n l)).length : Int) l.length l ([] ++ nums_ (lineL n l.length)) _ hT he
  rw [hT] at hs
  obtain ⟨t1, t2, t3, q1, q2, q3, q4, q5, hs'⟩ := scn_line2 [] n l.length h0 (by omega) (by omega) (by omega) _ ts hs
  rw [← hT, List.length_nil] at hs'
  rw [hs']
  dsimp only
  have hd : lineF 0 false 0 [] [t1, t2] = ⟨0, 0, n, true, l.length, []⟩ := by
    unfold lineF
    rw [if_pos rfl, if_neg (by simp), rd_two0, rd_two1, q2, q4, if_neg (by omega), if_neg (by omega)]
  rw [rawT, if_pos q1, rawT, if_pos q3, rawT, if_neg (by omega), if_pos (by simp)]
  simp only [List.nil_append, List.singleton_append]
  rw [hd, if_neg (by simp), if_neg (by omega)]
  dsimp only
  rw [h2 [] (by simp)]
  rfl
end Go.Proofs.YthejafdcdcchbaaDoor.PSimA
