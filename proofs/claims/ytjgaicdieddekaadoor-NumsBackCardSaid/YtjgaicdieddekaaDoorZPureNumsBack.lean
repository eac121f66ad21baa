/- nums.Scan of a Line of numbers gives them, one behind the other, a line's end and the end. -/
import Derived.Test.YtjgaicdieddekaaDoorZPNumAx20
import Derived.Test.YtjgaicdieddekaaDoorZXNumQ
set_option linter.unusedVariables false
namespace Go.Proofs.YtjgaicdieddekaaDoor.Pure
open Go.RowKit Go.Proofs.YtjgaicdieddekaaDoor.PNumA Go.Proofs.YtjgaicdieddekaaDoorW.PrintWords Go.Proofs.YtjgaicdieddekaaDoorW.PrintLast
open Go.Proofs.YtjgaicdieddekaaDoorX
def nums_ (l : List UInt8) : List Int := l.map fun c => (c.toNat : Int)
theorem words_cons (n : Int) (r : List Int) : wordsOf (n :: r) = Lib.itoa n ++ (if r = [] then [] else 32 :: wordsOf r) := by
  unfold wordsOf
  cases r with
  | nil => simp [Lib.join_one]
  | cons m r =>
    rw [if_neg (by simp), List.map_cons, List.map_cons, Lib.join_cons, Lib.join_cons]
    simp [Lib.joinTail]
theorem ndig_le9 : ∀ k u : Nat, u < 10 ^ (k + 1) → Lib.nDigits u ≤ k + 1
  | 0, u, h => by rw [Lib.nDigits_small (by simpa using h)]; omega
  | k + 1, u, h => by
    by_cases c : u < 10
    · rw [Lib.nDigits_small c]; omega
    · rw [Lib.nDigits_big c]
      have := ndig_le9 k (u / 10) (by rw [Nat.pow_succ] at h; omega)
      omega
theorem dec_all (m : Nat) : ∀ c ∈ Lib.decDigits m, 48 ≤ c.toNat ∧ c.toNat ≤ 57 := by
  induction m using Nat.strongRecOn with
  | _ m ih =>
    by_cases cm : m < 10
    · rw [Lib.decDigits_one cm]
      intro c hc
      simp only [List.mem_singleton] at hc
      subst hc
      simp [UInt8.toNat_ofNat']
      omega
    · rw [dec_big cm]
      intro c hc
      rcases List.mem_append.1 hc with h | h
      · exact ih (m / 10) (by omega) c h
      · simp only [List.mem_singleton] at h
        subst h
        simp [UInt8.toNat_ofNat']
        omega
theorem dec_zero (m : Nat) (h : (Lib.decDigits m).length > 1) : ∀ c r, Lib.decDigits m = c :: r → c.toNat ≠ 48 := by
  induction m using Nat.strongRecOn with
  | _ m ih =>
    intro c r e
    by_cases cm : m < 10
    · rw [Lib.decDigits_one cm] at h; simp at h
    · rw [dec_big cm] at e
      by_cases c2 : m / 10 < 10
      · rw [Lib.decDigits_one c2] at e
        have := (List.cons.inj e).1
        subst this
        simp [UInt8.toNat_ofNat']
        omega
      · obtain ⟨c', r', e', _⟩ := dec_head (m / 10)
        rw [e'] at e
        have := (List.cons.inj e).1
        subst this
        refine ih (m / 10) (by omega) ?_ c' r' e'
        rw [dec_big c2]
        have := Lib.nDigits_pos (m / 10 / 10)
        rw [List.length_append, Lib.decDigits_length]
        simp
        omega
/-- a numeral read back -/
theorem val_dec (l : List Int) (i : Nat) : ∀ m : Nat, (Lib.decDigits m).length ≤ 9 → (∀ k (h : k < (Lib.decDigits m).length), Go.Proofs.YtjgaicdieddekaaDoorW.PrintWords.rd l ((i + k : Nat) : Int) = ((Lib.decDigits m)[k].toNat : Int)) → val l i (Lib.decDigits m).length = m := by
  intro m
  induction m using Nat.strongRecOn with
  | _ m ih =>
    intro h9 h
    by_cases cm : m < 10
    · have e := Lib.decDigits_one cm
      have h0 := h 0 (by rw [e]; simp)
      have hl : (Lib.decDigits m).length = 1 := by rw [e]; rfl
      rw [hl]
      have hv : (Lib.decDigits m)[0]'(by rw [hl]; omega) = UInt8.ofNat (48 + m) := by simp [e]
      rw [hv] at h0
      simp only [val, Nat.add_zero] at h0 ⊢
      rw [if_pos (by omega), h0]
      simp [UInt8.toNat_ofNat']
      omega
    · have e := dec_big cm
      have hl : (Lib.decDigits m).length = (Lib.decDigits (m / 10)).length + 1 := by rw [e]; simp
      have i1 := ih (m / 10) (by omega) (by omega) (fun k hk => by
        rw [h k (by omega)]
        have : (Lib.decDigits m)[k]'(by omega) = (Lib.decDigits (m / 10))[k] := by
          apply Option.some.inj
          rw [← List.getElem?_eq_getElem, ← List.getElem?_eq_getElem, e, List.getElem?_append_left hk]
        rw [this])
      have h2 := h (Lib.decDigits (m / 10)).length (by omega)
      have hv : (Lib.decDigits m)[(Lib.decDigits (m / 10)).length]'(by omega) = UInt8.ofNat (48 + m % 10) := by
        apply Option.some.inj
        rw [← List.getElem?_eq_getElem, e, List.getElem?_append_right (Nat.le_refl _), Nat.sub_self]
        rfl
      rw [hv] at h2
      rw [hl, val, if_pos (by omega), i1, h2]
      simp [UInt8.toNat_ofNat']
      omega
def dl (n : Int) : Nat := (Lib.itoa n).length
def numToks : Nat → List Int → List S34
  | _, [] => []
  | p, n :: r => ⟨1, p, ((p + dl n : Nat) : Int), n⟩ :: numToks (p + dl n + 1) r
def endToks (e : Nat) : List S34 := [⟨2, (e : Int) - 1, e, 0⟩, ⟨3, e, e, 0⟩]
theorem numToks_length : ∀ (p : Nat) (r : List Int), (numToks p r).length = r.length
  | _, [] => rfl
  | p, n :: r => by simp [numToks, numToks_length]
theorem rd_app (pre suf : List Int) (k : Nat) : Go.Proofs.YtjgaicdieddekaaDoorW.PrintWords.rd (pre ++ suf) ((pre.length + k : Nat) : Int) = suf.getD k 0 := by
  show (pre ++ suf).getD ((pre.length + k : Nat) : Int).toNat 0 = _
  rw [Int.toNat_natCast, List.getD_eq_getElem?_getD, List.getElem?_append_right (by omega), Nat.add_sub_cancel_left, List.getD_eq_getElem?_getD]
/-- the line's end and the end -/
theorem scn_fin (pre : List Int) : scn (pre ++ [10]) pre.length = .ok (endToks (pre.length + 1)) := by
  have hl : (pre ++ [(10 : Int)]).length = pre.length + 1 := by simp
  have h : Go.Proofs.YtjgaicdieddekaaDoorW.PrintWords.rd (pre ++ [10]) (pre.length : Int) = 10 := by
    have := rd_app pre [10] 0
    simpa using this
  rw [scn_line (by omega) h, ← hl, scn_end, hl]
  simp only [Except.map, endToks]
  rw [show ((pre.length + 1 : Nat) : Int) - 1 = pre.length by omega]
theorem scn_num (pre : List Int) (n : Int) (h0 : 0 ≤ n) (h1 : n ≤ 999999999) (c : Int) (hc : c = 32 ∨ c = 10) (rest : List Int) :
    scn (pre ++ (nums_ (Lib.itoa n) ++ c :: rest)) pre.length = (scn (pre ++ (nums_ (Lib.itoa n) ++ c :: rest)) (pre.length + dl n)).map (⟨1, pre.length, ((pre.length + dl n : Nat) : Int), n⟩ :: ·) := by
  obtain ⟨m, rfl⟩ := Int.eq_ofNat_of_zero_le h0
  have ei : Lib.itoa (m : Int) = Lib.decDigits m := Lib.itoa_nonneg m
  unfold dl
  rw [ei]
  have h9 : (Lib.decDigits m).length ≤ 9 := by
    rw [Lib.decDigits_length]
    exact ndig_le9 8 m (by omega)
  have hlen : (nums_ (Lib.decDigits m)).length = (Lib.decDigits m).length := by simp [nums_]
  generalize hT : pre ++ (nums_ (Lib.decDigits m) ++ c :: rest) = T
  have hTl : T.length = pre.length + (Lib.decDigits m).length + 1 + rest.length := by rw [← hT]; simp [nums_]; omega
  have hrd : ∀ k (h : k < (Lib.decDigits m).length), Go.Proofs.YtjgaicdieddekaaDoorW.PrintWords.rd T ((pre.length + k : Nat) : Int) = ((Lib.decDigits m)[k].toNat : Int) := by
    intro k h
    rw [← hT, rd_app, List.getD_eq_getElem?_getD, List.getElem?_append_left (by rw [hlen]; exact h)]
    simp [nums_, h]
  have hcc : Go.Proofs.YtjgaicdieddekaaDoorW.PrintWords.rd T ((pre.length + (Lib.decDigits m).length : Nat) : Int) = c := by
    rw [← hT, rd_app, List.getD_eq_getElem?_getD, List.getElem?_append_right (by rw [hlen]; exact Nat.le_refl _), hlen, Nat.sub_self]
    rfl
  have hdig : ∀ k, k < (Lib.decDigits m).length → digB T ((pre.length + k : Nat) : Int) = true := by
    intro k h
    have := dec_all m _ (List.getElem_mem h)
    rw [digB_iff, hrd k h]
    omega
  have hnd : nd T pre.length = (Lib.decDigits m).length := by
    refine nd_of hdig ?_
    cases q : digB T ((pre.length + (Lib.decDigits m).length : Nat) : Int)
    · rfl
    · rw [digB_iff, hcc] at q
      omega
  have hpos : 0 < (Lib.decDigits m).length := by rw [Lib.decDigits_length]; exact Lib.nDigits_pos m
  rw [scn_dig (i := pre.length) (by simpa using hdig 0 hpos), hnd, val_dec T pre.length m h9 hrd]
  rw [if_neg]
  intro hb
  have hb : (Lib.decDigits m).length > 9 ∨ (Lib.decDigits m).length > 1 ∧ Go.Proofs.YtjgaicdieddekaaDoorW.PrintWords.rd T (pre.length : Int) = 48 := of_decide_eq_true hb
  rcases hb with hb | ⟨hb, hz⟩
  · omega
  · obtain ⟨c', r', e', _⟩ := dec_head m
    have z := dec_zero m hb c' r' e'
    have h0 := hrd 0 hpos
    rw [Nat.add_zero, hz] at h0
    have : (Lib.decDigits m)[0] = c' := by simp [e']
    rw [this] at h0
    omega
theorem nums_app (a b : List UInt8) : nums_ (a ++ b) = nums_ a ++ nums_ b := by simp [nums_]
theorem nums_len (a : List UInt8) : (nums_ a).length = a.length := by simp [nums_]
theorem scn_toks : ∀ (r : List Int) (pre : List Int), (∀ n ∈ r, 0 ≤ n ∧ n ≤ 999999999) →
    scn (pre ++ nums_ (wordsOf r ++ [10])) pre.length = .ok (numToks pre.length r ++ endToks (pre.length + (wordsOf r).length + 1))
  | [], pre, _ => by
    rw [words_nil]
    exact scn_fin pre
  | n :: r, pre, h => by
    have hn := h n (by simp)
    have ih := fun p => scn_toks r p (fun x hx => h x (by simp [hx]))
    rw [words_cons]
    by_cases c : r = []
    · subst c
      rw [if_pos rfl, List.append_nil, nums_app, show nums_ [10] = [10] from rfl, scn_num pre n hn.1 hn.2 10 (Or.inr rfl) []]
      have f := scn_fin (pre ++ nums_ (Lib.itoa n))
      rw [List.length_append, nums_len, List.append_assoc] at f
      unfold dl
      rw [f]
      rfl
    · rw [if_neg c, List.append_assoc, nums_app]
      have e1 : nums_ (32 :: wordsOf r ++ [10]) = 32 :: nums_ (wordsOf r ++ [10]) := rfl
      rw [e1, scn_num pre n hn.1 hn.2 32 (Or.inl rfl) _]
      have f := ih (pre ++ (nums_ (Lib.itoa n) ++ [32]))
      have el : (pre ++ (nums_ (Lib.itoa n) ++ [32])).length = pre.length + dl n + 1 := by simp [nums_len, dl]; omega
      rw [el] at f
      have eT : pre ++ (nums_ (Lib.itoa n) ++ 32 :: nums_ (wordsOf r ++ [10])) = pre ++ (nums_ (Lib.itoa n) ++ [32]) ++ nums_ (wordsOf r ++ [10]) := by simp
      rw [eT]
      have hb : Go.Proofs.YtjgaicdieddekaaDoorW.PrintWords.rd (pre ++ (nums_ (Lib.itoa n) ++ [32]) ++ nums_ (wordsOf r ++ [10])) ((pre.length + dl n : Nat) : Int) = 32 := by
        have := rd_app (pre ++ nums_ (Lib.itoa n)) (32 :: nums_ (wordsOf r ++ [10])) 0
        rw [List.length_append, nums_len] at this
        rw [← eT, ← List.append_assoc]
        exact this
      rw [scn_blank (by simp [nums_len, dl]) (by rw [hb]; rfl), f]
      simp only [Except.map, numToks, List.cons_append, List.length_append, List.length_cons]
      rw [show pre.length + dl n + 1 + (wordsOf r).length + 1 = pre.length + ((Lib.itoa n).length + ((wordsOf r).length + 1)) + 1 by unfold dl; omega]
theorem words_len9 : ∀ (l : List Int), (∀ x ∈ l, 0 ≤ x ∧ x ≤ 999999999) → (wordsOf l).length ≤ 10 * l.length
  | [], _ => by simp [words_nil]
  | n :: r, h => by
    have ih := words_len9 r (fun x hx => h x (by simp [hx]))
    have hn := h n (by simp)
    obtain ⟨m, rfl⟩ := Int.eq_ofNat_of_zero_le hn.1
    have h9 : (Lib.itoa (m : Int)).length ≤ 9 := by
      rw [Lib.itoa_nonneg, Lib.decDigits_length]
      exact ndig_le9 8 m (by omega)
    rw [words_cons, List.length_append, List.length_cons]
    split
    · simp only [List.length_nil]; omega
    · rw [List.length_cons]; omega
theorem extract_bs (B : List UInt8) (p q : Nat) : (bs B).extract p q = bs ((B.take q).drop p) := by
  apply ByteArray.ext
  rw [ByteArray.data_extract]
  apply Array.toList_inj.1
  rw [Array.toList_extract]
  simp [bs, List.extract, List.drop_take]
theorem rdT (xs : List S34) (i : Nat) (t : S34) (h : xs[i]? = some t) : rd_T34 xs (i : Int) = t := by simp [rd_T34, List.getD_eq_getElem?_getD, h]
/-- the numbers, one by one -/
theorem back_l1 (x3 : List Int) (B : List UInt8) (hB : B.length ≤ 33554432) (h3 : x3.length ≤ 2000000) (hx : ∀ n ∈ x3, 0 ≤ n ∧ n ≤ 999999999) (e : Nat) (he : e = B.length) (x6 : List S34) :
    ∀ (rem don : List Int) (dt : List S34) (p : Nat), x3 = don ++ rem → x6 = dt ++ (numToks p rem ++ endToks e) → dt.length = don.length → p ≤ 33554432 →
      (rem ≠ [] → B.drop p = wordsOf rem ++ [10]) → Ev (fun k => tangramlaw01_NumsBack.l1 k x3 (bs B) x6 (p : Int) (don.length : Int)) true := by
  intro rem
  induction rem with
  | nil =>
    intro don dt p hd hx6 hdt hp hw
    rw [List.append_nil] at hd
    have hl6 : x6.length = x3.length + 2 := by rw [hx6, hd]; simp [numToks, endToks, hdt]
    have t1 : rd_T34 x6 (x3.length : Int) = ⟨2, (e : Int) - 1, e, 0⟩ := by
      refine rdT _ _ _ ?_
      rw [hx6, List.getElem?_append_right (by rw [hdt, hd]; exact Nat.le_refl _), hdt, hd, Nat.sub_self]
      rfl
    have t2 : rd_T34 x6 ((x3.length + 1 : Nat) : Int) = ⟨3, e, e, 0⟩ := by
      refine rdT _ _ _ ?_
      rw [hx6, List.getElem?_append_right (by rw [hdt, hd]; omega), hdt, hd, show don.length + 1 - don.length = 1 by omega]
      rfl
    refine Ev.succ ?_
    simp only [tangramlaw01_NumsBack.l1]
    rw [w64 (x := (x3.length : Int) + 1) (by omega) (by omega), show (x3.length : Int) + 1 = ((x3.length + 1 : Nat) : Int) by omega, t1, t2, bs_size, w64 (x := (B.length : Int) - 1) (by omega) (by omega), he]
    refine Ev.neg (by rw [hd]; omega) (Ev.pos (by omega) (Ev.pos (by omega) (Ev.pos (by simp) (Ev.pos (by omega) (Ev.pos (by omega) (Ev.val (by simp)))))))
  | cons n r ih =>
    intro don dt p hd hx6 hdt hp hw
    have hn := hx n (by rw [hd]; simp)
    have hw := hw (by simp)
    have hl3 : x3.length = don.length + 1 + r.length := by rw [hd]; simp; omega
    have hl6 : x6.length = dt.length + 1 + r.length + 2 := by rw [hx6]; simp [numToks, endToks, numToks_length]; omega
    have hBl : B.length - p = (Lib.itoa n).length + (if r = [] then [] else 32 :: wordsOf r).length + 1 := by
      have := congrArg List.length hw
      rw [List.length_drop, words_cons] at this
      rw [this]
      simp
      omega
    have hdl : dl n = (Lib.itoa n).length := rfl
    have ex : (B.take (p + dl n)).drop p = Lib.itoa n := by
      rw [List.drop_take, hw, words_cons, show p + dl n - p = (Lib.itoa n).length by rw [hdl]; omega, List.append_assoc, List.take_left]
    have t1 : rd_T34 x6 (don.length : Int) = ⟨1, p, ((p + dl n : Nat) : Int), n⟩ := by
      refine rdT _ _ _ ?_
      rw [hx6, List.getElem?_append_right (by rw [hdt]; exact Nat.le_refl _), hdt, Nat.sub_self]
      rfl
    have r1 : Go.Proofs.YtjgaicdieddekaaDoorW.PrintWords.rd x3 (don.length : Int) = n := by
      have := rd_app don (n :: r) 0
      rw [hd]
      exact this
    have next := ih (don ++ [n]) (dt ++ [⟨1, p, ((p + dl n : Nat) : Int), n⟩]) (p + dl n + 1) (by rw [hd]; simp) (by rw [hx6]; simp [numToks]) (by simp [hdt]) (by omega) (fun hr => by
      rw [show p + dl n + 1 = p + (dl n + 1) by omega, ← List.drop_drop, hw, words_cons, if_neg hr, hdl]
      simp only [List.append_assoc, List.cons_append]
      rw [← List.drop_drop, List.drop_left]
      rfl)
    refine Ev.succ ?_
    simp only [tangramlaw01_NumsBack.l1]
    rw [t1, r1, bs_size]
    dsimp only
    refine Ev.pos (by omega) (Ev.pos (by omega) (Ev.pos (by omega) (Ev.pos rfl (Ev.pos rfl (Ev.pos rfl (Ev.neg (by omega) (Ev.neg (by omega) (Ev.pos (by omega) (Ev.pos (by omega) (Ev.pos (by omega) ?_))))))))))
    simp only [nums_text n (by omega) (by omega), Option.bind_some]
    rw [w64 (x := ((p + dl n : Nat) : Int) + 1) (by omega) (by omega), w64 (x := (don.length : Int) + 1) (by omega) (by omega)]
    refine Ev.pos ?_ ?_
    · rw [Int.toNat_natCast, Int.toNat_natCast, extract_bs, ex]
    · rw [List.length_append] at next
      exact next
theorem back_tail (x3 : List Int) (h3 : x3.length ≤ 2000000) (hx : ∀ n ∈ x3, 0 ≤ n ∧ n ≤ 999999999) (x0 : List Int) (x4 : Int) : Ev (fun k => tangramlaw01_NumsBack.j1 k x0 x3 x4 false) true := by
  have hw := words_len9 x3 hx
  have hT := scn_toks x3 [] hx
  have hsz : (wordsOf x3 ++ [10]).length = (wordsOf x3).length + 1 := by simp
  have hs : ∀ k, nums_scanner_all.f k (bs (wordsOf x3 ++ [10])) = some (numToks 0 x3 ++ endToks ((wordsOf x3).length + 1), 0, 0) := by
    intro k
    unfold nums_scanner_all.f
    rw [if_pos (by rw [bs_size]; omega), bs_data]
    have : scanF (nums_ (wordsOf x3 ++ [10])) = .ok (numToks 0 x3 ++ endToks ((wordsOf x3).length + 1)) := by
      rw [scanF_eq _ (by rw [nums_len]; omega)]
      simpa using hT
    unfold nums_ at this
    rw [this]
  refine Ev.succ ?_
  simp only [tangramlaw01_NumsBack.j1]
  refine Ev.neg (by simp) (Ev.bind (nums_line x3 (fun n hn => by have := hx n hn; omega) (by omega)) ?_)
  simp only [hs, Option.bind_some]
  have hl : (numToks 0 x3 ++ endToks ((wordsOf x3).length + 1)).length = x3.length + 2 := by simp [numToks_length, endToks]
  refine Ev.pos trivial (Ev.succ ?_)
  simp only [tangramlaw01_NumsBack.j2]
  refine Ev.neg ?_ ?_
  · rw [hl, w64 (by omega) (by omega)]
    simp
  · exact back_l1 x3 (wordsOf x3 ++ [10]) (by omega) h3 hx _ (by omega) _ x3 [] [] 0 rfl rfl rfl (by omega) (fun _ => rfl)
theorem NumsBack : tangramlaw01_NumsBack.Pure := by
  intro l0 hm hl hw
  have hb := ints_of hw
  refine Ev.out ?_
  unfold tangramlaw01_NumsBack.f tangramlaw01_awake.f
  refine Ev.andThen' rfl (Ev.pos rfl ?_)
  have loop : ∀ d i (x3 : List Int), i + d = 2000000 → x3.length ≤ i → (∀ n ∈ x3, 0 ≤ n ∧ n ≤ 999999999) → Ev (fun k => tangramlaw01_NumsBack.l0 k l0 x3 (i : Int)) true := by
    intro d
    induction d with
    | zero =>
      intro i x3 hi h3 hx
      refine Ev.succ ?_
      simp only [tangramlaw01_NumsBack.l0]
      rw [decide_eq_false (by omega)]
      refine Ev.ite (fun _ => back_tail x3 (by omega) hx _ _) (fun _ => back_tail x3 (by omega) hx _ _)
    | succ d ih =>
      intro i x3 hi h3 hx
      refine Ev.succ ?_
      simp only [tangramlaw01_NumsBack.l0]
      rw [decide_eq_true (by omega)]
      refine Ev.ite (fun c => ?_) (fun _ => back_tail x3 (by omega) hx _ _)
      refine Ev.succ ?_
      simp only [tangramlaw01_NumsBack.j1]
      rw [w64 (by omega) (by omega)]
      have n1 := ih (i + 1) x3 (by omega) (by omega) hx
      rw [show ((i + 1 : Nat) : Int) = (i : Int) + 1 by omega] at n1
      refine Ev.pos trivial (Ev.pos (by omega) (Ev.pos c (Ev.ite (fun c1 => Ev.ite (fun c2 => Ev.pos (by omega) ?_) (fun _ => n1)) (fun _ => n1))))
      have n2 := ih (i + 1) (x3 ++ [Go.Proofs.YtjgaicdieddekaaDoorW.PrintWords.rd l0 (i : Int)]) (by omega) (by simp; omega) (fun n hn => by
        rcases List.mem_append.1 hn with h | h
        · exact hx n h
        · simp only [List.mem_singleton] at h
          subst h
          exact ⟨c1, c2⟩)
      rw [show ((i + 1 : Nat) : Int) = (i : Int) + 1 by omega] at n2
      exact n2
  exact loop 2000000 0 [] (by omega) (by simp) (fun n hn => by simp at hn)
end Go.Proofs.YtjgaicdieddekaaDoor.Pure
