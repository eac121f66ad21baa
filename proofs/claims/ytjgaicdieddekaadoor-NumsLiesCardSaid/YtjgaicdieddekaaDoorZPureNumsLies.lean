/- nums.Scan's tokens lie one behind the other, blanks alone between them; a number's bytes are its Text, a line's end is one byte. -/
import Derived.Test.YtjgaicdieddekaaDoorZPNumAx12
import Derived.Test.YtjgaicdieddekaaDoorZXNumQ
set_option linter.unusedVariables false
namespace Go.Proofs.YtjgaicdieddekaaDoor.Pure
open Go.RowKit Go.Proofs.YtjgaicdieddekaaDoor.PNumA Go.Proofs.YtjgaicdieddekaaDoorW.PrintWords Go.Proofs.YtjgaicdieddekaaDoorW.PrintLast
open Go.Proofs.YtjgaicdieddekaaDoorX
theorem tok_at (pre : List S34) (t : S34) (rest : List S34) : rd_T34 (pre ++ t :: rest) (pre.length : Int) = t := by
  simp [rd_T34, List.getD_eq_getElem?_getD]
def Blanks (l : List Int) (a i : Nat) : Prop := ∀ k, a ≤ k → k < i → blk (Go.Proofs.YtjgaicdieddekaaDoorW.PrintWords.rd l (k : Int)) = true
inductive Lies (l : List Int) : Nat → List S34 → Prop
  | fin {a : Nat} (ha : a ≤ l.length) (hb : Blanks l a l.length) : Lies l a [⟨3, l.length, l.length, 0⟩]
  | num {a i m : Nat} {v : Int} {rest : List S34} (ha : a ≤ i) (hb : Blanks l a i) (hm : 0 < m) (he : i + m ≤ l.length) (hv : 0 ≤ v ∧ v ≤ 999999999) (ht : strOfNums ((l.take (i + m)).drop i) = bs (Lib.itoa v)) (hr : Lies l (i + m) rest) : Lies l a (⟨1, i, ((i + m : Nat) : Int), v⟩ :: rest)
  | line {a i : Nat} {rest : List S34} (ha : a ≤ i) (hb : Blanks l a i) (he : i < l.length) (ht : Go.Proofs.YtjgaicdieddekaaDoorW.PrintWords.rd l (i : Int) = 10) (hr : Lies l (i + 1) rest) : Lies l a (⟨2, i, ((i + 1 : Nat) : Int), 0⟩ :: rest)
theorem str_snoc (xs : List Int) (c : Int) : strOfNums (xs ++ [c]) = bs ((xs.map fun n => UInt8.ofNat n.toNat) ++ [UInt8.ofNat c.toNat]) := by
  unfold strOfNums bs
  rw [List.map_append]
  rfl
theorem str_bs (xs : List Int) : strOfNums xs = bs (xs.map fun n => UInt8.ofNat n.toNat) := rfl
/-- m digits, the first no 0 unless it stands alone, are their number's numeral. -/
theorem num_text (l : List Int) (i : Nat) : ∀ m, m ≤ 8 → (∀ k, k < m + 1 → digB l ((i + k : Nat) : Int) = true) → (m + 1 > 1 → Go.Proofs.YtjgaicdieddekaaDoorW.PrintWords.rd l (i : Int) ≠ 48) → i + (m + 1) ≤ l.length →
    ((l.take (i + (m + 1))).drop i).map (fun n => UInt8.ofNat n.toNat) = Lib.decDigits (val l i (m + 1)).toNat ∧ (m + 1 > 1 → 1 ≤ val l i (m + 1)) ∧ (Go.Proofs.YtjgaicdieddekaaDoorW.PrintWords.rd l (i : Int) ≠ 48 → 1 ≤ val l i (m + 1)) := by
  intro m
  induction m with
  | zero =>
    intro h9 hd hz he
    have d := (digB_iff l (i + 0)).1 (hd 0 (by omega))
    rw [Nat.add_zero] at d
    have e : val l i (0 + 1) = Go.Proofs.YtjgaicdieddekaaDoorW.PrintWords.rd l (i : Int) - 48 := by simp [val]
    rw [e, show i + (0 + 1) = i + 1 by omega, take_rd l i (by omega), List.drop_append_of_le_length (by rw [List.length_take]; omega), List.drop_eq_nil_of_le (by rw [List.length_take]; omega)]
    refine ⟨?_, by omega, by omega⟩
    rw [Lib.decDigits_one (by omega)]
    simp only [List.nil_append, List.map_cons, List.map_nil]
    rw [show 48 + (Go.Proofs.YtjgaicdieddekaaDoorW.PrintWords.rd l (i : Int) - 48).toNat = (Go.Proofs.YtjgaicdieddekaaDoorW.PrintWords.rd l (i : Int)).toNat by omega]
  | succ m ih =>
    intro h9 hd hz he
    have hz' := hz (by omega)
    obtain ⟨h1, h2, h3⟩ := ih (by omega) (fun k hk => hd k (by omega)) (fun _ => hz') (by omega)
    have d := (digB_iff l (i + (m + 1))).1 (hd (m + 1) (by omega))
    have hv := h3 hz'
    have e : val l i (m + 1 + 1) = 10 * val l i (m + 1) + (Go.Proofs.YtjgaicdieddekaaDoorW.PrintWords.rd l ((i + (m + 1) : Nat) : Int) - 48) := by rw [val, if_pos (by omega)]
    rw [e, show i + (m + 1 + 1) = (i + (m + 1)) + 1 by omega, take_rd l (i + (m + 1)) (by omega), List.drop_append_of_le_length (by rw [List.length_take]; omega)]
    refine ⟨?_, by omega, by omega⟩
    rw [List.map_append, h1]
    have k : (10 * val l i (m + 1) + (Go.Proofs.YtjgaicdieddekaaDoorW.PrintWords.rd l ((i + (m + 1) : Nat) : Int) - 48)).toNat = 10 * (val l i (m + 1)).toNat + (Go.Proofs.YtjgaicdieddekaaDoorW.PrintWords.rd l ((i + (m + 1) : Nat) : Int) - 48).toNat := by omega
    rw [k]
    generalize hq : (Go.Proofs.YtjgaicdieddekaaDoorW.PrintWords.rd l ((i + (m + 1) : Nat) : Int) - 48).toNat = q
    rw [dec_big (m := 10 * (val l i (m + 1)).toNat + q) (by omega), show (10 * (val l i (m + 1)).toNat + q) / 10 = (val l i (m + 1)).toNat by omega, show (10 * (val l i (m + 1)).toNat + q) % 10 = q by omega]
    simp only [List.map_cons, List.map_nil]
    rw [show (Go.Proofs.YtjgaicdieddekaaDoorW.PrintWords.rd l ((i + (m + 1) : Nat) : Int)).toNat = 48 + q by omega]
theorem lies_of (l : List Int) : ∀ d i ts, l.length - i ≤ d → i ≤ l.length → scn l i = .ok ts → ∀ a, a ≤ i → Blanks l a i → Lies l a ts := by
  intro d
  induction d with
  | zero =>
    intro i ts hd hi h a ha hb
    obtain rfl : i = l.length := by omega
    rw [scn_end] at h
    cases h
    exact .fin ha hb
  | succ d ih =>
    intro i ts hd hi h a ha hb
    by_cases c : i < l.length
    · by_cases c1 : digB l (i : Int) = true
      · rw [scn_dig c1] at h
        have p := nd_pos c1
        have q := nd_le (l := l) (i := i) hi
        split at h
        · cases h
        · rename_i nb
          cases e : scn l (i + nd l i) with
          | error x => rw [e] at h; cases h
          | ok us =>
            rw [e] at h
            cases h
            obtain ⟨m, hm⟩ : ∃ m, nd l i = m + 1 := ⟨nd l i - 1, by omega⟩
            have nb' : ¬ (nd l i > 9 ∨ nd l i > 1 ∧ Go.Proofs.YtjgaicdieddekaaDoorW.PrintWords.rd l (i : Int) = 48) := fun h => nb (decide_eq_true h)
            have hall : ∀ k, k < m + 1 → digB l ((i + k : Nat) : Int) = true := fun k hk => nd_all (by omega)
            have nt := num_text l i m (by omega) hall (fun hk hz => nb' (Or.inr ⟨by omega, hz⟩)) (by omega)
            have vb := val_bound l i (m + 1) hall
            have vp : (10 : Int) ^ (m + 1) ≤ 10 ^ 9 := by
              have := Nat.pow_le_pow_right (n := 10) (by omega) (show m + 1 ≤ 9 by omega)
              exact_mod_cast this
            refine .num ha hb p q ?_ ?_ (ih _ us (by omega) (by omega) e _ (Nat.le_refl _) (fun k h1 h2 => by omega))
            · rw [hm]; omega
            · rw [str_bs, hm, nt.1]
              have k : val l i (m + 1) = ((val l i (m + 1)).toNat : Int) := by omega
              have k2 := Lib.itoa_nonneg (val l i (m + 1)).toNat
              rw [← k] at k2
              rw [k2]
      · by_cases c2 : Go.Proofs.YtjgaicdieddekaaDoorW.PrintWords.rd l (i : Int) = 10
        · rw [scn_line c c2] at h
          cases e : scn l (i + 1) with
          | error x => rw [e] at h; cases h
          | ok us =>
            rw [e] at h
            cases h
            exact .line ha hb c c2 (ih _ us (by omega) (by omega) e _ (Nat.le_refl _) (fun k h1 h2 => by omega))
        · by_cases c3 : blk (Go.Proofs.YtjgaicdieddekaaDoorW.PrintWords.rd l (i : Int)) = true
          · rw [scn_blank c c3] at h
            refine ih _ ts (by omega) (by omega) h a (by omega) (fun k h1 h2 => ?_)
            by_cases e : k = i
            · rw [e]; exact c3
            · exact hb k h1 (by omega)
          · rw [scn_err c c1 c2 c3] at h
            cases h
    · exact ih i ts (by omega) hi h a ha hb
/-- the blanks, one by one -/
theorem lies_l1 (l : List Int) (ts : List S34) (x7 : Int) (t : S34) (i : Nat) (hi : i ≤ l.length) (hl : l.length ≤ 33554432) (h1 : t.f1 = i)
    (hk : Ev (fun k => tangramlaw01_NumsLies.l1 k l ts x7 (i : Int) t.f0 t.f1 t.f2 t.f3) true) : ∀ d a, a + d = i → Blanks l a i → Ev (fun k => tangramlaw01_NumsLies.l1 k l ts x7 (a : Int) t.f0 t.f1 t.f2 t.f3) true := by
  intro d
  induction d with
  | zero =>
    intro a ha hb
    obtain rfl : a = i := by omega
    exact hk
  | succ d ih =>
    intro a ha hb
    have hblk : Go.Proofs.YtjgaicdieddekaaDoorW.PrintWords.rd l (a : Int) = 32 ∨ Go.Proofs.YtjgaicdieddekaaDoorW.PrintWords.rd l (a : Int) = 9 ∨ Go.Proofs.YtjgaicdieddekaaDoorW.PrintWords.rd l (a : Int) = 13 := of_decide_eq_true (hb a (Nat.le_refl _) (by omega))
    have next := ih (a + 1) (by omega) (fun k h1 h2 => hb k (by omega) h2)
    rw [show ((a + 1 : Nat) : Int) = (a : Int) + 1 by omega] at next
    refine Ev.succ ?_
    simp only [tangramlaw01_NumsLies.l1]
    rw [w64 (by omega) (by omega)]
    refine Ev.pos (by omega) (Ev.pos (by omega) (Ev.pos (by omega) ?_))
    refine Ev.ite (fun _ => next) (fun c1 => Ev.ite (fun _ => next) (fun c2 => Ev.ite (fun _ => next) (fun c3 => ?_)))
    omega
theorem lies_l0 (l : List Int) (hl : l.length ≤ 33554432) {a : Nat} {ts : List S34} (h : Lies l a ts) : ∀ pre : List S34, pre.length + ts.length ≤ 33554433 → Ev (fun k => tangramlaw01_NumsLies.l0 k l (pre ++ ts) (a : Int) (pre.length : Int)) true := by
  induction h with
  | @fin a ha hb =>
    intro pre hp
    have hlen : (pre ++ [(⟨3, l.length, l.length, 0⟩ : S34)]).length = pre.length + 1 := by simp
    have ht := tok_at pre ⟨3, l.length, l.length, 0⟩ []
    -- behind the last token
    have last : Ev (fun k => tangramlaw01_NumsLies.l0 k l (pre ++ [(⟨3, l.length, l.length, 0⟩ : S34)]) (l.length : Int) (wrap64 ((pre.length : Int) + 1))) true := by
      refine Ev.succ ?_
      simp only [tangramlaw01_NumsLies.l0]
      rw [w64 (by omega) (by omega), hlen, w64 (by omega) (by omega), show (((pre.length + 1 : Nat) : Int) - 1) = (pre.length : Int) by omega, ht]
      refine Ev.neg (by omega) (Ev.pos (by omega) (Ev.pos (by omega) (Ev.pos (by omega) (Ev.pos rfl (Ev.val (by simp))))))
    refine Ev.succ ?_
    simp only [tangramlaw01_NumsLies.l0]
    rw [ht]
    refine Ev.pos (by omega) (Ev.pos (by omega) (Ev.neg (by show ¬ (l.length : Int) < a; omega) (Ev.neg (by show ¬ (l.length : Int) > l.length; omega) (Ev.neg (by show ¬ (l.length : Int) > l.length; omega) ?_))))
    refine Ev.succ ?_
    simp only [tangramlaw01_NumsLies.j1]
    refine Ev.neg (by simp) ?_
    refine lies_l1 l _ _ ⟨3, l.length, l.length, 0⟩ l.length (Nat.le_refl _) hl rfl ?_ (l.length - a) a (by omega) hb
    refine Ev.succ ?_
    simp only [tangramlaw01_NumsLies.l1]
    exact Ev.neg (by omega) (Ev.neg (by omega) (Ev.neg (by omega) last))
  | @num a i m v rest ha hb hm he hv ht hr ih =>
    intro pre hp
    have ht' := tok_at pre ⟨1, i, ((i + m : Nat) : Int), v⟩ rest
    have next := ih (pre ++ [⟨1, i, ((i + m : Nat) : Int), v⟩]) (by simp at hp ⊢; omega)
    rw [List.append_assoc] at next
    simp only [List.singleton_append, List.length_append, List.length_cons, List.length_nil] at next hp
    have hn : wrap64 ((pre.length : Int) + 1) = ((pre.length + (0 + 1) : Nat) : Int) := by rw [w64 (by omega) (by omega)]; omega
    refine Ev.succ ?_
    simp only [tangramlaw01_NumsLies.l0]
    rw [ht']
    refine Ev.pos (by simp only [List.length_append, List.length_cons]; omega) (Ev.pos (by omega) (Ev.neg (by show ¬ (i : Int) < a; omega) (Ev.neg (by show ¬ (i : Int) > l.length; omega) (Ev.neg (by show ¬ ((i + m : Nat) : Int) > l.length; omega) ?_))))
    refine Ev.succ ?_
    simp only [tangramlaw01_NumsLies.j1]
    refine Ev.neg (by simp; omega) ?_
    refine lies_l1 l _ _ ⟨1, i, ((i + m : Nat) : Int), v⟩ i (by omega) hl rfl ?_ (i - a) a (by omega) hb
    refine Ev.succ ?_
    simp only [tangramlaw01_NumsLies.l1]
    refine Ev.neg (by omega) (Ev.pos trivial ?_)
    simp only [nums_text v (by omega) (by omega), Option.bind_some]
    refine Ev.pos (by omega) (Ev.pos (by omega) (Ev.pos (by omega) (Ev.pos ?_ (Ev.neg (by omega) ?_))))
    · rw [show ((i + m : Nat) : Int).toNat = i + m by omega, show ((i : Nat) : Int).toNat = i by omega, ht]
    · rw [hn]
      exact next
  | @line a i rest ha hb he ht hr ih =>
    intro pre hp
    have ht' := tok_at pre ⟨2, i, ((i + 1 : Nat) : Int), 0⟩ rest
    have next := ih (pre ++ [⟨2, i, ((i + 1 : Nat) : Int), 0⟩]) (by simp at hp ⊢; omega)
    rw [List.append_assoc] at next
    simp only [List.singleton_append, List.length_append, List.length_cons, List.length_nil] at next hp
    have hn : wrap64 ((pre.length : Int) + 1) = ((pre.length + (0 + 1) : Nat) : Int) := by rw [w64 (by omega) (by omega)]; omega
    refine Ev.succ ?_
    simp only [tangramlaw01_NumsLies.l0]
    rw [ht']
    refine Ev.pos (by simp only [List.length_append, List.length_cons]; omega) (Ev.pos (by omega) (Ev.neg (by show ¬ (i : Int) < a; omega) (Ev.neg (by show ¬ (i : Int) > l.length; omega) (Ev.neg (by show ¬ ((i + 1 : Nat) : Int) > l.length; omega) ?_))))
    refine Ev.succ ?_
    simp only [tangramlaw01_NumsLies.j1]
    refine Ev.neg (by simp; omega) ?_
    refine lies_l1 l _ _ ⟨2, i, ((i + 1 : Nat) : Int), 0⟩ i (by omega) hl rfl ?_ (i - a) a (by omega) hb
    refine Ev.succ ?_
    simp only [tangramlaw01_NumsLies.l1]
    refine Ev.neg (by omega) (Ev.neg (by omega) (Ev.pos trivial (Ev.pos (by omega) (Ev.pos (by omega) (Ev.pos ht (Ev.pos (by rw [w64 (by omega) (by omega)]; omega) ?_))))))
    rw [hn]
    exact next
theorem NumsLies : tangramlaw01_NumsLies.Pure := by
  intro l0 hm hl hw
  refine Ev.out ?_
  unfold tangramlaw01_NumsLies.f tangramlaw01_awake.f
  simp only [Option.bind_some, List.nil_append, List.length_nil]
  refine Ev.pos (by simp) (Ev.pos (by omega) ?_)
  simp only [nums_scan l0 (by omega), Option.bind_some]
  cases e : scanF l0 with
  | error ab =>
    have h0 : ab.2 ≠ 0 := by
      unfold scanF at e
      split at e
      · cases e; decide
      · rw [scn_of l0 l0.length 0 [] (by omega) (by omega), map_nil] at e
        exact (scn_code l0 _ 0 (Nat.le_refl _) (by omega) ab e)
    exact Ev.neg h0 (Ev.val rfl)
  | ok ts =>
    have hlen : l0.length ≤ 33554432 := by
      rcases Nat.lt_or_ge 33554432 l0.length with c | c
      · unfold scanF at e
        rw [if_pos c] at e
        cases e
      · exact c
    rw [scanF_eq l0 hlen] at e
    have := scn_len l0 _ 0 ts (Nat.le_refl _) (by omega) e
    refine Ev.pos rfl ?_
    exact lies_l0 l0 hlen (lies_of l0 _ 0 ts (Nat.le_refl _) (by omega) e 0 (by omega) (fun k h1 h2 => by omega)) [] (by simp; omega)
end Go.Proofs.YtjgaicdieddekaaDoor.Pure
