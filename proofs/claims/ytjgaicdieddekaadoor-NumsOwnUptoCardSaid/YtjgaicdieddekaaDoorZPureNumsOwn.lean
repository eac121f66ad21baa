/- What is handed to nums.Scan and nums.Line stays, its spare room too; Scan's tokens are new memory; where what is read is of bulk at most 1048576. -/
import Derived.Test.YtjgaicdieddekaaDoorZPNumAx16
import Derived.Test.YtjgaicdieddekaaDoorZXNumQ
set_option linter.unusedVariables false
namespace Go.Proofs.YtjgaicdieddekaaDoor.Pure
open Go.RowKit Go.Proofs.YtjgaicdieddekaaDoor.PNumA Go.Proofs.YtjgaicdieddekaaDoorW.PrintWords Go.Proofs.YtjgaicdieddekaaDoorW.PrintLast
open Go.Proofs.YtjgaicdieddekaaDoorX
theorem rd_at (l r : List Int) (v : Int) (i : Nat) (h : r[i]? = some v) (j : Int) (hj : j = (l.length : Int) + i) : Go.Proofs.YtjgaicdieddekaaDoorW.PrintWords.rd (l ++ r) j = v := by
  subst hj
  rw [show ((l.length : Int) + (i : Int)) = ((l.length + i : Nat) : Int) by omega]
  show (l ++ r).getD ((l.length + i : Nat) : Int).toNat 0 = v
  rw [Int.toNat_natCast, List.getD_eq_getElem?_getD, List.getElem?_append_right (by omega), Nat.add_sub_cancel_left, h]
  rfl
theorem same_ints (l : List Int) (hl : l.length ≤ 4398046511104) : Ev (fun k => tangramref01_SameInts.f k l l) true := by
  have loop : ∀ d i, i + d = l.length → Ev (fun k => tangramref01_SameInts.l0 k l l (i : Int)) true := by
    intro d
    induction d with
    | zero =>
      intro i hi
      refine Ev.succ ?_
      simp only [tangramref01_SameInts.l0]
      exact Ev.neg (by omega) (Ev.now _)
    | succ d ih =>
      intro i hi
      refine Ev.succ ?_
      simp only [tangramref01_SameInts.l0]
      refine Ev.pos (by omega) (Ev.pos (by omega) (Ev.pos (by omega) (Ev.pos (by simp) ?_)))
      rw [w64 (by omega) (by omega)]
      exact ih (i + 1) (by omega)
  unfold tangramref01_SameInts.f
  exact Ev.pos rfl (loop l.length 0 (by omega))
theorem own_end (l1 : List Int) (xs : List S34) (hl : l1.length ≤ 1048576) (hw : ∀ x ∈ l1, -9223372036854775808 ≤ x ∧ x ≤ 9223372036854775807) (hx : xs.length ≤ 4398046511104) :
    ∀ d (i : Nat) (x7 : List S34), i + d = 40 → x7.length ≤ 33554433 + i → Ev (fun k => tangramlaw01_NumsOwn.l1 k l1 x7 xs xs (i : Int)) true := by
  intro d
  induction d with
  | zero =>
    intro i x7 hi h7
    obtain rfl : i = 40 := by omega
    refine Ev.succ ?_
    simp only [tangramlaw01_NumsOwn.l1, Option.bind_some, List.nil_append, List.length_nil]
    refine Ev.neg (by omega) (Ev.pos (by omega) (Ev.pos (by omega) (Ev.pos (by omega) (Ev.pos (by simp; omega) ?_))))
    have e : (l1 ++ [5]).take ((l1.length : Int) : Int).toNat = l1 := by simp
    simp only [e]
    refine Ev.bind (nums_line l1 hw (by omega)) (Ev.bind (same_tokens xs hx) (Ev.pos (by simp) (Ev.bind (same_ints l1 (by omega)) (Ev.pos (by simp) (Ev.pos (by simp; omega) (Ev.val ?_))))))
    rw [rd_at l1 [5] 5 0 rfl _ (by omega)]
    rfl
  | succ d ih =>
    intro i x7 hi h7
    refine Ev.succ ?_
    simp only [tangramlaw01_NumsOwn.l1]
    refine Ev.pos (by omega) (Ev.pos (by omega) ?_)
    rw [w64 (by omega) (by omega)]
    exact ih (i + 1) _ (by omega) (by simp; omega)
theorem own_sets (l1 : List Int) (xs : List S34) (hl : l1.length ≤ 1048576) (hw : ∀ x ∈ l1, -9223372036854775808 ≤ x ∧ x ≤ 9223372036854775807) (hx : xs.length ≤ 33554433) :
    ∀ d (i : Nat) (x7 : List S34), x7.length = xs.length → i + d = xs.length → Ev (fun k => tangramlaw01_NumsOwn.l0 k l1 x7 xs xs (xs.length : Int) (i : Int)) true := by
  intro d
  induction d with
  | zero =>
    intro i x7 h7 hi
    refine Ev.succ ?_
    simp only [tangramlaw01_NumsOwn.l0]
    exact Ev.neg (by omega) (own_end l1 xs hl hw (by omega) 40 0 x7 (by omega) (by omega))
  | succ d ih =>
    intro i x7 h7 hi
    refine Ev.succ ?_
    simp only [tangramlaw01_NumsOwn.l0]
    refine Ev.pos (by omega) (Ev.pos (by omega) (Ev.pos (by omega) ?_))
    rw [w64 (by omega) (by omega)]
    exact ih (i + 1) _ (by simp [h7]) (by omega)
theorem NumsOwn : tangramlaw01_NumsOwn.Pure := by
  intro l0 l1 hm0 hl0 hw0 hm1 hl1 hw1
  have hb := bytes_of hw0
  have hi := ints_of hw1
  have hx := ans_len l0
  refine Ev.out ?_
  unfold tangramlaw01_NumsOwn.f tangramlaw01_awake.f
  simp only [Option.bind_some, List.nil_append, List.length_nil]
  refine Ev.pos (by simp) (Ev.pos (by omega) (Ev.pos (by simp; omega) (Ev.pos (by omega) (Ev.pos (by simp; omega) ?_))))
  have e : (l0 ++ [7, 8]).take ((l0.length : Int) : Int).toNat = l0 := by simp
  simp only [e, nums_scan l0 (by omega), Option.bind_some]
  refine Ev.bind (ref_scan l0 hb) ?_
  rw [w64 (by omega) (by omega)]
  have e1 := rd_at l0 [7, 8] 7 0 rfl (l0.length : Int) (by omega)
  have e2 := rd_at l0 [7, 8] 8 1 rfl ((l0.length : Int) + 1) (by omega)
  refine Ev.pos trivial (Ev.pos (by simp only [List.length_append, List.length_cons, List.length_nil]; omega) (Ev.pos e1 (Ev.pos (by omega) (Ev.pos (by simp only [List.length_append, List.length_cons, List.length_nil]; omega) (Ev.pos e2 ?_)))))
  refine Ev.bind (same_tokens _ (by omega)) ?_
  refine Ev.succ ?_
  simp only [tangramlaw01_NumsOwn.j0]
  exact Ev.neg (by simp) (own_sets l1 _ hl1 hi hx (ansR (scanF l0)).1.length 0 _ rfl (by omega))
end Go.Proofs.YtjgaicdieddekaaDoor.Pure
