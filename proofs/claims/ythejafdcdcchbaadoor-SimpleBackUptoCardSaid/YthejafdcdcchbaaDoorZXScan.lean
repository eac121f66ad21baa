import Derived.Test.YthejafdcdcchbaaDoorZPSimAx0
import Derived.Defers
import Derived.Recover
-- nums.Scan's methods by hand: the scanner's block, its row of tokens; digit, put, run, all, Scan.
set_option linter.unusedVariables false
set_option linter.unusedSimpArgs false
namespace Go.Proofs.YthejafdcdcchbaaDoor.PSimA
open Go.RowKit Go.Proofs.YthejafdcdcchbaaDoorW.PrintWords Go.Proofs.YthejafdcdcchbaaDoorW.PrintLast Go.Proofs.YthejafdcdcchbaaDoorW.PrintMore Go.Proofs.YthejafdcdcchbaaDoorX
theorem info95 : (Tryd.prog.info? 95).map (fun i => (i.zero, i.size, i.bytes)) = some (some (.agg #[(.int .i64 0), (.int .i64 0), (.int .i64 0), (.int .i64 0)]), 4, 32) := by kernel_rfl
attribute [local go_sem] max2_int min2_int max_two min_two max_three min_three max_four min_four   -- for this text's walks alone
/-- The scanner at block g of W: bytes that came in by w, the place, the tokens' row of the call's own. -/
def Sc (w W : World) (g : Nat) (A : Option Addr) (c : Nat) (l : List Int) (at_ : Int) (u : Value) (xs : List S95) : Prop :=
  W.heap[g]? = some (.cells #[.slice A l.length c, .int .i64 at_, u] 108 (0, 0)) ∧ Kd.R k95 95 W w.heap.size (fun k_ => k_ ≠ g) u xs ∧ Below w.heap.size w W
theorem Sc.drewN {w W : World} {g : Nat} {A : Option Addr} {c : Nat} {l : List Int} {at_ : Int} {u : Value} {xs : List S95} (h : Sc w W g A c l at_ u xs) (n : Nat) : Sc w (W.drewN n) g A c l at_ u xs := ⟨blk_drewN h.1 n, Kd.R_drewN h.2.1 n, pw_below_drewN h.2.2 n⟩
def digB (l : List Int) (i : Int) : Bool := decide (i < l.length ∧ 48 ≤ rd l i ∧ rd l i ≤ 57)
set_option maxHeartbeats 4000000 in
set_option maxRecDepth 100000 in
theorem digit_c {w W : World} {g : Nat} {A : Option Addr} {c : Nat} {l : List Int} {at_ : Int} {u : Value} {xs : List S95} (hC : Kd.C (Kd.int .u8) w A l.length l) (h0 : 0 ≤ at_) (h : Sc w W g A c l at_ u xs) :
    Calls Tryd.prog 71 #[.pointer (some ⟨g, 0, none⟩)] W fun e w' => e = .returned (.bool (digB l at_)) ∧ Sc w w' g A c l at_ u xs := by
  have hcz_0 := blk_cell h.1 0
  have hcz_1 := blk_cell h.1 1
  have hcz_2 := blk_cell h.1 2
  replace hcz_0 : W.cell? ⟨g, 0, none⟩ = some (.slice A l.length c) := hcz_0.trans rfl
  replace hcz_1 : W.cell? ⟨g, 1, none⟩ = some (.int .i64 at_) := hcz_1.trans rfl
  replace hcz_2 : W.cell? ⟨g, 2, none⟩ = some u := hcz_2.trans rfl
  have HS := Aside0.mk h
  have p := eq_true h0
  by_cases c1 : at_ < (l.length : Int)
  · obtain ⟨ad, e, hx⟩ := Kd.at_int hC at_ h0 c1
    cases e
    replace hx := pw_cell_below HS.out.2.2 hx
    have c1b : decide (at_ < (l.length : Int)) = true := decide_eq_true c1
    have q := eq_true c1
    by_cases c2 : 48 ≤ rd l at_
    · have c2b : decide (48 ≤ rd l at_) = true := decide_eq_true c2
      have e : digB l at_ = decide (rd l at_ ≤ 57) := by unfold digB; rw [decide_eq_decide]; omega
      rw [e]
      clear e c1 c2 h h0
      go_enter Tryd.func71, Tryd.ntmps71
      go_wp2
      repeat (go_quiet (fail); try go_wp2)
      go_ret
      exact ⟨by first | rfl | (simp; done) | (simp [*]; done), Sc.drewN HS.out _⟩
    · have c2b : decide (48 ≤ rd l at_) = false := decide_eq_false c2
      have e : digB l at_ = false := by unfold digB; rw [decide_eq_false_iff_not]; omega
      rw [e]
      clear e c1 c2 h h0
      go_enter Tryd.func71, Tryd.ntmps71
      go_wp2
      repeat (go_quiet (fail); try go_wp2)
      go_ret
      exact ⟨by first | rfl | (simp; done) | (simp [*]; done), Sc.drewN HS.out _⟩
  · have c1b : decide (at_ < (l.length : Int)) = false := decide_eq_false c1
    have e : digB l at_ = false := by unfold digB; rw [decide_eq_false_iff_not]; omega
    rw [e]
    clear e c1 h h0
    go_enter Tryd.func71, Tryd.ntmps71
    go_wp2
    repeat (go_quiet (fail); try go_wp2)
    go_ret
    exact ⟨by first | rfl | (simp; done) | (simp [*]; done), Sc.drewN HS.out _⟩
def put_T : Bool × List (List Nat × List Nat) := (true, [([], []), ([], []), ([1], [1]), ([2], [2]), ([3], [3]), ([], []), ([], []), ([], []), ([7], [7]), ([8], [8]), ([9], [9]), ([], []), ([5, 6, 10, 11], [5, 6, 10, 11]), ([12], [12]), ([4, 13], [4, 13]), ([0, 0, 1, 2, 3, 4, 5, 6, 7, 8, 9, 10, 11, 12, 13, 14], [0]), ([15, 0, 1, 2, 3, 4, 5, 6, 7, 8, 9, 10, 11, 12, 13, 14], [15]), ([16, 14, 14, 0, 1, 2, 3, 4, 5, 6, 7, 8, 9, 10, 11, 12, 13, 14], [14, 16])])
def put_B : List Nat := [0, 0, 2, 6, 14, 0, 0, 0, 128, 384, 896, 0, 4064, 8160, 16382, 32767, 65535, 131071]
theorem put_tab : rtab .any (opsOf Tryd.f73 0) = put_T := by kernel_rfl
theorem put_bits : waitsOk put_T.2 put_B = true := by kernel_rfl
set_option maxHeartbeats 8000000 in
set_option maxRecDepth 100000 in
theorem put_c {w W : World} {g : Nat} {A : Option Addr} {c : Nat} {l : List Int} {at_ : Int} {u : Value} {xs : List S95} (kd fr n : Int) (hge : w.heap.size ≤ g) (hx : xs.length < 4398046511104) (h : Sc w W g A c l at_ u xs) :
    Calls Tryd.prog 73 #[.pointer (some ⟨g, 0, none⟩), .int .i64 kd, .int .i64 fr, .int .i64 n] W fun e w' => e = .returned (.tuple #[]) ∧ ∃ u', Sc w w' g A c l at_ u' (xs ++ [⟨kd, fr, at_, n⟩]) := by
  have hu64 := Tryd.underlying108
  have hu50 := Tryd.underlying95
  obtain ⟨B0, O0, HB0⟩ := h
  obtain ⟨Ao, co, eo⟩ := Kd.R_slice O0
  subst eo
  have BK103 := Aside0.mk B0
  have HO := Aside0.mk O0
  have HB := Aside0.mk HB0
  have GE103 := Aside0.mk hge
  have LM := Aside0.mk hx
  clear B0 O0 HB0 hge hx
  obtain ⟨y104, hy104⟩ : ∃ y_ : List (S95), y_ = (xs ++ [(⟨kd, fr, at_, n⟩ : S95)]) := ⟨_, rfl⟩
  have Ny104 := Aside0.mk hy104
  clear hy104
  go_enter Tryd.func73, Tryd.ntmps73
  try go_wp2
  replace BK103 := bd BK103
  replace HO := rd HO
  replace HB := Aside0.mk (below_drew1 HB.out)
  refine start_ (n := 18) (S := fun w' => w'.cell? ⟨g, 0, none⟩ = some (.slice A l.length c) ∧ w'.cell? ⟨g, 1, none⟩ = some (.int .i64 at_) ∧ w'.cell? ⟨g, 2, none⟩ = some (.slice Ao xs.length co)) (ds := [17]) (pf 0 18) (by kernel_rfl) rfl rfl ⟨bc BK103 0, bc BK103 1, bc BK103 2⟩ (fun hHeld => ?_)
  refine with_tabW put_tab put_bits (fun HT_ HW_ => ?_)
  generalize W.drew = w8 at BK103 HO HB hHeld ⊢
  refine pu_ 0 (some 8) (pf 1 18) HT_ ?_
  refine pu_ 1 (some 9) (pf 2 18) HT_ ?_
  refine pu_ 2 (some 10) (pf 3 18) HT_ ?_
  refine pu_ 3 (some 11) (pf 4 18) HT_ ?_
  refine pu_ 5 (some 13) #[T_,T_,T_,T_,F_,T_,F_,F_,F_,F_,F_,F_,F_,F_,F_,F_,F_,F_] HT_ ?_
  refine pu_ 6 (some 14) #[T_,T_,T_,T_,F_,T_,T_,F_,F_,F_,F_,F_,F_,F_,F_,F_,F_,F_] HT_ ?_
  refine pu_ 7 (some 15) #[T_,T_,T_,T_,F_,T_,T_,T_,F_,F_,F_,F_,F_,F_,F_,F_,F_,F_] HT_ ?_
  refine pu_ 8 (some 16) #[T_,T_,T_,T_,F_,T_,T_,T_,T_,F_,F_,F_,F_,F_,F_,F_,F_,F_] HT_ ?_
  refine pu_ 9 (some 17) #[T_,T_,T_,T_,F_,T_,T_,T_,T_,T_,F_,F_,F_,F_,F_,F_,F_,F_] HT_ ?_
  refine pu_ 11 (some 19) #[T_,T_,T_,T_,F_,T_,T_,T_,T_,T_,F_,T_,F_,F_,F_,F_,F_,F_] HT_ ?_
  refine tk3_ 4 (some 12) #[T_,T_,T_,T_,T_,T_,T_,T_,T_,T_,F_,T_,F_,F_,F_,F_,F_,F_] HT_ HW_ hHeld ?_
  refine tk3_ 10 (some 18) (pf 12 18) HT_ HW_ hHeld ?_
  refine pu_ 12 (some 20) (pf 13 18) HT_ ?_
  refine on_ 13 (some 21) (pf 14 18) HT_ (fun K hK => ?_)
  refine value_ (w1 := ?_) (v := ?_) (by rfl) rfl ?_ ?_
  rotate_left 2
  · go_simp
    constructor
    · rfl
    · rfl
  refine hK.out _ _ ⟨(blk_cell (blk_alloc BK103.out _) 0).trans rfl, (blk_cell (blk_alloc BK103.out _) 1).trans rfl, (blk_cell (blk_alloc BK103.out _) 2).trans rfl⟩ (fun hHeld => ?_)
  clear hK K
  refine nm_ (some 21) ?_
  refine on_ 14 (some 22) (pf 15 18) HT_ (fun K hK => ?_)
  refine Kd.R_append_step k95 (w0 := w) w.heap.size (by rfl) (.tmp 12) (.tmp 21) 88 95 (.agg #[(.int .i64 0), (.int .i64 0), (.int .i64 0), (.int .i64 0)]) 32 rfl Tryd.underlying88 info95 rfl (by decide) (by omega) (.slice Ao xs.length co) xs (⟨kd, fr, at_, n⟩ : S95) [.int .i64 kd, .int .i64 fr, .int .i64 at_, .int .i64 n] (fun k_ => k_ ≠ g) (fun _ => False) rfl rfl ?aP (fun _ hk => hk.elim) ?aF ?aO ?aB ?aS ?aL ?_
  case aP => exact k95_mkM _ _ _ (⟨kd, fr, at_, n⟩ : S95)
  case aB => exact (hb1 HB GE103)
  case aF =>
    intro k_ hk_ e_
    subst e_
    exact absurd hk_ (Nat.not_le_of_lt (blk_lt (bx BK103)))
  case aO => exact rx HO
  case aS => exact (below_size (hb1 HB GE103))
  case aL => have := LM.out; omega
  intro v105 w9 ho hb hg hat
  rw [← Ny104.out] at ho
  have hne : some g ≠ (Value.slice Ao xs.length co).ownBlock := fun e_ => HO.out.1 g e_.symm rfl
  replace BK103 := Aside0.mk (blk_grown (bx BK103) hg hne)
  replace HB := Aside0.mk (hb)
  have HO106 := Aside0.mk (ho)
  clear ho hb hg hat hne
  obtain ⟨Ao10, co10, eo10⟩ := Kd.R_slice HO106.out
  first | subst eo10 | obtain ⟨rfl, rfl⟩ := sx eo10
  refine hK.out _ _ ⟨bc BK103 0, bc BK103 1, bc BK103 2⟩ (fun hHeld => ?_)
  clear hK K
  refine nm_ (some 22) ?_
  refine pu_ 15 (some 23) (pf 16 18) HT_ ?_
  refine pu_ 16 (some 24) (pf 17 18) HT_ ?_
  refine last_ (i := 17) (N := none) (pf 18 18) rfl rfl (one_of HT_.out (by kernel_rfl)) (by decide) (fun K hK => ?_)
  have hs11 : w9.cell? ⟨g, 2, none⟩ = some (.slice Ao xs.length co) := bc BK103 2
  have hfs11 := blk_frozen BK103.out 2
  refine skip_ (w1 := ?_) (by rfl) rfl ?_ ?_
  rotate_left
  · go_simp
    rfl
  refine hK.out _ _ ?_
  clear hK K
  refine done_ (done_of HT_.out (by kernel_rfl)) ?_
  try go_wp2
  go_end0
  refine ⟨rfl, .slice Ao10 y104.length co10, ?_⟩
  rw [← Ny104.out]
  exact ⟨bp BK103, Kd.R_far HO106.out (fun _ hk => hk) _, hb1 HB GE103⟩
theorem Sc.setAt {w W : World} {g : Nat} {A : Option Addr} {c : Nat} {l : List Int} {at_ : Int} {u : Value} {xs : List S95} (hge : w.heap.size ≤ g) (h : Sc w W g A c l at_ u xs) (b : Int) : Sc w (W.setCell ⟨g, 1, none⟩ (.int .i64 b)) g A c l b u xs :=
  ⟨blk_put h.1 1 _ rfl, Kd.R_far h.2.1 (fun _ hk => hk) _, below_set h.2.2 hge⟩
/-- The number that m digits from i say: the first nine alone. -/
def val (l : List Int) (i : Nat) : Nat → Int
  | 0 => 0
  | m + 1 => if m < 9 then 10 * val l i m + (rd l ((i + m : Nat) : Int) - 48) else val l i m
def badB (l : List Int) (i m : Nat) : Bool := decide (m > 9 ∨ m > 1 ∧ rd l (i : Int) = 48)
theorem digB_iff (l : List Int) (i : Nat) : digB l (i : Int) = true ↔ i < l.length ∧ 48 ≤ rd l (i : Int) ∧ rd l (i : Int) ≤ 57 := by
  unfold digB
  rw [decide_eq_true_eq]
  omega
theorem val_bound (l : List Int) (i : Nat) : ∀ m, (∀ k, k < m → digB l ((i + k : Nat) : Int) = true) → 0 ≤ val l i m ∧ val l i m < 10 ^ m
  | 0, _ => by simp [val]
  | m + 1, h => by
    have ih := val_bound l i m (fun k hk => h k (by omega))
    have d := (digB_iff l (i + m)).1 (h m (by omega))
    have e : (10 : Int) ^ (m + 1) = 10 * 10 ^ m := by rw [Int.pow_succ]; omega
    unfold val
    rw [e]
    split
    · omega
    · omega
theorem val_lt (l : List Int) (i m : Nat) (h : ∀ k, k < m → digB l ((i + k : Nat) : Int) = true) : 0 ≤ val l i m ∧ val l i m < 1000000000 := by
  by_cases c : m ≤ 9
  · have := val_bound l i m h
    have e : (10 : Int) ^ m ≤ 10 ^ 9 := by
      have : m = 0 ∨ m = 1 ∨ m = 2 ∨ m = 3 ∨ m = 4 ∨ m = 5 ∨ m = 6 ∨ m = 7 ∨ m = 8 ∨ m = 9 := by omega
      rcases this with rfl | rfl | rfl | rfl | rfl | rfl | rfl | rfl | rfl | rfl <;> decide
    omega
  · have e : ∀ q, val l i (9 + q) = val l i 9 := by
      intro q
      induction q with
      | zero => rfl
      | succ q ih =>
        show (if 9 + q < 9 then 10 * val l i (9 + q) + (rd l ((i + (9 + q) : Nat) : Int) - 48) else val l i (9 + q)) = _
        rw [if_neg (by omega), ih]
    have e9 := e (m - 9)
    rw [show 9 + (m - 9) = m by omega] at e9
    have := val_bound l i 9 (fun k hk => h k (by omega))
    rw [e9]
    omega
theorem val_step (l : List Int) (i j : Nat) (h : ∀ k, k < j + 1 → digB l ((i + k : Nat) : Int) = true) (hj : j < 9) : wrap64 (wrap64 (10 * val l i j) + (rd l ((i + j : Nat) : Int) - 48) % 256) = val l i (j + 1) := by
  have v := val_lt l i j (fun k hk => h k (by omega))
  have d := (digB_iff l (i + j)).1 (h j (by omega))
  have e : val l i (j + 1) = 10 * val l i j + (rd l ((i + j : Nat) : Int) - 48) := by
    show (if j < 9 then _ else _) = _
    rw [if_pos hj]
  rw [e]
  unfold wrap64
  omega
theorem val_stay (l : List Int) (i j : Nat) (hj : ¬ j < 9) : val l i (j + 1) = val l i j := by
  show (if j < 9 then _ else _) = _
  rw [if_neg hj]
set_option maxHeartbeats 8000000 in
set_option maxRecDepth 100000 in
theorem run_c {w W : World} {g : Nat} {A : Option Addr} {c : Nat} {l : List Int} {u : Value} {xs : List S95} (i m : Nat) (hC : Kd.C (Kd.int .u8) w A l.length l) (hge : w.heap.size ≤ g) (hl : l.length ≤ 140737488355328) (hx : xs.length < 4398046511104)
    (hm : ∀ k, k < m → digB l ((i + k : Nat) : Int) = true) (hm2 : digB l ((i + m : Nat) : Int) = false) (h : Sc w W g A c l (i : Int) u xs) :
    Calls Tryd.prog 72 #[.pointer (some ⟨g, 0, none⟩)] W fun e w' =>
      if badB l i m then e = .panicked [{ v := .iface 104 (.agg #[.int .i64 i, .int .i64 12]), recovered := false }] ∧ Sc w w' g A c l ((i + m : Nat) : Int) u xs
      else e = .returned (.tuple #[]) ∧ ∃ u', Sc w w' g A c l ((i + m : Nat) : Int) u' (xs ++ [⟨1, i, ((i + m : Nat) : Int), val l i m⟩]) := by
  have HS := Aside0.mk h
  have HM := Aside0.mk hm
  have HM2 := Aside0.mk hm2
  have HC := Aside0.mk hC
  have GE := Aside0.mk hge
  have HL := Aside0.mk hl
  have HX := Aside0.mk hx
  have hcz_0 : W.cell? ⟨g, 0, none⟩ = some (.slice A l.length c) := (blk_cell h.1 0).trans rfl
  have hcz_1 : W.cell? ⟨g, 1, none⟩ = some (.int .i64 (i : Int)) := (blk_cell h.1 1).trans rfl
  have hcz_2 : W.cell? ⟨g, 2, none⟩ = some u := (blk_cell h.1 2).trans rfl
  clear h hm hm2 hC hge hl hx
  go_enter Tryd.func72, Tryd.ntmps72
  go_wp2_with (fail)
  go_loopg [3] m (fun kq v3 w' => ∃ (j : Nat), v3 = .int .i64 (val l i j) ∧ Aside0 (j + kq = m) ∧ Aside0 (Sc w w' g A c l ((i + j : Nat) : Int) u xs))
  case atStart => exact ⟨0, rfl, ⟨by omega⟩, ⟨by simpa using HS.out⟩⟩
  case round =>
    clear hcz_0 hcz_1 hcz_2 HS
    obtain ⟨j, rfl, HJ, HS⟩ := hrel
    obtain ⟨p, hp⟩ : ∃ p : Int, ((i + j : Nat) : Int) = p := ⟨_, rfl⟩
    obtain ⟨nv, hnv⟩ : ∃ nv : Int, val l i j = nv := ⟨_, rfl⟩
    obtain ⟨sz, hsz⟩ : ∃ sz : Int, (j : Int) = sz := ⟨_, rfl⟩
    rw [hp] at HS
    have hw0 := HS.out.2.2
    have HP := Aside0.mk hp
    have HNV := Aside0.mk hnv
    have HSZ := Aside0.mk hsz
    cases gk with
    | zero =>
      have ej : j = m := by have := HJ.out; omega
      subst ej
      have hd : digB l p = false := by rw [← hp]; exact HM2.out
      have e1 : wrap64 (p - (i : Int)) = sz := by rw [← hp, ← hsz]; have := HL.out; have hh : j = 0 ∨ 0 < j := by omega
                                                  rcases hh with hh | hh
                                                  · subst hh; unfold wrap64; omega
                                                  · have := (digB_iff l (i + (j - 1))).1 (HM.out (j - 1) (by omega)); unfold wrap64; omega
      have h0 : 0 ≤ p := by omega
      clear hp hnv hsz
      have hpn : ∀ (t : TypeId) (v : Value) (w : World), (Instr.panic (.iface t v)).run Tryd.prog w = .halt (.panic (.iface t v)) w := fun _ _ _ => rfl
      by_cases b9 : 9 < j
      · have c9 : decide (9 < sz) = true := decide_eq_true (by have := HSZ.out; omega)
        have hbad : badB l i j = true := by unfold badB; rw [decide_eq_true_eq]; omega
        go_wp2_with (first | (go_at_call 71; refine (digit_c HC.out h0 HS.out).mono ?_; rintro e w2 ⟨rfl, HS2⟩; rw [hd]; have HT := Aside0.mk HS2; have hcz_0 : w2.cell? ⟨g, 0, none⟩ = some (.slice A l.length c) := (blk_cell HS2.1 0).trans rfl; have hcz_1 : w2.cell? ⟨g, 1, none⟩ = some (.int .i64 p) := (blk_cell HS2.1 1).trans rfl; have hcz_2 : w2.cell? ⟨g, 2, none⟩ = some u := (blk_cell HS2.1 2).trans rfl; clear HS2))
        all_goals
          refine ⟨rfl, ?_⟩
          (try rw [if_pos hbad])
          refine ⟨rfl, ?_⟩
          have hpp : (i : Int) + (j : Int) = p := by have := HP.out; omega
          rw [hpp]
          exact HT.out
      · have c9 : decide (9 < sz) = false := decide_eq_false (by have := HSZ.out; omega)
        by_cases b1 : 1 < j
        · have c1 : decide (1 < sz) = true := decide_eq_true (by have := HSZ.out; omega)
          have d0 := (digB_iff l i).1 (by simpa using HM.out 0 (by omega))
          have i0 : (0 : Int) ≤ (i : Int) := by omega
          have i1 : (i : Int) < (l.length : Int) := by omega
          obtain ⟨ad, e, hx⟩ := Kd.at_int HC.out (i : Int) i0 i1
          cases e
          have HX2 := Aside0.mk hx
          have q0 := eq_true i0
          have q1 := eq_true i1
          have q2 : decide ((i : Int) < (l.length : Int)) = true := decide_eq_true i1
          clear hx
          by_cases b48 : rd l (i : Int) = 48
          · have c48 : decide (rd l (i : Int) = 48) = true := decide_eq_true b48
            have c48b : (rd l (i : Int) == 48) = true := beq_iff_eq.2 b48
            have hbad : badB l i j = true := by unfold badB; rw [decide_eq_true_eq]; omega
            clear b48
            go_wp2_with (first | (go_at_call 71; refine (digit_c HC.out h0 HS.out).mono ?_; rintro e w2 ⟨rfl, HS2⟩; rw [hd]; have HT := Aside0.mk HS2; have hcz_0 : w2.cell? ⟨g, 0, none⟩ = some (.slice (some ad) l.length c) := (blk_cell HS2.1 0).trans rfl; have hcz_1 : w2.cell? ⟨g, 1, none⟩ = some (.int .i64 p) := (blk_cell HS2.1 1).trans rfl; have hcz_2 : w2.cell? ⟨g, 2, none⟩ = some u := (blk_cell HS2.1 2).trans rfl; have hxx := pw_cell_below HS2.2.2 HX2.out; rw [Int.toNat_natCast] at hxx; clear HS2))
            all_goals
              refine ⟨rfl, ?_⟩
              (try rw [if_pos hbad])
              refine ⟨rfl, ?_⟩
              have hpp : (i : Int) + (j : Int) = p := by have := HP.out; omega
              rw [hpp]
              exact HT.out
          · have c48 : decide (rd l (i : Int) = 48) = false := decide_eq_false b48
            have c48b : (rd l (i : Int) == 48) = false := beq_eq_false_iff_ne.2 b48
            have hbad : badB l i j = false := by unfold badB; rw [decide_eq_false_iff_not]; omega
            clear b48
            go_wp2_with (first | (go_at_call 71; refine (digit_c HC.out h0 HS.out).mono ?_; rintro e w2 ⟨rfl, HS2⟩; rw [hd]; have HT := Aside0.mk HS2; have hcz_0 : w2.cell? ⟨g, 0, none⟩ = some (.slice (some ad) l.length c) := (blk_cell HS2.1 0).trans rfl; have hcz_1 : w2.cell? ⟨g, 1, none⟩ = some (.int .i64 p) := (blk_cell HS2.1 1).trans rfl; have hcz_2 : w2.cell? ⟨g, 2, none⟩ = some u := (blk_cell HS2.1 2).trans rfl; have hxx := pw_cell_below HS2.2.2 HX2.out; rw [Int.toNat_natCast] at hxx; clear HS2) | (go_at_call 73; refine (put_c 1 (i : Int) (val l i j) GE.out HX.out HT.out).mono ?_; rintro e w3 ⟨rfl, u', HU⟩; have HU2 := Aside0.mk HU; clear HU))
            all_goals
              go_end0
              refine ⟨rfl, u', ?_⟩
              have hpp : (i : Int) + (j : Int) = p := by have := HP.out; omega
              rw [hpp]
              exact HU2.out
        · have c1 : decide (1 < sz) = false := decide_eq_false (by have := HSZ.out; omega)
          have hbad : badB l i j = false := by unfold badB; rw [decide_eq_false_iff_not]; omega
          go_wp2_with (first | (go_at_call 71; refine (digit_c HC.out h0 HS.out).mono ?_; rintro e w2 ⟨rfl, HS2⟩; rw [hd]; have HT := Aside0.mk HS2; have hcz_0 : w2.cell? ⟨g, 0, none⟩ = some (.slice A l.length c) := (blk_cell HS2.1 0).trans rfl; have hcz_1 : w2.cell? ⟨g, 1, none⟩ = some (.int .i64 p) := (blk_cell HS2.1 1).trans rfl; have hcz_2 : w2.cell? ⟨g, 2, none⟩ = some u := (blk_cell HS2.1 2).trans rfl; clear HS2) | (go_at_call 73; refine (put_c 1 (i : Int) (val l i j) GE.out HX.out HT.out).mono ?_; rintro e w3 ⟨rfl, u', HU⟩; have HU2 := Aside0.mk HU; clear HU))
          all_goals
            go_end0
            refine ⟨rfl, u', ?_⟩
            have hpp : (i : Int) + (j : Int) = p := by have := HP.out; omega
            rw [hpp]
            exact HU2.out
    | succ k1 =>
      have hd := HM.out j (by have := HJ.out; omega)
      have hd3 := (digB_iff l (i + j)).1 hd
      rw [hp] at hd hd3
      obtain ⟨p1, hp1⟩ : ∃ p1 : Int, p + 1 = p1 := ⟨_, rfl⟩
      have e1 : wrap64 (p - (i : Int)) = sz := by rw [← hp, ← hsz]; have := HL.out; unfold wrap64; omega
      have e2 : wrap64 (p + 1) = p1 := by rw [← hp1, ← hp]; have := HL.out; unfold wrap64; omega
      have h0 : 0 ≤ p := by omega
      have h1 : p < (l.length : Int) := by omega
      obtain ⟨ad, e, hx⟩ := Kd.at_int HC.out p h0 h1
      cases e
      have HX2 := Aside0.mk hx
      have HP1 := Aside0.mk hp1
      have H3 := Aside0.mk hd3
      have q0 := eq_true h0
      have q1 := eq_true h1
      have q2 : decide (p < (l.length : Int)) = true := decide_eq_true h1
      clear hp hnv hsz hp1 hd3 h1 hx
      by_cases cj : j < 9
      · have csz : decide (sz < 9) = true := decide_eq_true (by have := HSZ.out; omega)
        go_wp2_with (first | (go_at_call 71; refine (digit_c HC.out h0 HS.out).mono ?_; rintro e w2 ⟨rfl, HS2⟩; rw [hd]; have HT := Aside0.mk HS2; have hcz_0 : w2.cell? ⟨g, 0, none⟩ = some (.slice (some ad) l.length c) := (blk_cell HS2.1 0).trans rfl; have hcz_1 : w2.cell? ⟨g, 1, none⟩ = some (.int .i64 p) := (blk_cell HS2.1 1).trans rfl; have hcz_2 : w2.cell? ⟨g, 2, none⟩ = some u := (blk_cell HS2.1 2).trans rfl; have hfz_1 := blk_frozen HS2.1 1; have hxx := pw_cell_below HS2.2.2 HX2.out; clear HS2))
        repeat (go_quiet (fail); try go_wp2)
        go_roundg k1
        case measure => omega
        case rel => exact ⟨j + 1, congrArg _ (by have := val_step l i j (fun k hk => HM.out k (by have := HJ.out; omega)) cj; rwa [HP.out] at this), ⟨by have := HJ.out; omega⟩, ⟨by have := Sc.setAt GE.out (Sc.drewN HT.out nq) p1; rwa [show p1 = ((i + (j + 1) : Nat) : Int) by have := HP.out; have := HP1.out; omega] at this ⊢⟩⟩
      · have csz : decide (sz < 9) = false := decide_eq_false (by have := HSZ.out; omega)
        go_wp2_with (first | (go_at_call 71; refine (digit_c HC.out h0 HS.out).mono ?_; rintro e w2 ⟨rfl, HS2⟩; rw [hd]; have HT := Aside0.mk HS2; have hcz_0 : w2.cell? ⟨g, 0, none⟩ = some (.slice (some ad) l.length c) := (blk_cell HS2.1 0).trans rfl; have hcz_1 : w2.cell? ⟨g, 1, none⟩ = some (.int .i64 p) := (blk_cell HS2.1 1).trans rfl; have hcz_2 : w2.cell? ⟨g, 2, none⟩ = some u := (blk_cell HS2.1 2).trans rfl; have hfz_1 := blk_frozen HS2.1 1; have hxx := pw_cell_below HS2.2.2 HX2.out; clear HS2))
        go_roundg k1
        case measure => omega
        case rel => exact ⟨j + 1, congrArg _ (val_stay l i j cj).symm, ⟨by have := HJ.out; omega⟩, ⟨by have := Sc.setAt GE.out HT.out p1; rwa [show p1 = ((i + (j + 1) : Nat) : Int) by have := HP.out; have := HP1.out; omega] at this ⊢⟩⟩
/-- how many digits stand from i on -/
def ndig (l : List Int) : Nat → Nat → Nat
  | 0, _ => 0
  | f + 1, i => if digB l (i : Int) = true then ndig l f (i + 1) + 1 else 0
theorem ndig_all (l : List Int) : ∀ f i k, k < ndig l f i → digB l ((i + k : Nat) : Int) = true
  | 0, i, k, h => by simp [ndig] at h
  | f + 1, i, k, h => by
    unfold ndig at h
    split at h
    · rename_i c
      cases k with
      | zero => exact c
      | succ k =>
        have := ndig_all l f (i + 1) k (by omega)
        rwa [show i + 1 + k = i + (k + 1) by omega] at this
    · omega
theorem ndig_end (l : List Int) : ∀ f i, l.length ≤ i + f → digB l ((i + ndig l f i : Nat) : Int) = false
  | 0, i, h => by
    cases c : digB l ((i + ndig l 0 i : Nat) : Int)
    · rfl
    · have := (digB_iff l _).1 c
      simp only [ndig] at this
      omega
  | f + 1, i, h => by
    unfold ndig
    split
    · have := ndig_end l f (i + 1) (by omega)
      rwa [show i + 1 + ndig l f (i + 1) = i + (ndig l f (i + 1) + 1) by omega] at this
    · rename_i c
      cases q : digB l (i : Int)
      · first | rfl | exact q
      · exact absurd q c
theorem ndig_pos (l : List Int) (f i : Nat) (h : digB l (i : Int) = true) : 0 < ndig l (f + 1) i := by
  unfold ndig
  rw [if_pos h]
  omega
theorem ndig_le (l : List Int) (f i : Nat) (hi : i ≤ l.length) : i + ndig l f i ≤ l.length := by
  cases q : ndig l f i with
  | zero => omega
  | succ k =>
    have := (digB_iff l (i + k)).1 (ndig_all l f i k (by omega))
    omega
def blk (c : Int) : Bool := decide (c = 32 ∨ c = 9 ∨ c = 13)
/-- What the scanner says of the bytes from i on. -/
def scanG (l : List Int) : Nat → Nat → List S95 → Except (Int × Int) (List S95)
  | 0, i, acc => .ok (acc ++ [⟨3, i, i, 0⟩])
  | f + 1, i, acc =>
    if i < l.length then
      if digB l (i : Int) = true then
        if badB l i (ndig l (l.length + 1) i) = true then .error ((i : Int), 12)
        else scanG l f (i + ndig l (l.length + 1) i) (acc ++ [⟨1, i, ((i + ndig l (l.length + 1) i : Nat) : Int), val l i (ndig l (l.length + 1) i)⟩])
      else if rd l (i : Int) = 10 then scanG l f (i + 1) (acc ++ [⟨2, i, ((i + 1 : Nat) : Int), 0⟩])
      else if blk (rd l (i : Int)) = true then scanG l f (i + 1) acc
      else .error ((i : Int), 11)
    else .ok (acc ++ [⟨3, i, i, 0⟩])
def AllP (w w' : World) (g : Nat) (A : Option Addr) (c : Nat) (l : List Int) (e : Ending) : Except (Int × Int) (List S95) → Prop
  | .ok ts => e = .returned (.tuple #[]) ∧ ∃ (a : Int) (u : Value), Sc w w' g A c l a u ts
  | .error (a, b) => e = .panicked [{ v := .iface 104 (.agg #[.int .i64 a, .int .i64 b]), recovered := false }] ∧ Below w.heap.size w w'
set_option maxHeartbeats 8000000 in
set_option maxRecDepth 100000 in
theorem all_c {w W : World} {g : Nat} {A : Option Addr} {c : Nat} {l : List Int} {u : Value} (hC : Kd.C (Kd.int .u8) w A l.length l) (hge : w.heap.size ≤ g) (hl : l.length ≤ 140737488355328) (h : Sc w W g A c l 0 u []) :
    Calls Tryd.prog 57 #[.pointer (some ⟨g, 0, none⟩)] W fun e w' => AllP w w' g A c l e (if 33554432 < l.length then .error (33554432, 10) else scanG l l.length 0 []) := by
  have hpn : ∀ (t : TypeId) (v : Value) (w : World), (Instr.panic (.iface t v)).run Tryd.prog w = .halt (.panic (.iface t v)) w := fun _ _ _ => rfl
  have HS := Aside0.mk h
  have HC := Aside0.mk hC
  have GE := Aside0.mk hge
  have HL := Aside0.mk hl
  have hcz_0 : W.cell? ⟨g, 0, none⟩ = some (.slice A l.length c) := (blk_cell h.1 0).trans rfl
  have hcz_1 : W.cell? ⟨g, 1, none⟩ = some (.int .i64 0) := (blk_cell h.1 1).trans rfl
  have hcz_2 : W.cell? ⟨g, 2, none⟩ = some u := (blk_cell h.1 2).trans rfl
  have hfz_1 := blk_frozen h.1 1
  clear h hC hge hl
  by_cases cl : 33554432 < l.length
  · have clb : decide (33554432 < (l.length : Int)) = true := decide_eq_true (by omega)
    rw [if_pos cl]
    clear cl
    go_enter Tryd.func57, Tryd.ntmps57
    go_wp2_with (fail)
    refine ⟨rfl, ?_⟩
    unfold AllP
    exact ⟨rfl, HS.out.2.2⟩
  · have clb : decide (33554432 < (l.length : Int)) = false := decide_eq_false (by omega)
    rw [if_neg cl]
    obtain ⟨R, hR⟩ : ∃ R, scanG l l.length 0 [] = R := ⟨_, rfl⟩
    rw [hR]
    have HR := Aside0.mk hR
    have HCL := Aside0.mk cl
    clear cl hR
    go_enter Tryd.func57, Tryd.ntmps57
    go_wp2_with (fail)
    go_loopg [] l.length (fun kq w' => ∃ (i : Nat) (acc : List S95) (u : Value), Aside0 (scanG l kq i acc = R) ∧ Aside0 (i ≤ l.length ∧ l.length ≤ i + kq ∧ acc.length ≤ i) ∧ Aside0 (Sc w w' g A c l (i : Int) u acc))
    case atStart => exact ⟨0, [], u, HR, ⟨by simp⟩, HS⟩
    case round =>
      clear hcz_0 hcz_1 hcz_2 hfz_1 HS HR u
      obtain ⟨i, acc, u, HR, HI, HS⟩ := hrel
      have hcz_0 : wr.cell? ⟨g, 0, none⟩ = some (.slice A l.length c) := (blk_cell HS.out.1 0).trans rfl
      have hcz_1 : wr.cell? ⟨g, 1, none⟩ = some (.int .i64 (i : Int)) := (blk_cell HS.out.1 1).trans rfl
      have hcz_2 : wr.cell? ⟨g, 2, none⟩ = some u := (blk_cell HS.out.1 2).trans rfl
      have hfz_1 := blk_frozen HS.out.1 1
      have ab : acc.length < 4398046511104 := by have := HI.out; have := HCL.out; omega
      have i0 : (0 : Int) ≤ (i : Int) := by omega
      by_cases ce : i < l.length
      · have i1 : (i : Int) < (l.length : Int) := by omega
        have q2 : decide ((i : Int) < (l.length : Int)) = true := decide_eq_true i1
        obtain ⟨ad, e, hx⟩ := Kd.at_int HC.out (i : Int) i0 i1
        cases e
        have hxx := pw_cell_below HS.out.2.2 hx
        rw [Int.toNat_natCast] at hxx
        have HX2 := Aside0.mk hxx
        have q0 := eq_true i0
        have q1 := eq_true i1
        obtain ⟨p1, hp1⟩ : ∃ p1 : Int, (i : Int) + 1 = p1 := ⟨_, rfl⟩
        have e2 : wrap64 ((i : Int) + 1) = p1 := by rw [← hp1]; have := HL.out; unfold wrap64; omega
        have e3 : wrap64 (p1 - 1) = (i : Int) := by rw [← hp1]; have := HL.out; unfold wrap64; omega
        have HP1 := Aside0.mk hp1
        clear hx hp1 i1
        cases gk with
        | zero => exact absurd HI.out.2.1 (by omega)
        | succ k1 =>
          have hr := HR.out
          simp only [scanG] at hr
          rw [if_pos ce] at hr
          by_cases hd : digB l (i : Int) = true
          · rw [if_pos hd] at hr
            by_cases hb : badB l i (ndig l (l.length + 1) i) = true
            · rw [if_pos hb] at hr
              have HR2 := Aside0.mk hr
              clear hr HR
              go_wp2_with (first | (go_at_call 71; refine (digit_c HC.out i0 (by first | exact HS.out | exact Sc.drewN HS.out _ | exact Sc.drewN (Sc.drewN HS.out _) _ | exact Sc.drewN (Sc.drewN (Sc.drewN HS.out _) _) _)).mono ?_; rintro e w2 ⟨rfl, HS2⟩; rw [hd]; have HT := Aside0.mk HS2; have hcz_0 : w2.cell? ⟨g, 0, none⟩ = some (.slice (some ad) l.length c) := (blk_cell HS2.1 0).trans rfl; have hcz_1 : w2.cell? ⟨g, 1, none⟩ = some (.int .i64 (i : Int)) := (blk_cell HS2.1 1).trans rfl; have hcz_2 : w2.cell? ⟨g, 2, none⟩ = some u := (blk_cell HS2.1 2).trans rfl; have hfz_1 := blk_frozen HS2.1 1; clear HS2) | (go_at_call 72; refine (run_c i (ndig l (l.length + 1) i) HC.out GE.out HL.out ab (ndig_all l (l.length + 1) i) (ndig_end l (l.length + 1) i (by omega)) HT.out).mono ?_; rintro e w3 hrun; rw [if_pos hb] at hrun; obtain ⟨rfl, hrun⟩ := hrun; have HU := Aside0.mk hrun; clear hrun))
              repeat (go_quiet (first | (go_at_call 71; refine (digit_c HC.out i0 (by first | exact HS.out | exact Sc.drewN HS.out _ | exact Sc.drewN (Sc.drewN HS.out _) _ | exact Sc.drewN (Sc.drewN (Sc.drewN HS.out _) _) _)).mono ?_; rintro e w2 ⟨rfl, HS2⟩; rw [hd]; have HT := Aside0.mk HS2; have hcz_0 : w2.cell? ⟨g, 0, none⟩ = some (.slice (some ad) l.length c) := (blk_cell HS2.1 0).trans rfl; have hcz_1 : w2.cell? ⟨g, 1, none⟩ = some (.int .i64 (i : Int)) := (blk_cell HS2.1 1).trans rfl; have hcz_2 : w2.cell? ⟨g, 2, none⟩ = some u := (blk_cell HS2.1 2).trans rfl; have hfz_1 := blk_frozen HS2.1 1; clear HS2) | (go_at_call 72; refine (run_c i (ndig l (l.length + 1) i) HC.out GE.out HL.out ab (ndig_all l (l.length + 1) i) (ndig_end l (l.length + 1) i (by omega)) HT.out).mono ?_; rintro e w3 hrun; rw [if_pos hb] at hrun; obtain ⟨rfl, hrun⟩ := hrun; have HU := Aside0.mk hrun; clear hrun)); try go_wp2_with (first | (go_at_call 71; refine (digit_c HC.out i0 (by first | exact HS.out | exact Sc.drewN HS.out _ | exact Sc.drewN (Sc.drewN HS.out _) _ | exact Sc.drewN (Sc.drewN (Sc.drewN HS.out _) _) _)).mono ?_; rintro e w2 ⟨rfl, HS2⟩; rw [hd]; have HT := Aside0.mk HS2; have hcz_0 : w2.cell? ⟨g, 0, none⟩ = some (.slice (some ad) l.length c) := (blk_cell HS2.1 0).trans rfl; have hcz_1 : w2.cell? ⟨g, 1, none⟩ = some (.int .i64 (i : Int)) := (blk_cell HS2.1 1).trans rfl; have hcz_2 : w2.cell? ⟨g, 2, none⟩ = some u := (blk_cell HS2.1 2).trans rfl; have hfz_1 := blk_frozen HS2.1 1; clear HS2) | (go_at_call 72; refine (run_c i (ndig l (l.length + 1) i) HC.out GE.out HL.out ab (ndig_all l (l.length + 1) i) (ndig_end l (l.length + 1) i (by omega)) HT.out).mono ?_; rintro e w3 hrun; rw [if_pos hb] at hrun; obtain ⟨rfl, hrun⟩ := hrun; have HU := Aside0.mk hrun; clear hrun)))
              refine ⟨rfl, ?_⟩
              rw [← HR2.out]
              unfold AllP
              exact ⟨rfl, HU.out.2.2⟩
            · rw [if_neg hb] at hr
              have HR2 := Aside0.mk hr
              clear hr HR
              go_wp2_with (first | (go_at_call 71; refine (digit_c HC.out i0 (by first | exact HS.out | exact Sc.drewN HS.out _ | exact Sc.drewN (Sc.drewN HS.out _) _ | exact Sc.drewN (Sc.drewN (Sc.drewN HS.out _) _) _)).mono ?_; rintro e w2 ⟨rfl, HS2⟩; rw [hd]; have HT := Aside0.mk HS2; have hcz_0 : w2.cell? ⟨g, 0, none⟩ = some (.slice (some ad) l.length c) := (blk_cell HS2.1 0).trans rfl; have hcz_1 : w2.cell? ⟨g, 1, none⟩ = some (.int .i64 (i : Int)) := (blk_cell HS2.1 1).trans rfl; have hcz_2 : w2.cell? ⟨g, 2, none⟩ = some u := (blk_cell HS2.1 2).trans rfl; have hfz_1 := blk_frozen HS2.1 1; clear HS2) | (go_at_call 72; refine (run_c i (ndig l (l.length + 1) i) HC.out GE.out HL.out ab (ndig_all l (l.length + 1) i) (ndig_end l (l.length + 1) i (by omega)) HT.out).mono ?_; rintro e w3 hrun; rw [if_neg hb] at hrun; obtain ⟨rfl, u', hrun⟩ := hrun; have HU := Aside0.mk hrun; clear hrun))
              repeat (go_quiet (first | (go_at_call 71; refine (digit_c HC.out i0 (by first | exact HS.out | exact Sc.drewN HS.out _ | exact Sc.drewN (Sc.drewN HS.out _) _ | exact Sc.drewN (Sc.drewN (Sc.drewN HS.out _) _) _)).mono ?_; rintro e w2 ⟨rfl, HS2⟩; rw [hd]; have HT := Aside0.mk HS2; have hcz_0 : w2.cell? ⟨g, 0, none⟩ = some (.slice (some ad) l.length c) := (blk_cell HS2.1 0).trans rfl; have hcz_1 : w2.cell? ⟨g, 1, none⟩ = some (.int .i64 (i : Int)) := (blk_cell HS2.1 1).trans rfl; have hcz_2 : w2.cell? ⟨g, 2, none⟩ = some u := (blk_cell HS2.1 2).trans rfl; have hfz_1 := blk_frozen HS2.1 1; clear HS2) | (go_at_call 72; refine (run_c i (ndig l (l.length + 1) i) HC.out GE.out HL.out ab (ndig_all l (l.length + 1) i) (ndig_end l (l.length + 1) i (by omega)) HT.out).mono ?_; rintro e w3 hrun; rw [if_neg hb] at hrun; obtain ⟨rfl, u', hrun⟩ := hrun; have HU := Aside0.mk hrun; clear hrun)); try go_wp2_with (first | (go_at_call 71; refine (digit_c HC.out i0 (by first | exact HS.out | exact Sc.drewN HS.out _ | exact Sc.drewN (Sc.drewN HS.out _) _ | exact Sc.drewN (Sc.drewN (Sc.drewN HS.out _) _) _)).mono ?_; rintro e w2 ⟨rfl, HS2⟩; rw [hd]; have HT := Aside0.mk HS2; have hcz_0 : w2.cell? ⟨g, 0, none⟩ = some (.slice (some ad) l.length c) := (blk_cell HS2.1 0).trans rfl; have hcz_1 : w2.cell? ⟨g, 1, none⟩ = some (.int .i64 (i : Int)) := (blk_cell HS2.1 1).trans rfl; have hcz_2 : w2.cell? ⟨g, 2, none⟩ = some u := (blk_cell HS2.1 2).trans rfl; have hfz_1 := blk_frozen HS2.1 1; clear HS2) | (go_at_call 72; refine (run_c i (ndig l (l.length + 1) i) HC.out GE.out HL.out ab (ndig_all l (l.length + 1) i) (ndig_end l (l.length + 1) i (by omega)) HT.out).mono ?_; rintro e w3 hrun; rw [if_neg hb] at hrun; obtain ⟨rfl, u', hrun⟩ := hrun; have HU := Aside0.mk hrun; clear hrun)))
              go_roundg k1
              case measure => omega
              case rel => exact ⟨i + ndig l (l.length + 1) i, _, u', HR2, ⟨by have := HI.out; have := ndig_le l (l.length + 1) i (by omega); have := ndig_pos l l.length i hd; simp; omega⟩, HU⟩
          · have hd : digB l (i : Int) = false := by cases q : digB l (i : Int); rfl; exact absurd q hd
            rw [if_neg (by rw [hd]; decide)] at hr
            by_cases b10 : rd l (i : Int) = 10
            · rw [if_pos b10] at hr
              have HR2 := Aside0.mk hr
              clear hr HR
              have c10 : decide (rd l (i : Int) = 10) = true := decide_eq_true b10
              have c10b : (rd l (i : Int) == 10) = true := beq_iff_eq.2 b10
              clear b10
              go_wp2_with (first | (go_at_call 71; refine (digit_c HC.out i0 (by first | exact HS.out | exact Sc.drewN HS.out _ | exact Sc.drewN (Sc.drewN HS.out _) _ | exact Sc.drewN (Sc.drewN (Sc.drewN HS.out _) _) _)).mono ?_; rintro e w2 ⟨rfl, HS2⟩; rw [hd]; have HT := Aside0.mk HS2; have hcz_0 : w2.cell? ⟨g, 0, none⟩ = some (.slice (some ad) l.length c) := (blk_cell HS2.1 0).trans rfl; have hcz_1 : w2.cell? ⟨g, 1, none⟩ = some (.int .i64 (i : Int)) := (blk_cell HS2.1 1).trans rfl; have hcz_2 : w2.cell? ⟨g, 2, none⟩ = some u := (blk_cell HS2.1 2).trans rfl; have hfz_1 := blk_frozen HS2.1 1; clear HS2) | (go_at_call 73; refine (put_c 2 (i : Int) 0 GE.out ab (Sc.setAt GE.out HT.out p1)).mono ?_; rintro e w3 ⟨rfl, u', HU⟩; have HU2 := Aside0.mk HU; clear HU))
              repeat (go_quiet (first | (go_at_call 71; refine (digit_c HC.out i0 (by first | exact HS.out | exact Sc.drewN HS.out _ | exact Sc.drewN (Sc.drewN HS.out _) _ | exact Sc.drewN (Sc.drewN (Sc.drewN HS.out _) _) _)).mono ?_; rintro e w2 ⟨rfl, HS2⟩; rw [hd]; have HT := Aside0.mk HS2; have hcz_0 : w2.cell? ⟨g, 0, none⟩ = some (.slice (some ad) l.length c) := (blk_cell HS2.1 0).trans rfl; have hcz_1 : w2.cell? ⟨g, 1, none⟩ = some (.int .i64 (i : Int)) := (blk_cell HS2.1 1).trans rfl; have hcz_2 : w2.cell? ⟨g, 2, none⟩ = some u := (blk_cell HS2.1 2).trans rfl; have hfz_1 := blk_frozen HS2.1 1; clear HS2) | (go_at_call 73; refine (put_c 2 (i : Int) 0 GE.out ab (Sc.setAt GE.out HT.out p1)).mono ?_; rintro e w3 ⟨rfl, u', HU⟩; have HU2 := Aside0.mk HU; clear HU)); try go_wp2_with (first | (go_at_call 71; refine (digit_c HC.out i0 (by first | exact HS.out | exact Sc.drewN HS.out _ | exact Sc.drewN (Sc.drewN HS.out _) _ | exact Sc.drewN (Sc.drewN (Sc.drewN HS.out _) _) _)).mono ?_; rintro e w2 ⟨rfl, HS2⟩; rw [hd]; have HT := Aside0.mk HS2; have hcz_0 : w2.cell? ⟨g, 0, none⟩ = some (.slice (some ad) l.length c) := (blk_cell HS2.1 0).trans rfl; have hcz_1 : w2.cell? ⟨g, 1, none⟩ = some (.int .i64 (i : Int)) := (blk_cell HS2.1 1).trans rfl; have hcz_2 : w2.cell? ⟨g, 2, none⟩ = some u := (blk_cell HS2.1 2).trans rfl; have hfz_1 := blk_frozen HS2.1 1; clear HS2) | (go_at_call 73; refine (put_c 2 (i : Int) 0 GE.out ab (Sc.setAt GE.out HT.out p1)).mono ?_; rintro e w3 ⟨rfl, u', HU⟩; have HU2 := Aside0.mk HU; clear HU)))
              go_roundg k1
              case measure => omega
              case rel => exact ⟨i + 1, _, u', HR2, ⟨by have := HI.out; simp; omega⟩, ⟨by have := HU2.out; rw [show p1 = ((i + 1 : Nat) : Int) by have := HP1.out; omega] at this; exact this⟩⟩
            · rw [if_neg b10] at hr
              have c10 : decide (rd l (i : Int) = 10) = false := decide_eq_false b10
              have c10b : (rd l (i : Int) == 10) = false := beq_eq_false_iff_ne.2 b10
              by_cases hbl : blk (rd l (i : Int)) = true
              · rw [if_pos hbl] at hr
                have HR2 := Aside0.mk hr
                clear hr HR
                have hb3 : rd l (i : Int) = 32 ∨ rd l (i : Int) = 9 ∨ rd l (i : Int) = 13 := by unfold blk at hbl; exact of_decide_eq_true hbl
                clear hbl b10
                by_cases b32 : rd l (i : Int) = 32
                · clear hb3
                  have c32 : decide (rd l (i : Int) = 32) = true := decide_eq_true b32
                  have c32b : (rd l (i : Int) == 32) = true := beq_iff_eq.2 b32
                  clear b32
                  go_wp2_with (first | (go_at_call 71; refine (digit_c HC.out i0 (by first | exact HS.out | exact Sc.drewN HS.out _ | exact Sc.drewN (Sc.drewN HS.out _) _ | exact Sc.drewN (Sc.drewN (Sc.drewN HS.out _) _) _)).mono ?_; rintro e w2 ⟨rfl, HS2⟩; rw [hd]; have HT := Aside0.mk HS2; have hcz_0 : w2.cell? ⟨g, 0, none⟩ = some (.slice (some ad) l.length c) := (blk_cell HS2.1 0).trans rfl; have hcz_1 : w2.cell? ⟨g, 1, none⟩ = some (.int .i64 (i : Int)) := (blk_cell HS2.1 1).trans rfl; have hcz_2 : w2.cell? ⟨g, 2, none⟩ = some u := (blk_cell HS2.1 2).trans rfl; have hfz_1 := blk_frozen HS2.1 1; clear HS2))
                  repeat (go_quiet (first | (go_at_call 71; refine (digit_c HC.out i0 (by first | exact HS.out | exact Sc.drewN HS.out _ | exact Sc.drewN (Sc.drewN HS.out _) _ | exact Sc.drewN (Sc.drewN (Sc.drewN HS.out _) _) _)).mono ?_; rintro e w2 ⟨rfl, HS2⟩; rw [hd]; have HT := Aside0.mk HS2; have hcz_0 : w2.cell? ⟨g, 0, none⟩ = some (.slice (some ad) l.length c) := (blk_cell HS2.1 0).trans rfl; have hcz_1 : w2.cell? ⟨g, 1, none⟩ = some (.int .i64 (i : Int)) := (blk_cell HS2.1 1).trans rfl; have hcz_2 : w2.cell? ⟨g, 2, none⟩ = some u := (blk_cell HS2.1 2).trans rfl; have hfz_1 := blk_frozen HS2.1 1; clear HS2)); try go_wp2_with (first | (go_at_call 71; refine (digit_c HC.out i0 (by first | exact HS.out | exact Sc.drewN HS.out _ | exact Sc.drewN (Sc.drewN HS.out _) _ | exact Sc.drewN (Sc.drewN (Sc.drewN HS.out _) _) _)).mono ?_; rintro e w2 ⟨rfl, HS2⟩; rw [hd]; have HT := Aside0.mk HS2; have hcz_0 : w2.cell? ⟨g, 0, none⟩ = some (.slice (some ad) l.length c) := (blk_cell HS2.1 0).trans rfl; have hcz_1 : w2.cell? ⟨g, 1, none⟩ = some (.int .i64 (i : Int)) := (blk_cell HS2.1 1).trans rfl; have hcz_2 : w2.cell? ⟨g, 2, none⟩ = some u := (blk_cell HS2.1 2).trans rfl; have hfz_1 := blk_frozen HS2.1 1; clear HS2)))
                  go_roundg k1
                  case measure => omega
                  case rel => exact ⟨i + 1, acc, u, HR2, ⟨by have := HI.out; omega⟩, ⟨by have := Sc.setAt GE.out HT.out p1; rw [show p1 = ((i + 1 : Nat) : Int) by have := HP1.out; omega] at this ⊢; exact this⟩⟩
                · by_cases b9 : rd l (i : Int) = 9
                  · clear hb3
                    have c32 : decide (rd l (i : Int) = 32) = false := decide_eq_false b32
                    have c32b : (rd l (i : Int) == 32) = false := beq_eq_false_iff_ne.2 b32
                    have c9 : decide (rd l (i : Int) = 9) = true := decide_eq_true b9
                    have c9b : (rd l (i : Int) == 9) = true := beq_iff_eq.2 b9
                    clear b32 b9
                    go_wp2_with (first | (go_at_call 71; refine (digit_c HC.out i0 (by first | exact HS.out | exact Sc.drewN HS.out _ | exact Sc.drewN (Sc.drewN HS.out _) _ | exact Sc.drewN (Sc.drewN (Sc.drewN HS.out _) _) _)).mono ?_; rintro e w2 ⟨rfl, HS2⟩; rw [hd]; have HT := Aside0.mk HS2; have hcz_0 : w2.cell? ⟨g, 0, none⟩ = some (.slice (some ad) l.length c) := (blk_cell HS2.1 0).trans rfl; have hcz_1 : w2.cell? ⟨g, 1, none⟩ = some (.int .i64 (i : Int)) := (blk_cell HS2.1 1).trans rfl; have hcz_2 : w2.cell? ⟨g, 2, none⟩ = some u := (blk_cell HS2.1 2).trans rfl; have hfz_1 := blk_frozen HS2.1 1; clear HS2))
                    repeat (go_quiet (first | (go_at_call 71; refine (digit_c HC.out i0 (by first | exact HS.out | exact Sc.drewN HS.out _ | exact Sc.drewN (Sc.drewN HS.out _) _ | exact Sc.drewN (Sc.drewN (Sc.drewN HS.out _) _) _)).mono ?_; rintro e w2 ⟨rfl, HS2⟩; rw [hd]; have HT := Aside0.mk HS2; have hcz_0 : w2.cell? ⟨g, 0, none⟩ = some (.slice (some ad) l.length c) := (blk_cell HS2.1 0).trans rfl; have hcz_1 : w2.cell? ⟨g, 1, none⟩ = some (.int .i64 (i : Int)) := (blk_cell HS2.1 1).trans rfl; have hcz_2 : w2.cell? ⟨g, 2, none⟩ = some u := (blk_cell HS2.1 2).trans rfl; have hfz_1 := blk_frozen HS2.1 1; clear HS2)); try go_wp2_with (first | (go_at_call 71; refine (digit_c HC.out i0 (by first | exact HS.out | exact Sc.drewN HS.out _ | exact Sc.drewN (Sc.drewN HS.out _) _ | exact Sc.drewN (Sc.drewN (Sc.drewN HS.out _) _) _)).mono ?_; rintro e w2 ⟨rfl, HS2⟩; rw [hd]; have HT := Aside0.mk HS2; have hcz_0 : w2.cell? ⟨g, 0, none⟩ = some (.slice (some ad) l.length c) := (blk_cell HS2.1 0).trans rfl; have hcz_1 : w2.cell? ⟨g, 1, none⟩ = some (.int .i64 (i : Int)) := (blk_cell HS2.1 1).trans rfl; have hcz_2 : w2.cell? ⟨g, 2, none⟩ = some u := (blk_cell HS2.1 2).trans rfl; have hfz_1 := blk_frozen HS2.1 1; clear HS2)))
                    go_roundg k1
                    case measure => omega
                    case rel => exact ⟨i + 1, acc, u, HR2, ⟨by have := HI.out; omega⟩, ⟨by have := Sc.setAt GE.out HT.out p1; rw [show p1 = ((i + 1 : Nat) : Int) by have := HP1.out; omega] at this ⊢; exact this⟩⟩
                  · have b13 : rd l (i : Int) = 13 := by omega
                    clear hb3
                    have c32 : decide (rd l (i : Int) = 32) = false := decide_eq_false b32
                    have c32b : (rd l (i : Int) == 32) = false := beq_eq_false_iff_ne.2 b32
                    have c9 : decide (rd l (i : Int) = 9) = false := decide_eq_false b9
                    have c9b : (rd l (i : Int) == 9) = false := beq_eq_false_iff_ne.2 b9
                    have c13 : decide (rd l (i : Int) = 13) = true := decide_eq_true b13
                    have c13b : (rd l (i : Int) == 13) = true := beq_iff_eq.2 b13
                    clear b32 b9 b13
                    go_wp2_with (first | (go_at_call 71; refine (digit_c HC.out i0 (by first | exact HS.out | exact Sc.drewN HS.out _ | exact Sc.drewN (Sc.drewN HS.out _) _ | exact Sc.drewN (Sc.drewN (Sc.drewN HS.out _) _) _)).mono ?_; rintro e w2 ⟨rfl, HS2⟩; rw [hd]; have HT := Aside0.mk HS2; have hcz_0 : w2.cell? ⟨g, 0, none⟩ = some (.slice (some ad) l.length c) := (blk_cell HS2.1 0).trans rfl; have hcz_1 : w2.cell? ⟨g, 1, none⟩ = some (.int .i64 (i : Int)) := (blk_cell HS2.1 1).trans rfl; have hcz_2 : w2.cell? ⟨g, 2, none⟩ = some u := (blk_cell HS2.1 2).trans rfl; have hfz_1 := blk_frozen HS2.1 1; clear HS2))
                    repeat (go_quiet (first | (go_at_call 71; refine (digit_c HC.out i0 (by first | exact HS.out | exact Sc.drewN HS.out _ | exact Sc.drewN (Sc.drewN HS.out _) _ | exact Sc.drewN (Sc.drewN (Sc.drewN HS.out _) _) _)).mono ?_; rintro e w2 ⟨rfl, HS2⟩; rw [hd]; have HT := Aside0.mk HS2; have hcz_0 : w2.cell? ⟨g, 0, none⟩ = some (.slice (some ad) l.length c) := (blk_cell HS2.1 0).trans rfl; have hcz_1 : w2.cell? ⟨g, 1, none⟩ = some (.int .i64 (i : Int)) := (blk_cell HS2.1 1).trans rfl; have hcz_2 : w2.cell? ⟨g, 2, none⟩ = some u := (blk_cell HS2.1 2).trans rfl; have hfz_1 := blk_frozen HS2.1 1; clear HS2)); try go_wp2_with (first | (go_at_call 71; refine (digit_c HC.out i0 (by first | exact HS.out | exact Sc.drewN HS.out _ | exact Sc.drewN (Sc.drewN HS.out _) _ | exact Sc.drewN (Sc.drewN (Sc.drewN HS.out _) _) _)).mono ?_; rintro e w2 ⟨rfl, HS2⟩; rw [hd]; have HT := Aside0.mk HS2; have hcz_0 : w2.cell? ⟨g, 0, none⟩ = some (.slice (some ad) l.length c) := (blk_cell HS2.1 0).trans rfl; have hcz_1 : w2.cell? ⟨g, 1, none⟩ = some (.int .i64 (i : Int)) := (blk_cell HS2.1 1).trans rfl; have hcz_2 : w2.cell? ⟨g, 2, none⟩ = some u := (blk_cell HS2.1 2).trans rfl; have hfz_1 := blk_frozen HS2.1 1; clear HS2)))
                    go_roundg k1
                    case measure => omega
                    case rel => exact ⟨i + 1, acc, u, HR2, ⟨by have := HI.out; omega⟩, ⟨by have := Sc.setAt GE.out HT.out p1; rw [show p1 = ((i + 1 : Nat) : Int) by have := HP1.out; omega] at this ⊢; exact this⟩⟩
              · rw [if_neg hbl] at hr
                have HR2 := Aside0.mk hr
                clear hr HR
                have hb3 : ¬ (rd l (i : Int) = 32 ∨ rd l (i : Int) = 9 ∨ rd l (i : Int) = 13) := fun x => hbl (by unfold blk; exact decide_eq_true x)
                have b32 : ¬ rd l (i : Int) = 32 := fun x => hb3 (.inl x)
                have b9 : ¬ rd l (i : Int) = 9 := fun x => hb3 (.inr (.inl x))
                have b13 : ¬ rd l (i : Int) = 13 := fun x => hb3 (.inr (.inr x))
                clear hb3 hbl b10
                have c32 : decide (rd l (i : Int) = 32) = false := decide_eq_false b32
                have c32b : (rd l (i : Int) == 32) = false := beq_eq_false_iff_ne.2 b32
                have c9 : decide (rd l (i : Int) = 9) = false := decide_eq_false b9
                have c9b : (rd l (i : Int) == 9) = false := beq_eq_false_iff_ne.2 b9
                have c13 : decide (rd l (i : Int) = 13) = false := decide_eq_false b13
                have c13b : (rd l (i : Int) == 13) = false := beq_eq_false_iff_ne.2 b13
                clear b32 b9 b13
                go_wp2_with (first | (go_at_call 71; refine (digit_c HC.out i0 (by first | exact HS.out | exact Sc.drewN HS.out _ | exact Sc.drewN (Sc.drewN HS.out _) _ | exact Sc.drewN (Sc.drewN (Sc.drewN HS.out _) _) _)).mono ?_; rintro e w2 ⟨rfl, HS2⟩; rw [hd]; have HT := Aside0.mk HS2; have hcz_0 : w2.cell? ⟨g, 0, none⟩ = some (.slice (some ad) l.length c) := (blk_cell HS2.1 0).trans rfl; have hcz_1 : w2.cell? ⟨g, 1, none⟩ = some (.int .i64 (i : Int)) := (blk_cell HS2.1 1).trans rfl; have hcz_2 : w2.cell? ⟨g, 2, none⟩ = some u := (blk_cell HS2.1 2).trans rfl; have hfz_1 := blk_frozen HS2.1 1; clear HS2))
                repeat (go_quiet (first | (go_at_call 71; refine (digit_c HC.out i0 (by first | exact HS.out | exact Sc.drewN HS.out _ | exact Sc.drewN (Sc.drewN HS.out _) _ | exact Sc.drewN (Sc.drewN (Sc.drewN HS.out _) _) _)).mono ?_; rintro e w2 ⟨rfl, HS2⟩; rw [hd]; have HT := Aside0.mk HS2; have hcz_0 : w2.cell? ⟨g, 0, none⟩ = some (.slice (some ad) l.length c) := (blk_cell HS2.1 0).trans rfl; have hcz_1 : w2.cell? ⟨g, 1, none⟩ = some (.int .i64 (i : Int)) := (blk_cell HS2.1 1).trans rfl; have hcz_2 : w2.cell? ⟨g, 2, none⟩ = some u := (blk_cell HS2.1 2).trans rfl; have hfz_1 := blk_frozen HS2.1 1; clear HS2)); try go_wp2_with (first | (go_at_call 71; refine (digit_c HC.out i0 (by first | exact HS.out | exact Sc.drewN HS.out _ | exact Sc.drewN (Sc.drewN HS.out _) _ | exact Sc.drewN (Sc.drewN (Sc.drewN HS.out _) _) _)).mono ?_; rintro e w2 ⟨rfl, HS2⟩; rw [hd]; have HT := Aside0.mk HS2; have hcz_0 : w2.cell? ⟨g, 0, none⟩ = some (.slice (some ad) l.length c) := (blk_cell HS2.1 0).trans rfl; have hcz_1 : w2.cell? ⟨g, 1, none⟩ = some (.int .i64 (i : Int)) := (blk_cell HS2.1 1).trans rfl; have hcz_2 : w2.cell? ⟨g, 2, none⟩ = some u := (blk_cell HS2.1 2).trans rfl; have hfz_1 := blk_frozen HS2.1 1; clear HS2)))
                refine ⟨rfl, ?_⟩
                rw [← HR2.out]
                unfold AllP
                exact ⟨rfl, HT.out.2.2⟩
      · have q2 : decide ((i : Int) < (l.length : Int)) = false := decide_eq_false (by omega)
        have hr : R = .ok (acc ++ [⟨3, i, i, 0⟩]) := by
          rw [← HR.out]
          cases gk with
          | zero => rfl
          | succ k1 => simp only [scanG]; rw [if_neg ce]
        have HR2 := Aside0.mk hr
        clear hr HR
        go_wp2_with (first | (go_at_call 73; refine (put_c 3 (i : Int) 0 GE.out ab (by first | exact HS.out | exact Sc.drewN HS.out _ | exact Sc.drewN (Sc.drewN HS.out _) _ | exact Sc.drewN (Sc.drewN (Sc.drewN HS.out _) _) _)).mono ?_; rintro e w3 ⟨rfl, u', HU⟩; have HU2 := Aside0.mk HU; clear HU))
        repeat (go_quiet (first | (go_at_call 73; refine (put_c 3 (i : Int) 0 GE.out ab (by first | exact HS.out | exact Sc.drewN HS.out _ | exact Sc.drewN (Sc.drewN HS.out _) _ | exact Sc.drewN (Sc.drewN (Sc.drewN HS.out _) _) _)).mono ?_; rintro e w3 ⟨rfl, u', HU⟩; have HU2 := Aside0.mk HU; clear HU)); try go_wp2_with (first | (go_at_call 73; refine (put_c 3 (i : Int) 0 GE.out ab (by first | exact HS.out | exact Sc.drewN HS.out _ | exact Sc.drewN (Sc.drewN HS.out _) _ | exact Sc.drewN (Sc.drewN (Sc.drewN HS.out _) _) _)).mono ?_; rintro e w3 ⟨rfl, u', HU⟩; have HU2 := Aside0.mk HU; clear HU)))
        go_end0
        rw [HR2.out]
        unfold AllP
        exact ⟨rfl, _, u', HU2.out⟩
end Go.Proofs.YthejafdcdcchbaaDoor.PSimA

set_option linter.unusedVariables false
set_option linter.unusedSimpArgs false
namespace Go.Proofs.YthejafdcdcchbaaDoor.PSimA
open Go.RowKit Go.Proofs.YthejafdcdcchbaaDoorW.PrintWords Go.Proofs.YthejafdcdcchbaaDoorW.PrintLast Go.Proofs.YthejafdcdcchbaaDoorW.PrintMore Go.Proofs.YthejafdcdcchbaaDoorX
set_option maxHeartbeats 4000000 in
set_option maxRecDepth 100000 in
theorem catch_idle (a1 a2 a3 : Addr) (w : World) : CallsD Tryd.prog 56 #[.pointer (some a1), .pointer (some a2), .pointer (some a3)] .returning w fun e u' w' => e = .returned (.tuple #[]) ∧ u' = .returning ∧ w' = w := by
  refine callsD_of_wpS Tryd.func56 rfl fun c₀ cs hu => ?_
  apply wpS_seq
  apply wpS_region
  simp [wpOpsS, go_sem, recoverD, hu, Tryd.ntmps56, Exit.thenS]
  refine wpS_of_wp ?_
  simp only [Array.replicate_succ, Array.replicate_zero, List.push_toArray, List.append_toArray, List.nil_append, List.cons_append, List.setIfInBounds_toArray, List.set_cons_succ, List.set_cons_zero]
  go_wp2
  cases c₀
  simp at hu
  simp [bodyPostS, results, Tryd.results56, hu]
theorem as60 (a b : Int) (w : World) : (Instr.typeAssert (.iface 104 (.agg #[.int .i64 a, .int .i64 b])) 20 104 true).run Tryd.prog w = .ok (.tuple #[.agg #[.int .i64 a, .int .i64 b], .bool true]) w := by kernel_rfl
end Go.Proofs.YthejafdcdcchbaaDoor.PSimA

set_option linter.unusedVariables false
set_option linter.unusedSimpArgs false
namespace Go.Proofs.YthejafdcdcchbaaDoor.PSimA
open Go.RowKit Go.Proofs.YthejafdcdcchbaaDoorW.PrintWords Go.Proofs.YthejafdcdcchbaaDoorW.PrintLast Go.Proofs.YthejafdcdcchbaaDoorW.PrintMore Go.Proofs.YthejafdcdcchbaaDoorX
def c_T : Bool × List (List Nat × List Nat) := (true, [([], []), ([0], [0]), ([], []), ([2], [2]), ([], []), ([1, 4, 0, 1, 4], [1]), ([3, 5, 0, 1, 2, 3, 4, 5], [3])])
def c_B : List Nat := [0, 1, 0, 4, 0, 3, 12]
theorem c_tab : rtab .any (opsOf Tryd.f56 5) = c_T := by kernel_rfl
theorem c_bits : waitsOk c_T.2 c_B = true := by kernel_rfl
set_option maxHeartbeats 4000000 in
set_option maxRecDepth 100000 in
theorem catch_panicking {w0 : World} (g1 g2 g3 : Nat) (c1 c2 c3 : Value) (a b : Int) (w : World) (h1 : w.heap[g1]? = some (.cells #[c1] 88 (0, 0))) (h2 : w.heap[g2]? = some (.cells #[c2] 3 (0, 0))) (h3 : w.heap[g3]? = some (.cells #[c3] 29 (0, 0))) (n12 : g1 ≠ g2) (n13 : g1 ≠ g3) (n23 : g2 ≠ g3)
    (hB : Below w0.heap.size w0 w) (e1 : w0.heap.size ≤ g1) (e2 : w0.heap.size ≤ g2) (e3 : w0.heap.size ≤ g3) :
    CallsD Tryd.prog 56 #[.pointer (some ⟨g1, 0, none⟩), .pointer (some ⟨g2, 0, none⟩), .pointer (some ⟨g3, 0, none⟩)] (.panicking ({ v := .iface 104 (.agg #[.int .i64 a, .int .i64 b]), recovered := false } :: [])) w fun e u' w' =>
      e = .returned (.tuple #[]) ∧ u' = .panicking ({ v := .iface 104 (.agg #[.int .i64 a, .int .i64 b]), recovered := true } :: []) ∧ w'.cell? ⟨g1, 0, none⟩ = some (.slice none 0 0) ∧ w'.cell? ⟨g2, 0, none⟩ = some (.int .i64 a) ∧ w'.cell? ⟨g3, 0, none⟩ = some (.int .i64 b) ∧ Below w0.heap.size w0 w' := by
  have hcz1 : w.cell? ⟨g1, 0, none⟩ = some c1 := (blk_cell h1 0).trans rfl
  have hcz2 : w.cell? ⟨g2, 0, none⟩ = some c2 := (blk_cell h2 0).trans rfl
  have hcz3 : w.cell? ⟨g3, 0, none⟩ = some c3 := (blk_cell h3 0).trans rfl
  have hfz1 := blk_frozen h1 0
  have hfz2 := blk_frozen h2 0
  have hfz3 := blk_frozen h3 0
  have hta := as60 a b
  refine callsD_of_wpS Tryd.func56 rfl fun c₀ cs hu => ?_
  apply wpS_seq
  apply wpS_region
  simp [wpOpsS, go_sem, recoverD, hu, Tryd.ntmps56, Exit.thenS]
  refine wpS_of_wp ?_
  simp only [Array.replicate_succ, Array.replicate_zero, List.push_toArray, List.append_toArray, List.nil_append, List.cons_append, List.setIfInBounds_toArray, List.set_cons_succ, List.set_cons_zero]
  go_wp2
  have HB := Aside0.mk (below_alloc hB (Obj.cells #[Value.int IntKind.i64 a, Value.int IntKind.i64 b] 104))
  have B4 := Aside0.mk (blk_new w (Obj.cells #[Value.int IntKind.i64 a, Value.int IntKind.i64 b] 104))
  have B1 := Aside0.mk (blk_alloc h1 (Obj.cells #[Value.int IntKind.i64 a, Value.int IntKind.i64 b] 104))
  have B2 := Aside0.mk (blk_alloc h2 (Obj.cells #[Value.int IntKind.i64 a, Value.int IntKind.i64 b] 104))
  have B3 := Aside0.mk (blk_alloc h3 (Obj.cells #[Value.int IntKind.i64 a, Value.int IntKind.i64 b] 104))
  obtain ⟨gf, hgf⟩ : ∃ gf, w.heap.size = gf := ⟨_, rfl⟩
  have n41 : Aside0 (gf ≠ g1) := ⟨by rw [← hgf]; exact Nat.ne_of_gt (blk_lt h1)⟩
  have n42 : Aside0 (gf ≠ g2) := ⟨by rw [← hgf]; exact Nat.ne_of_gt (blk_lt h2)⟩
  have n43 : Aside0 (gf ≠ g3) := ⟨by rw [← hgf]; exact Nat.ne_of_gt (blk_lt h3)⟩
  have m12 := Aside0.mk n12
  have m13 := Aside0.mk n13
  have m23 := Aside0.mk n23
  have m21 := Aside0.mk n12.symm
  have m31 := Aside0.mk n13.symm
  have m32 := Aside0.mk n23.symm
  have E1 := Aside0.mk e1
  have E2 := Aside0.mk e2
  have E3 := Aside0.mk e3
  have HU := Aside0.mk hu
  rw [hgf] at B4 ⊢
  clear hcz1 hcz2 hcz3 hfz1 hfz2 hfz3 n12 n13 n23 e1 e2 e3 hta hu hB
  generalize w.alloc (Obj.cells #[Value.int IntKind.i64 a, Value.int IntKind.i64 b] 104) = W1 at B1 B2 B3 B4 HB ⊢
  clear hgf h1 h2 h3
  replace B1 := bd B1
  replace B2 := bd B2
  replace B3 := bd B3
  replace B4 := bd B4
  replace HB := Aside0.mk (below_drew1 HB.out)
  refine start_ (n := 7) (S := fun w' => w'.cell? ⟨gf, 0, none⟩ = some (.int .i64 a) ∧ w'.cell? ⟨gf, 1, none⟩ = some (.int .i64 b)) (ds := []) (pf 0 7) (by kernel_rfl) rfl rfl ⟨bc B4 0, bc B4 1⟩ (fun hHeld => ?_)
  refine with_tabW c_tab c_bits (fun HT_ HW_ => ?_)
  generalize W1.drew = w8 at B1 B2 B3 B4 HB hHeld ⊢
  refine pu_ 0 (some 17) (pf 1 7) HT_ ?_
  refine pu_ 2 (some 19) #[T_,F_,T_,F_,F_,F_,F_] HT_ ?_
  refine tk2_ 1 (some 18) (pf 3 7) HT_ HW_ hHeld ?_
  refine tk2_ 3 (some 20) (pf 4 7) HT_ HW_ hHeld ?_
  refine on_ 4 none (pf 5 7) HT_ (fun K hK => ?_)
  have hs4 : w8.cell? ⟨g1, 0, none⟩ = some c1 := bc B1 0
  have hfs4 := blk_frozen B1.out 0
  refine skip_ (w1 := ?_) (by rfl) rfl ?_ ?_
  rotate_left
  · go_simp
    rfl
  refine hK.out _ _ ⟨(cell_far (p := ⟨g1, _, none⟩) n41.out _).trans hHeld.1, (cell_far (p := ⟨g1, _, none⟩) n41.out _).trans hHeld.2⟩ (fun hHeld => ?_)
  clear hK K hs4 hfs4
  have X1 : Aside0 ((w8.setCell ⟨g1, 0, none⟩ (.slice none 0 0)).heap[g1]? = some (.cells #[.slice none 0 0] 88 (0, 0))) := ⟨bp B1⟩
  have X2 : Aside0 ((w8.setCell ⟨g1, 0, none⟩ (.slice none 0 0)).heap[g2]? = some (.cells #[c2] 3 (0, 0))) := ⟨bx1 B2 m21⟩
  have X3 : Aside0 ((w8.setCell ⟨g1, 0, none⟩ (.slice none 0 0)).heap[g3]? = some (.cells #[c3] 29 (0, 0))) := ⟨bx1 B3 m31⟩
  have X5 : Aside0 (Below w0.heap.size w0 (w8.setCell ⟨g1, 0, none⟩ (.slice none 0 0))) := ⟨hb1 HB E1⟩
  clear B1 B2 B3 B4 HB
  generalize w8.setCell ⟨g1, 0, none⟩ (.slice none 0 0) = w9 at X1 X2 X3 X5 hHeld ⊢
  refine on_ 5 none (pf 6 7) HT_ (fun K hK => ?_)
  have hs5 : w9.cell? ⟨g2, 0, none⟩ = some c2 := bc X2 0
  have hfs5 := blk_frozen X2.out 0
  refine skip_ (w1 := ?_) (by rfl) rfl ?_ ?_
  rotate_left
  · go_simp
    rfl
  refine hK.out _ _ ⟨(cell_far (p := ⟨g2, _, none⟩) n42.out _).trans hHeld.1, (cell_far (p := ⟨g2, _, none⟩) n42.out _).trans hHeld.2⟩ (fun hHeld => ?_)
  clear hK K hs5 hfs5
  have Y1 : Aside0 ((w9.setCell ⟨g2, 0, none⟩ (.int .i64 a)).heap[g1]? = some (.cells #[.slice none 0 0] 88 (0, 0))) := ⟨bx1 X1 m12⟩
  have Y2 : Aside0 ((w9.setCell ⟨g2, 0, none⟩ (.int .i64 a)).heap[g2]? = some (.cells #[.int .i64 a] 3 (0, 0))) := ⟨bp X2⟩
  have Y3 : Aside0 ((w9.setCell ⟨g2, 0, none⟩ (.int .i64 a)).heap[g3]? = some (.cells #[c3] 29 (0, 0))) := ⟨bx1 X3 m32⟩
  have Y5 : Aside0 (Below w0.heap.size w0 (w9.setCell ⟨g2, 0, none⟩ (.int .i64 a))) := ⟨hb1 X5 E2⟩
  clear X1 X2 X3 X5
  generalize w9.setCell ⟨g2, 0, none⟩ (.int .i64 a) = wa at Y1 Y2 Y3 Y5 hHeld ⊢
  refine on_ 6 none (pf 7 7) HT_ (fun K hK => ?_)
  have hs6 : wa.cell? ⟨g3, 0, none⟩ = some c3 := bc Y3 0
  have hfs6 := blk_frozen Y3.out 0
  refine skip_ (w1 := ?_) (by rfl) rfl ?_ ?_
  rotate_left
  · go_simp
    rfl
  refine hK.out _ _ ⟨(cell_far (p := ⟨g3, _, none⟩) n43.out _).trans hHeld.1, (cell_far (p := ⟨g3, _, none⟩) n43.out _).trans hHeld.2⟩ (fun hHeld => ?_)
  clear hK K hs6 hfs6
  have Z1 : Aside0 ((wa.setCell ⟨g3, 0, none⟩ (.int .i64 b)).heap[g1]? = some (.cells #[.slice none 0 0] 88 (0, 0))) := ⟨bx1 Y1 m13⟩
  have Z2 : Aside0 ((wa.setCell ⟨g3, 0, none⟩ (.int .i64 b)).heap[g2]? = some (.cells #[.int .i64 a] 3 (0, 0))) := ⟨bx1 Y2 m23⟩
  have Z3 : Aside0 ((wa.setCell ⟨g3, 0, none⟩ (.int .i64 b)).heap[g3]? = some (.cells #[.int .i64 b] 29 (0, 0))) := ⟨bp Y3⟩
  have Z5 : Aside0 (Below w0.heap.size w0 (wa.setCell ⟨g3, 0, none⟩ (.int .i64 b))) := ⟨hb1 Y5 E3⟩
  clear Y1 Y2 Y3 Y5
  generalize wa.setCell ⟨g3, 0, none⟩ (.int .i64 b) = wb at Z1 Z2 Z3 Z5 hHeld ⊢
  refine done_ (done_of HT_.out (by kernel_rfl)) ?_
  have z1 : wb.cell? ⟨g1, 0, none⟩ = some (.slice none 0 0) := bc Z1 0
  have z2 : wb.cell? ⟨g2, 0, none⟩ = some (.int .i64 a) := bc Z2 0
  have z3 : wb.cell? ⟨g3, 0, none⟩ = some (.int .i64 b) := bc Z3 0
  clear hHeld HT_ HW_
  try go_wp2
  have h5 := Z5.out
  have hu := HU.out
  clear HU Z1 Z2 Z3 Z5
  simp [bodyPostS, results, Tryd.results56, z1, z2, z3, h5, hu]
end Go.Proofs.YthejafdcdcchbaaDoor.PSimA

set_option linter.unusedVariables false
set_option linter.unusedSimpArgs false
namespace Go.Proofs.YthejafdcdcchbaaDoor.PSimA
open Go.RowKit Go.Proofs.YthejafdcdcchbaaDoorW.PrintWords Go.Proofs.YthejafdcdcchbaaDoorW.PrintLast Go.Proofs.YthejafdcdcchbaaDoorW.PrintMore Go.Proofs.YthejafdcdcchbaaDoorX
def scanF (l : List Int) : Except (Int × Int) (List S95) := if 33554432 < l.length then .error (33554432, 10) else scanG l l.length 0 []
def ScanP (w w' : World) (e : Ending) : Except (Int × Int) (List S95) → Prop
  | .ok ts => ∃ v, e = .returned (.tuple #[v, .int .i64 0, .int .i64 0]) ∧ Kd.R k95 95 w' w.heap.size (fun _ => True) v ts ∧ Below w.heap.size w w'
  | .error (a, b) => e = .returned (.tuple #[.slice none 0 0, .int .i64 a, .int .i64 b]) ∧ Below w.heap.size w w'
set_option maxHeartbeats 4000000 in
set_option maxRecDepth 100000 in
theorem scan_c {w : World} {A : Option Addr} {c : Nat} {l : List Int} (hC : Kd.C (Kd.int .u8) w A l.length l) (hl : l.length ≤ 140737488355328) :
    Calls Tryd.prog 48 #[.slice A l.length c] w fun e w' => ScanP w w' e (scanF l) := by
  have hmf : ∀ (fn : Fn) (first cap : Array Value) (w : World), (Instr.makeFunc fn first cap).run Tryd.prog w = .ok (.func fn first cap) w := fun _ _ _ _ => rfl
  have hu64 := Tryd.underlying108
  have HC := Aside0.mk hC
  have HL := Aside0.mk hl
  clear hC hl
  obtain ⟨R, hR⟩ : ∃ R, scanF l = R := ⟨_, rfl⟩
  have HR := Aside0.mk hR
  rw [hR]
  clear hR
  go_enter_defers Tryd.func48, Tryd.ntmps48
  go_wp2_with (fail)
  obtain ⟨g1, hg1⟩ : ∃ g, w.heap.size = g := ⟨_, rfl⟩
  have G1 := Aside0.mk hg1
  have A1 := below_alloc (Below.refl w.heap.size w) (Obj.cells #[Value.slice none 0 0] 88)
  have B1 := blk_new w (Obj.cells #[Value.slice none 0 0] 88)
  have S1 : (w.alloc (Obj.cells #[Value.slice none 0 0] 88)).heap.size = g1 + 1 := by rw [← hg1]; simp [go_sem]
  rw [hg1] at B1 ⊢
  generalize w.alloc (Obj.cells #[Value.slice none 0 0] 88) = w1 at A1 B1 S1 ⊢
  have A2 := below_alloc A1 (Obj.cells #[Value.int IntKind.i64 0] 3)
  have B2 := blk_new w1 (Obj.cells #[Value.int IntKind.i64 0] 3)
  have B12 := blk_alloc B1 (Obj.cells #[Value.int IntKind.i64 0] 3)
  have S2 : (w1.alloc (Obj.cells #[Value.int IntKind.i64 0] 3)).heap.size = g1 + 1 + 1 := by rw [← S1]; simp [go_sem]
  rw [S1] at B2
  generalize w1.alloc (Obj.cells #[Value.int IntKind.i64 0] 3) = w2 at A2 B2 B12 S2 ⊢
  have A3 := below_alloc A2 (Obj.cells #[Value.int IntKind.i64 0] 29)
  have B3 := blk_new w2 (Obj.cells #[Value.int IntKind.i64 0] 29)
  have B13 := blk_alloc B12 (Obj.cells #[Value.int IntKind.i64 0] 29)
  have B23 := blk_alloc B2 (Obj.cells #[Value.int IntKind.i64 0] 29)
  have S3 : (w2.alloc (Obj.cells #[Value.int IntKind.i64 0] 29)).heap.size = g1 + 1 + 1 + 1 := by rw [← S2]; simp [go_sem]
  rw [S2] at B3
  generalize w2.alloc (Obj.cells #[Value.int IntKind.i64 0] 29) = w3 at A3 B3 B13 B23 S3 ⊢
  have A4 := below_alloc (Below.refl w3.heap.size w3) (Obj.cells #[.slice A l.length c, Value.int IntKind.i64 0, Value.slice none 0 0] 108)
  have B4 := blk_new w3 (Obj.cells #[.slice A l.length c, Value.int IntKind.i64 0, Value.slice none 0 0] 108)
  rw [S3] at B4
  generalize w3.alloc (Obj.cells #[.slice A l.length c, Value.int IntKind.i64 0, Value.slice none 0 0] 108) = w4 at A4 B4 ⊢
  clear A1 A2 B1 B2 B12 S1 S2
  refine (all_c (w := w3) (A := A) (c := c) (l := l) (u := .slice none 0 0) (Kd.C_below HC.out A3) (by omega) HL.out ⟨B4, Kd.R_nil _ _ _ _ _, A4⟩).mono ?_
  have hR := HR.out
  unfold scanF at hR
  rw [hR]
  clear hR
  rintro e w5 hP
  cases R with
  | error ab =>
    obtain ⟨a, b⟩ := ab
    unfold AllP at hP
    obtain ⟨rfl, hb⟩ := hP
    have C1 : w5.heap[g1]? = some (.cells #[.slice none 0 0] 88 (0, 0)) := (hb.block g1 (by omega)).trans B13
    have C2 : w5.heap[g1 + 1]? = some (.cells #[.int .i64 0] 3 (0, 0)) := (hb.block (g1 + 1) (by omega)).trans B23
    have C3 : w5.heap[g1 + 1 + 1]? = some (.cells #[.int .i64 0] 29 (0, 0)) := (hb.block (g1 + 1 + 1) (by omega)).trans B3
    have hB : Below w.heap.size w w5 := below_then A3 A3.size hb
    go_wp2_with (fail)
    refine leaves_cons (f := 56) (args := #[.pointer (some ⟨g1, 0, none⟩), .pointer (some ⟨g1 + 1, 0, none⟩), .pointer (some ⟨g1 + 1 + 1, 0, none⟩)]) (by simp) (by simp [go_sem]) ?_
    refine (catch_panicking g1 (g1 + 1) (g1 + 1 + 1) _ _ _ a b w5 C1 C2 C3 (by omega) (by omega) (by omega) hB (by omega) (by omega) (by omega)).mono ?_
    rintro e u' w6 ⟨rfl, rfl, d1, d2, d3, hb6⟩
    simp [Leaves, settle, results, Tryd.results48, go_sem, d1, d2, d3]
    exact ⟨rfl, hb6⟩
  | ok ts =>
    unfold AllP at hP
    obtain ⟨rfl, a, u, hS⟩ := hP
    obtain ⟨E4, hR, hb⟩ := hS
    obtain ⟨Ao, co, eo⟩ := Kd.R_slice hR
    subst eo
    have C1 : w5.heap[g1]? = some (.cells #[.slice none 0 0] 88 (0, 0)) := (hb.block g1 (by omega)).trans B13
    have C2 : w5.heap[g1 + 1]? = some (.cells #[.int .i64 0] 3 (0, 0)) := (hb.block (g1 + 1) (by omega)).trans B23
    have C3 : w5.heap[g1 + 1 + 1]? = some (.cells #[.int .i64 0] 29 (0, 0)) := (hb.block (g1 + 1 + 1) (by omega)).trans B3
    have hB : Below w.heap.size w w5 := below_then A3 A3.size hb
    have F1 := blk_frozen C1 0
    have F2 := blk_frozen C2 0
    have F3 := blk_frozen C3 0
    have Z1 : w5.cell? ⟨g1, 0, none⟩ = some (.slice none 0 0) := (blk_cell C1 0).trans rfl
    have Z2 : w5.cell? ⟨g1 + 1, 0, none⟩ = some (.int .i64 0) := (blk_cell C2 0).trans rfl
    have Z3 : w5.cell? ⟨g1 + 1 + 1, 0, none⟩ = some (.int .i64 0) := (blk_cell C3 0).trans rfl
    have Z4 : w5.cell? ⟨g1 + 1 + 1 + 1, 2, none⟩ = some (.slice Ao ts.length co) := (blk_cell E4 2).trans rfl
    go_wp2_with (fail)
    have m1 : Aside0 (g1 ≠ g1 + 1) := ⟨by omega⟩
    have m2 : Aside0 (g1 ≠ g1 + 1 + 1) := ⟨by omega⟩
    have m3 : Aside0 (g1 + 1 ≠ g1 + 1 + 1) := ⟨by omega⟩
    have N1 : (((w5.setCell ⟨g1, 0, none⟩ (Value.slice Ao ts.length co)).setCell ⟨g1 + 1, 0, none⟩ (Value.int IntKind.i64 0)).setCell ⟨g1 + 1 + 1, 0, none⟩ (Value.int IntKind.i64 0)).cell? ⟨g1, 0, none⟩ = some (.slice Ao ts.length co) :=
      (cell_far (p := ⟨g1 + 1 + 1, _, none⟩) m2.out _).trans ((cell_far (p := ⟨g1 + 1, _, none⟩) m1.out _).trans ((blk_cell (blk_put C1 0 _ rfl) 0).trans rfl))
    have T2 := blk_put (u := .int .i64 0) ((bx1 (w' := w5.setCell ⟨g1, 0, none⟩ (Value.slice Ao ts.length co)) ⟨C2⟩ ⟨m1.out.symm⟩)) 0 rfl
    have N2 : (((w5.setCell ⟨g1, 0, none⟩ (Value.slice Ao ts.length co)).setCell ⟨g1 + 1, 0, none⟩ (Value.int IntKind.i64 0)).setCell ⟨g1 + 1 + 1, 0, none⟩ (Value.int IntKind.i64 0)).cell? ⟨g1 + 1, 0, none⟩ = some (.int .i64 0) :=
      (cell_far (p := ⟨g1 + 1 + 1, _, none⟩) m3.out _).trans ((blk_cell T2 0).trans rfl)
    have T3 := blk_put (u := .int .i64 0) ((bx2 (w' := (w5.setCell ⟨g1, 0, none⟩ (Value.slice Ao ts.length co)).setCell ⟨g1 + 1, 0, none⟩ (Value.int IntKind.i64 0)) ⟨C3⟩ ⟨m2.out.symm⟩ ⟨m3.out.symm⟩)) 0 rfl
    have N3 : (((w5.setCell ⟨g1, 0, none⟩ (Value.slice Ao ts.length co)).setCell ⟨g1 + 1, 0, none⟩ (Value.int IntKind.i64 0)).setCell ⟨g1 + 1 + 1, 0, none⟩ (Value.int IntKind.i64 0)).cell? ⟨g1 + 1 + 1, 0, none⟩ = some (.int .i64 0) := (blk_cell T3 0).trans rfl
    have O6 := Kd.R_far (p := ⟨g1 + 1 + 1, 0, none⟩) (Kd.R_far (p := ⟨g1 + 1, 0, none⟩) (Kd.R_far (p := ⟨g1, 0, none⟩) (Kd.R_bound hR) (fun k hk => by have := hk.2.1; show k ≠ g1; omega) (.slice Ao ts.length co)) (fun k hk => by have := hk.2.1; show k ≠ g1 + 1; omega) (.int .i64 0)) (fun k hk => by have := hk.2.1; show k ≠ g1 + 1 + 1; omega) (.int .i64 0)
    have HB6 := hb3 (w' := ((w5.setCell ⟨g1, 0, none⟩ (Value.slice Ao ts.length co)).setCell ⟨g1 + 1, 0, none⟩ (Value.int IntKind.i64 0)).setCell ⟨g1 + 1 + 1, 0, none⟩ (Value.int IntKind.i64 0)) ⟨hB⟩ (g1 := g1) (g2 := g1 + 1) (g3 := g1 + 1 + 1) ⟨by omega⟩ ⟨by omega⟩ ⟨by omega⟩
    clear T2 T3 Z1 Z2 Z3 Z4 F1 F2 F3 C1 C2 C3 E4 hB hR
    generalize ((w5.setCell ⟨g1, 0, none⟩ (Value.slice Ao ts.length co)).setCell ⟨g1 + 1, 0, none⟩ (Value.int IntKind.i64 0)).setCell ⟨g1 + 1 + 1, 0, none⟩ (Value.int IntKind.i64 0) = w6 at N1 N2 N3 O6 HB6 ⊢
    refine leaves_cons (f := 56) (args := #[.pointer (some ⟨g1, 0, none⟩), .pointer (some ⟨g1 + 1, 0, none⟩), .pointer (some ⟨g1 + 1 + 1, 0, none⟩)]) (by simp) (by simp [go_sem]) ?_
    refine (catch_idle _ _ _ w6).mono ?_
    rintro e u' w7 ⟨rfl, rfl, rfl⟩
    simp [Leaves, settle, results, Tryd.results48, go_sem, N1, N2, N3]
    exact ⟨_, rfl, Kd.R_mono (Kd.R_raise (b := w3.heap.size) (b' := w.heap.size) (fun _ _ _ _ h => h) O6 (fun k hk => by have := Kd.R_base O6 k hk; omega)) (fun _ _ => trivial), HB6⟩
end Go.Proofs.YthejafdcdcchbaaDoor.PSimA
