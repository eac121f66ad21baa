-- nums.Scan's methods by hand: the scanner's block, its row of tokens; digit, put, run, all, Scan.
import Derived.Test.YtjgaicdieddekaaZPParAx0
import Derived.Defers
import Derived.Recover
set_option linter.unusedVariables false
set_option linter.unusedSimpArgs false
namespace Go.Proofs.Ytjgaicdieddekaa.PParA
open Go.RowKit Go.Proofs.YtjgaicdieddekaaW.PrintWords Go.Proofs.YtjgaicdieddekaaW.PrintLast Go.Proofs.YtjgaicdieddekaaW.PrintMore Go.Proofs.YtjgaicdieddekaaX
attribute [local go_sem] max2_int min2_int max_two min_two max_three min_three max_four min_four   -- for this text's walks alone
/-- The scanner at block g of W: bytes that came in by w, the place, the tokens' row of the call's own. -/
def Sc (w W : World) (g : Nat) (A : Option Addr) (c : Nat) (l : List Int) (at_ : Int) (u : Value) (xs : List S50) : Prop :=
  W.heap[g]? = some (.cells #[.slice A l.length c, .int .i64 at_, u] 64 (0, 0)) ∧ Kd.R k50 50 W w.heap.size (fun k_ => k_ ≠ g) u xs ∧ Below w.heap.size w W
theorem Sc.drewN {w W : World} {g : Nat} {A : Option Addr} {c : Nat} {l : List Int} {at_ : Int} {u : Value} {xs : List S50} (h : Sc w W g A c l at_ u xs) (n : Nat) : Sc w (W.drewN n) g A c l at_ u xs := ⟨blk_drewN h.1 n, Kd.R_drewN h.2.1 n, pw_below_drewN h.2.2 n⟩
def digB (l : List Int) (i : Int) : Bool := decide (i < l.length ∧ 48 ≤ rd l i ∧ rd l i ≤ 57)
set_option maxHeartbeats 4000000 in
set_option maxRecDepth 100000 in
theorem digit_c {w W : World} {g : Nat} {A : Option Addr} {c : Nat} {l : List Int} {at_ : Int} {u : Value} {xs : List S50} (hC : Kd.C (Kd.int .u8) w A l.length l) (h0 : 0 ≤ at_) (h : Sc w W g A c l at_ u xs) :
    Calls Try.prog 22 #[.pointer (some ⟨g, 0, none⟩)] W fun e w' => e = .returned (.bool (digB l at_)) ∧ Sc w w' g A c l at_ u xs := by
  have hcz_0 := blk_cell h.1 0
  have hcz_1 := blk_cell h.1 1
  have hcz_2 := blk_cell h.1 2
  replace hcz_0 : W.cell? ⟨g, 0, none⟩ = some (.slice A l.length c) := hcz_0.trans rfl
  replace hcz_1 : W.cell? ⟨g, 1, none⟩ = some (.int .i64 at_) := hcz_1.trans rfl
  replace hcz_2 : W.cell? ⟨g, 2, none⟩ = some u := hcz_2.trans rfl
  have HS := Aside0.mk h
  have p := eq_true h0
  by_cases c1 : at_ < (l.length : Int)
  · obtain ⟨ad, e, hx⟩ := Kd.at_int hC at_ h0 c1
    cases e
    replace hx := pw_cell_below HS.out.2.2 hx
    have c1b : decide (at_ < (l.length : Int)) = true := decide_eq_true c1
    have q := eq_true c1
    by_cases c2 : 48 ≤ rd l at_
    · have c2b : decide (48 ≤ rd l at_) = true := decide_eq_true c2
      have e : digB l at_ = decide (rd l at_ ≤ 57) := by unfold digB; rw [decide_eq_decide]; omega
      rw [e]
      clear e c1 c2 h h0
      go_enter Try.func22, Try.ntmps22
      go_wp2
      repeat (go_quiet (fail); try go_wp2)
      go_ret
      exact ⟨by first | rfl | (simp; done) | (simp [*]; done), Sc.drewN HS.out _⟩
    · have c2b : decide (48 ≤ rd l at_) = false := decide_eq_false c2
      have e : digB l at_ = false := by unfold digB; rw [decide_eq_false_iff_not]; omega
      rw [e]
      clear e c1 c2 h h0
      go_enter Try.func22, Try.ntmps22
      go_wp2
      repeat (go_quiet (fail); try go_wp2)
      go_ret
      exact ⟨by first | rfl | (simp; done) | (simp [*]; done), Sc.drewN HS.out _⟩
  · have c1b : decide (at_ < (l.length : Int)) = false := decide_eq_false c1
    have e : digB l at_ = false := by unfold digB; rw [decide_eq_false_iff_not]; omega
    rw [e]
    clear e c1 h h0
    go_enter Try.func22, Try.ntmps22
    go_wp2
    repeat (go_quiet (fail); try go_wp2)
    go_ret
    exact ⟨by first | rfl | (simp; done) | (simp [*]; done), Sc.drewN HS.out _⟩
def put_T : Bool × List (List Nat × List Nat) := (true, [([], []), ([], []), ([1], [1]), ([2], [2]), ([3], [3]), ([], []), ([], []), ([], []), ([7], [7]), ([8], [8]), ([9], [9]), ([], []), ([5, 6, 10, 11], [5, 6, 10, 11]), ([12], [12]), ([4, 13], [4, 13]), ([0, 0, 1, 2, 3, 4, 5, 6, 7, 8, 9, 10, 11, 12, 13, 14], [0]), ([15, 0, 1, 2, 3, 4, 5, 6, 7, 8, 9, 10, 11, 12, 13, 14], [15]), ([16, 14, 14, 0, 1, 2, 3, 4, 5, 6, 7, 8, 9, 10, 11, 12, 13, 14], [14, 16])])
def put_B : List Nat := [0, 0, 2, 6, 14, 0, 0, 0, 128, 384, 896, 0, 4064, 8160, 16382, 32767, 65535, 131071]
theorem put_tab : rtab .any (opsOf Try.f24 0) = put_T := by kernel_rfl
theorem put_bits : waitsOk put_T.2 put_B = true := by kernel_rfl
set_option maxHeartbeats 8000000 in
set_option maxRecDepth 100000 in
theorem put_c {w W : World} {g : Nat} {A : Option Addr} {c : Nat} {l : List Int} {at_ : Int} {u : Value} {xs : List S50} (kd fr n : Int) (hge : w.heap.size ≤ g) (hx : xs.length < 4398046511104) (h : Sc w W g A c l at_ u xs) :
    Calls Try.prog 24 #[.pointer (some ⟨g, 0, none⟩), .int .i64 kd, .int .i64 fr, .int .i64 n] W fun e w' => e = .returned (.tuple #[]) ∧ ∃ u', Sc w w' g A c l at_ u' (xs ++ [⟨kd, fr, at_, n⟩]) := by
  have hu64 := Try.underlying64
  have hu50 := Try.underlying50
  obtain ⟨B0, O0, HB0⟩ := h
  obtain ⟨Ao, co, eo⟩ := Kd.R_slice O0
  subst eo
  have BK103 := Aside0.mk B0
  have HO := Aside0.mk O0
  have HB := Aside0.mk HB0
  have GE103 := Aside0.mk hge
  have LM := Aside0.mk hx
  clear B0 O0 HB0 hge hx
  obtain ⟨y104, hy104⟩ : ∃ y_ : List (S50), y_ = (xs ++ [(⟨kd, fr, at_, n⟩ : S50)]) := ⟨_, rfl⟩
  have Ny104 := Aside0.mk hy104
  clear hy104
  go_enter Try.func24, Try.ntmps24
  try go_wp2
  replace BK103 := bd BK103
  replace HO := rd HO
  replace HB := Aside0.mk (below_drew1 HB.out)
  refine start_ (n := 18) (S := fun w' => w'.cell? ⟨g, 0, none⟩ = some (.slice A l.length c) ∧ w'.cell? ⟨g, 1, none⟩ = some (.int .i64 at_) ∧ w'.cell? ⟨g, 2, none⟩ = some (.slice Ao xs.length co)) (ds := [17]) (pf 0 18) (by kernel_rfl) rfl rfl ⟨bc BK103 0, bc BK103 1, bc BK103 2⟩ (fun hHeld => ?_)
  refine with_tabW put_tab put_bits (fun HT_ HW_ => ?_)
  generalize W.drew = w8 at BK103 HO HB hHeld ⊢
  refine pu_ 0 (some 8) (pf 1 18) HT_ ?_
  refine pu_ 1 (some 9) (pf 2 18) HT_ ?_
  refine pu_ 2 (some 10) (pf 3 18) HT_ ?_
  refine pu_ 3 (some 11) (pf 4 18) HT_ ?_
  refine pu_ 5 (some 13) #[T_,T_,T_,T_,F_,T_,F_,F_,F_,F_,F_,F_,F_,F_,F_,F_,F_,F_] HT_ ?_
  refine pu_ 6 (some 14) #[T_,T_,T_,T_,F_,T_,T_,F_,F_,F_,F_,F_,F_,F_,F_,F_,F_,F_] HT_ ?_
  refine pu_ 7 (some 15) #[T_,T_,T_,T_,F_,T_,T_,T_,F_,F_,F_,F_,F_,F_,F_,F_,F_,F_] HT_ ?_
  refine pu_ 8 (some 16) #[T_,T_,T_,T_,F_,T_,T_,T_,T_,F_,F_,F_,F_,F_,F_,F_,F_,F_] HT_ ?_
  refine pu_ 9 (some 17) #[T_,T_,T_,T_,F_,T_,T_,T_,T_,T_,F_,F_,F_,F_,F_,F_,F_,F_] HT_ ?_
  refine pu_ 11 (some 19) #[T_,T_,T_,T_,F_,T_,T_,T_,T_,T_,F_,T_,F_,F_,F_,F_,F_,F_] HT_ ?_
  refine tk3_ 4 (some 12) #[T_,T_,T_,T_,T_,T_,T_,T_,T_,T_,F_,T_,F_,F_,F_,F_,F_,F_] HT_ HW_ hHeld ?_
  refine tk3_ 10 (some 18) (pf 12 18) HT_ HW_ hHeld ?_
  refine pu_ 12 (some 20) (pf 13 18) HT_ ?_
  refine on_ 13 (some 21) (pf 14 18) HT_ (fun K hK => ?_)
  refine value_ (w1 := ?_) (v := ?_) (by rfl) rfl ?_ ?_
  rotate_left 2
  · go_simp
    constructor
    · rfl
    · rfl
  refine hK.out _ _ ⟨(blk_cell (blk_alloc BK103.out _) 0).trans rfl, (blk_cell (blk_alloc BK103.out _) 1).trans rfl, (blk_cell (blk_alloc BK103.out _) 2).trans rfl⟩ (fun hHeld => ?_)
  clear hK K
  refine nm_ (some 21) ?_
  refine on_ 14 (some 22) (pf 15 18) HT_ (fun K hK => ?_)
  refine Kd.R_append_step k50 (w0 := w) w.heap.size (by rfl) (.tmp 12) (.tmp 21) 43 50 (.agg #[(.int .i64 0), (.int .i64 0), (.int .i64 0), (.int .i64 0)]) 32 rfl Try.underlying43 info50 rfl (by decide) (by omega) (.slice Ao xs.length co) xs (⟨kd, fr, at_, n⟩ : S50) [.int .i64 kd, .int .i64 fr, .int .i64 at_, .int .i64 n] (fun k_ => k_ ≠ g) (fun _ => False) rfl rfl ?aP (fun _ hk => hk.elim) ?aF ?aO ?aB ?aS ?aL ?_
  case aP => exact k50_mkM _ _ _ (⟨kd, fr, at_, n⟩ : S50)
  case aB => exact (hb1 HB GE103)
  case aF =>
    intro k_ hk_ e_
    subst e_
    exact absurd hk_ (Nat.not_le_of_lt (blk_lt (bx BK103)))
  case aO => exact rx HO
  case aS => exact (below_size (hb1 HB GE103))
  case aL => have := LM.out; omega
  intro v105 w9 ho hb hg hat
  rw [← Ny104.out] at ho
  have hne : some g ≠ (Value.slice Ao xs.length co).ownBlock := fun e_ => HO.out.1 g e_.symm rfl
  replace BK103 := Aside0.mk (blk_grown (bx BK103) hg hne)
  replace HB := Aside0.mk (hb)
  have HO106 := Aside0.mk (ho)
  clear ho hb hg hat hne
  obtain ⟨Ao10, co10, eo10⟩ := Kd.R_slice HO106.out
  first | subst eo10 | obtain ⟨rfl, rfl⟩ := sx eo10
  refine hK.out _ _ ⟨bc BK103 0, bc BK103 1, bc BK103 2⟩ (fun hHeld => ?_)
  clear hK K
  refine nm_ (some 22) ?_
  refine pu_ 15 (some 23) (pf 16 18) HT_ ?_
  refine pu_ 16 (some 24) (pf 17 18) HT_ ?_
  refine last_ (i := 17) (N := none) (pf 18 18) rfl rfl (one_of HT_.out (by kernel_rfl)) (by decide) (fun K hK => ?_)
  have hs11 : w9.cell? ⟨g, 2, none⟩ = some (.slice Ao xs.length co) := bc BK103 2
  have hfs11 := blk_frozen BK103.out 2
  refine skip_ (w1 := ?_) (by rfl) rfl ?_ ?_
  rotate_left
  · go_simp
    rfl
  refine hK.out _ _ ?_
  clear hK K
  refine done_ (done_of HT_.out (by kernel_rfl)) ?_
  try go_wp2
  go_end0
  refine ⟨rfl, .slice Ao10 y104.length co10, ?_⟩
  rw [← Ny104.out]
  exact ⟨bp BK103, Kd.R_far HO106.out (fun _ hk => hk) _, hb1 HB GE103⟩
theorem Sc.setAt {w W : World} {g : Nat} {A : Option Addr} {c : Nat} {l : List Int} {at_ : Int} {u : Value} {xs : List S50} (hge : w.heap.size ≤ g) (h : Sc w W g A c l at_ u xs) (b : Int) : Sc w (W.setCell ⟨g, 1, none⟩ (.int .i64 b)) g A c l b u xs :=
  ⟨blk_put h.1 1 _ rfl, Kd.R_far h.2.1 (fun _ hk => hk) _, below_set h.2.2 hge⟩
/-- The number that m digits from i say: the first nine alone. -/
def val (l : List Int) (i : Nat) : Nat → Int
  | 0 => 0
  | m + 1 => if m < 9 then 10 * val l i m + (rd l ((i + m : Nat) : Int) - 48) else val l i m
def badB (l : List Int) (i m : Nat) : Bool := decide (m > 9 ∨ m > 1 ∧ rd l (i : Int) = 48)
theorem digB_iff (l : List Int) (i : Nat) : digB l (i : Int) = true ↔ i < l.length ∧ 48 ≤ rd l (i : Int) ∧ rd l (i : Int) ≤ 57 := by
  unfold digB
  rw [decide_eq_true_eq]
  omega
theorem val_bound (l : List Int) (i : Nat) : ∀ m, (∀ k, k < m → digB l ((i + k : Nat) : Int) = true) → 0 ≤ val l i m ∧ val l i m < 10 ^ m
  | 0, _ => by simp [val]
  | m + 1, h => by
    have ih := val_bound l i m (fun k hk => h k (by omega))
    have d := (digB_iff l (i + m)).1 (h m (by omega))
    have e : (10 : Int) ^ (m + 1) = 10 * 10 ^ m := by rw [Int.pow_succ]; omega
    unfold val
    rw [e]
    split
    · omega
    · omega
theorem val_lt (l : List Int) (i m : Nat) (h : ∀ k, k < m → digB l ((i + k : Nat) : Int) = true) : 0 ≤ val l i m ∧ val l i m < 1000000000 := by
  by_cases c : m ≤ 9
  · have := val_bound l i m h
    have e : (10 : Int) ^ m ≤ 10 ^ 9 := by
      have : m = 0 ∨ m = 1 ∨ m = 2 ∨ m = 3 ∨ m = 4 ∨ m = 5 ∨ m = 6 ∨ m = 7 ∨ m = 8 ∨ m = 9 := by omega
      rcases this with rfl | rfl | rfl | rfl | rfl | rfl | rfl | rfl | rfl | rfl <;> decide
    omega
  · have e : ∀ q, val l i (9 + q) = val l i 9 := by
      intro q
      induction q with
      | zero => rfl
      | succ q ih =>
        show (if 9 + q < 9 then 10 * val l i (9 + q) + (rd l ((i + (9 + q) : Nat) : Int) - 48) else val l i (9 + q)) = _
        rw [if_neg (by omega), ih]
    have e9 := e (m - 9)
    rw [show 9 + (m - 9) = m by omega] at e9
    have := val_bound l i 9 (fun k hk => h k (by omega))
    rw [e9]
    omega
theorem val_step (l : List Int) (i j : Nat) (h : ∀ k, k < j + 1 → digB l ((i + k : Nat) : Int) = true) (hj : j < 9) : wrap64 (wrap64 (10 * val l i j) + (rd l ((i + j : Nat) : Int) - 48) % 256) = val l i (j + 1) := by
  have v := val_lt l i j (fun k hk => h k (by omega))
  have d := (digB_iff l (i + j)).1 (h j (by omega))
  have e : val l i (j + 1) = 10 * val l i j + (rd l ((i + j : Nat) : Int) - 48) := by
    show (if j < 9 then _ else _) = _
    rw [if_pos hj]
  rw [e]
  unfold wrap64
  omega
theorem val_stay (l : List Int) (i j : Nat) (hj : ¬ j < 9) : val l i (j + 1) = val l i j := by
  show (if j < 9 then _ else _) = _
  rw [if_neg hj]
set_option maxHeartbeats 8000000 in
set_option maxRecDepth 100000 in
theorem run_c {w W : World} {g : Nat} {A : Option Addr} {c : Nat} {l : List Int} {u : Value} {xs : List S50} (i m : Nat) (hC : Kd.C (Kd.int .u8) w A l.length l) (hge : w.heap.size ≤ g) (hl : l.length ≤ 140737488355328) (hx : xs.length < 4398046511104)
    (hm : ∀ k, k < m → digB l ((i + k : Nat) : Int) = true) (hm2 : digB l ((i + m : Nat) : Int) = false) (h : Sc w W g A c l (i : Int) u xs) :
    Calls Try.prog 23 #[.pointer (some ⟨g, 0, none⟩)] W fun e w' =>
      if badB l i m then e = .panicked [{ v := .iface 60 (.agg #[.int .i64 i, .int .i64 12]), recovered := false }] ∧ Sc w w' g A c l ((i + m : Nat) : Int) u xs
      else e = .returned (.tuple #[]) ∧ ∃ u', Sc w w' g A c l ((i + m : Nat) : Int) u' (xs ++ [⟨1, i, ((i + m : Nat) : Int), val l i m⟩]) := by
  have HS := Aside0.mk h
  have HM := Aside0.mk hm
  have HM2 := Aside0.mk hm2
  have HC := Aside0.mk hC
  have GE := Aside0.mk hge
  have HL := Aside0.mk hl
  have HX := Aside0.mk hx
  have hcz_0 : W.cell? ⟨g, 0, none⟩ = some (.slice A l.length c) := (blk_cell h.1 0).trans rfl
  have hcz_1 : W.cell? ⟨g, 1, none⟩ = some (.int .i64 (i : Int)) := (blk_cell h.1 1).trans rfl
  have hcz_2 : W.cell? ⟨g, 2, none⟩ = some u := (blk_cell h.1 2).trans rfl
  clear h hm hm2 hC hge hl hx
  go_enter Try.func23, Try.ntmps23
  go_wp2_with (fail)
  go_loopg [3] m (fun kq v3 w' => ∃ (j : Nat), v3 = .int .i64 (val l i j) ∧ Aside0 (j + kq = m) ∧ Aside0 (Sc w w' g A c l ((i + j : Nat) : Int) u xs))
  case atStart => exact ⟨0, rfl, ⟨by omega⟩, ⟨by simpa using HS.out⟩⟩
  case round =>
    clear hcz_0 hcz_1 hcz_2 HS
    obtain ⟨j, rfl, HJ, HS⟩ := hrel
    obtain ⟨p, hp⟩ : ∃ p : Int, ((i + j : Nat) : Int) = p := ⟨_, rfl⟩
    obtain ⟨nv, hnv⟩ : ∃ nv : Int, val l i j = nv := ⟨_, rfl⟩
    obtain ⟨sz, hsz⟩ : ∃ sz : Int, (j : Int) = sz := ⟨_, rfl⟩
    rw [hp] at HS
    have hw0 := HS.out.2.2
    have HP := Aside0.mk hp
    have HNV := Aside0.mk hnv
    have HSZ := Aside0.mk hsz
    cases gk with
    | zero =>
      have ej : j = m := by have := HJ.out; omega
      subst ej
      have hd : digB l p = false := by rw [← hp]; exact HM2.out
      have e1 : wrap64 (p - (i : Int)) = sz := by rw [← hp, ← hsz]; have := HL.out; have hh : j = 0 ∨ 0 < j := by omega
                                                  rcases hh with hh | hh
                                                  · subst hh; unfold wrap64; omega
                                                  · have := (digB_iff l (i + (j - 1))).1 (HM.out (j - 1) (by omega)); unfold wrap64; omega
      have h0 : 0 ≤ p := by omega
      clear hp hnv hsz
      have hpn : ∀ (t : TypeId) (v : Value) (w : World), (Instr.panic (.iface t v)).run Try.prog w = .halt (.panic (.iface t v)) w := fun _ _ _ => rfl
      by_cases b9 : 9 < j
      · have c9 : decide (9 < sz) = true := decide_eq_true (by have := HSZ.out; omega)
        have hbad : badB l i j = true := by unfold badB; rw [decide_eq_true_eq]; omega
        go_wp2_with (first | (go_at_call 22; refine (digit_c HC.out h0 HS.out).mono ?_; rintro e w2 ⟨rfl, HS2⟩; rw [hd]; have HT := Aside0.mk HS2; have hcz_0 : w2.cell? ⟨g, 0, none⟩ = some (.slice A l.length c) := (blk_cell HS2.1 0).trans rfl; have hcz_1 : w2.cell? ⟨g, 1, none⟩ = some (.int .i64 p) := (blk_cell HS2.1 1).trans rfl; have hcz_2 : w2.cell? ⟨g, 2, none⟩ = some u := (blk_cell HS2.1 2).trans rfl; clear HS2))
        all_goals
          refine ⟨rfl, ?_⟩
          (try rw [if_pos hbad])
          refine ⟨rfl, ?_⟩
          have hpp : (i : Int) + (j : Int) = p := by have := HP.out; omega
          rw [hpp]
          exact HT.out
      · have c9 : decide (9 < sz) = false := decide_eq_false (by have := HSZ.out; omega)
        by_cases b1 : 1 < j
        · have c1 : decide (1 < sz) = true := decide_eq_true (by have := HSZ.out; omega)
          have d0 := (digB_iff l i).1 (by simpa using HM.out 0 (by omega))
          have i0 : (0 : Int) ≤ (i : Int) := by omega
          have i1 : (i : Int) < (l.length : Int) := by omega
          obtain ⟨ad, e, hx⟩ := Kd.at_int HC.out (i : Int) i0 i1
          cases e
          have HX2 := Aside0.mk hx
          have q0 := eq_true i0
          have q1 := eq_true i1
          have q2 : decide ((i : Int) < (l.length : Int)) = true := decide_eq_true i1
          clear hx
          by_cases b48 : rd l (i : Int) = 48
          · have c48 : decide (rd l (i : Int) = 48) = true := decide_eq_true b48
            have c48b : (rd l (i : Int) == 48) = true := beq_iff_eq.2 b48
            have hbad : badB l i j = true := by unfold badB; rw [decide_eq_true_eq]; omega
            clear b48
            go_wp2_with (first | (go_at_call 22; refine (digit_c HC.out h0 HS.out).mono ?_; rintro e w2 ⟨rfl, HS2⟩; rw [hd]; have HT := Aside0.mk HS2; have hcz_0 : w2.cell? ⟨g, 0, none⟩ = some (.slice (some ad) l.length c) := (blk_cell HS2.1 0).trans rfl; have hcz_1 : w2.cell? ⟨g, 1, none⟩ = some (.int .i64 p) := (blk_cell HS2.1 1).trans rfl; have hcz_2 : w2.cell? ⟨g, 2, none⟩ = some u := (blk_cell HS2.1 2).trans rfl; have hxx := pw_cell_below HS2.2.2 HX2.out; rw [Int.toNat_natCast] at hxx; clear HS2))
            all_goals
              refine ⟨rfl, ?_⟩
              (try rw [if_pos hbad])
              refine ⟨rfl, ?_⟩
              have hpp : (i : Int) + (j : Int) = p := by have := HP.out; omega
              rw [hpp]
              exact HT.out
          · have c48 : decide (rd l (i : Int) = 48) = false := decide_eq_false b48
            have c48b : (rd l (i : Int) == 48) = false := beq_eq_false_iff_ne.2 b48
            have hbad : badB l i j = false := by unfold badB; rw [decide_eq_false_iff_not]; omega
            clear b48
            go_wp2_with (first | (go_at_call 22; refine (digit_c HC.out h0 HS.out).mono ?_; rintro e w2 ⟨rfl, HS2⟩; rw [hd]; have HT := Aside0.mk HS2; have hcz_0 : w2.cell? ⟨g, 0, none⟩ = some (.slice (some ad) l.length c) := (blk_cell HS2.1 0).trans rfl; have hcz_1 : w2.cell? ⟨g, 1, none⟩ = some (.int .i64 p) := (blk_cell HS2.1 1).trans rfl; have hcz_2 : w2.cell? ⟨g, 2, none⟩ = some u := (blk_cell HS2.1 2).trans rfl; have hxx := pw_cell_below HS2.2.2 HX2.out; rw [Int.toNat_natCast] at hxx; clear HS2) | (go_at_call 24; refine (put_c 1 (i : Int) (val l i j) GE.out HX.out HT.out).mono ?_; rintro e w3 ⟨rfl, u', HU⟩; have HU2 := Aside0.mk HU; clear HU))
            all_goals
              go_end0
              refine ⟨rfl, u', ?_⟩
              have hpp : (i : Int) + (j : Int) = p := by have := HP.out; omega
              rw [hpp]
              exact HU2.out
        · have c1 : decide (1 < sz) = false := decide_eq_false (by have := HSZ.out; omega)
          have hbad : badB l i j = false := by unfold badB; rw [decide_eq_false_iff_not]; omega
          go_wp2_with (first | (go_at_call 22; refine (digit_c HC.out h0 HS.out).mono ?_; rintro e w2 ⟨rfl, HS2⟩; rw [hd]; have HT := Aside0.mk HS2; have hcz_0 : w2.cell? ⟨g, 0, none⟩ = some (.slice A l.length c) := (blk_cell HS2.1 0).trans rfl; have hcz_1 : w2.cell? ⟨g, 1, none⟩ = some (.int .i64 p) := (blk_cell HS2.1 1).trans rfl; have hcz_2 : w2.cell? ⟨g, 2, none⟩ = some u := (blk_cell HS2.1 2).trans rfl; clear HS2) | (go_at_call 24; refine (put_c 1 (i : Int) (val l i j) GE.out HX.out HT.out).mono ?_; rintro e w3 ⟨rfl, u', HU⟩; have HU2 := Aside0.mk HU; clear HU))
          all_goals
            go_end0
            refine ⟨rfl, u', ?_⟩
            have hpp : (i : Int) + (j : Int) = p := by have := HP.out; omega
            rw [hpp]
            exact HU2.out
    | succ k1 =>
      have hd := HM.out j (by have := HJ.out; omega)
      have hd3 := (digB_iff l (i + j)).1 hd
      rw [hp] at hd hd3
      obtain ⟨p1, hp1⟩ : ∃ p1 : Int, p + 1 = p1 := ⟨_, rfl⟩
      have e1 : wrap64 (p - (i : Int)) = sz := by rw [← hp, ← hsz]; have := HL.out; unfold wrap64; omega
      have e2 : wrap64 (p + 1) = p1 := by rw [← hp1, ← hp]; have := HL.out; unfold wrap64; omega
      have h0 : 0 ≤ p := by omega
      have h1 : p < (l.length : Int) := by omega
      obtain ⟨ad, e, hx⟩ := Kd.at_int HC.out p h0 h1
      cases e
      have HX2 := Aside0.mk hx
      have HP1 := Aside0.mk hp1
      have H3 := Aside0.mk hd3
      have q0 := eq_true h0
      have q1 := eq_true h1
      have q2 : decide (p < (l.length : Int)) = true := decide_eq_true h1
      clear hp hnv hsz hp1 hd3 h1 hx
      by_cases cj : j < 9
      · have csz : decide (sz < 9) = true := decide_eq_true (by have := HSZ.out; omega)
        go_wp2_with (first | (go_at_call 22; refine (digit_c HC.out h0 HS.out).mono ?_; rintro e w2 ⟨rfl, HS2⟩; rw [hd]; have HT := Aside0.mk HS2; have hcz_0 : w2.cell? ⟨g, 0, none⟩ = some (.slice (some ad) l.length c) := (blk_cell HS2.1 0).trans rfl; have hcz_1 : w2.cell? ⟨g, 1, none⟩ = some (.int .i64 p) := (blk_cell HS2.1 1).trans rfl; have hcz_2 : w2.cell? ⟨g, 2, none⟩ = some u := (blk_cell HS2.1 2).trans rfl; have hfz_1 := blk_frozen HS2.1 1; have hxx := pw_cell_below HS2.2.2 HX2.out; clear HS2))
        repeat (go_quiet (fail); try go_wp2)
        go_roundg k1
        case measure => omega
        case rel => exact ⟨j + 1, congrArg _ (by have := val_step l i j (fun k hk => HM.out k (by have := HJ.out; omega)) cj; rwa [HP.out] at this), ⟨by have := HJ.out; omega⟩, ⟨by have := Sc.setAt GE.out (Sc.drewN HT.out nq) p1; rwa [show p1 = ((i + (j + 1) : Nat) : Int) by have := HP.out; have := HP1.out; omega] at this ⊢⟩⟩
      · have csz : decide (sz < 9) = false := decide_eq_false (by have := HSZ.out; omega)
        go_wp2_with (first | (go_at_call 22; refine (digit_c HC.out h0 HS.out).mono ?_; rintro e w2 ⟨rfl, HS2⟩; rw [hd]; have HT := Aside0.mk HS2; have hcz_0 : w2.cell? ⟨g, 0, none⟩ = some (.slice (some ad) l.length c) := (blk_cell HS2.1 0).trans rfl; have hcz_1 : w2.cell? ⟨g, 1, none⟩ = some (.int .i64 p) := (blk_cell HS2.1 1).trans rfl; have hcz_2 : w2.cell? ⟨g, 2, none⟩ = some u := (blk_cell HS2.1 2).trans rfl; have hfz_1 := blk_frozen HS2.1 1; have hxx := pw_cell_below HS2.2.2 HX2.out; clear HS2))
        go_roundg k1
        case measure => omega
        case rel => exact ⟨j + 1, congrArg _ (val_stay l i j cj).symm, ⟨by have := HJ.out; omega⟩, ⟨by have := Sc.setAt GE.out HT.out p1; rwa [show p1 = ((i + (j + 1) : Nat) : Int) by have := HP.out; have := HP1.out; omega] at this ⊢⟩⟩
/-- how many digits stand from i on -/
def ndig (l : List Int) : Nat → Nat → Nat
  | 0, _ => 0
  | f + 1, i => if digB l (i : Int) = true then ndig l f (i + 1) + 1 else 0
theorem ndig_all (l : List Int) : ∀ f i k, k < ndig l f i → digB l ((i + k : Nat) : Int) = true
  | 0, i, k, h => by simp [ndig] at h
  | f + 1, i, k, h => by
    unfold ndig at h
    split at h
    · rename_i c
      cases k with
      | zero => exact c
      | succ k =>
        have := ndig_all l f (i + 1) k (by omega)
        rwa [show i + 1 + k = i + (k + 1) by omega] at this
    · omega
theorem ndig_end (l : List Int) : ∀ f i, l.length ≤ i + f → digB l ((i + ndig l f i : Nat) : Int) = false
  | 0, i, h => by
    cases c : digB l ((i + ndig l 0 i : Nat) : Int)
    · rfl
    · have := (digB_iff l _).1 c
      simp only [ndig] at this
      omega
  | f + 1, i, h => by
    unfold ndig
    split
    · have := ndig_end l f (i + 1) (by omega)
      rwa [show i + 1 + ndig l f (i + 1) = i + (ndig l f (i + 1) + 1) by omega] at this
    · rename_i c
      cases q : digB l (i : Int)
      · first | rfl | exact q
      · exact absurd q c
theorem ndig_pos (l : List Int) (f i : Nat) (h : digB l (i : Int) = true) : 0 < ndig l (f + 1) i := by
  unfold ndig
  rw [if_pos h]
  omega
theorem ndig_le (l : List Int) (f i : Nat) (hi : i ≤ l.length) : i + ndig l f i ≤ l.length := by
  cases q : ndig l f i with
  | zero => omega
  | succ k =>
    have := (digB_iff l (i + k)).1 (ndig_all l f i k (by omega))
    omega
def blk (c : Int) : Bool := decide (c = 32 ∨ c = 9 ∨ c = 13)
/-- What the scanner says of the bytes from i on. -/
def scanG (l : List Int) : Nat → Nat → List S50 → Except (Int × Int) (List S50)
  | 0, i, acc => .ok (acc ++ [⟨3, i, i, 0⟩])
  | f + 1, i, acc =>
    if i < l.length then
      if digB l (i : Int) = true then
        if badB l i (ndig l (l.length + 1) i) = true then .error ((i : Int), 12)
        else scanG l f (i + ndig l (l.length + 1) i) (acc ++ [⟨1, i, ((i + ndig l (l.length + 1) i : Nat) : Int), val l i (ndig l (l.length + 1) i)⟩])
      else if rd l (i : Int) = 10 then scanG l f (i + 1) (acc ++ [⟨2, i, ((i + 1 : Nat) : Int), 0⟩])
      else if blk (rd l (i : Int)) = true then scanG l f (i + 1) acc
      else .error ((i : Int), 11)
    else .ok (acc ++ [⟨3, i, i, 0⟩])
def AllP (w w' : World) (g : Nat) (A : Option Addr) (c : Nat) (l : List Int) (e : Ending) : Except (Int × Int) (List S50) → Prop
  | .ok ts => e = .returned (.tuple #[]) ∧ ∃ (a : Int) (u : Value), Sc w w' g A c l a u ts
  | .error (a, b) => e = .panicked [{ v := .iface 60 (.agg #[.int .i64 a, .int .i64 b]), recovered := false }] ∧ Below w.heap.size w w'
set_option maxHeartbeats 8000000 in
set_option maxRecDepth 100000 in
theorem all_c {w W : World} {g : Nat} {A : Option Addr} {c : Nat} {l : List Int} {u : Value} (hC : Kd.C (Kd.int .u8) w A l.length l) (hge : w.heap.size ≤ g) (hl : l.length ≤ 140737488355328) (h : Sc w W g A c l 0 u []) :
    Calls Try.prog 19 #[.pointer (some ⟨g, 0, none⟩)] W fun e w' => AllP w w' g A c l e (if 33554432 < l.length then .error (33554432, 10) else scanG l l.length 0 []) := by
  have hpn : ∀ (t : TypeId) (v : Value) (w : World), (Instr.panic (.iface t v)).run Try.prog w = .halt (.panic (.iface t v)) w := fun _ _ _ => rfl
  have HS := Aside0.mk h
  have HC := Aside0.mk hC
  have GE := Aside0.mk hge
  have HL := Aside0.mk hl
  have hcz_0 : W.cell? ⟨g, 0, none⟩ = some (.slice A l.length c) := (blk_cell h.1 0).trans rfl
  have hcz_1 : W.cell? ⟨g, 1, none⟩ = some (.int .i64 0) := (blk_cell h.1 1).trans rfl
  have hcz_2 : W.cell? ⟨g, 2, none⟩ = some u := (blk_cell h.1 2).trans rfl
  have hfz_1 := blk_frozen h.1 1
  clear h hC hge hl
  by_cases cl : 33554432 < l.length
  · have clb : decide (33554432 < (l.length : Int)) = true := decide_eq_true (by omega)
    rw [if_pos cl]
    clear cl
    go_enter Try.func19, Try.ntmps19
    go_wp2_with (fail)
    refine ⟨rfl, ?_⟩
    unfold AllP
    exact ⟨rfl, HS.out.2.2⟩
  · have clb : decide (33554432 < (l.length : Int)) = false := decide_eq_false (by omega)
    rw [if_neg cl]
    obtain ⟨R, hR⟩ : ∃ R, scanG l l.length 0 [] = R := ⟨_, rfl⟩
    rw [hR]
    have HR := Aside0.mk hR
    have HCL := Aside0.mk cl
    clear cl hR
    go_enter Try.func19, Try.ntmps19
    go_wp2_with (fail)
    go_loopg [] l.length (fun kq w' => ∃ (i : Nat) (acc : List S50) (u : Value), Aside0 (scanG l kq i acc = R) ∧ Aside0 (i ≤ l.length ∧ l.length ≤ i + kq ∧ acc.length ≤ i) ∧ Aside0 (Sc w w' g A c l (i : Int) u acc))
    case atStart => exact ⟨0, [], u, HR, ⟨by simp⟩, HS⟩
    case round =>
      clear hcz_0 hcz_1 hcz_2 hfz_1 HS HR u
      obtain ⟨i, acc, u, HR, HI, HS⟩ := hrel
      have hcz_0 : wr.cell? ⟨g, 0, none⟩ = some (.slice A l.length c) := (blk_cell HS.out.1 0).trans rfl
      have hcz_1 : wr.cell? ⟨g, 1, none⟩ = some (.int .i64 (i : Int)) := (blk_cell HS.out.1 1).trans rfl
      have hcz_2 : wr.cell? ⟨g, 2, none⟩ = some u := (blk_cell HS.out.1 2).trans rfl
      have hfz_1 := blk_frozen HS.out.1 1
      have ab : acc.length < 4398046511104 := by have := HI.out; have := HCL.out; omega
      have i0 : (0 : Int) ≤ (i : Int) := by omega
      by_cases ce : i < l.length
      · have i1 : (i : Int) < (l.length : Int) := by omega
        have q2 : decide ((i : Int) < (l.length : Int)) = true := decide_eq_true i1
        obtain ⟨ad, e, hx⟩ := Kd.at_int HC.out (i : Int) i0 i1
        cases e
        have hxx := pw_cell_below HS.out.2.2 hx
        rw [Int.toNat_natCast] at hxx
        have HX2 := Aside0.mk hxx
        have q0 := eq_true i0
        have q1 := eq_true i1
        obtain ⟨p1, hp1⟩ : ∃ p1 : Int, (i : Int) + 1 = p1 := ⟨_, rfl⟩
        have e2 : wrap64 ((i : Int) + 1) = p1 := by rw [← hp1]; have := HL.out; unfold wrap64; omega
        have e3 : wrap64 (p1 - 1) = (i : Int) := by rw [← hp1]; have := HL.out; unfold wrap64; omega
        have HP1 := Aside0.mk hp1
        clear hx hp1 i1
        cases gk with
        | zero => exact absurd HI.out.2.1 (by omega)
        | succ k1 =>
          have hr := HR.out
          simp only [scanG] at hr
          rw [if_pos ce] at hr
          by_cases hd : digB l (i : Int) = true
          · rw [if_pos hd] at hr
            by_cases hb : badB l i (ndig l (l.length + 1) i) = true
            · rw [if_pos hb] at hr
              have HR2 := Aside0.mk hr
              clear hr HR
              go_wp2_with (first | (go_at_call 22; refine (digit_c HC.out i0 (by first | exact HS.out | exact Sc.drewN HS.out _ | exact Sc.drewN (Sc.drewN HS.out _) _ | exact Sc.drewN (Sc.drewN (Sc.drewN HS.out _) _) _)).mono ?_; rintro e w2 ⟨rfl, HS2⟩; rw [hd]; have HT := Aside0.mk HS2; have hcz_0 : w2.cell? ⟨g, 0, none⟩ = some (.slice (some ad) l.length c) := (blk_cell HS2.1 0).trans rfl; have hcz_1 : w2.cell? ⟨g, 1, none⟩ = some (.int .i64 (i : Int)) := (blk_cell HS2.1 1).trans rfl; have hcz_2 : w2.cell? ⟨g, 2, none⟩ = some u := (blk_cell HS2.1 2).trans rfl; have hfz_1 := blk_frozen HS2.1 1; clear HS2) | (go_at_call 23; refine (run_c i (ndig l (l.length + 1) i) HC.out GE.out HL.out ab (ndig_all l (l.length + 1) i) (ndig_end l (l.length + 1) i (by omega)) HT.out).mono ?_; rintro e w3 hrun; rw [if_pos hb] at hrun; obtain ⟨rfl, hrun⟩ := hrun; have HU := Aside0.mk hrun; clear hrun))
              repeat (go_quiet (first | (go_at_call 22; refine (digit_c HC.out i0 (by first | exact HS.out | exact Sc.drewN HS.out _ | exact Sc.drewN (Sc.drewN HS.out _) _ | exact Sc.drewN (Sc.drewN (Sc.drewN HS.out _) _) _)).mono ?_; rintro e w2 ⟨rfl, HS2⟩; rw [hd]; have HT := Aside0.mk HS2; have hcz_0 : w2.cell? ⟨g, 0, none⟩ = some (.slice (some ad) l.length c) := (blk_cell HS2.1 0).trans rfl; have hcz_1 : w2.cell? ⟨g, 1, none⟩ = some (.int .i64 (i : Int)) := (blk_cell HS2.1 1).trans rfl; have hcz_2 : w2.cell? ⟨g, 2, none⟩ = some u := (blk_cell HS2.1 2).trans rfl; have hfz_1 := blk_frozen HS2.1 1; clear HS2) | (go_at_call 23; refine (run_c i (ndig l (l.length + 1) i) HC.out GE.out HL.out ab (ndig_all l (l.length + 1) i) (ndig_end l (l.length + 1) i (by omega)) HT.out).mono ?_; rintro e w3 hrun; rw [if_pos hb] at hrun; obtain ⟨rfl, hrun⟩ := hrun; have HU := Aside0.mk hrun; clear hrun)); try go_wp2_with (first | (go_at_call 22; refine (digit_c HC.out i0 (by first | exact HS.out | exact Sc.drewN HS.out _ | exact Sc.drewN (Sc.drewN HS.out _) _ | exact Sc.drewN (Sc.drewN (Sc.drewN HS.out _) _) _)).mono ?_; rintro e w2 ⟨rfl, HS2⟩; rw [hd]; have HT := Aside0.mk HS2; have hcz_0 : w2.cell? ⟨g, 0, none⟩ = some (.slice (some ad) l.length c) := (blk_cell HS2.1 0).trans rfl; have hcz_1 : w2.cell? ⟨g, 1, none⟩ = some (.int .i64 (i : Int)) := (blk_cell HS2.1 1).trans rfl; have hcz_2 : w2.cell? ⟨g, 2, none⟩ = some u := (blk_cell HS2.1 2).trans rfl; have hfz_1 := blk_frozen HS2.1 1; clear HS2) | (go_at_call 23; refine (run_c i (ndig l (l.length + 1) i) HC.out GE.out HL.out ab (ndig_all l (l.length + 1) i) (ndig_end l (l.length + 1) i (by omega)) HT.out).mono ?_; rintro e w3 hrun; rw [if_pos hb] at hrun; obtain ⟨rfl, hrun⟩ := hrun; have HU := Aside0.mk hrun; clear hrun)))
              refine ⟨rfl, ?_⟩
              rw [← HR2.out]
              unfold AllP
              exact ⟨rfl, HU.out.2.2⟩
            · rw [if_neg hb] at hr
              have HR2 := Aside0.mk hr
              clear hr HR
              go_wp2_with (first | (go_at_call 22; refine (digit_c HC.out i0 (by first | exact HS.out | exact Sc.drewN HS.out _ | exact Sc.drewN (Sc.drewN HS.out _) _ | exact Sc.drewN (Sc.drewN (Sc.drewN HS.out _) _) _)).mono ?_; rintro e w2 ⟨rfl, HS2⟩; rw [hd]; have HT := Aside0.mk HS2; have hcz_0 : w2.cell? ⟨g, 0, none⟩ = some (.slice (some ad) l.length c) := (blk_cell HS2.1 0).trans rfl; have hcz_1 : w2.cell? ⟨g, 1, none⟩ = some (.int .i64 (i : Int)) := (blk_cell HS2.1 1).trans rfl; have hcz_2 : w2.cell? ⟨g, 2, none⟩ = some u := (blk_cell HS2.1 2).trans rfl; have hfz_1 := blk_frozen HS2.1 1; clear HS2) | (go_at_call 23; refine (run_c i (ndig l (l.length + 1) i) HC.out GE.out HL.out ab (ndig_all l (l.length + 1) i) (ndig_end l (l.length + 1) i (by omega)) HT.out).mono ?_; rintro e w3 hrun; rw [if_neg hb] at hrun; obtain ⟨rfl, u', hrun⟩ := hrun; have HU := Aside0.mk hrun; clear hrun))
              repeat (go_quiet (first | (go_at_call 22; refine (digit_c HC.out i0 (by first | exact HS.out | exact Sc.drewN HS.out _ | exact Sc.drewN (Sc.drewN HS.out _) _ | exact Sc.drewN (Sc.drewN (Sc.drewN HS.out _) _) _)).mono ?_; rintro e w2 ⟨rfl, HS2⟩; rw [hd]; have HT := Aside0.mk HS2; have hcz_0 : w2.cell? ⟨g, 0, none⟩ = some (.slice (some ad) l.length c) := (blk_cell HS2.1 0).trans rfl; have hcz_1 : w2.cell? ⟨g, 1, none⟩ = some (.int .i64 (i : Int)) := (blk_cell HS2.1 1).trans rfl; have hcz_2 : w2.cell? ⟨g, 2, none⟩ = some u := (blk_cell HS2.1 2).trans rfl; have hfz_1 := blk_frozen HS2.1 1; clear HS2) | (go_at_call 23; refine (run_c i (ndig l (l.length + 1) i) HC.out GE.out HL.out ab (ndig_all l (l.length + 1) i) (ndig_end l (l.length + 1) i (by omega)) HT.out).mono ?_; rintro e w3 hrun; rw [if_neg hb] at hrun; obtain ⟨rfl, u', hrun⟩ := hrun; have HU := Aside0.mk hrun; clear hrun)); try go_wp2_with (first | (go_at_call 22; refine (digit_c HC.out i0 (by first | exact HS.out | exact Sc.drewN HS.out _ | exact Sc.drewN (Sc.drewN HS.out _) _ | exact Sc.drewN (Sc.drewN (Sc.drewN HS.out _) _) _)).mono ?_; rintro e w2 ⟨rfl, HS2⟩; rw [hd]; have HT := Aside0.mk HS2; have hcz_0 : w2.cell? ⟨g, 0, none⟩ = some (.slice (some ad) l.length c) := (blk_cell HS2.1 0).trans rfl; have hcz_1 : w2.cell? ⟨g, 1, none⟩ = some (.int .i64 (i : Int)) := (blk_cell HS2.1 1).trans rfl; have hcz_2 : w2.cell? ⟨g, 2, none⟩ = some u := (blk_cell HS2.1 2).trans rfl; have hfz_1 := blk_frozen HS2.1 1; clear HS2) | (go_at_call 23; refine (run_c i (ndig l (l.length + 1) i) HC.out GE.out HL.out ab (ndig_all l (l.length + 1) i) (ndig_end l (l.length + 1) i (by omega)) HT.out).mono ?_; rintro e w3 hrun; rw [if_neg hb] at hrun; obtain ⟨rfl, u', hrun⟩ := hrun; have HU := Aside0.mk hrun; clear hrun)))
              go_roundg k1
              case measure => omega
              case rel => exact ⟨i + ndig l (l.length + 1) i, _, u', HR2, ⟨by have := HI.out; have := ndig_le l (l.length + 1) i (by omega); have := ndig_pos l l.length i hd; simp; omega⟩, HU⟩
          · have hd : digB l (i : Int) = false := by cases q : digB l (i : Int); rfl; exact absurd q hd
            rw [if_neg (by rw [hd]; decide)] at hr
            by_cases b10 : rd l (i : Int) = 10
            · rw [if_pos b10] at hr
              have HR2 := Aside0.mk hr
              clear hr HR
              have c10 : decide (rd l (i : Int) = 10) = true := decide_eq_true b10
              have c10b : (rd l (i : Int) == 10) = true := beq_iff_eq.2 b10
              clear b10
              go_wp2_with (first | (go_at_call 22; refine (digit_c HC.out i0 (by first | exact HS.out | exact Sc.drewN HS.out _ | exact Sc.drewN (Sc.drewN HS.out _) _ | exact Sc.drewN (Sc.drewN (Sc.drewN HS.out _) _) _)).mono ?_; rintro e w2 ⟨rfl, HS2⟩; rw [hd]; have HT := Aside0.mk HS2; have hcz_0 : w2.cell? ⟨g, 0, none⟩ = some (.slice (some ad) l.length c) := (blk_cell HS2.1 0).trans rfl; have hcz_1 : w2.cell? ⟨g, 1, none⟩ = some (.int .i64 (i : Int)) := (blk_cell HS2.1 1).trans rfl; have hcz_2 : w2.cell? ⟨g, 2, none⟩ = some u := (blk_cell HS2.1 2).trans rfl; have hfz_1 := blk_frozen HS2.1 1; clear HS2) | (go_at_call 24; refine (put_c 2 (i : Int) 0 GE.out ab (Sc.setAt GE.out HT.out p1)).mono ?_; rintro e w3 ⟨rfl, u', HU⟩; have HU2 := Aside0.mk HU; clear HU))
              repeat (go_quiet (first | (go_at_call 22; refine (digit_c HC.out i0 (by first | exact HS.out | exact Sc.drewN HS.out _ | exact Sc.drewN (Sc.drewN HS.out _) _ | exact Sc.drewN (Sc.drewN (Sc.drewN HS.out _) _) _)).mono ?_; rintro e w2 ⟨rfl, HS2⟩; rw [hd]; have HT := Aside0.mk HS2; have hcz_0 : w2.cell? ⟨g, 0, none⟩ = some (.slice (some ad) l.length c) := (blk_cell HS2.1 0).trans rfl; have hcz_1 : w2.cell? ⟨g, 1, none⟩ = some (.int .i64 (i : Int)) := (blk_cell HS2.1 1).trans rfl; have hcz_2 : w2.cell? ⟨g, 2, none⟩ = some u := (blk_cell HS2.1 2).trans rfl; have hfz_1 := blk_frozen HS2.1 1; clear HS2) | (go_at_call 24; refine (put_c 2 (i : Int) 0 GE.out ab (Sc.setAt GE.out HT.out p1)).mono ?_; rintro e w3 ⟨rfl, u', HU⟩; have HU2 := Aside0.mk HU; clear HU)); try go_wp2_with (first | (go_at_call 22; refine (digit_c HC.out i0 (by first | exact HS.out | exact Sc.drewN HS.out _ | exact Sc.drewN (Sc.drewN HS.out _) _ | exact Sc.drewN (Sc.drewN (Sc.drewN HS.out _) _) _)).mono ?_; rintro e w2 ⟨rfl, HS2⟩; rw [hd]; have HT := Aside0.mk HS2; have hcz_0 : w2.cell? ⟨g, 0, none⟩ = some (.slice (some ad) l.length c) := (blk_cell HS2.1 0).trans rfl; have hcz_1 : w2.cell? ⟨g, 1, none⟩ = some (.int .i64 (i : Int)) := (blk_cell HS2.1 1).trans rfl; have hcz_2 : w2.cell? ⟨g, 2, none⟩ = some u := (blk_cell HS2.1 2).trans rfl; have hfz_1 := blk_frozen HS2.1 1; clear HS2) | (go_at_call 24; refine (put_c 2 (i : Int) 0 GE.out ab (Sc.setAt GE.out HT.out p1)).mono ?_; rintro e w3 ⟨rfl, u', HU⟩; have HU2 := Aside0.mk HU; clear HU)))
              go_roundg k1
              case measure => omega
              case rel => exact ⟨i + 1, _, u', HR2, ⟨by have := HI.out; simp; omega⟩, ⟨by have := HU2.out; rw [show p1 = ((i + 1 : Nat) : Int) by have := HP1.out; omega] at this; exact this⟩⟩
            · rw [if_neg b10] at hr
              have c10 : decide (rd l (i : Int) = 10) = false := decide_eq_false b10
              have c10b : (rd l (i : Int) == 10) = false := beq_eq_false_iff_ne.2 b10
              by_cases hbl : blk (rd l (i : Int)) = true
              · rw [if_pos hbl] at hr
                have HR2 := Aside0.mk hr
                clear hr HR
                have hb3 : rd l (i : Int) = 32 ∨ rd l (i : Int) = 9 ∨ rd l (i : Int) = 13 := by unfold blk at hbl; exact of_decide_eq_true hbl
                clear hbl b10
                by_cases b32 : rd l (i : Int) = 32
                · clear hb3
                  have c32 : decide (rd l (i : Int) = 32) = true := decide_eq_true b32
                  have c32b : (rd l (i : Int) == 32) = true := beq_iff_eq.2 b32
                  clear b32
                  go_wp2_with (first | (go_at_call 22; refine (digit_c HC.out i0 (by first | exact HS.out | exact Sc.drewN HS.out _ | exact Sc.drewN (Sc.drewN HS.out _) _ | exact Sc.drewN (Sc.drewN (Sc.drewN HS.out _) _) _)).mono ?_; rintro e w2 ⟨rfl, HS2⟩; rw [hd]; have HT := Aside0.mk HS2; have hcz_0 : w2.cell? ⟨g, 0, none⟩ = some (.slice (some ad) l.length c) := (blk_cell HS2.1 0).trans rfl; have hcz_1 : w2.cell? ⟨g, 1, none⟩ = some (.int .i64 (i : Int)) := (blk_cell HS2.1 1).trans rfl; have hcz_2 : w2.cell? ⟨g, 2, none⟩ = some u := (blk_cell HS2.1 2).trans rfl; have hfz_1 := blk_frozen HS2.1 1; clear HS2))
                  repeat (go_quiet (first | (go_at_call 22; refine (digit_c HC.out i0 (by first | exact HS.out | exact Sc.drewN HS.out _ | exact Sc.drewN (Sc.drewN HS.out _) _ | exact Sc.drewN (Sc.drewN (Sc.drewN HS.out _) _) _)).mono ?_; rintro e w2 ⟨rfl, HS2⟩; rw [hd]; have HT := Aside0.mk HS2; have hcz_0 : w2.cell? ⟨g, 0, none⟩ = some (.slice (some ad) l.length c) := (blk_cell HS2.1 0).trans rfl; have hcz_1 : w2.cell? ⟨g, 1, none⟩ = some (.int .i64 (i : Int)) := (blk_cell HS2.1 1).trans rfl; have hcz_2 : w2.cell? ⟨g, 2, none⟩ = some u := (blk_cell HS2.1 2).trans rfl; have hfz_1 := blk_frozen HS2.1 1; clear HS2)); try go_wp2_with (first | (go_at_call 22; refine (digit_c HC.out i0 (by first | exact HS.out | exact Sc.drewN HS.out _ | exact Sc.drewN (Sc.drewN HS.out _) _ | exact Sc.drewN (Sc.drewN (Sc.drewN HS.out _) _) _)).mono ?_; rintro e w2 ⟨rfl, HS2⟩; rw [hd]; have HT := Aside0.mk HS2; have hcz_0 : w2.cell? ⟨g, 0, none⟩ = some (.slice (some ad) l.length c) := (blk_cell HS2.1 0).trans rfl; have hcz_1 : w2.cell? ⟨g, 1, none⟩ = some (.int .i64 (i : Int)) := (blk_cell HS2.1 1).trans rfl; have hcz_2 : w2.cell? ⟨g, 2, none⟩ = some u := (blk_cell HS2.1 2).trans rfl; have hfz_1 := blk_frozen HS2.1 1; clear HS2)))
                  go_roundg k1
                  case measure => omega
                  case rel => exact ⟨i + 1, acc, u, HR2, ⟨by have := HI.out; omega⟩, ⟨by have := Sc.setAt GE.out HT.out p1; rw [show p1 = ((i + 1 : Nat) : Int) by have := HP1.out; omega] at this ⊢; exact this⟩⟩
                · by_cases b9 : rd l (i : Int) = 9
                  · clear hb3
                    have c32 : decide (rd l (i : Int) = 32) = false := decide_eq_false b32
                    have c32b : (rd l (i : Int) == 32) = false := beq_eq_false_iff_ne.2 b32
                    have c9 : decide (rd l (i : Int) = 9) = true := decide_eq_true b9
                    have c9b : (rd l (i : Int) == 9) = true := beq_iff_eq.2 b9
                    clear b32 b9
                    go_wp2_with (first | (go_at_call 22; refine (digit_c HC.out i0 (by first | exact HS.out | exact Sc.drewN HS.out _ | exact Sc.drewN (Sc.drewN HS.out _) _ | exact Sc.drewN (Sc.drewN (Sc.drewN HS.out _) _) _)).mono ?_; rintro e w2 ⟨rfl, HS2⟩; rw [hd]; have HT := Aside0.mk HS2; have hcz_0 : w2.cell? ⟨g, 0, none⟩ = some (.slice (some ad) l.length c) := (blk_cell HS2.1 0).trans rfl; have hcz_1 : w2.cell? ⟨g, 1, none⟩ = some (.int .i64 (i : Int)) := (blk_cell HS2.1 1).trans rfl; have hcz_2 : w2.cell? ⟨g, 2, none⟩ = some u := (blk_cell HS2.1 2).trans rfl; have hfz_1 := blk_frozen HS2.1 1; clear HS2))
                    repeat (go_quiet (first | (go_at_call 22; refine (digit_c HC.out i0 (by first | exact HS.out | exact Sc.drewN HS.out _ | exact Sc.drewN (Sc.drewN HS.out _) _ | exact Sc.drewN (Sc.drewN (Sc.drewN HS.out _) _) _)).mono ?_; rintro e w2 ⟨rfl, HS2⟩; rw [hd]; have HT := Aside0.mk HS2; have hcz_0 : w2.cell? ⟨g, 0, none⟩ = some (.slice (some ad) l.length c) := (blk_cell HS2.1 0).trans rfl; have hcz_1 : w2.cell? ⟨g, 1, none⟩ = some (.int .i64 (i : Int)) := (blk_cell HS2.1 1).trans rfl; have hcz_2 : w2.cell? ⟨g, 2, none⟩ = some u := (blk_cell HS2.1 2).trans rfl; have hfz_1 := blk_frozen HS2.1 1; clear HS2)); try go_wp2_with (first | (go_at_call 22; refine (digit_c HC.out i0 (by first | exact HS.out | exact Sc.drewN HS.out _ | exact Sc.drewN (Sc.drewN HS.out _) _ | exact Sc.drewN (Sc.drewN (Sc.drewN HS.out _) _) _)).mono ?_; rintro e w2 ⟨rfl, HS2⟩; rw [hd]; have HT := Aside0.mk HS2; have hcz_0 : w2.cell? ⟨g, 0, none⟩ = some (.slice (some ad) l.length c) := (blk_cell HS2.1 0).trans rfl; have hcz_1 : w2.cell? ⟨g, 1, none⟩ = some (.int .i64 (i : Int)) := (blk_cell HS2.1 1).trans rfl; have hcz_2 : w2.cell? ⟨g, 2, none⟩ = some u := (blk_cell HS2.1 2).trans rfl; have hfz_1 := blk_frozen HS2.1 1; clear HS2)))
                    go_roundg k1
                    case measure => omega
                    case rel => exact ⟨i + 1, acc, u, HR2, ⟨by have := HI.out; omega⟩, ⟨by have := Sc.setAt GE.out HT.out p1; rw [show p1 = ((i + 1 : Nat) : Int) by have := HP1.out; omega] at this ⊢; exact this⟩⟩
                  · have b13 : rd l (i : Int) = 13 := by omega
                    clear hb3
                    have c32 : decide (rd l (i : Int) = 32) = false := decide_eq_false b32
                    have c32b : (rd l (i : Int) == 32) = false := beq_eq_false_iff_ne.2 b32
                    have c9 : decide (rd l (i : Int) = 9) = false := decide_eq_false b9
                    have c9b : (rd l (i : Int) == 9) = false := beq_eq_false_iff_ne.2 b9
                    have c13 : decide (rd l (i : Int) = 13) = true := decide_eq_true b13
                    have c13b : (rd l (i : Int) == 13) = true := beq_iff_eq.2 b13
                    clear b32 b9 b13
                    go_wp2_with (first | (go_at_call 22; refine (digit_c HC.out i0 (by first | exact HS.out | exact Sc.drewN HS.out _ | exact Sc.drewN (Sc.drewN HS.out _) _ | exact Sc.drewN (Sc.drewN (Sc.drewN HS.out _) _) _)).mono ?_; rintro e w2 ⟨rfl, HS2⟩; rw [hd]; have HT := Aside0.mk HS2; have hcz_0 : w2.cell? ⟨g, 0, none⟩ = some (.slice (some ad) l.length c) := (blk_cell HS2.1 0).trans rfl; have hcz_1 : w2.cell? ⟨g, 1, none⟩ = some (.int .i64 (i : Int)) := (blk_cell HS2.1 1).trans rfl; have hcz_2 : w2.cell? ⟨g, 2, none⟩ = some u := (blk_cell HS2.1 2).trans rfl; have hfz_1 := blk_frozen HS2.1 1; clear HS2))
                    repeat (go_quiet (first | (go_at_call 22; refine (digit_c HC.out i0 (by first | exact HS.out | exact Sc.drewN HS.out _ | exact Sc.drewN (Sc.drewN HS.out _) _ | exact Sc.drewN (Sc.drewN (Sc.drewN HS.out _) _) _)).mono ?_; rintro e w2 ⟨rfl, HS2⟩; rw [hd]; have HT := Aside0.mk HS2; have hcz_0 : w2.cell? ⟨g, 0, none⟩ = some (.slice (some ad) l.length c) := (blk_cell HS2.1 0).trans rfl; have hcz_1 : w2.cell? ⟨g, 1, none⟩ = some (.int .i64 (i : Int)) := (blk_cell HS2.1 1).trans rfl; have hcz_2 : w2.cell? ⟨g, 2, none⟩ = some u := (blk_cell HS2.1 2).trans rfl; have hfz_1 := blk_frozen HS2.1 1; clear HS2)); try go_wp2_with (first | (go_at_call 22; refine (digit_c HC.out i0 (by first | exact HS.out | exact Sc.drewN HS.out _ | exact Sc.drewN (Sc.drewN HS.out _) _ | exact Sc.drewN (Sc.drewN (Sc.drewN HS.out _) _) _)).mono ?_; rintro e w2 ⟨rfl, HS2⟩; rw [hd]; have HT := Aside0.mk HS2; have hcz_0 : w2.cell? ⟨g, 0, none⟩ = some (.slice (some ad) l.length c) := (blk_cell HS2.1 0).trans rfl; have hcz_1 : w2.cell? ⟨g, 1, none⟩ = some (.int .i64 (i : Int)) := (blk_cell HS2.1 1).trans rfl; have hcz_2 : w2.cell? ⟨g, 2, none⟩ = some u := (blk_cell HS2.1 2).trans rfl; have hfz_1 := blk_frozen HS2.1 1; clear HS2)))
                    go_roundg k1
                    case measure => omega
                    case rel => exact ⟨i + 1, acc, u, HR2, ⟨by have := HI.out; omega⟩, ⟨by have := Sc.setAt GE.out HT.out p1; rw [show p1 = ((i + 1 : Nat) : Int) by have := HP1.out; omega] at this ⊢; exact this⟩⟩
              · rw [if_neg hbl] at hr
                have HR2 := Aside0.mk hr
                clear hr HR
                have hb3 : ¬ (rd l (i : Int) = 32 ∨ rd l (i : Int) = 9 ∨ rd l (i : Int) = 13) := fun x => hbl (by unfold blk; exact decide_eq_true x)
                have b32 : ¬ rd l (i : Int) = 32 := fun x => hb3 (.inl x)
                have b9 : ¬ rd l (i : Int) = 9 := fun x => hb3 (.inr (.inl x))
                have b13 : ¬ rd l (i : Int) = 13 := fun x => hb3 (.inr (.inr x))
                clear hb3 hbl b10
                have c32 : decide (rd l (i : Int) = 32) = false := decide_eq_false b32
                have c32b : (rd l (i : Int) == 32) = false := beq_eq_false_iff_ne.2 b32
                have c9 : decide (rd l (i : Int) = 9) = false := decide_eq_false b9
                have c9b : (rd l (i : Int) == 9) = false := beq_eq_false_iff_ne.2 b9
                have c13 : decide (rd l (i : Int) = 13) = false := decide_eq_false b13
                have c13b : (rd l (i : Int) == 13) = false := beq_eq_false_iff_ne.2 b13
                clear b32 b9 b13
                go_wp2_with (first | (go_at_call 22; refine (digit_c HC.out i0 (by first | exact HS.out | exact Sc.drewN HS.out _ | exact Sc.drewN (Sc.drewN HS.out _) _ | exact Sc.drewN (Sc.drewN (Sc.drewN HS.out _) _) _)).mono ?_; rintro e w2 ⟨rfl, HS2⟩; rw [hd]; have HT := Aside0.mk HS2; have hcz_0 : w2.cell? ⟨g, 0, none⟩ = some (.slice (some ad) l.length c) := (blk_cell HS2.1 0).trans rfl; have hcz_1 : w2.cell? ⟨g, 1, none⟩ = some (.int .i64 (i : Int)) := (blk_cell HS2.1 1).trans rfl; have hcz_2 : w2.cell? ⟨g, 2, none⟩ = some u := (blk_cell HS2.1 2).trans rfl; have hfz_1 := blk_frozen HS2.1 1; clear HS2))
                repeat (go_quiet (first | (go_at_call 22; refine (digit_c HC.out i0 (by first | exact HS.out | exact Sc.drewN HS.out _ | exact Sc.drewN (Sc.drewN HS.out _) _ | exact Sc.drewN (Sc.drewN (Sc.drewN HS.out _) _) _)).mono ?_; rintro e w2 ⟨rfl, HS2⟩; rw [hd]; have HT := Aside0.mk HS2; have hcz_0 : w2.cell? ⟨g, 0, none⟩ = some (.slice (some ad) l.length c) := (blk_cell HS2.1 0).trans rfl; have hcz_1 : w2.cell? ⟨g, 1, none⟩ = some (.int .i64 (i : Int)) := (blk_cell HS2.1 1).trans rfl; have hcz_2 : w2.cell? ⟨g, 2, none⟩ = some u := (blk_cell HS2.1 2).trans rfl; have hfz_1 := blk_frozen HS2.1 1; clear HS2)); try go_wp2_with (first | (go_at_call 22; refine (digit_c HC.out i0 (by first | exact HS.out | exact Sc.drewN HS.out _ | exact Sc.drewN (Sc.drewN HS.out _) _ | exact Sc.drewN (Sc.drewN (Sc.drewN HS.out _) _) _)).mono ?_; rintro e w2 ⟨rfl, HS2⟩; rw [hd]; have HT := Aside0.mk HS2; have hcz_0 : w2.cell? ⟨g, 0, none⟩ = some (.slice (some ad) l.length c) := (blk_cell HS2.1 0).trans rfl; have hcz_1 : w2.cell? ⟨g, 1, none⟩ = some (.int .i64 (i : Int)) := (blk_cell HS2.1 1).trans rfl; have hcz_2 : w2.cell? ⟨g, 2, none⟩ = some u := (blk_cell HS2.1 2).trans rfl; have hfz_1 := blk_frozen HS2.1 1; clear HS2)))
                refine ⟨rfl, ?_⟩
                rw [← HR2.out]
                unfold AllP
                exact ⟨rfl, HT.out.2.2⟩
      · have q2 : decide ((i : Int) < (l.length : Int)) = false := decide_eq_false (by omega)
        have hr : R = .ok (acc ++ [⟨3, i, i, 0⟩]) := by
          rw [← HR.out]
          cases gk with
          | zero => rfl
          | succ k1 => simp only [scanG]; rw [if_neg ce]
        have HR2 := Aside0.mk hr
        clear hr HR
        go_wp2_with (first | (go_at_call 24; refine (put_c 3 (i : Int) 0 GE.out ab (by first | exact HS.out | exact Sc.drewN HS.out _ | exact Sc.drewN (Sc.drewN HS.out _) _ | exact Sc.drewN (Sc.drewN (Sc.drewN HS.out _) _) _)).mono ?_; rintro e w3 ⟨rfl, u', HU⟩; have HU2 := Aside0.mk HU; clear HU))
        repeat (go_quiet (first | (go_at_call 24; refine (put_c 3 (i : Int) 0 GE.out ab (by first | exact HS.out | exact Sc.drewN HS.out _ | exact Sc.drewN (Sc.drewN HS.out _) _ | exact Sc.drewN (Sc.drewN (Sc.drewN HS.out _) _) _)).mono ?_; rintro e w3 ⟨rfl, u', HU⟩; have HU2 := Aside0.mk HU; clear HU)); try go_wp2_with (first | (go_at_call 24; refine (put_c 3 (i : Int) 0 GE.out ab (by first | exact HS.out | exact Sc.drewN HS.out _ | exact Sc.drewN (Sc.drewN HS.out _) _ | exact Sc.drewN (Sc.drewN (Sc.drewN HS.out _) _) _)).mono ?_; rintro e w3 ⟨rfl, u', HU⟩; have HU2 := Aside0.mk HU; clear HU)))
        go_end0
        rw [HR2.out]
        unfold AllP
        exact ⟨rfl, _, u', HU2.out⟩
end Go.Proofs.Ytjgaicdieddekaa.PParA
