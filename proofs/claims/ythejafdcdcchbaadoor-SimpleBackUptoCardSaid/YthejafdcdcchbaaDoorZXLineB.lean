import Derived.Test.YthejafdcdcchbaaDoorZXScan
import Derived.Test.YthejafdcdcchbaaDoorZPSimAx0
import Derived.Lib.ItoaMem
-- parse's reader.line by hand: the reader's block, its row of pairs, the line's row of tokens.
set_option linter.unusedVariables false
set_option linter.unusedSimpArgs false
namespace Go.Proofs.YthejafdcdcchbaaDoor.PSimA
open Go.RowKit Go.Proofs.YthejafdcdcchbaaDoorW.PrintWords Go.Proofs.YthejafdcdcchbaaDoorW.PrintLast Go.Proofs.YthejafdcdcchbaaDoorW.PrintMore Go.Proofs.YthejafdcdcchbaaDoorX
variable {T : Nat × Array Value}
/-- The reader at block g of W, its pairs at u, the line's tokens at V. -/
def Rd (T : Nat × Array Value) (w W : World) (g : Nat) (N : Int) (hd : Bool) (m : Int) (u : Value) (ps : List S53) (V : Value) (ls : List S95) : Prop :=
  W.heap[g]? = some (.cells #[.int .i64 N, u, .bool hd, .int .i64 m] 92 (0, 0)) ∧ Kd.R k53 53 W w.heap.size (fun k_ => k_ ≠ g ∧ some k_ ≠ V.ownBlock) u ps ∧ Kd.R k95 95 W w.heap.size (fun k_ => k_ ≠ g ∧ some k_ ≠ u.ownBlock) V ls ∧ Below w.heap.size w W ∧ W.heap[T.1]? = some (.cells T.2 95 (0, 0)) ∧ T.1 ≠ g
theorem Rd.alloc {w W : World} {g : Nat} {N : Int} {hd : Bool} {m : Int} {u : Value} {ps : List S53} {V : Value} {ls : List S95} (h : Rd T w W g N hd m u ps V ls) (o : Obj) : Rd T w (W.alloc o) g N hd m u ps V ls :=
  ⟨blk_alloc h.1 o, Kd.R_alloc h.2.1 o, Kd.R_alloc h.2.2.1 o, below_alloc h.2.2.2.1 o, blk_alloc h.2.2.2.2.1 o, h.2.2.2.2.2⟩
theorem Rd.drewN {w W : World} {g : Nat} {N : Int} {hd : Bool} {m : Int} {u : Value} {ps : List S53} {V : Value} {ls : List S95} (h : Rd T w W g N hd m u ps V ls) (n : Nat) : Rd T w (W.drewN n) g N hd m u ps V ls :=
  ⟨blk_drewN h.1 n, Kd.R_drewN h.2.1 n, Kd.R_drewN h.2.2.1 n, pw_below_drewN h.2.2.2.1 n, blk_drewN h.2.2.2.2.1 n, h.2.2.2.2.2⟩
def LineP (T : Nat × Array Value) (w : World) (g : Nat) (N : Int) (hd : Bool) (m : Int) (ps : List S53) (V : Value) (ls : List S95) (code at_ : Int) (e : Ending) (w' : World) : Prop :=
  e = .returned (.agg #[.int .i64 code, .int .i64 at_]) ∧ ∃ u', Rd T w w' g N hd m u' ps V ls
theorem tok_cells {W : World} {base : Nat} {ok : Nat → Prop} {A : Option Addr} {c : Nat} {ls : List S95} (h : Kd.R k95 95 W base ok (.slice A ls.length c) ls) (h0 : 0 < ls.length) :
    ∃ b o, A = some ⟨b, o, none⟩ ∧ b < W.heap.size ∧ ∀ i : Nat, i < ls.length → W.cell? ⟨b, o + i * 4, none⟩ = some (.int .i64 (rd_T95 ls i).f0) ∧ W.cell? ⟨b, o + i * 4 + 1, none⟩ = some (.int .i64 (rd_T95 ls i).f1) ∧ W.cell? ⟨b, o + i * 4 + 2, none⟩ = some (.int .i64 (rd_T95 ls i).f2) ∧ W.cell? ⟨b, o + i * 4 + 3, none⟩ = some (.int .i64 (rd_T95 ls i).f3) := by
  obtain ⟨ad, e1, hx0, _⟩ := at_T95 (Kd.R_reads' h).2.2 0 (by omega) (by omega)
  subst e1
  obtain ⟨b, o, s⟩ := ad
  obtain rfl : s = none := by simpa [Addr.add] using World.cell?_spot hx0
  refine ⟨b, o, rfl, World.block_lt_of_cell? W _ hx0, fun i hi => ?_⟩
  obtain ⟨ad, e1, h0, h1, h2, h3⟩ := at_T95 (Kd.R_reads' h).2.2 (i : Int) (by omega) (by omega)
  cases e1
  rw [Int.toNat_natCast, Lib.add_plain] at h0 h1 h2 h3
  exact ⟨h0, h1, h2, h3⟩
theorem Rd.put {w W : World} {g : Nat} {N : Int} {hd : Bool} {m : Int} {u : Value} {ps : List S53} {V : Value} {ls : List S95} (h : Rd T w W g N hd m u ps V ls) (o : Obj) (n : Nat) (v0 v1 : Value) : Rd T w ((((W.alloc o).drewN n).setCell ⟨W.heap.size, 0, none⟩ v0).setCell ⟨W.heap.size, 1, none⟩ v1) g N hd m u ps V ls := by
  have hg : g ≠ W.heap.size := Nat.ne_of_lt (blk_lt h.1)
  refine ⟨blk_far (blk_far (blk_drewN (blk_alloc h.1 o) n) hg _) hg _, ?_, ?_, ?_, blk_far (blk_far (blk_drewN (blk_alloc h.2.2.2.2.1 o) n) (Nat.ne_of_lt (blk_lt h.2.2.2.2.1)) _) (Nat.ne_of_lt (blk_lt h.2.2.2.2.1)) _, h.2.2.2.2.2⟩
  · exact Kd.R_mono (Kd.R_far (p := ⟨W.heap.size, 1, none⟩) (Kd.R_far (p := ⟨W.heap.size, 0, none⟩) (Kd.R_drewN (Kd.R_alloc (Kd.R_elderB h.2.1 W.heap.size (Nat.le_refl _)) o) n) (fun _ hk => hk.2) v0) (fun _ hk => hk.2) v1) (fun _ hk => hk.1)
  · exact Kd.R_mono (Kd.R_far (p := ⟨W.heap.size, 1, none⟩) (Kd.R_far (p := ⟨W.heap.size, 0, none⟩) (Kd.R_drewN (Kd.R_alloc (Kd.R_elderB h.2.2.1 W.heap.size (Nat.le_refl _)) o) n) (fun _ hk => hk.2) v0) (fun _ hk => hk.2) v1) (fun _ hk => hk.1)
  · exact below_set (below_set (pw_below_drewN (below_alloc h.2.2.2.1 o) n) h.2.2.2.1.size) h.2.2.2.1.size
theorem put_cells (W : World) (a b : Value) (t : TypeId) (n : Nat) (v0 v1 : Value) : ((((W.alloc (.cells #[a, b] t)).drewN n).setCell ⟨W.heap.size, 0, none⟩ v0).setCell ⟨W.heap.size, 1, none⟩ v1).cell? ⟨W.heap.size, 0, none⟩ = some v0 ∧ ((((W.alloc (.cells #[a, b] t)).drewN n).setCell ⟨W.heap.size, 0, none⟩ v0).setCell ⟨W.heap.size, 1, none⟩ v1).cell? ⟨W.heap.size, 1, none⟩ = some v1 := by
  have h := blk_put (u := v1) (blk_put (u := v0) (blk_drewN (blk_new W (.cells #[a, b] t)) n) 0 rfl) 1 rfl
  exact ⟨(blk_cell h 0).trans rfl, (blk_cell h 1).trans rfl⟩
set_option maxHeartbeats 1000000 in
set_option maxRecDepth 100000 in
theorem line_20 {w W : World} {g : Nat} {N : Int} {m : Int} {u : Value} {ps : List S53} {A : Option Addr} {c : Nat} {ls : List S95} (h : Rd T w W g N false m u ps (.slice A ls.length c) ls) (h0 : 0 < ls.length) (hs : ls.length ≤ 33554433) (hps : ps.length ≤ 8796093022208) (hl : ls.length ≠ 2) :
    Calls Tryd.prog 49 #[.pointer (some ⟨g, 0, none⟩), .slice A ls.length c] W (LineP T w g N false m ps (.slice A ls.length c) ls 20 (rd_T95 ls 0).f1) := by
  obtain ⟨Au, cu, rfl⟩ := Kd.R_slice h.2.1
  obtain ⟨b, o, rfl, hbl, htok⟩ := tok_cells h.2.2.1 h0
  obtain ⟨hx0, hx1, hx2, hx3⟩ := htok 0 h0
  rw [show ((0 : Nat) : Int) = 0 from rfl, Nat.zero_mul, Nat.add_zero] at hx0 hx1 hx2 hx3
  have hz0 : W.cell? ⟨g, 0, none⟩ = some (.int .i64 N) := (blk_cell h.1 0).trans rfl
  have hz1 : W.cell? ⟨g, 1, none⟩ = some (.slice Au ps.length cu) := (blk_cell h.1 1).trans rfl
  have hz2 : W.cell? ⟨g, 2, none⟩ = some (.bool false) := (blk_cell h.1 2).trans rfl
  have hz3 : W.cell? ⟨g, 3, none⟩ = some (.int .i64 m) := (blk_cell h.1 3).trans rfl
  have hlt := blk_lt h.1
  have hq0 : decide (0 < ls.length) = true := decide_eq_true h0
  have hc1 : ((ls.length : Int) == 2) = false := by rw [beq_eq_false_iff_ne]; omega
  have hc2 : ((ls.length : Int) != 2) = true := by rw [bne_iff_ne]; omega
  have H := Aside0.mk h
  clear h htok hl
  go_enter Tryd.func49, Tryd.ntmps49
  go_wp2
  refine bodyPost_ret (v := .agg #[.int .i64 20, .int .i64 (rd_T95 ls 0).f1]) (by simp [results, Tryd.results49, go_sem]) rfl ⟨rfl, _, H.out.alloc _⟩
set_option maxHeartbeats 1000000 in
set_option maxRecDepth 100000 in
theorem line_21 {w W : World} {g : Nat} {N : Int} {m : Int} {u : Value} {ps : List S53} {A : Option Addr} {c : Nat} {ls : List S95} (h : Rd T w W g N false m u ps (.slice A ls.length c) ls) (h0 : 0 < ls.length) (hs : ls.length ≤ 33554433) (hps : ps.length ≤ 8796093022208) (hl : ls.length = 2) (h1 : (rd_T95 ls 0).f3 > 1048576) :
    Calls Tryd.prog 49 #[.pointer (some ⟨g, 0, none⟩), .slice A ls.length c] W (LineP T w g N false m ps (.slice A ls.length c) ls 21 (rd_T95 ls 0).f1) := by
  obtain ⟨Au, cu, rfl⟩ := Kd.R_slice h.2.1
  obtain ⟨b, o, rfl, hbl, htok⟩ := tok_cells h.2.2.1 h0
  obtain ⟨hx0, hx1, hx2, hx3⟩ := htok 0 h0
  rw [show ((0 : Nat) : Int) = 0 from rfl, Nat.zero_mul, Nat.add_zero] at hx0 hx1 hx2 hx3
  obtain ⟨hy0, hy1, hy2, hy3⟩ := htok 1 (by omega)
  rw [show ((1 : Nat) : Int) = 1 from rfl, Nat.one_mul] at hy0 hy1 hy2 hy3
  have hz0 : W.cell? ⟨g, 0, none⟩ = some (.int .i64 N) := (blk_cell h.1 0).trans rfl
  have hz1 : W.cell? ⟨g, 1, none⟩ = some (.slice Au ps.length cu) := (blk_cell h.1 1).trans rfl
  have hz2 : W.cell? ⟨g, 2, none⟩ = some (.bool false) := (blk_cell h.1 2).trans rfl
  have hz3 : W.cell? ⟨g, 3, none⟩ = some (.int .i64 m) := (blk_cell h.1 3).trans rfl
  have hlt := blk_lt h.1
  have hq0 : decide (0 < ls.length) = true := decide_eq_true h0
  have hc1 : ((ls.length : Int) == 2) = true := by rw [beq_iff_eq]; omega
  have hc2 : ((ls.length : Int) != 2) = false := by rw [bne_eq_false_iff_eq]; omega
  have hq1 : decide (1 < ls.length) = true := decide_eq_true (by omega)
  have hq2 : decide ((1 : Int) < (ls.length : Int)) = true := decide_eq_true (by omega)
  have hge : 2 ≤ ls.length := by omega
  have hd1 : decide (1048576 < (rd_T95 ls 0).f3) = true := decide_eq_true h1
  have H := Aside0.mk h
  clear h htok hl h1
  go_enter Tryd.func49, Tryd.ntmps49
  go_wp2
  refine bodyPost_ret (v := .agg #[.int .i64 21, .int .i64 (rd_T95 ls 0).f1]) (by simp [results, Tryd.results49, go_sem]) rfl ⟨rfl, _, H.out.alloc _⟩
set_option maxHeartbeats 1000000 in
set_option maxRecDepth 100000 in
theorem line_22 {w W : World} {g : Nat} {N : Int} {m : Int} {u : Value} {ps : List S53} {A : Option Addr} {c : Nat} {ls : List S95} (h : Rd T w W g N false m u ps (.slice A ls.length c) ls) (h0 : 0 < ls.length) (hs : ls.length ≤ 33554433) (hps : ps.length ≤ 8796093022208) (hl : ls.length = 2) (h1 : ¬ (rd_T95 ls 0).f3 > 1048576) (h2 : (rd_T95 ls 1).f3 > 2097152) :
    Calls Tryd.prog 49 #[.pointer (some ⟨g, 0, none⟩), .slice A ls.length c] W (LineP T w g N false m ps (.slice A ls.length c) ls 22 (rd_T95 ls 1).f1) := by
  obtain ⟨Au, cu, rfl⟩ := Kd.R_slice h.2.1
  obtain ⟨b, o, rfl, hbl, htok⟩ := tok_cells h.2.2.1 h0
  obtain ⟨hx0, hx1, hx2, hx3⟩ := htok 0 h0
  rw [show ((0 : Nat) : Int) = 0 from rfl, Nat.zero_mul, Nat.add_zero] at hx0 hx1 hx2 hx3
  obtain ⟨hy0, hy1, hy2, hy3⟩ := htok 1 (by omega)
  rw [show ((1 : Nat) : Int) = 1 from rfl, Nat.one_mul] at hy0 hy1 hy2 hy3
  have hz0 : W.cell? ⟨g, 0, none⟩ = some (.int .i64 N) := (blk_cell h.1 0).trans rfl
  have hz1 : W.cell? ⟨g, 1, none⟩ = some (.slice Au ps.length cu) := (blk_cell h.1 1).trans rfl
  have hz2 : W.cell? ⟨g, 2, none⟩ = some (.bool false) := (blk_cell h.1 2).trans rfl
  have hz3 : W.cell? ⟨g, 3, none⟩ = some (.int .i64 m) := (blk_cell h.1 3).trans rfl
  have hlt := blk_lt h.1
  have hq0 : decide (0 < ls.length) = true := decide_eq_true h0
  have hc1 : ((ls.length : Int) == 2) = true := by rw [beq_iff_eq]; omega
  have hc2 : ((ls.length : Int) != 2) = false := by rw [bne_eq_false_iff_eq]; omega
  have hq1 : decide (1 < ls.length) = true := decide_eq_true (by omega)
  have hq2 : decide ((1 : Int) < (ls.length : Int)) = true := decide_eq_true (by omega)
  have hge : 2 ≤ ls.length := by omega
  have hd1 : decide (1048576 < (rd_T95 ls 0).f3) = false := decide_eq_false h1
  have hd2 : decide (2097152 < (rd_T95 ls 1).f3) = true := decide_eq_true h2
  have H := Aside0.mk h
  clear h htok hl h1 h2
  go_enter Tryd.func49, Tryd.ntmps49
  go_wp2
  refine bodyPost_ret (v := .agg #[.int .i64 22, .int .i64 (rd_T95 ls 1).f1]) (by simp [results, Tryd.results49, go_sem]) rfl ⟨rfl, _, H.out.alloc _⟩
set_option maxHeartbeats 1000000 in
set_option maxRecDepth 100000 in
theorem line_26 {w W : World} {g : Nat} {N : Int} {m : Int} {u : Value} {ps : List S53} {A : Option Addr} {c : Nat} {ls : List S95} (h : Rd T w W g N true m u ps (.slice A ls.length c) ls) (h0 : 0 < ls.length) (hs : ls.length ≤ 33554433) (hps : ps.length ≤ 8796093022208) (h1 : m ≤ (ps.length : Int)) :
    Calls Tryd.prog 49 #[.pointer (some ⟨g, 0, none⟩), .slice A ls.length c] W (LineP T w g N true m ps (.slice A ls.length c) ls 26 (rd_T95 ls 0).f1) := by
  obtain ⟨Au, cu, rfl⟩ := Kd.R_slice h.2.1
  obtain ⟨b, o, rfl, hbl, htok⟩ := tok_cells h.2.2.1 h0
  obtain ⟨hx0, hx1, hx2, hx3⟩ := htok 0 h0
  rw [show ((0 : Nat) : Int) = 0 from rfl, Nat.zero_mul, Nat.add_zero] at hx0 hx1 hx2 hx3
  have hz0 : W.cell? ⟨g, 0, none⟩ = some (.int .i64 N) := (blk_cell h.1 0).trans rfl
  have hz1 : W.cell? ⟨g, 1, none⟩ = some (.slice Au ps.length cu) := (blk_cell h.1 1).trans rfl
  have hz2 : W.cell? ⟨g, 2, none⟩ = some (.bool true) := (blk_cell h.1 2).trans rfl
  have hz3 : W.cell? ⟨g, 3, none⟩ = some (.int .i64 m) := (blk_cell h.1 3).trans rfl
  have hlt := blk_lt h.1
  have hq0 : decide (0 < ls.length) = true := decide_eq_true h0
  have hd1 : decide (m ≤ (ps.length : Int)) = true := decide_eq_true h1
  have H := Aside0.mk h
  clear h htok h1
  go_enter Tryd.func49, Tryd.ntmps49
  go_wp2
  repeat (go_quiet (fail); try go_wp2)
  refine bodyPost_ret (v := .agg #[.int .i64 26, .int .i64 (rd_T95 ls 0).f1]) (by simp [results, Tryd.results49, go_sem, (put_cells W _ _ _ _ _ _).1, (put_cells W _ _ _ _ _ _).2]) rfl ⟨rfl, _, H.out.put _ _ _ _⟩
set_option maxHeartbeats 1000000 in
set_option maxRecDepth 100000 in
theorem line_23 {w W : World} {g : Nat} {N : Int} {m : Int} {u : Value} {ps : List S53} {A : Option Addr} {c : Nat} {ls : List S95} (h : Rd T w W g N true m u ps (.slice A ls.length c) ls) (h0 : 0 < ls.length) (hs : ls.length ≤ 33554433) (hps : ps.length ≤ 8796093022208) (h1 : ¬ m ≤ (ps.length : Int)) (hl : ls.length ≠ 2) :
    Calls Tryd.prog 49 #[.pointer (some ⟨g, 0, none⟩), .slice A ls.length c] W (LineP T w g N true m ps (.slice A ls.length c) ls 23 (rd_T95 ls 0).f1) := by
  obtain ⟨Au, cu, rfl⟩ := Kd.R_slice h.2.1
  obtain ⟨b, o, rfl, hbl, htok⟩ := tok_cells h.2.2.1 h0
  obtain ⟨hx0, hx1, hx2, hx3⟩ := htok 0 h0
  rw [show ((0 : Nat) : Int) = 0 from rfl, Nat.zero_mul, Nat.add_zero] at hx0 hx1 hx2 hx3
  have hz0 : W.cell? ⟨g, 0, none⟩ = some (.int .i64 N) := (blk_cell h.1 0).trans rfl
  have hz1 : W.cell? ⟨g, 1, none⟩ = some (.slice Au ps.length cu) := (blk_cell h.1 1).trans rfl
  have hz2 : W.cell? ⟨g, 2, none⟩ = some (.bool true) := (blk_cell h.1 2).trans rfl
  have hz3 : W.cell? ⟨g, 3, none⟩ = some (.int .i64 m) := (blk_cell h.1 3).trans rfl
  have hlt := blk_lt h.1
  have hq0 : decide (0 < ls.length) = true := decide_eq_true h0
  have hc1 : ((ls.length : Int) == 2) = false := by rw [beq_eq_false_iff_ne]; omega
  have hc2 : ((ls.length : Int) != 2) = true := by rw [bne_iff_ne]; omega
  have hd1 : decide (m ≤ (ps.length : Int)) = false := decide_eq_false h1
  have H := Aside0.mk h
  clear h htok h1 hl
  go_enter Tryd.func49, Tryd.ntmps49
  go_wp2
  repeat (go_quiet (fail); try go_wp2)
  refine bodyPost_ret (v := .agg #[.int .i64 23, .int .i64 (rd_T95 ls 0).f1]) (by simp [results, Tryd.results49, go_sem, (put_cells W _ _ _ _ _ _).1, (put_cells W _ _ _ _ _ _).2]) rfl ⟨rfl, _, H.out.put _ _ _ _⟩
def line_T8 : Bool × List (List Nat × List Nat) := (true, [([], []), ([], []), ([], []), ([], []), ([3], [3]), ([4], [4]), ([5], [5]), ([], []), ([7], [7]), ([8], [8]), ([9], [9]), ([0, 0, 6, 10], [0]), ([11, 0, 6, 10], [11]), ([12, 0, 6, 10], [12]), ([1, 0, 1, 3, 4, 5, 6, 10, 11, 12, 13], [1]), ([14, 0, 1, 3, 4, 5, 6, 10, 11, 12, 13], [14]), ([15, 0, 1, 3, 4, 5, 6, 10, 11, 12, 13], [15]), ([16, 6, 13, 0, 1, 3, 4, 5, 6, 10, 11, 12, 13], [6, 16]), ([2, 0, 1, 2, 3, 4, 5, 6, 7, 8, 9, 10, 11, 12, 13, 14, 15, 16, 17], [2]), ([18, 0, 1, 2, 3, 4, 5, 6, 7, 8, 9, 10, 11, 12, 13, 14, 15, 16, 17], [18]), ([19, 10, 17, 0, 1, 2, 3, 4, 5, 6, 7, 8, 9, 10, 11, 12, 13, 14, 15, 16, 17], [10, 19])])
def line_B8 : List Nat := [0, 0, 0, 0, 8, 24, 56, 0, 128, 384, 896, 2041, 4089, 8185, 16379, 32763, 65531, 131067, 262143, 524287, 1048575]
theorem line_tab8 : rtab .any (opsOf Tryd.f49 8) = line_T8 := by kernel_rfl
theorem line_bits8 : waitsOk line_T8.2 line_B8 = true := by kernel_rfl
def line_T20 : Bool × List (List Nat × List Nat) := (true, [([], []), ([], []), ([1], [1]), ([2], [2]), ([3], [3]), ([4], [4]), ([], []), ([6], [6]), ([7], [7]), ([8], [8]), ([], []), ([10], [10]), ([11], [11]), ([12], [12]), ([9, 13], [9, 13]), ([14], [14]), ([5, 15], [5, 15]), ([0, 0, 1, 2, 3, 4, 5, 6, 7, 8, 9, 10, 11, 12, 13, 14, 15, 16], [0]), ([17, 0, 1, 2, 3, 4, 5, 6, 7, 8, 9, 10, 11, 12, 13, 14, 15, 16], [17]), ([18, 0, 1, 2, 3, 4, 5, 6, 7, 8, 9, 10, 11, 12, 13, 14, 15, 16], [18]), ([19, 16, 16, 0, 1, 2, 3, 4, 5, 6, 7, 8, 9, 10, 11, 12, 13, 14, 15, 16], [16, 19])])
def line_B20 : List Nat := [0, 0, 2, 6, 14, 30, 0, 64, 192, 448, 0, 1024, 3072, 7168, 16320, 32704, 65534, 131071, 262143, 524287, 1048575]
theorem line_tab20 : rtab .any (opsOf Tryd.f49 20) = line_T20 := by kernel_rfl
theorem line_bits20 : waitsOk line_T20.2 line_B20 = true := by kernel_rfl
set_option maxHeartbeats 4000000 in
set_option maxRecDepth 100000 in
theorem line_head {w W : World} {g : Nat} {N : Int} {m : Int} {u : Value} {ps : List S53} {A : Option Addr} {c : Nat} {ls : List S95} (h : Rd T w W g N false m u ps (.slice A ls.length c) ls) (h0 : 0 < ls.length) (hge0 : w.heap.size ≤ g) (hs : ls.length ≤ 33554433) (hps : ps.length ≤ 8796093022208) (hl : ls.length = 2) (h1 : ¬ (rd_T95 ls 0).f3 > 1048576) (h2 : ¬ (rd_T95 ls 1).f3 > 2097152) :
    Calls Tryd.prog 49 #[.pointer (some ⟨g, 0, none⟩), .slice A ls.length c] W (LineP T w g (rd_T95 ls 0).f3 true (rd_T95 ls 1).f3 ps (.slice A ls.length c) ls 0 0) := by
  obtain ⟨Au, cu, rfl⟩ := Kd.R_slice h.2.1
  obtain ⟨b, o, rfl, hbl, htok⟩ := tok_cells h.2.2.1 h0
  obtain ⟨hx0, hx1, hx2, hx3⟩ := htok 0 h0
  rw [show ((0 : Nat) : Int) = 0 from rfl, Nat.zero_mul, Nat.add_zero] at hx0 hx1 hx2 hx3
  obtain ⟨hy0, hy1, hy2, hy3⟩ := htok 1 (by omega)
  rw [show ((1 : Nat) : Int) = 1 from rfl, Nat.one_mul] at hy0 hy1 hy2 hy3
  have hz2 : W.cell? ⟨g, 2, none⟩ = some (.bool false) := (blk_cell h.1 2).trans rfl
  have hlt := blk_lt h.1
  have hq0 : decide (0 < ls.length) = true := decide_eq_true h0
  have hc1 : ((ls.length : Int) == 2) = true := by rw [beq_iff_eq]; omega
  have hc2 : ((ls.length : Int) != 2) = false := by rw [bne_eq_false_iff_eq]; omega
  have hq1 : decide (1 < ls.length) = true := decide_eq_true (by omega)
  have hq2 : decide ((1 : Int) < (ls.length : Int)) = true := decide_eq_true (by omega)
  have hge : 2 ≤ ls.length := by omega
  have hq4 : ((1 : Int) < (ls.length : Int)) = True := eq_true (by omega)
  have hd1 : decide (1048576 < (rd_T95 ls 0).f3) = false := decide_eq_false h1
  have hd2 : decide (2097152 < (rd_T95 ls 1).f3) = false := decide_eq_false h2
  have hbg : b ≠ g := fun e_ => (h.2.2.1.1 b (by simp [Value.ownBlock])).1 e_
  have H := Aside0.mk h
  have BG := Aside0.mk hbg
  clear h htok hl h1 h2 hbg
  go_enter Tryd.func49, Tryd.ntmps49
  go_wp2
  obtain ⟨g2, hg2⟩ : ∃ g2, W.heap.size = g2 := ⟨_, rfl⟩
  have H1 := H.out.alloc (Obj.cells #[Value.int IntKind.i64 0, Value.int IntKind.i64 0] 60)
  have B2 := blk_new W (Obj.cells #[Value.int IntKind.i64 0, Value.int IntKind.i64 0] 60)
  have N12 : Aside0 (g ≠ g2) := ⟨by omega⟩
  have N21 : Aside0 (g2 ≠ g) := ⟨by omega⟩
  have NB2 : Aside0 (b ≠ g2) := ⟨by omega⟩
  have R1 := Aside0.mk (Kd.R_elderB H.out.2.1 g2 (by omega))
  have R2 := Aside0.mk (Kd.R_elderB H.out.2.2.1 g2 (by omega))
  have HX := Aside0.mk ((World.cell?_alloc_lt W (Obj.cells #[Value.int IntKind.i64 0, Value.int IntKind.i64 0] 60) ⟨b, o + 3, none⟩ hbl).trans hx3)
  have HY := Aside0.mk ((World.cell?_alloc_lt W (Obj.cells #[Value.int IntKind.i64 0, Value.int IntKind.i64 0] 60) ⟨b, o + 4 + 3, none⟩ hbl).trans hy3)
  have B1 := Aside0.mk (blk_alloc H.out.1 (Obj.cells #[Value.int IntKind.i64 0, Value.int IntKind.i64 0] 60))
  have Q1 := Aside0.mk (Kd.R_alloc R1.out (Obj.cells #[Value.int IntKind.i64 0, Value.int IntKind.i64 0] 60))
  have Q2 := Aside0.mk (Kd.R_alloc R2.out (Obj.cells #[Value.int IntKind.i64 0, Value.int IntKind.i64 0] 60))
  have HB := Aside0.mk H1.2.2.2.1
  have BT := Aside0.mk H1.2.2.2.2.1
  have NTG := Aside0.mk H1.2.2.2.2.2
  have NT2 : Aside0 (T.1 ≠ g2) := ⟨by have := blk_lt H.out.2.2.2.2.1; omega⟩
  have GE2 : Aside0 (w.heap.size ≤ g2) := ⟨by have := H.out.2.2.2.1.size; omega⟩
  have GE1 := Aside0.mk hge0
  rw [hg2] at B2 ⊢
  clear H1 H R1 R2 hx0 hx1 hx2 hx3 hy0 hy1 hy2 hy3 hz2 hge0
  generalize W.alloc (Obj.cells #[Value.int IntKind.i64 0, Value.int IntKind.i64 0] 60) = W1 at HX HY B1 B2 BT Q1 Q2 HB ⊢
  clear hg2 hlt hbl
  have B2 := Aside0.mk (blk_drew B2)
  replace B1 := bd B1
  replace BT := bd BT
  replace Q1 := rd Q1
  replace Q2 := rd Q2
  replace HB := Aside0.mk (below_drew1 HB.out)
  refine start_ (n := 21) (S := fun w' => w'.cell? ⟨b, o + 3, none⟩ = some (.int .i64 (rd_T95 ls 0).f3) ∧ w'.cell? ⟨b, o + 4 + 3, none⟩ = some (.int .i64 (rd_T95 ls 1).f3)) (ds := []) (pf 0 21) (by kernel_rfl) rfl rfl ⟨HX.out, HY.out⟩ (fun hHeld => ?_)
  refine with_tabW line_tab8 line_bits8 (fun HT_ HW_ => ?_)
  generalize W1.drew = w94 at B1 B2 BT Q1 Q2 HB hHeld ⊢
  clear HX HY
  refine pu_ 0 (some 43) (pf 1 21) HT_ ?_
  refine pu_ 1 (some 44) (pf 2 21) HT_ ?_
  refine pu_ 2 (some 45) (pf 3 21) HT_ ?_
  refine pu_ 3 (some 46) (pf 4 21) HT_ ?_
  refine pu_ 4 (some 47) (pf 5 21) HT_ ?_
  refine pu_ 5 (some 48) (pf 6 21) HT_ ?_
  refine pu_ 7 (some 50) #[T_,T_,T_,T_,T_,T_,F_,T_,F_,F_,F_,F_,F_,F_,F_,F_,F_,F_,F_,F_,F_] HT_ ?_
  refine pu_ 8 (some 51) #[T_,T_,T_,T_,T_,T_,F_,T_,T_,F_,F_,F_,F_,F_,F_,F_,F_,F_,F_,F_,F_] HT_ ?_
  refine pu_ 9 (some 52) #[T_,T_,T_,T_,T_,T_,F_,T_,T_,T_,F_,F_,F_,F_,F_,F_,F_,F_,F_,F_,F_] HT_ ?_
  refine tk2_ 6 (some 49) (pf 10 21) HT_ HW_ hHeld ?_
  refine tk2_ 10 (some 53) (pf 11 21) HT_ HW_ hHeld ?_
  refine pu_ 11 (some 54) (pf 12 21) HT_ ?_
  refine pu_ 12 (some 55) (pf 13 21) HT_ ?_
  refine on_ 13 none (pf 14 21) HT_ (fun K hK => ?_)
  have hs2 : w94.cell? ⟨g, 2, none⟩ = some (.bool false) := bc B1 2
  have hfs2 := blk_frozen B1.out 2
  refine skip_ (w1 := ?_) (by rfl) rfl ?_ ?_
  rotate_left
  · go_simp
    rfl
  refine hK.out _ _ ⟨(cell_far (p := ⟨g, _, none⟩) BG.out _).trans hHeld.1, (cell_far (p := ⟨g, _, none⟩) BG.out _).trans hHeld.2⟩ (fun hHeld => ?_)
  clear hK K
  refine pu_ 14 (some 56) (pf 15 21) HT_ ?_
  refine pu_ 15 (some 57) (pf 16 21) HT_ ?_
  refine pu_ 16 (some 58) (pf 17 21) HT_ ?_
  refine on_ 17 none (pf 18 21) HT_ (fun K hK => ?_)
  have hs0 : w94.cell? ⟨g, 0, none⟩ = some (.int .i64 N) := bc B1 0
  have hfs0 := blk_frozen B1.out 0
  refine skip_ (w1 := ?_) (by rfl) rfl ?_ ?_
  rotate_left
  · go_simp
    rfl
  refine hK.out _ _ ⟨(cell_far (p := ⟨g, _, none⟩) BG.out _).trans hHeld.1, (cell_far (p := ⟨g, _, none⟩) BG.out _).trans hHeld.2⟩ (fun hHeld => ?_)
  clear hK K
  refine pu_ 18 (some 59) (pf 19 21) HT_ ?_
  refine pu_ 19 (some 60) (pf 20 21) HT_ ?_
  refine on_ 20 none (pf 21 21) HT_ (fun K hK => ?_)
  have hs3 : w94.cell? ⟨g, 3, none⟩ = some (.int .i64 m) := bc B1 3
  have hfs3 := blk_frozen B1.out 3
  refine skip_ (w1 := ?_) (by rfl) rfl ?_ ?_
  rotate_left
  · go_simp
    rfl
  refine hK.out _ _ ⟨(cell_far (p := ⟨g, _, none⟩) BG.out _).trans hHeld.1, (cell_far (p := ⟨g, _, none⟩) BG.out _).trans hHeld.2⟩ (fun hHeld => ?_)
  clear hK K
  refine done_ (done_of HT_.out (by kernel_rfl)) ?_
  have C1 := blk_put (u := .int .i64 (rd_T95 ls 1).f3) (blk_put (u := .int .i64 (rd_T95 ls 0).f3) (blk_put (u := .bool true) B1.out 2 rfl) 0 rfl) 3 rfl
  have C2 := blk_far (blk_far (blk_far (p := ⟨g, 2, none⟩) B2.out N21.out (.bool true)) (p := ⟨g, 0, none⟩) N21.out (.int .i64 (rd_T95 ls 0).f3)) (p := ⟨g, 3, none⟩) N21.out (.int .i64 (rd_T95 ls 1).f3)
  have C3 := Aside0.mk (Kd.R_far (p := ⟨g, 3, none⟩) (Kd.R_far (p := ⟨g, 0, none⟩) (Kd.R_far (p := ⟨g, 2, none⟩) Q1.out (fun _ hk => hk.1.1) (.bool true)) (fun _ hk => hk.1.1) (.int .i64 (rd_T95 ls 0).f3)) (fun _ hk => hk.1.1) (.int .i64 (rd_T95 ls 1).f3))
  have C4 := Aside0.mk (Kd.R_far (p := ⟨g, 3, none⟩) (Kd.R_far (p := ⟨g, 0, none⟩) (Kd.R_far (p := ⟨g, 2, none⟩) Q2.out (fun _ hk => hk.1.1) (.bool true)) (fun _ hk => hk.1.1) (.int .i64 (rd_T95 ls 0).f3)) (fun _ hk => hk.1.1) (.int .i64 (rd_T95 ls 1).f3))
  have C6 := Aside0.mk (blk_far (blk_far (blk_far (p := ⟨g, 2, none⟩) BT.out NTG.out (.bool true)) (p := ⟨g, 0, none⟩) NTG.out (.int .i64 (rd_T95 ls 0).f3)) (p := ⟨g, 3, none⟩) NTG.out (.int .i64 (rd_T95 ls 1).f3))
  have C5 : Aside0 (Below w.heap.size w (((w94.setCell ⟨g, 2, none⟩ (.bool true)).setCell ⟨g, 0, none⟩ (.int .i64 (rd_T95 ls 0).f3)).setCell ⟨g, 3, none⟩ (.int .i64 (rd_T95 ls 1).f3))) := ⟨below_set (below_set (below_set HB.out GE1.out) GE1.out) GE1.out⟩
  clear hs2 hfs2 hs0 hfs0 hs3 hfs3 hHeld HT_ HW_ B1 B2 BT Q1 Q2 HB
  generalize ((w94.setCell ⟨g, 2, none⟩ (.bool true)).setCell ⟨g, 0, none⟩ (.int .i64 (rd_T95 ls 0).f3)).setCell ⟨g, 3, none⟩ (.int .i64 (rd_T95 ls 1).f3) = wz at C1 C2 C3 C4 C5 C6 ⊢
  have z0 : wz.cell? ⟨g2, 0, none⟩ = some (.int .i64 0) := (blk_cell C2 0).trans rfl
  have z1 : wz.cell? ⟨g2, 1, none⟩ = some (.int .i64 0) := (blk_cell C2 1).trans rfl
  have zf0 := blk_frozen C2 0
  have zf1 := blk_frozen C2 1
  have CC := Aside0.mk C1
  have CD := Aside0.mk C2
  clear C1 C2
  go_wp2
  have F2 := blk_put (u := .int .i64 0) (blk_put (u := .int .i64 0) CD.out 0 rfl) 1 rfl
  have y0 := (blk_cell F2 0).trans rfl
  have y1 := (blk_cell F2 1).trans rfl
  refine bodyPost_ret (v := .agg #[.int .i64 0, .int .i64 0]) (by simp [results, Tryd.results49, go_sem, y0, y1]) rfl ⟨rfl, _, blk_far (blk_far CC.out N12.out _) N12.out _, ?_, ?_, ?_, blk_far (blk_far C6.out NT2.out _) NT2.out _, NTG.out⟩
  · exact Kd.R_mono (Kd.R_far (p := ⟨g2, 1, none⟩) (Kd.R_far (p := ⟨g2, 0, none⟩) C3.out (fun _ hk => hk.2) (.int .i64 0)) (fun _ hk => hk.2) (.int .i64 0)) (fun _ hk => hk.1)
  · exact Kd.R_mono (Kd.R_far (p := ⟨g2, 1, none⟩) (Kd.R_far (p := ⟨g2, 0, none⟩) C4.out (fun _ hk => hk.2) (.int .i64 0)) (fun _ hk => hk.2) (.int .i64 0)) (fun _ hk => hk.1)
  · exact below_set (below_set C5.out GE2.out) GE2.out
end Go.Proofs.YthejafdcdcchbaaDoor.PSimA

set_option linter.unusedVariables false
set_option linter.unusedSimpArgs false
namespace Go.Proofs.YthejafdcdcchbaaDoor.PSimA
open Go.RowKit Go.Proofs.YthejafdcdcchbaaDoorW.PrintWords Go.Proofs.YthejafdcdcchbaaDoorW.PrintLast Go.Proofs.YthejafdcdcchbaaDoorW.PrintMore Go.Proofs.YthejafdcdcchbaaDoorX
variable {T : Nat × Array Value}
/-- The reader with the result's own block g2 beside. -/
def RdX (T : Nat × Array Value) (w W : World) (g g2 : Nat) (N : Int) (hd : Bool) (m : Int) (u : Value) (ps : List S53) (V : Value) (ls : List S95) (c0 c1 : Value) : Prop :=
  W.heap[g]? = some (.cells #[.int .i64 N, u, .bool hd, .int .i64 m] 92 (0, 0)) ∧ Kd.R k53 53 W w.heap.size (fun k_ => (k_ ≠ g ∧ some k_ ≠ V.ownBlock) ∧ k_ ≠ g2) u ps ∧ Kd.R k95 95 W w.heap.size (fun k_ => (k_ ≠ g ∧ some k_ ≠ u.ownBlock) ∧ k_ ≠ g2) V ls ∧ Below w.heap.size w W ∧ W.heap[g2]? = some (.cells #[c0, c1] 60 (0, 0)) ∧ g ≠ g2 ∧ w.heap.size ≤ g2 ∧ W.heap[T.1]? = some (.cells T.2 95 (0, 0)) ∧ T.1 ≠ g ∧ T.1 ≠ g2
theorem RdX.of {w W : World} {g : Nat} {N : Int} {hd : Bool} {m : Int} {u : Value} {ps : List S53} {V : Value} {ls : List S95} (h : Rd T w W g N hd m u ps V ls) (c0 c1 : Value) : RdX T w (W.alloc (.cells #[c0, c1] 60)) g W.heap.size N hd m u ps V ls c0 c1 :=
  ⟨blk_alloc h.1 _, Kd.R_alloc (Kd.R_elderB h.2.1 W.heap.size (Nat.le_refl _)) _, Kd.R_alloc (Kd.R_elderB h.2.2.1 W.heap.size (Nat.le_refl _)) _, below_alloc h.2.2.2.1 _, blk_new W _, Nat.ne_of_lt (blk_lt h.1), h.2.2.2.1.size, blk_alloc h.2.2.2.2.1 _, h.2.2.2.2.2, Nat.ne_of_lt (blk_lt h.2.2.2.2.1)⟩
theorem RdX.alloc {w W : World} {g g2 : Nat} {N : Int} {hd : Bool} {m : Int} {u : Value} {ps : List S53} {V : Value} {ls : List S95} {c0 c1 : Value} (h : RdX T w W g g2 N hd m u ps V ls c0 c1) (o : Obj) : RdX T w (W.alloc o) g g2 N hd m u ps V ls c0 c1 :=
  ⟨blk_alloc h.1 o, Kd.R_alloc h.2.1 o, Kd.R_alloc h.2.2.1 o, below_alloc h.2.2.2.1 o, blk_alloc h.2.2.2.2.1 o, h.2.2.2.2.2.1, h.2.2.2.2.2.2.1, blk_alloc h.2.2.2.2.2.2.2.1 o, h.2.2.2.2.2.2.2.2⟩
theorem RdX.drewN {w W : World} {g g2 : Nat} {N : Int} {hd : Bool} {m : Int} {u : Value} {ps : List S53} {V : Value} {ls : List S95} {c0 c1 : Value} (h : RdX T w W g g2 N hd m u ps V ls c0 c1) (n : Nat) : RdX T w (W.drewN n) g g2 N hd m u ps V ls c0 c1 :=
  ⟨blk_drewN h.1 n, Kd.R_drewN h.2.1 n, Kd.R_drewN h.2.2.1 n, pw_below_drewN h.2.2.2.1 n, blk_drewN h.2.2.2.2.1 n, h.2.2.2.2.2.1, h.2.2.2.2.2.2.1, blk_drewN h.2.2.2.2.2.2.2.1 n, h.2.2.2.2.2.2.2.2⟩
theorem RdX.put {w W : World} {g g2 : Nat} {N : Int} {hd : Bool} {m : Int} {u : Value} {ps : List S53} {V : Value} {ls : List S95} {c0 c1 : Value} (h : RdX T w W g g2 N hd m u ps V ls c0 c1) (v0 v1 : Value) : RdX T w ((W.setCell ⟨g2, 0, none⟩ v0).setCell ⟨g2, 1, none⟩ v1) g g2 N hd m u ps V ls v0 v1 :=
  ⟨blk_far (blk_far h.1 h.2.2.2.2.2.1 _) h.2.2.2.2.2.1 _, Kd.R_far (p := ⟨g2, 1, none⟩) (Kd.R_far (p := ⟨g2, 0, none⟩) h.2.1 (fun _ hk => hk.2) v0) (fun _ hk => hk.2) v1, Kd.R_far (p := ⟨g2, 1, none⟩) (Kd.R_far (p := ⟨g2, 0, none⟩) h.2.2.1 (fun _ hk => hk.2) v0) (fun _ hk => hk.2) v1,
    below_set (below_set h.2.2.2.1 h.2.2.2.2.2.2.1) h.2.2.2.2.2.2.1, blk_put (blk_put h.2.2.2.2.1 0 _ rfl) 1 _ rfl, h.2.2.2.2.2.1, h.2.2.2.2.2.2.1, blk_far (blk_far h.2.2.2.2.2.2.2.1 h.2.2.2.2.2.2.2.2.2 _) h.2.2.2.2.2.2.2.2.2 _, h.2.2.2.2.2.2.2.2⟩
theorem RdX.out {w W : World} {g g2 : Nat} {N : Int} {hd : Bool} {m : Int} {u : Value} {ps : List S53} {V : Value} {ls : List S95} {c0 c1 : Value} (h : RdX T w W g g2 N hd m u ps V ls c0 c1) : Rd T w W g N hd m u ps V ls ∧ W.cell? ⟨g2, 0, none⟩ = some c0 ∧ W.cell? ⟨g2, 1, none⟩ = some c1 :=
  ⟨⟨h.1, Kd.R_mono h.2.1 (fun _ hk => hk.1), Kd.R_mono h.2.2.1 (fun _ hk => hk.1), h.2.2.2.1, h.2.2.2.2.2.2.2.1, h.2.2.2.2.2.2.2.2.1⟩, (blk_cell h.2.2.2.2.1 0).trans rfl, (blk_cell h.2.2.2.2.1 1).trans rfl⟩
set_option maxHeartbeats 4000000 in
set_option maxRecDepth 100000 in
theorem line_24a {w W : World} {g : Nat} {N : Int} {m : Int} {u : Value} {ps : List S53} {A : Option Addr} {c : Nat} {ls : List S95} (h : Rd T w W g N true m u ps (.slice A ls.length c) ls) (h0 : 0 < ls.length) (hge0 : w.heap.size ≤ g) (hs : ls.length ≤ 33554433) (hps : ps.length ≤ 8796093022208) (hl : ls.length = 2) (h1 : ¬ m ≤ (ps.length : Int)) (h2 : (rd_T95 ls 0).f3 ≥ N) :
    Calls Tryd.prog 49 #[.pointer (some ⟨g, 0, none⟩), .slice A ls.length c] W (LineP T w g N true m ps (.slice A ls.length c) ls 24 (rd_T95 ls 0).f1) := by
  obtain ⟨Au, cu, rfl⟩ := Kd.R_slice h.2.1
  obtain ⟨b, o, rfl, hbl, htok⟩ := tok_cells h.2.2.1 h0
  obtain ⟨hx0, hx1, hx2, hx3⟩ := htok 0 h0
  rw [show ((0 : Nat) : Int) = 0 from rfl, Nat.zero_mul, Nat.add_zero] at hx0 hx1 hx2 hx3
  obtain ⟨hy0, hy1, hy2, hy3⟩ := htok 1 (by omega)
  rw [show ((1 : Nat) : Int) = 1 from rfl, Nat.one_mul] at hy0 hy1 hy2 hy3
  have hz2 : W.cell? ⟨g, 2, none⟩ = some (.bool true) := (blk_cell h.1 2).trans rfl
  have hz0 : W.cell? ⟨g, 0, none⟩ = some (.int .i64 N) := (blk_cell h.1 0).trans rfl
  have hz1 : W.cell? ⟨g, 1, none⟩ = some (.slice Au ps.length cu) := (blk_cell h.1 1).trans rfl
  have hz3 : W.cell? ⟨g, 3, none⟩ = some (.int .i64 m) := (blk_cell h.1 3).trans rfl
  have hlt := blk_lt h.1
  have hq0 : decide (0 < ls.length) = true := decide_eq_true h0
  have hc1 : ((ls.length : Int) == 2) = true := by rw [beq_iff_eq]; omega
  have hc2 : ((ls.length : Int) != 2) = false := by rw [bne_eq_false_iff_eq]; omega
  have hq1 : decide (1 < ls.length) = true := decide_eq_true (by omega)
  have hq2 : decide ((1 : Int) < (ls.length : Int)) = true := decide_eq_true (by omega)
  have hge : 2 ≤ ls.length := by omega
  have hq4 : ((1 : Int) < (ls.length : Int)) = True := eq_true (by omega)
  have hd1 : decide (m ≤ (ps.length : Int)) = false := decide_eq_false h1
  have hd2 : decide (N ≤ (rd_T95 ls 0).f3) = true := decide_eq_true h2
  have hbg : b ≠ g := fun e_ => (h.2.2.1.1 b (by simp [Value.ownBlock])).1 e_
  have H := Aside0.mk h
  have BG := Aside0.mk hbg
  clear h htok hl h1 h2 hbg
  go_enter Tryd.func49, Tryd.ntmps49
  go_wp2
  have X := Aside0.mk (RdX.of H.out (.int .i64 0) (.int .i64 0))
  have hx0 := (World.cell?_alloc_lt W (Obj.cells #[Value.int IntKind.i64 0, Value.int IntKind.i64 0] 60) ⟨b, o, none⟩ hbl).trans hx0
  have hx1 := (World.cell?_alloc_lt W (Obj.cells #[Value.int IntKind.i64 0, Value.int IntKind.i64 0] 60) ⟨b, o + 1, none⟩ hbl).trans hx1
  have hx2 := (World.cell?_alloc_lt W (Obj.cells #[Value.int IntKind.i64 0, Value.int IntKind.i64 0] 60) ⟨b, o + 2, none⟩ hbl).trans hx2
  have hx3 := (World.cell?_alloc_lt W (Obj.cells #[Value.int IntKind.i64 0, Value.int IntKind.i64 0] 60) ⟨b, o + 3, none⟩ hbl).trans hx3
  have hy0 := (World.cell?_alloc_lt W (Obj.cells #[Value.int IntKind.i64 0, Value.int IntKind.i64 0] 60) ⟨b, o + 4, none⟩ hbl).trans hy0
  have hy1 := (World.cell?_alloc_lt W (Obj.cells #[Value.int IntKind.i64 0, Value.int IntKind.i64 0] 60) ⟨b, o + 4 + 1, none⟩ hbl).trans hy1
  have hy2 := (World.cell?_alloc_lt W (Obj.cells #[Value.int IntKind.i64 0, Value.int IntKind.i64 0] 60) ⟨b, o + 4 + 2, none⟩ hbl).trans hy2
  have hy3 := (World.cell?_alloc_lt W (Obj.cells #[Value.int IntKind.i64 0, Value.int IntKind.i64 0] 60) ⟨b, o + 4 + 3, none⟩ hbl).trans hy3
  clear H
  have hbl' : b < (W.alloc (Obj.cells #[Value.int IntKind.i64 0, Value.int IntKind.i64 0] 60)).heap.size := by simp [go_sem]; omega
  obtain ⟨g2, hg2⟩ : ∃ g2, W.heap.size = g2 := ⟨_, rfl⟩
  rw [hg2] at X ⊢
  clear hz0 hz1 hz2 hz3 hg2 hlt hbl
  generalize W.alloc (Obj.cells #[Value.int IntKind.i64 0, Value.int IntKind.i64 0] 60) = W1 at X hx0 hx1 hx2 hx3 hy0 hy1 hy2 hy3 hbl' ⊢
  have hg1 : g < W1.heap.size := blk_lt X.out.1
  have hg3 : g2 < W1.heap.size := blk_lt X.out.2.2.2.2.1
  have hz0 : W1.cell? ⟨g, 0, none⟩ = some (.int .i64 N) := (blk_cell X.out.1 0).trans rfl
  have hz1 : W1.cell? ⟨g, 1, none⟩ = some (.slice Au ps.length cu) := (blk_cell X.out.1 1).trans rfl
  have hz2 : W1.cell? ⟨g, 2, none⟩ = some (.bool true) := (blk_cell X.out.1 2).trans rfl
  have hz3 : W1.cell? ⟨g, 3, none⟩ = some (.int .i64 m) := (blk_cell X.out.1 3).trans rfl
  have hq_0 : W1.cell? ⟨g2, 0, none⟩ = some (.int .i64 0) := (blk_cell X.out.2.2.2.2.1 0).trans rfl
  have hq_1 : W1.cell? ⟨g2, 1, none⟩ = some (.int .i64 0) := (blk_cell X.out.2.2.2.2.1 1).trans rfl
  have hf_0 := blk_frozen X.out.2.2.2.2.1 0
  have hf_1 := blk_frozen X.out.2.2.2.2.1 1
  go_quiet (fail)
  have X2 := Aside0.mk (X.out.drewN nq)
  clear hz0 hz1 hz2 hz3 hq_0 hq_1 hf_0 hf_1 hg1 hg3 X
  replace hx0 : (W1.drewN nq).cell? ⟨b, o, none⟩ = _ := hx0
  replace hx1 : (W1.drewN nq).cell? ⟨b, o + 1, none⟩ = _ := hx1
  replace hx2 : (W1.drewN nq).cell? ⟨b, o + 2, none⟩ = _ := hx2
  replace hx3 : (W1.drewN nq).cell? ⟨b, o + 3, none⟩ = _ := hx3
  replace hy0 : (W1.drewN nq).cell? ⟨b, o + 4, none⟩ = _ := hy0
  replace hy1 : (W1.drewN nq).cell? ⟨b, o + 4 + 1, none⟩ = _ := hy1
  replace hy2 : (W1.drewN nq).cell? ⟨b, o + 4 + 2, none⟩ = _ := hy2
  replace hy3 : (W1.drewN nq).cell? ⟨b, o + 4 + 3, none⟩ = _ := hy3
  replace hbl' : b < (W1.drewN nq).heap.size := hbl'
  generalize W1.drewN nq = W2 at X2 hx0 hx1 hx2 hx3 hy0 hy1 hy2 hy3 hbl' ⊢
  have hg1 : g < W2.heap.size := blk_lt X2.out.1
  have hg3 : g2 < W2.heap.size := blk_lt X2.out.2.2.2.2.1
  have hz0 : W2.cell? ⟨g, 0, none⟩ = some (.int .i64 N) := (blk_cell X2.out.1 0).trans rfl
  have hq_0 : W2.cell? ⟨g2, 0, none⟩ = some (.int .i64 0) := (blk_cell X2.out.2.2.2.2.1 0).trans rfl
  have hq_1 : W2.cell? ⟨g2, 1, none⟩ = some (.int .i64 0) := (blk_cell X2.out.2.2.2.2.1 1).trans rfl
  have hf_0 := blk_frozen X2.out.2.2.2.2.1 0
  have hf_1 := blk_frozen X2.out.2.2.2.2.1 1
  go_wp2
  refine wp_loop_rounds 1 ?_
  rw [rounds_succ]
  go_wp2
  go_quiet (fail)
  go_wp2
  have Y := fun (o : Obj) (n : Nat) => RdX.out (((X2.out.alloc o).drewN n).put (.int .i64 24) (.int .i64 (rd_T95 ls 0).f1))
  have Y1 := fun (o : Obj) (n : Nat) => (Y o n).2.1
  have Y2 := fun (o : Obj) (n : Nat) => (Y o n).2.2
  refine bodyPost_ret (v := .agg #[.int .i64 24, .int .i64 (rd_T95 ls 0).f1]) (by simp [results, Tryd.results49, go_sem, Y1, Y2]) rfl ⟨rfl, _, (Y _ _).1⟩
end Go.Proofs.YthejafdcdcchbaaDoor.PSimA

set_option linter.unusedVariables false
set_option linter.unusedSimpArgs false
namespace Go.Proofs.YthejafdcdcchbaaDoor.PSimA
open Go.RowKit Go.Proofs.YthejafdcdcchbaaDoorW.PrintWords Go.Proofs.YthejafdcdcchbaaDoorW.PrintLast Go.Proofs.YthejafdcdcchbaaDoorW.PrintMore Go.Proofs.YthejafdcdcchbaaDoorX
variable {T : Nat × Array Value}
set_option maxHeartbeats 4000000 in
set_option maxRecDepth 100000 in
theorem line_24b {w W : World} {g : Nat} {N : Int} {m : Int} {u : Value} {ps : List S53} {A : Option Addr} {c : Nat} {ls : List S95} (h : Rd T w W g N true m u ps (.slice A ls.length c) ls) (h0 : 0 < ls.length) (hge0 : w.heap.size ≤ g) (hs : ls.length ≤ 33554433) (hps : ps.length ≤ 8796093022208) (hl : ls.length = 2) (h1 : ¬ m ≤ (ps.length : Int)) (h2 : ¬ (rd_T95 ls 0).f3 ≥ N) (h3 : (rd_T95 ls 1).f3 ≥ N) :
    Calls Tryd.prog 49 #[.pointer (some ⟨g, 0, none⟩), .slice A ls.length c] W (LineP T w g N true m ps (.slice A ls.length c) ls 24 (rd_T95 ls 1).f1) := by
  obtain ⟨Au, cu, rfl⟩ := Kd.R_slice h.2.1
  obtain ⟨b, o, rfl, hbl, htok⟩ := tok_cells h.2.2.1 h0
  obtain ⟨hx0, hx1, hx2, hx3⟩ := htok 0 h0
  rw [show ((0 : Nat) : Int) = 0 from rfl, Nat.zero_mul, Nat.add_zero] at hx0 hx1 hx2 hx3
  obtain ⟨hy0, hy1, hy2, hy3⟩ := htok 1 (by omega)
  rw [show ((1 : Nat) : Int) = 1 from rfl, Nat.one_mul] at hy0 hy1 hy2 hy3
  have hz2 : W.cell? ⟨g, 2, none⟩ = some (.bool true) := (blk_cell h.1 2).trans rfl
  have hz0 : W.cell? ⟨g, 0, none⟩ = some (.int .i64 N) := (blk_cell h.1 0).trans rfl
  have hz1 : W.cell? ⟨g, 1, none⟩ = some (.slice Au ps.length cu) := (blk_cell h.1 1).trans rfl
  have hz3 : W.cell? ⟨g, 3, none⟩ = some (.int .i64 m) := (blk_cell h.1 3).trans rfl
  have hlt := blk_lt h.1
  have hq0 : decide (0 < ls.length) = true := decide_eq_true h0
  have hc1 : ((ls.length : Int) == 2) = true := by rw [beq_iff_eq]; omega
  have hc2 : ((ls.length : Int) != 2) = false := by rw [bne_eq_false_iff_eq]; omega
  have hq1 : decide (1 < ls.length) = true := decide_eq_true (by omega)
  have hq2 : decide ((1 : Int) < (ls.length : Int)) = true := decide_eq_true (by omega)
  have hge : 2 ≤ ls.length := by omega
  have hq4 : ((1 : Int) < (ls.length : Int)) = True := eq_true (by omega)
  have hd1 : decide (m ≤ (ps.length : Int)) = false := decide_eq_false h1
  have hd2 : decide (N ≤ (rd_T95 ls 0).f3) = false := decide_eq_false h2
  have hd3 : decide (N ≤ (rd_T95 ls 1).f3) = true := decide_eq_true h3
  have hbg : b ≠ g := fun e_ => (h.2.2.1.1 b (by simp [Value.ownBlock])).1 e_
  have H := Aside0.mk h
  have BG := Aside0.mk hbg
  clear h htok hl h1 h2 h3 hbg
  go_enter Tryd.func49, Tryd.ntmps49
  go_wp2
  have X := Aside0.mk (RdX.of H.out (.int .i64 0) (.int .i64 0))
  have hx0 := (World.cell?_alloc_lt W (Obj.cells #[Value.int IntKind.i64 0, Value.int IntKind.i64 0] 60) ⟨b, o, none⟩ hbl).trans hx0
  have hx1 := (World.cell?_alloc_lt W (Obj.cells #[Value.int IntKind.i64 0, Value.int IntKind.i64 0] 60) ⟨b, o + 1, none⟩ hbl).trans hx1
  have hx2 := (World.cell?_alloc_lt W (Obj.cells #[Value.int IntKind.i64 0, Value.int IntKind.i64 0] 60) ⟨b, o + 2, none⟩ hbl).trans hx2
  have hx3 := (World.cell?_alloc_lt W (Obj.cells #[Value.int IntKind.i64 0, Value.int IntKind.i64 0] 60) ⟨b, o + 3, none⟩ hbl).trans hx3
  have hy0 := (World.cell?_alloc_lt W (Obj.cells #[Value.int IntKind.i64 0, Value.int IntKind.i64 0] 60) ⟨b, o + 4, none⟩ hbl).trans hy0
  have hy1 := (World.cell?_alloc_lt W (Obj.cells #[Value.int IntKind.i64 0, Value.int IntKind.i64 0] 60) ⟨b, o + 4 + 1, none⟩ hbl).trans hy1
  have hy2 := (World.cell?_alloc_lt W (Obj.cells #[Value.int IntKind.i64 0, Value.int IntKind.i64 0] 60) ⟨b, o + 4 + 2, none⟩ hbl).trans hy2
  have hy3 := (World.cell?_alloc_lt W (Obj.cells #[Value.int IntKind.i64 0, Value.int IntKind.i64 0] 60) ⟨b, o + 4 + 3, none⟩ hbl).trans hy3
  clear H
  have hbl' : b < (W.alloc (Obj.cells #[Value.int IntKind.i64 0, Value.int IntKind.i64 0] 60)).heap.size := by simp [go_sem]; omega
  obtain ⟨g2, hg2⟩ : ∃ g2, W.heap.size = g2 := ⟨_, rfl⟩
  rw [hg2] at X ⊢
  clear hz0 hz1 hz2 hz3 hg2 hlt hbl
  generalize W.alloc (Obj.cells #[Value.int IntKind.i64 0, Value.int IntKind.i64 0] 60) = W1 at X hx0 hx1 hx2 hx3 hy0 hy1 hy2 hy3 hbl' ⊢
  have hg1 : g < W1.heap.size := blk_lt X.out.1
  have hg3 : g2 < W1.heap.size := blk_lt X.out.2.2.2.2.1
  have hz0 : W1.cell? ⟨g, 0, none⟩ = some (.int .i64 N) := (blk_cell X.out.1 0).trans rfl
  have hz1 : W1.cell? ⟨g, 1, none⟩ = some (.slice Au ps.length cu) := (blk_cell X.out.1 1).trans rfl
  have hz2 : W1.cell? ⟨g, 2, none⟩ = some (.bool true) := (blk_cell X.out.1 2).trans rfl
  have hz3 : W1.cell? ⟨g, 3, none⟩ = some (.int .i64 m) := (blk_cell X.out.1 3).trans rfl
  have hq_0 : W1.cell? ⟨g2, 0, none⟩ = some (.int .i64 0) := (blk_cell X.out.2.2.2.2.1 0).trans rfl
  have hq_1 : W1.cell? ⟨g2, 1, none⟩ = some (.int .i64 0) := (blk_cell X.out.2.2.2.2.1 1).trans rfl
  have hf_0 := blk_frozen X.out.2.2.2.2.1 0
  have hf_1 := blk_frozen X.out.2.2.2.2.1 1
  go_quiet (fail)
  have X2 := Aside0.mk (X.out.drewN nq)
  clear hz0 hz1 hz2 hz3 hq_0 hq_1 hf_0 hf_1 hg1 hg3 X
  replace hx0 : (W1.drewN nq).cell? ⟨b, o, none⟩ = _ := hx0
  replace hx1 : (W1.drewN nq).cell? ⟨b, o + 1, none⟩ = _ := hx1
  replace hx2 : (W1.drewN nq).cell? ⟨b, o + 2, none⟩ = _ := hx2
  replace hx3 : (W1.drewN nq).cell? ⟨b, o + 3, none⟩ = _ := hx3
  replace hy0 : (W1.drewN nq).cell? ⟨b, o + 4, none⟩ = _ := hy0
  replace hy1 : (W1.drewN nq).cell? ⟨b, o + 4 + 1, none⟩ = _ := hy1
  replace hy2 : (W1.drewN nq).cell? ⟨b, o + 4 + 2, none⟩ = _ := hy2
  replace hy3 : (W1.drewN nq).cell? ⟨b, o + 4 + 3, none⟩ = _ := hy3
  replace hbl' : b < (W1.drewN nq).heap.size := hbl'
  generalize W1.drewN nq = W2 at X2 hx0 hx1 hx2 hx3 hy0 hy1 hy2 hy3 hbl' ⊢
  have hg1 : g < W2.heap.size := blk_lt X2.out.1
  have hg3 : g2 < W2.heap.size := blk_lt X2.out.2.2.2.2.1
  have hz0 : W2.cell? ⟨g, 0, none⟩ = some (.int .i64 N) := (blk_cell X2.out.1 0).trans rfl
  have hq_0 : W2.cell? ⟨g2, 0, none⟩ = some (.int .i64 0) := (blk_cell X2.out.2.2.2.2.1 0).trans rfl
  have hq_1 : W2.cell? ⟨g2, 1, none⟩ = some (.int .i64 0) := (blk_cell X2.out.2.2.2.2.1 1).trans rfl
  have hf_0 := blk_frozen X2.out.2.2.2.2.1 0
  have hf_1 := blk_frozen X2.out.2.2.2.2.1 1
  go_wp2
  refine wp_loop_rounds 2 ?_
  rw [rounds_succ]
  go_wp2
  go_quiet (fail)
  have X3 := Aside0.mk ((X2.out.alloc (Obj.cells #[.int .i64 (rd_T95 ls 0).f0, .int .i64 (rd_T95 ls 0).f1, .int .i64 (rd_T95 ls 0).f2, .int .i64 (rd_T95 ls 0).f3] 95)).drewN nq)
  clear hz0 hq_0 hq_1 hf_0 hf_1 hg1 hg3
  replace hx0 : ((W2.alloc (Obj.cells #[.int .i64 (rd_T95 ls 0).f0, .int .i64 (rd_T95 ls 0).f1, .int .i64 (rd_T95 ls 0).f2, .int .i64 (rd_T95 ls 0).f3] 95)).drewN nq).cell? ⟨b, o, none⟩ = _ := (World.cell?_alloc_lt W2 (Obj.cells #[.int .i64 (rd_T95 ls 0).f0, .int .i64 (rd_T95 ls 0).f1, .int .i64 (rd_T95 ls 0).f2, .int .i64 (rd_T95 ls 0).f3] 95) ⟨b, o, none⟩ hbl').trans hx0
  replace hx1 : ((W2.alloc (Obj.cells #[.int .i64 (rd_T95 ls 0).f0, .int .i64 (rd_T95 ls 0).f1, .int .i64 (rd_T95 ls 0).f2, .int .i64 (rd_T95 ls 0).f3] 95)).drewN nq).cell? ⟨b, o + 1, none⟩ = _ := (World.cell?_alloc_lt W2 (Obj.cells #[.int .i64 (rd_T95 ls 0).f0, .int .i64 (rd_T95 ls 0).f1, .int .i64 (rd_T95 ls 0).f2, .int .i64 (rd_T95 ls 0).f3] 95) ⟨b, o + 1, none⟩ hbl').trans hx1
  replace hx2 : ((W2.alloc (Obj.cells #[.int .i64 (rd_T95 ls 0).f0, .int .i64 (rd_T95 ls 0).f1, .int .i64 (rd_T95 ls 0).f2, .int .i64 (rd_T95 ls 0).f3] 95)).drewN nq).cell? ⟨b, o + 2, none⟩ = _ := (World.cell?_alloc_lt W2 (Obj.cells #[.int .i64 (rd_T95 ls 0).f0, .int .i64 (rd_T95 ls 0).f1, .int .i64 (rd_T95 ls 0).f2, .int .i64 (rd_T95 ls 0).f3] 95) ⟨b, o + 2, none⟩ hbl').trans hx2
  replace hx3 : ((W2.alloc (Obj.cells #[.int .i64 (rd_T95 ls 0).f0, .int .i64 (rd_T95 ls 0).f1, .int .i64 (rd_T95 ls 0).f2, .int .i64 (rd_T95 ls 0).f3] 95)).drewN nq).cell? ⟨b, o + 3, none⟩ = _ := (World.cell?_alloc_lt W2 (Obj.cells #[.int .i64 (rd_T95 ls 0).f0, .int .i64 (rd_T95 ls 0).f1, .int .i64 (rd_T95 ls 0).f2, .int .i64 (rd_T95 ls 0).f3] 95) ⟨b, o + 3, none⟩ hbl').trans hx3
  replace hy0 : ((W2.alloc (Obj.cells #[.int .i64 (rd_T95 ls 0).f0, .int .i64 (rd_T95 ls 0).f1, .int .i64 (rd_T95 ls 0).f2, .int .i64 (rd_T95 ls 0).f3] 95)).drewN nq).cell? ⟨b, o + 4, none⟩ = _ := (World.cell?_alloc_lt W2 (Obj.cells #[.int .i64 (rd_T95 ls 0).f0, .int .i64 (rd_T95 ls 0).f1, .int .i64 (rd_T95 ls 0).f2, .int .i64 (rd_T95 ls 0).f3] 95) ⟨b, o + 4, none⟩ hbl').trans hy0
  replace hy1 : ((W2.alloc (Obj.cells #[.int .i64 (rd_T95 ls 0).f0, .int .i64 (rd_T95 ls 0).f1, .int .i64 (rd_T95 ls 0).f2, .int .i64 (rd_T95 ls 0).f3] 95)).drewN nq).cell? ⟨b, o + 4 + 1, none⟩ = _ := (World.cell?_alloc_lt W2 (Obj.cells #[.int .i64 (rd_T95 ls 0).f0, .int .i64 (rd_T95 ls 0).f1, .int .i64 (rd_T95 ls 0).f2, .int .i64 (rd_T95 ls 0).f3] 95) ⟨b, o + 4 + 1, none⟩ hbl').trans hy1
  replace hy2 : ((W2.alloc (Obj.cells #[.int .i64 (rd_T95 ls 0).f0, .int .i64 (rd_T95 ls 0).f1, .int .i64 (rd_T95 ls 0).f2, .int .i64 (rd_T95 ls 0).f3] 95)).drewN nq).cell? ⟨b, o + 4 + 2, none⟩ = _ := (World.cell?_alloc_lt W2 (Obj.cells #[.int .i64 (rd_T95 ls 0).f0, .int .i64 (rd_T95 ls 0).f1, .int .i64 (rd_T95 ls 0).f2, .int .i64 (rd_T95 ls 0).f3] 95) ⟨b, o + 4 + 2, none⟩ hbl').trans hy2
  replace hy3 : ((W2.alloc (Obj.cells #[.int .i64 (rd_T95 ls 0).f0, .int .i64 (rd_T95 ls 0).f1, .int .i64 (rd_T95 ls 0).f2, .int .i64 (rd_T95 ls 0).f3] 95)).drewN nq).cell? ⟨b, o + 4 + 3, none⟩ = _ := (World.cell?_alloc_lt W2 (Obj.cells #[.int .i64 (rd_T95 ls 0).f0, .int .i64 (rd_T95 ls 0).f1, .int .i64 (rd_T95 ls 0).f2, .int .i64 (rd_T95 ls 0).f3] 95) ⟨b, o + 4 + 3, none⟩ hbl').trans hy3
  replace hbl' : b < ((W2.alloc (Obj.cells #[.int .i64 (rd_T95 ls 0).f0, .int .i64 (rd_T95 ls 0).f1, .int .i64 (rd_T95 ls 0).f2, .int .i64 (rd_T95 ls 0).f3] 95)).drewN nq).heap.size := Nat.lt_of_lt_of_le hbl' (below_alloc (Below.refl _ W2) (Obj.cells #[.int .i64 (rd_T95 ls 0).f0, .int .i64 (rd_T95 ls 0).f1, .int .i64 (rd_T95 ls 0).f2, .int .i64 (rd_T95 ls 0).f3] 95)).size
  generalize (W2.alloc (Obj.cells #[.int .i64 (rd_T95 ls 0).f0, .int .i64 (rd_T95 ls 0).f1, .int .i64 (rd_T95 ls 0).f2, .int .i64 (rd_T95 ls 0).f3] 95)).drewN nq = W3 at X3 hx0 hx1 hx2 hx3 hy0 hy1 hy2 hy3 hbl' ⊢
  have hg1 : g < W3.heap.size := blk_lt X3.out.1
  have hg3 : g2 < W3.heap.size := blk_lt X3.out.2.2.2.2.1
  have hz0 : W3.cell? ⟨g, 0, none⟩ = some (.int .i64 N) := (blk_cell X3.out.1 0).trans rfl
  have hq_0 : W3.cell? ⟨g2, 0, none⟩ = some (.int .i64 0) := (blk_cell X3.out.2.2.2.2.1 0).trans rfl
  have hq_1 : W3.cell? ⟨g2, 1, none⟩ = some (.int .i64 0) := (blk_cell X3.out.2.2.2.2.1 1).trans rfl
  have hf_0 := blk_frozen X3.out.2.2.2.2.1 0
  have hf_1 := blk_frozen X3.out.2.2.2.2.1 1
  go_wp2
  rw [rounds_succ]
  go_wp2
  go_quiet (fail)
  go_wp2
  have Y := fun (o : Obj) (n : Nat) => RdX.out (((X3.out.alloc o).drewN n).put (.int .i64 24) (.int .i64 (rd_T95 ls 1).f1))
  have Y1 := fun (o : Obj) (n : Nat) => (Y o n).2.1
  have Y2 := fun (o : Obj) (n : Nat) => (Y o n).2.2
  refine bodyPost_ret (v := .agg #[.int .i64 24, .int .i64 (rd_T95 ls 1).f1]) (by simp [results, Tryd.results49, go_sem, Y1, Y2]) rfl ⟨rfl, _, (Y _ _).1⟩
end Go.Proofs.YthejafdcdcchbaaDoor.PSimA

set_option linter.unusedVariables false
set_option linter.unusedSimpArgs false
namespace Go.Proofs.YthejafdcdcchbaaDoor.PSimA
open Go.RowKit Go.Proofs.YthejafdcdcchbaaDoorW.PrintWords Go.Proofs.YthejafdcdcchbaaDoorW.PrintLast Go.Proofs.YthejafdcdcchbaaDoorW.PrintMore Go.Proofs.YthejafdcdcchbaaDoorX
variable {T : Nat × Array Value}
set_option maxHeartbeats 4000000 in
set_option maxRecDepth 100000 in
theorem line_put {w W : World} {g : Nat} {N : Int} {m : Int} {u : Value} {ps : List S53} {A : Option Addr} {c : Nat} {ls : List S95} (h : Rd T w W g N true m u ps (.slice A ls.length c) ls) (h0 : 0 < ls.length) (hge0 : w.heap.size ≤ g) (hs : ls.length ≤ 33554433) (hps : ps.length < 8796093022208) (hl : ls.length = 2) (h1 : ¬ m ≤ (ps.length : Int)) (h2 : ¬ (rd_T95 ls 0).f3 ≥ N) (h3 : ¬ (rd_T95 ls 1).f3 ≥ N) :
    Calls Tryd.prog 49 #[.pointer (some ⟨g, 0, none⟩), .slice A ls.length c] W (LineP T w g N true m (ps ++ [⟨(rd_T95 ls 0).f3, (rd_T95 ls 1).f3⟩]) (.slice A ls.length c) ls 0 0) := by
  obtain ⟨Au, cu, rfl⟩ := Kd.R_slice h.2.1
  obtain ⟨b, o, rfl, hbl, htok⟩ := tok_cells h.2.2.1 h0
  obtain ⟨hx0, hx1, hx2, hx3⟩ := htok 0 h0
  rw [show ((0 : Nat) : Int) = 0 from rfl, Nat.zero_mul, Nat.add_zero] at hx0 hx1 hx2 hx3
  obtain ⟨hy0, hy1, hy2, hy3⟩ := htok 1 (by omega)
  rw [show ((1 : Nat) : Int) = 1 from rfl, Nat.one_mul] at hy0 hy1 hy2 hy3
  have hz2 : W.cell? ⟨g, 2, none⟩ = some (.bool true) := (blk_cell h.1 2).trans rfl
  have hz0 : W.cell? ⟨g, 0, none⟩ = some (.int .i64 N) := (blk_cell h.1 0).trans rfl
  have hz1 : W.cell? ⟨g, 1, none⟩ = some (.slice Au ps.length cu) := (blk_cell h.1 1).trans rfl
  have hz3 : W.cell? ⟨g, 3, none⟩ = some (.int .i64 m) := (blk_cell h.1 3).trans rfl
  have hlt := blk_lt h.1
  have hq0 : decide (0 < ls.length) = true := decide_eq_true h0
  have hc1 : ((ls.length : Int) == 2) = true := by rw [beq_iff_eq]; omega
  have hc2 : ((ls.length : Int) != 2) = false := by rw [bne_eq_false_iff_eq]; omega
  have hq1 : decide (1 < ls.length) = true := decide_eq_true (by omega)
  have hq2 : decide ((1 : Int) < (ls.length : Int)) = true := decide_eq_true (by omega)
  have hge : 2 ≤ ls.length := by omega
  have hle : ls.length ≤ 2 := by omega
  have hq4 : ((1 : Int) < (ls.length : Int)) = True := eq_true (by omega)
  have hd1 : decide (m ≤ (ps.length : Int)) = false := decide_eq_false h1
  have hd2 : decide (N ≤ (rd_T95 ls 0).f3) = false := decide_eq_false h2
  have hd3 : decide (N ≤ (rd_T95 ls 1).f3) = false := decide_eq_false h3
  have hbg : b ≠ g := fun e_ => (h.2.2.1.1 b (by simp [Value.ownBlock])).1 e_
  have H := Aside0.mk h
  have BG := Aside0.mk hbg
  clear h htok hl h1 h2 h3 hbg
  go_enter Tryd.func49, Tryd.ntmps49
  go_wp2
  have X := Aside0.mk (RdX.of H.out (.int .i64 0) (.int .i64 0))
  have hx0 := (World.cell?_alloc_lt W (Obj.cells #[Value.int IntKind.i64 0, Value.int IntKind.i64 0] 60) ⟨b, o, none⟩ hbl).trans hx0
  have hx1 := (World.cell?_alloc_lt W (Obj.cells #[Value.int IntKind.i64 0, Value.int IntKind.i64 0] 60) ⟨b, o + 1, none⟩ hbl).trans hx1
  have hx2 := (World.cell?_alloc_lt W (Obj.cells #[Value.int IntKind.i64 0, Value.int IntKind.i64 0] 60) ⟨b, o + 2, none⟩ hbl).trans hx2
  have hx3 := (World.cell?_alloc_lt W (Obj.cells #[Value.int IntKind.i64 0, Value.int IntKind.i64 0] 60) ⟨b, o + 3, none⟩ hbl).trans hx3
  have hy0 := (World.cell?_alloc_lt W (Obj.cells #[Value.int IntKind.i64 0, Value.int IntKind.i64 0] 60) ⟨b, o + 4, none⟩ hbl).trans hy0
  have hy1 := (World.cell?_alloc_lt W (Obj.cells #[Value.int IntKind.i64 0, Value.int IntKind.i64 0] 60) ⟨b, o + 4 + 1, none⟩ hbl).trans hy1
  have hy2 := (World.cell?_alloc_lt W (Obj.cells #[Value.int IntKind.i64 0, Value.int IntKind.i64 0] 60) ⟨b, o + 4 + 2, none⟩ hbl).trans hy2
  have hy3 := (World.cell?_alloc_lt W (Obj.cells #[Value.int IntKind.i64 0, Value.int IntKind.i64 0] 60) ⟨b, o + 4 + 3, none⟩ hbl).trans hy3
  clear H
  have hbl' : b < (W.alloc (Obj.cells #[Value.int IntKind.i64 0, Value.int IntKind.i64 0] 60)).heap.size := by simp [go_sem]; omega
  obtain ⟨g2, hg2⟩ : ∃ g2, W.heap.size = g2 := ⟨_, rfl⟩
  rw [hg2] at X ⊢
  clear hz0 hz1 hz2 hz3 hg2 hlt hbl
  generalize W.alloc (Obj.cells #[Value.int IntKind.i64 0, Value.int IntKind.i64 0] 60) = W1 at X hx0 hx1 hx2 hx3 hy0 hy1 hy2 hy3 hbl' ⊢
  have hg1 : g < W1.heap.size := blk_lt X.out.1
  have hg3 : g2 < W1.heap.size := blk_lt X.out.2.2.2.2.1
  have hz0 : W1.cell? ⟨g, 0, none⟩ = some (.int .i64 N) := (blk_cell X.out.1 0).trans rfl
  have hz1 : W1.cell? ⟨g, 1, none⟩ = some (.slice Au ps.length cu) := (blk_cell X.out.1 1).trans rfl
  have hz2 : W1.cell? ⟨g, 2, none⟩ = some (.bool true) := (blk_cell X.out.1 2).trans rfl
  have hz3 : W1.cell? ⟨g, 3, none⟩ = some (.int .i64 m) := (blk_cell X.out.1 3).trans rfl
  have hq_0 : W1.cell? ⟨g2, 0, none⟩ = some (.int .i64 0) := (blk_cell X.out.2.2.2.2.1 0).trans rfl
  have hq_1 : W1.cell? ⟨g2, 1, none⟩ = some (.int .i64 0) := (blk_cell X.out.2.2.2.2.1 1).trans rfl
  have hf_0 := blk_frozen X.out.2.2.2.2.1 0
  have hf_1 := blk_frozen X.out.2.2.2.2.1 1
  go_quiet (fail)
  have X2 := Aside0.mk (X.out.drewN nq)
  clear hz0 hz1 hz2 hz3 hq_0 hq_1 hf_0 hf_1 hg1 hg3 X
  replace hx0 : (W1.drewN nq).cell? ⟨b, o, none⟩ = _ := hx0
  replace hx1 : (W1.drewN nq).cell? ⟨b, o + 1, none⟩ = _ := hx1
  replace hx2 : (W1.drewN nq).cell? ⟨b, o + 2, none⟩ = _ := hx2
  replace hx3 : (W1.drewN nq).cell? ⟨b, o + 3, none⟩ = _ := hx3
  replace hy0 : (W1.drewN nq).cell? ⟨b, o + 4, none⟩ = _ := hy0
  replace hy1 : (W1.drewN nq).cell? ⟨b, o + 4 + 1, none⟩ = _ := hy1
  replace hy2 : (W1.drewN nq).cell? ⟨b, o + 4 + 2, none⟩ = _ := hy2
  replace hy3 : (W1.drewN nq).cell? ⟨b, o + 4 + 3, none⟩ = _ := hy3
  replace hbl' : b < (W1.drewN nq).heap.size := hbl'
  generalize W1.drewN nq = W2 at X2 hx0 hx1 hx2 hx3 hy0 hy1 hy2 hy3 hbl' ⊢
  have hg1 : g < W2.heap.size := blk_lt X2.out.1
  have hg3 : g2 < W2.heap.size := blk_lt X2.out.2.2.2.2.1
  have hz0 : W2.cell? ⟨g, 0, none⟩ = some (.int .i64 N) := (blk_cell X2.out.1 0).trans rfl
  have hq_0 : W2.cell? ⟨g2, 0, none⟩ = some (.int .i64 0) := (blk_cell X2.out.2.2.2.2.1 0).trans rfl
  have hq_1 : W2.cell? ⟨g2, 1, none⟩ = some (.int .i64 0) := (blk_cell X2.out.2.2.2.2.1 1).trans rfl
  have hf_0 := blk_frozen X2.out.2.2.2.2.1 0
  have hf_1 := blk_frozen X2.out.2.2.2.2.1 1
  go_wp2
  refine wp_loop_rounds 3 ?_
  rw [rounds_succ]
  go_wp2
  go_quiet (fail)
  have X3 := Aside0.mk ((X2.out.alloc (Obj.cells #[.int .i64 (rd_T95 ls 0).f0, .int .i64 (rd_T95 ls 0).f1, .int .i64 (rd_T95 ls 0).f2, .int .i64 (rd_T95 ls 0).f3] 95)).drewN nq)
  clear hz0 hq_0 hq_1 hf_0 hf_1 hg1 hg3
  replace hx0 : ((W2.alloc (Obj.cells #[.int .i64 (rd_T95 ls 0).f0, .int .i64 (rd_T95 ls 0).f1, .int .i64 (rd_T95 ls 0).f2, .int .i64 (rd_T95 ls 0).f3] 95)).drewN nq).cell? ⟨b, o, none⟩ = _ := (World.cell?_alloc_lt W2 (Obj.cells #[.int .i64 (rd_T95 ls 0).f0, .int .i64 (rd_T95 ls 0).f1, .int .i64 (rd_T95 ls 0).f2, .int .i64 (rd_T95 ls 0).f3] 95) ⟨b, o, none⟩ hbl').trans hx0
  replace hx1 : ((W2.alloc (Obj.cells #[.int .i64 (rd_T95 ls 0).f0, .int .i64 (rd_T95 ls 0).f1, .int .i64 (rd_T95 ls 0).f2, .int .i64 (rd_T95 ls 0).f3] 95)).drewN nq).cell? ⟨b, o + 1, none⟩ = _ := (World.cell?_alloc_lt W2 (Obj.cells #[.int .i64 (rd_T95 ls 0).f0, .int .i64 (rd_T95 ls 0).f1, .int .i64 (rd_T95 ls 0).f2, .int .i64 (rd_T95 ls 0).f3] 95) ⟨b, o + 1, none⟩ hbl').trans hx1
  replace hx2 : ((W2.alloc (Obj.cells #[.int .i64 (rd_T95 ls 0).f0, .int .i64 (rd_T95 ls 0).f1, .int .i64 (rd_T95 ls 0).f2, .int .i64 (rd_T95 ls 0).f3] 95)).drewN nq).cell? ⟨b, o + 2, none⟩ = _ := (World.cell?_alloc_lt W2 (Obj.cells #[.int .i64 (rd_T95 ls 0).f0, .int .i64 (rd_T95 ls 0).f1, .int .i64 (rd_T95 ls 0).f2, .int .i64 (rd_T95 ls 0).f3] 95) ⟨b, o + 2, none⟩ hbl').trans hx2
  replace hx3 : ((W2.alloc (Obj.cells #[.int .i64 (rd_T95 ls 0).f0, .int .i64 (rd_T95 ls 0).f1, .int .i64 (rd_T95 ls 0).f2, .int .i64 (rd_T95 ls 0).f3] 95)).drewN nq).cell? ⟨b, o + 3, none⟩ = _ := (World.cell?_alloc_lt W2 (Obj.cells #[.int .i64 (rd_T95 ls 0).f0, .int .i64 (rd_T95 ls 0).f1, .int .i64 (rd_T95 ls 0).f2, .int .i64 (rd_T95 ls 0).f3] 95) ⟨b, o + 3, none⟩ hbl').trans hx3
  replace hy0 : ((W2.alloc (Obj.cells #[.int .i64 (rd_T95 ls 0).f0, .int .i64 (rd_T95 ls 0).f1, .int .i64 (rd_T95 ls 0).f2, .int .i64 (rd_T95 ls 0).f3] 95)).drewN nq).cell? ⟨b, o + 4, none⟩ = _ := (World.cell?_alloc_lt W2 (Obj.cells #[.int .i64 (rd_T95 ls 0).f0, .int .i64 (rd_T95 ls 0).f1, .int .i64 (rd_T95 ls 0).f2, .int .i64 (rd_T95 ls 0).f3] 95) ⟨b, o + 4, none⟩ hbl').trans hy0
  replace hy1 : ((W2.alloc (Obj.cells #[.int .i64 (rd_T95 ls 0).f0, .int .i64 (rd_T95 ls 0).f1, .int .i64 (rd_T95 ls 0).f2, .int .i64 (rd_T95 ls 0).f3] 95)).drewN nq).cell? ⟨b, o + 4 + 1, none⟩ = _ := (World.cell?_alloc_lt W2 (Obj.cells #[.int .i64 (rd_T95 ls 0).f0, .int .i64 (rd_T95 ls 0).f1, .int .i64 (rd_T95 ls 0).f2, .int .i64 (rd_T95 ls 0).f3] 95) ⟨b, o + 4 + 1, none⟩ hbl').trans hy1
  replace hy2 : ((W2.alloc (Obj.cells #[.int .i64 (rd_T95 ls 0).f0, .int .i64 (rd_T95 ls 0).f1, .int .i64 (rd_T95 ls 0).f2, .int .i64 (rd_T95 ls 0).f3] 95)).drewN nq).cell? ⟨b, o + 4 + 2, none⟩ = _ := (World.cell?_alloc_lt W2 (Obj.cells #[.int .i64 (rd_T95 ls 0).f0, .int .i64 (rd_T95 ls 0).f1, .int .i64 (rd_T95 ls 0).f2, .int .i64 (rd_T95 ls 0).f3] 95) ⟨b, o + 4 + 2, none⟩ hbl').trans hy2
  replace hy3 : ((W2.alloc (Obj.cells #[.int .i64 (rd_T95 ls 0).f0, .int .i64 (rd_T95 ls 0).f1, .int .i64 (rd_T95 ls 0).f2, .int .i64 (rd_T95 ls 0).f3] 95)).drewN nq).cell? ⟨b, o + 4 + 3, none⟩ = _ := (World.cell?_alloc_lt W2 (Obj.cells #[.int .i64 (rd_T95 ls 0).f0, .int .i64 (rd_T95 ls 0).f1, .int .i64 (rd_T95 ls 0).f2, .int .i64 (rd_T95 ls 0).f3] 95) ⟨b, o + 4 + 3, none⟩ hbl').trans hy3
  replace hbl' : b < ((W2.alloc (Obj.cells #[.int .i64 (rd_T95 ls 0).f0, .int .i64 (rd_T95 ls 0).f1, .int .i64 (rd_T95 ls 0).f2, .int .i64 (rd_T95 ls 0).f3] 95)).drewN nq).heap.size := Nat.lt_of_lt_of_le hbl' (below_alloc (Below.refl _ W2) (Obj.cells #[.int .i64 (rd_T95 ls 0).f0, .int .i64 (rd_T95 ls 0).f1, .int .i64 (rd_T95 ls 0).f2, .int .i64 (rd_T95 ls 0).f3] 95)).size
  generalize (W2.alloc (Obj.cells #[.int .i64 (rd_T95 ls 0).f0, .int .i64 (rd_T95 ls 0).f1, .int .i64 (rd_T95 ls 0).f2, .int .i64 (rd_T95 ls 0).f3] 95)).drewN nq = W3 at X3 hx0 hx1 hx2 hx3 hy0 hy1 hy2 hy3 hbl' ⊢
  have hg1 : g < W3.heap.size := blk_lt X3.out.1
  have hg3 : g2 < W3.heap.size := blk_lt X3.out.2.2.2.2.1
  have hz0 : W3.cell? ⟨g, 0, none⟩ = some (.int .i64 N) := (blk_cell X3.out.1 0).trans rfl
  have hq_0 : W3.cell? ⟨g2, 0, none⟩ = some (.int .i64 0) := (blk_cell X3.out.2.2.2.2.1 0).trans rfl
  have hq_1 : W3.cell? ⟨g2, 1, none⟩ = some (.int .i64 0) := (blk_cell X3.out.2.2.2.2.1 1).trans rfl
  have hf_0 := blk_frozen X3.out.2.2.2.2.1 0
  have hf_1 := blk_frozen X3.out.2.2.2.2.1 1
  go_wp2
  rw [rounds_succ]
  go_wp2
  go_quiet (fail)
  have X4 := Aside0.mk ((X3.out.alloc (Obj.cells #[.int .i64 (rd_T95 ls 1).f0, .int .i64 (rd_T95 ls 1).f1, .int .i64 (rd_T95 ls 1).f2, .int .i64 (rd_T95 ls 1).f3] 95)).drewN nq)
  clear hz0 hq_0 hq_1 hf_0 hf_1 hg1 hg3
  replace hx3 : ((W3.alloc (Obj.cells #[.int .i64 (rd_T95 ls 1).f0, .int .i64 (rd_T95 ls 1).f1, .int .i64 (rd_T95 ls 1).f2, .int .i64 (rd_T95 ls 1).f3] 95)).drewN nq).cell? ⟨b, o + 3, none⟩ = _ := (World.cell?_alloc_lt W3 (Obj.cells #[.int .i64 (rd_T95 ls 1).f0, .int .i64 (rd_T95 ls 1).f1, .int .i64 (rd_T95 ls 1).f2, .int .i64 (rd_T95 ls 1).f3] 95) ⟨b, o + 3, none⟩ hbl').trans hx3
  replace hy3 : ((W3.alloc (Obj.cells #[.int .i64 (rd_T95 ls 1).f0, .int .i64 (rd_T95 ls 1).f1, .int .i64 (rd_T95 ls 1).f2, .int .i64 (rd_T95 ls 1).f3] 95)).drewN nq).cell? ⟨b, o + 4 + 3, none⟩ = _ := (World.cell?_alloc_lt W3 (Obj.cells #[.int .i64 (rd_T95 ls 1).f0, .int .i64 (rd_T95 ls 1).f1, .int .i64 (rd_T95 ls 1).f2, .int .i64 (rd_T95 ls 1).f3] 95) ⟨b, o + 4 + 3, none⟩ hbl').trans hy3
  replace hbl' : b < ((W3.alloc (Obj.cells #[.int .i64 (rd_T95 ls 1).f0, .int .i64 (rd_T95 ls 1).f1, .int .i64 (rd_T95 ls 1).f2, .int .i64 (rd_T95 ls 1).f3] 95)).drewN nq).heap.size := Nat.lt_of_lt_of_le hbl' (below_alloc (Below.refl _ W3) (Obj.cells #[.int .i64 (rd_T95 ls 1).f0, .int .i64 (rd_T95 ls 1).f1, .int .i64 (rd_T95 ls 1).f2, .int .i64 (rd_T95 ls 1).f3] 95)).size
  clear hx0 hx1 hx2 hy0 hy1 hy2
  generalize (W3.alloc (Obj.cells #[.int .i64 (rd_T95 ls 1).f0, .int .i64 (rd_T95 ls 1).f1, .int .i64 (rd_T95 ls 1).f2, .int .i64 (rd_T95 ls 1).f3] 95)).drewN nq = W4 at X4 hx3 hy3 hbl' ⊢
  go_wp2
  rw [rounds_succ]
  go_wp2
  have N12 : Aside0 (g ≠ g2) := ⟨X4.out.2.2.2.2.2.1⟩
  have N21 : Aside0 (g2 ≠ g) := ⟨fun e_ => X4.out.2.2.2.2.2.1 e_.symm⟩
  have GE2 : Aside0 (w.heap.size ≤ g2) := ⟨X4.out.2.2.2.2.2.2.1⟩
  have NTG : Aside0 (T.1 ≠ g) := ⟨X4.out.2.2.2.2.2.2.2.2.1⟩
  have NT2 : Aside0 (T.1 ≠ g2) := ⟨X4.out.2.2.2.2.2.2.2.2.2⟩
  have GE1 := Aside0.mk hge0
  have LM := Aside0.mk hps
  have HX := Aside0.mk hx3
  have HY := Aside0.mk hy3
  have HBL := Aside0.mk hbl'
  have B1 := bd (Aside0.mk X4.out.1)
  have Q1 := rd (Aside0.mk X4.out.2.1)
  have Q2 := rd (Aside0.mk X4.out.2.2.1)
  have HB := Aside0.mk (below_drew1 X4.out.2.2.2.1)
  have B2 := bd (Aside0.mk X4.out.2.2.2.2.1)
  have BT := bd (Aside0.mk X4.out.2.2.2.2.2.2.2.1)
  clear X4 hge0 hps hx3 hy3 hbl' X2 X3
  obtain ⟨ys, hys⟩ : ∃ y_ : List S53, y_ = (ps ++ [(⟨(rd_T95 ls 0).f3, (rd_T95 ls 1).f3⟩ : S53)]) := ⟨_, rfl⟩
  have NY := Aside0.mk hys
  clear hys
  refine start_ (n := 21) (S := fun w' => w'.cell? ⟨g, 1, none⟩ = some (.slice Au ps.length cu) ∧ w'.cell? ⟨b, o + 3, none⟩ = some (.int .i64 (rd_T95 ls 0).f3) ∧ w'.cell? ⟨b, o + 4 + 3, none⟩ = some (.int .i64 (rd_T95 ls 1).f3)) (ds := [16, 20]) (pf 0 21) (by kernel_rfl) rfl rfl ⟨bc B1 1, HX.out, HY.out⟩ (fun hHeld => ?_)
  refine with_tabW line_tab20 line_bits20 (fun HT_ HW_ => ?_)
  replace HBL : Aside0 (b < W4.drew.heap.size) := ⟨HBL.out⟩
  generalize W4.drew = w50 at B1 B2 BT Q1 Q2 HB HBL hHeld ⊢
  clear HX HY
  refine pu_ 0 (some 106) #[T_,F_,F_,F_,F_,F_,F_,F_,F_,F_,F_,F_,F_,F_,F_,F_,F_,F_,F_,F_,F_] HT_ ?_
  refine pu_ 1 (some 107) #[T_,T_,F_,F_,F_,F_,F_,F_,F_,F_,F_,F_,F_,F_,F_,F_,F_,F_,F_,F_,F_] HT_ ?_
  refine pu_ 2 (some 108) #[T_,T_,T_,F_,F_,F_,F_,F_,F_,F_,F_,F_,F_,F_,F_,F_,F_,F_,F_,F_,F_] HT_ ?_
  refine pu_ 3 (some 109) #[T_,T_,T_,T_,F_,F_,F_,F_,F_,F_,F_,F_,F_,F_,F_,F_,F_,F_,F_,F_,F_] HT_ ?_
  refine pu_ 4 (some 110) #[T_,T_,T_,T_,T_,F_,F_,F_,F_,F_,F_,F_,F_,F_,F_,F_,F_,F_,F_,F_,F_] HT_ ?_
  refine pu_ 6 (some 112) #[T_,T_,T_,T_,T_,F_,T_,F_,F_,F_,F_,F_,F_,F_,F_,F_,F_,F_,F_,F_,F_] HT_ ?_
  refine pu_ 7 (some 113) #[T_,T_,T_,T_,T_,F_,T_,T_,F_,F_,F_,F_,F_,F_,F_,F_,F_,F_,F_,F_,F_] HT_ ?_
  refine pu_ 8 (some 114) #[T_,T_,T_,T_,T_,F_,T_,T_,T_,F_,F_,F_,F_,F_,F_,F_,F_,F_,F_,F_,F_] HT_ ?_
  refine pu_ 10 (some 116) #[T_,T_,T_,T_,T_,F_,T_,T_,T_,F_,T_,F_,F_,F_,F_,F_,F_,F_,F_,F_,F_] HT_ ?_
  refine pu_ 11 (some 117) #[T_,T_,T_,T_,T_,F_,T_,T_,T_,F_,T_,T_,F_,F_,F_,F_,F_,F_,F_,F_,F_] HT_ ?_
  refine pu_ 12 (some 118) #[T_,T_,T_,T_,T_,F_,T_,T_,T_,F_,T_,T_,T_,F_,F_,F_,F_,F_,F_,F_,F_] HT_ ?_
  refine tk3_ 5 (some 111) #[T_,T_,T_,T_,T_,T_,T_,T_,T_,F_,T_,T_,T_,F_,F_,F_,F_,F_,F_,F_,F_] HT_ HW_ hHeld ?_
  refine tk3_ 9 (some 115) #[T_,T_,T_,T_,T_,T_,T_,T_,T_,T_,T_,T_,T_,F_,F_,F_,F_,F_,F_,F_,F_] HT_ HW_ hHeld ?_
  refine tk3_ 13 (some 119) #[T_,T_,T_,T_,T_,T_,T_,T_,T_,T_,T_,T_,T_,T_,F_,F_,F_,F_,F_,F_,F_] HT_ HW_ hHeld ?_
  refine pu_ 14 (some 120) (pf 15 21) HT_ ?_
  refine on_ 15 (some 121) (pf 16 21) HT_ (fun K hK => ?_)
  refine value_ (w1 := ?_) (v := ?_) (by rfl) rfl ?_ ?_
  rotate_left 2
  · go_simp
    constructor
    · rfl
    · rfl
  refine hK.out _ _ ⟨(blk_cell (blk_alloc B1.out _) 1).trans rfl, (World.cell?_alloc_lt _ _ _ HBL.out).trans hHeld.2.1, (World.cell?_alloc_lt _ _ _ HBL.out).trans hHeld.2.2⟩ (fun hHeld => ?_)
  clear hK K
  refine nm_ (some 121) ?_
  refine last_ (i := 16) (N := some 122) (pf 17 21) rfl rfl (one_of HT_.out (by kernel_rfl)) (by decide) (fun K hK => ?_)
  refine Kd.R_append_step k53 (w0 := w) w.heap.size (by rfl) (.tmp 111) (.tmp 121) 22 53 (.agg #[(.int .i64 0), (.int .i64 0)]) 16 rfl Tryd.underlying22 info53 rfl (by decide) (by omega) (.slice Au ps.length cu) ps (⟨(rd_T95 ls 0).f3, (rd_T95 ls 1).f3⟩ : S53) [.int .i64 ((rd_T95 ls 0).f3), .int .i64 ((rd_T95 ls 1).f3)] (fun k_ => (k_ ≠ g ∧ some k_ ≠ (Value.slice (some ⟨b, o, none⟩) ls.length c).ownBlock) ∧ k_ ≠ g2) (fun _ => False) rfl rfl ?aP (fun _ hk => hk.elim) ?aF ?aO ?aB ?aS ?aL ?_
  case aP => exact k53_mkM _ _ _ (⟨(rd_T95 ls 0).f3, (rd_T95 ls 1).f3⟩ : S53)
  case aB => exact hb0 HB
  case aF =>
    intro k_ hk_
    refine ⟨⟨?_, ?_⟩, ?_⟩
    · intro e_
      subst e_
      exact absurd hk_ (Nat.not_le_of_lt (blk_lt (bx B1)))
    · intro e_
      have e3 : k_ = b := by simpa [Value.ownBlock] using e_
      have hw := fun (w' : World) [i : Wb [] w50 w'] => Nat.lt_of_lt_of_le HBL.out i.size
      exact absurd hk_ (Nat.not_le_of_lt (by rw [e3]; exact hw _))
    · intro e_
      subst e_
      exact absurd hk_ (Nat.not_le_of_lt (blk_lt (bx B2)))
  case aO => exact rx Q1
  case aS => exact below_size (hb0 HB)
  case aL => have := LM.out; omega
  intro v9 w9 ho hb hg hat
  rw [← NY.out] at ho
  have B3 := Aside0.mk (blk_grown (bx B1) hg (Kd.R_ne Q1.out B1.out (by decide)))
  have B4 := Aside0.mk (blk_grown (bx B2) hg (Kd.R_ne Q1.out B2.out (by decide)))
  have BU := Aside0.mk (blk_grown (bx BT) hg (Kd.R_ne Q1.out BT.out (by decide)))
  have Q3 := Aside0.mk (Kd.R_apartR (Kd.R_over' (rx Q2) (Kd.R_typed (rx Q1)) (by decide) hg) ho (by decide))
  have Q4 := Aside0.mk ho
  have HB4 := Aside0.mk hb
  clear ho hb hg hat B1 B2 BT Q1 Q2 HB HBL
  obtain ⟨An, cn, en⟩ := Kd.R_slice Q4.out
  subst en
  refine hK.out _ _ ?_
  clear hK K
  refine nm_ (some 122) ?_
  refine pu_ 17 (some 123) (pf 18 21) HT_ ?_
  refine pu_ 18 (some 124) (pf 19 21) HT_ ?_
  refine pu_ 19 (some 125) (pf 20 21) HT_ ?_
  refine last_ (i := 20) (N := none) (pf 21 21) rfl rfl (one_of HT_.out (by kernel_rfl)) (by decide) (fun K hK => ?_)
  have hs1 : w9.cell? ⟨g, 1, none⟩ = some (.slice Au ps.length cu) := bc B3 1
  have hfs1 := blk_frozen B3.out 1
  refine skip_ (w1 := ?_) (by rfl) rfl ?_ ?_
  rotate_left
  · go_simp
    rfl
  refine hK.out _ _ ?_
  clear hK K
  refine done_ (done_of HT_.out (by kernel_rfl)) ?_
  have C1 := blk_put (u := .slice An ys.length cn) B3.out 1 rfl
  have C2 := blk_far (p := ⟨g, 1, none⟩) B4.out N21.out (.slice An ys.length cn)
  have C3 := Aside0.mk (Kd.R_far (p := ⟨g, 1, none⟩) Q4.out (fun _ hk => hk.1.1) (.slice An ys.length cn))
  have C4 := Aside0.mk (Kd.R_far (p := ⟨g, 1, none⟩) Q3.out (fun _ hk => hk.1.1.1) (.slice An ys.length cn))
  have C6 := Aside0.mk (blk_far (p := ⟨g, 1, none⟩) BU.out NTG.out (.slice An ys.length cn))
  have C5 : Aside0 (Below w.heap.size w (w9.setCell ⟨g, 1, none⟩ (.slice An ys.length cn))) := ⟨below_set HB4.out GE1.out⟩
  clear hs1 hfs1 hHeld HT_ HW_ B3 B4 BU Q3 Q4 HB4
  generalize w9.setCell ⟨g, 1, none⟩ (.slice An ys.length cn) = wz at C1 C2 C3 C4 C5 C6 ⊢
  have z0 : wz.cell? ⟨g2, 0, none⟩ = some (.int .i64 0) := (blk_cell C2 0).trans rfl
  have z1 : wz.cell? ⟨g2, 1, none⟩ = some (.int .i64 0) := (blk_cell C2 1).trans rfl
  have zf0 := blk_frozen C2 0
  have zf1 := blk_frozen C2 1
  have CC := Aside0.mk C1
  have CD := Aside0.mk C2
  clear C1 C2
  go_wp2
  have F2 := blk_put (u := .int .i64 0) (blk_put (u := .int .i64 0) CD.out 0 rfl) 1 rfl
  have y0 := (blk_cell F2 0).trans rfl
  have y1 := (blk_cell F2 1).trans rfl
  rw [← NY.out]
  refine bodyPost_ret (v := .agg #[.int .i64 0, .int .i64 0]) (by simp [results, Tryd.results49, go_sem, y0, y1]) rfl ⟨rfl, _, blk_far (blk_far CC.out N12.out _) N12.out _, ?_, ?_, ?_, blk_far (blk_far C6.out NT2.out _) NT2.out _, NTG.out⟩
  · exact Kd.R_mono (Kd.R_far (p := ⟨g2, 1, none⟩) (Kd.R_far (p := ⟨g2, 0, none⟩) C3.out (fun _ hk => hk.2) (.int .i64 0)) (fun _ hk => hk.2) (.int .i64 0)) (fun _ hk => hk.1)
  · exact Kd.R_mono (Kd.R_far (p := ⟨g2, 1, none⟩) (Kd.R_far (p := ⟨g2, 0, none⟩) C4.out (fun _ hk => hk.1.2) (.int .i64 0)) (fun _ hk => hk.1.2) (.int .i64 0)) (fun _ hk => ⟨hk.1.1.1, hk.2⟩)
  · exact below_set (below_set C5.out GE2.out) GE2.out
end Go.Proofs.YthejafdcdcchbaaDoor.PSimA

set_option linter.unusedVariables false
set_option linter.unusedSimpArgs false
namespace Go.Proofs.YthejafdcdcchbaaDoor.PSimA
open Go.RowKit Go.Proofs.YthejafdcdcchbaaDoorW.PrintWords Go.Proofs.YthejafdcdcchbaaDoorW.PrintLast Go.Proofs.YthejafdcdcchbaaDoorW.PrintMore Go.Proofs.YthejafdcdcchbaaDoorX
variable {T : Nat × Array Value}
/-- What the reader's line says of a line's tokens: the fault and its place; the reader behind it. -/
structure LineR where
  code : Int
  at_ : Int
  N : Int
  hd : Bool
  m : Int
  ps : List S53
def lineF (N : Int) (hd : Bool) (m : Int) (ps : List S53) (ls : List S95) : LineR :=
  if hd = false then
    if ls.length ≠ 2 then ⟨20, (rd_T95 ls 0).f1, N, hd, m, ps⟩
    else if (rd_T95 ls 0).f3 > 1048576 then ⟨21, (rd_T95 ls 0).f1, N, hd, m, ps⟩
    else if (rd_T95 ls 1).f3 > 2097152 then ⟨22, (rd_T95 ls 1).f1, N, hd, m, ps⟩
    else ⟨0, 0, (rd_T95 ls 0).f3, true, (rd_T95 ls 1).f3, ps⟩
  else if m ≤ (ps.length : Int) then ⟨26, (rd_T95 ls 0).f1, N, hd, m, ps⟩
  else if ls.length ≠ 2 then ⟨23, (rd_T95 ls 0).f1, N, hd, m, ps⟩
  else if (rd_T95 ls 0).f3 ≥ N then ⟨24, (rd_T95 ls 0).f1, N, hd, m, ps⟩
  else if (rd_T95 ls 1).f3 ≥ N then ⟨24, (rd_T95 ls 1).f1, N, hd, m, ps⟩
  else ⟨0, 0, N, hd, m, ps ++ [⟨(rd_T95 ls 0).f3, (rd_T95 ls 1).f3⟩]⟩
theorem line_c {w W : World} {g : Nat} {N : Int} {hd : Bool} {m : Int} {u : Value} {ps : List S53} {A : Option Addr} {c : Nat} {ls : List S95} (h : Rd T w W g N hd m u ps (.slice A ls.length c) ls) (h0 : 0 < ls.length) (hge0 : w.heap.size ≤ g) (hs : ls.length ≤ 33554433) (hps : ps.length < 8796093022208) :
    Calls Tryd.prog 49 #[.pointer (some ⟨g, 0, none⟩), .slice A ls.length c] W (LineP T w g (lineF N hd m ps ls).N (lineF N hd m ps ls).hd (lineF N hd m ps ls).m (lineF N hd m ps ls).ps (.slice A ls.length c) ls (lineF N hd m ps ls).code (lineF N hd m ps ls).at_) := by
  cases hd with
  | false =>
    by_cases c1 : ls.length ≠ 2
    · have e : lineF N false m ps ls = ⟨20, (rd_T95 ls 0).f1, N, false, m, ps⟩ := by unfold lineF; rw [if_pos rfl, if_pos c1]
      rw [e]
      dsimp only
      exact line_20 h h0 hs (by omega) c1
    · by_cases c2 : (rd_T95 ls 0).f3 > 1048576
      · have e : lineF N false m ps ls = ⟨21, (rd_T95 ls 0).f1, N, false, m, ps⟩ := by unfold lineF; rw [if_pos rfl, if_neg c1, if_pos c2]
        rw [e]
        dsimp only
        exact line_21 h h0 hs (by omega) (by omega) c2
      · by_cases c3 : (rd_T95 ls 1).f3 > 2097152
        · have e : lineF N false m ps ls = ⟨22, (rd_T95 ls 1).f1, N, false, m, ps⟩ := by unfold lineF; rw [if_pos rfl, if_neg c1, if_neg c2, if_pos c3]
          rw [e]
          dsimp only
          exact line_22 h h0 hs (by omega) (by omega) c2 c3
        · have e : lineF N false m ps ls = ⟨0, 0, (rd_T95 ls 0).f3, true, (rd_T95 ls 1).f3, ps⟩ := by unfold lineF; rw [if_pos rfl, if_neg c1, if_neg c2, if_neg c3]
          rw [e]
          dsimp only
          exact line_head h h0 hge0 hs (by omega) (by omega) c2 c3
  | true =>
    by_cases c1 : m ≤ (ps.length : Int)
    · have e : lineF N true m ps ls = ⟨26, (rd_T95 ls 0).f1, N, true, m, ps⟩ := by unfold lineF; rw [if_neg (by decide), if_pos c1]
      rw [e]
      dsimp only
      exact line_26 h h0 hs (by omega) c1
    · by_cases c2 : ls.length ≠ 2
      · have e : lineF N true m ps ls = ⟨23, (rd_T95 ls 0).f1, N, true, m, ps⟩ := by unfold lineF; rw [if_neg (by decide), if_neg c1, if_pos c2]
        rw [e]
        dsimp only
        exact line_23 h h0 hs (by omega) c1 c2
      · by_cases c3 : (rd_T95 ls 0).f3 ≥ N
        · have e : lineF N true m ps ls = ⟨24, (rd_T95 ls 0).f1, N, true, m, ps⟩ := by unfold lineF; rw [if_neg (by decide), if_neg c1, if_neg c2, if_pos c3]
          rw [e]
          dsimp only
          exact line_24a h h0 hge0 hs (by omega) (by omega) c1 c3
        · by_cases c4 : (rd_T95 ls 1).f3 ≥ N
          · have e : lineF N true m ps ls = ⟨24, (rd_T95 ls 1).f1, N, true, m, ps⟩ := by unfold lineF; rw [if_neg (by decide), if_neg c1, if_neg c2, if_neg c3, if_pos c4]
            rw [e]
            dsimp only
            exact line_24b h h0 hge0 hs (by omega) (by omega) c1 c3 c4
          · have e : lineF N true m ps ls = ⟨0, 0, N, true, m, ps ++ [⟨(rd_T95 ls 0).f3, (rd_T95 ls 1).f3⟩]⟩ := by unfold lineF; rw [if_neg (by decide), if_neg c1, if_neg c2, if_neg c3, if_neg c4]
            rw [e]
            dsimp only
            exact line_put h h0 hge0 hs hps (by omega) c1 c3 c4
end Go.Proofs.YthejafdcdcchbaaDoor.PSimA
