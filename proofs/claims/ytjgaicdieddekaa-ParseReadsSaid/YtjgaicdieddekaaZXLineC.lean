import Derived.Test.YtjgaicdieddekaaZXLineB
set_option linter.unusedVariables false
set_option linter.unusedSimpArgs false
namespace Go.Proofs.Ytjgaicdieddekaa.PParA
open Go.RowKit Go.Proofs.YtjgaicdieddekaaW.PrintWords Go.Proofs.YtjgaicdieddekaaW.PrintLast Go.Proofs.YtjgaicdieddekaaW.PrintMore Go.Proofs.YtjgaicdieddekaaX
variable {T : Nat × Array Value}
/-- The reader with the result's own block g2 beside. -/
def RdX (T : Nat × Array Value) (w W : World) (g g2 : Nat) (N : Int) (hd : Bool) (m : Int) (u : Value) (ps : List S40) (V : Value) (ls : List S50) (c0 c1 : Value) : Prop :=
  W.heap[g]? = some (.cells #[.int .i64 N, u, .bool hd, .int .i64 m] 47 (0, 0)) ∧ Kd.R k40 40 W w.heap.size (fun k_ => (k_ ≠ g ∧ some k_ ≠ V.ownBlock) ∧ k_ ≠ g2) u ps ∧ Kd.R k50 50 W w.heap.size (fun k_ => (k_ ≠ g ∧ some k_ ≠ u.ownBlock) ∧ k_ ≠ g2) V ls ∧ Below w.heap.size w W ∧ W.heap[g2]? = some (.cells #[c0, c1] 29 (0, 0)) ∧ g ≠ g2 ∧ w.heap.size ≤ g2 ∧ W.heap[T.1]? = some (.cells T.2 50 (0, 0)) ∧ T.1 ≠ g ∧ T.1 ≠ g2
theorem RdX.of {w W : World} {g : Nat} {N : Int} {hd : Bool} {m : Int} {u : Value} {ps : List S40} {V : Value} {ls : List S50} (h : Rd T w W g N hd m u ps V ls) (c0 c1 : Value) : RdX T w (W.alloc (.cells #[c0, c1] 29)) g W.heap.size N hd m u ps V ls c0 c1 :=
  ⟨blk_alloc h.1 _, Kd.R_alloc (Kd.R_elderB h.2.1 W.heap.size (Nat.le_refl _)) _, Kd.R_alloc (Kd.R_elderB h.2.2.1 W.heap.size (Nat.le_refl _)) _, below_alloc h.2.2.2.1 _, blk_new W _, Nat.ne_of_lt (blk_lt h.1), h.2.2.2.1.size, blk_alloc h.2.2.2.2.1 _, h.2.2.2.2.2, Nat.ne_of_lt (blk_lt h.2.2.2.2.1)⟩
theorem RdX.alloc {w W : World} {g g2 : Nat} {N : Int} {hd : Bool} {m : Int} {u : Value} {ps : List S40} {V : Value} {ls : List S50} {c0 c1 : Value} (h : RdX T w W g g2 N hd m u ps V ls c0 c1) (o : Obj) : RdX T w (W.alloc o) g g2 N hd m u ps V ls c0 c1 :=
  ⟨blk_alloc h.1 o, Kd.R_alloc h.2.1 o, Kd.R_alloc h.2.2.1 o, below_alloc h.2.2.2.1 o, blk_alloc h.2.2.2.2.1 o, h.2.2.2.2.2.1, h.2.2.2.2.2.2.1, blk_alloc h.2.2.2.2.2.2.2.1 o, h.2.2.2.2.2.2.2.2⟩
theorem RdX.drewN {w W : World} {g g2 : Nat} {N : Int} {hd : Bool} {m : Int} {u : Value} {ps : List S40} {V : Value} {ls : List S50} {c0 c1 : Value} (h : RdX T w W g g2 N hd m u ps V ls c0 c1) (n : Nat) : RdX T w (W.drewN n) g g2 N hd m u ps V ls c0 c1 :=
  ⟨blk_drewN h.1 n, Kd.R_drewN h.2.1 n, Kd.R_drewN h.2.2.1 n, pw_below_drewN h.2.2.2.1 n, blk_drewN h.2.2.2.2.1 n, h.2.2.2.2.2.1, h.2.2.2.2.2.2.1, blk_drewN h.2.2.2.2.2.2.2.1 n, h.2.2.2.2.2.2.2.2⟩
theorem RdX.put {w W : World} {g g2 : Nat} {N : Int} {hd : Bool} {m : Int} {u : Value} {ps : List S40} {V : Value} {ls : List S50} {c0 c1 : Value} (h : RdX T w W g g2 N hd m u ps V ls c0 c1) (v0 v1 : Value) : RdX T w ((W.setCell ⟨g2, 0, none⟩ v0).setCell ⟨g2, 1, none⟩ v1) g g2 N hd m u ps V ls v0 v1 :=
  ⟨blk_far (blk_far h.1 h.2.2.2.2.2.1 _) h.2.2.2.2.2.1 _, Kd.R_far (p := ⟨g2, 1, none⟩) (Kd.R_far (p := ⟨g2, 0, none⟩) h.2.1 (fun _ hk => hk.2) v0) (fun _ hk => hk.2) v1, Kd.R_far (p := ⟨g2, 1, none⟩) (Kd.R_far (p := ⟨g2, 0, none⟩) h.2.2.1 (fun _ hk => hk.2) v0) (fun _ hk => hk.2) v1,
    below_set (below_set h.2.2.2.1 h.2.2.2.2.2.2.1) h.2.2.2.2.2.2.1, blk_put (blk_put h.2.2.2.2.1 0 _ rfl) 1 _ rfl, h.2.2.2.2.2.1, h.2.2.2.2.2.2.1, blk_far (blk_far h.2.2.2.2.2.2.2.1 h.2.2.2.2.2.2.2.2.2 _) h.2.2.2.2.2.2.2.2.2 _, h.2.2.2.2.2.2.2.2⟩
theorem RdX.out {w W : World} {g g2 : Nat} {N : Int} {hd : Bool} {m : Int} {u : Value} {ps : List S40} {V : Value} {ls : List S50} {c0 c1 : Value} (h : RdX T w W g g2 N hd m u ps V ls c0 c1) : Rd T w W g N hd m u ps V ls ∧ W.cell? ⟨g2, 0, none⟩ = some c0 ∧ W.cell? ⟨g2, 1, none⟩ = some c1 :=
  ⟨⟨h.1, Kd.R_mono h.2.1 (fun _ hk => hk.1), Kd.R_mono h.2.2.1 (fun _ hk => hk.1), h.2.2.2.1, h.2.2.2.2.2.2.2.1, h.2.2.2.2.2.2.2.2.1⟩, (blk_cell h.2.2.2.2.1 0).trans rfl, (blk_cell h.2.2.2.2.1 1).trans rfl⟩
set_option maxHeartbeats 4000000 in
set_option maxRecDepth 100000 in
theorem line_24a {w W : World} {g : Nat} {N : Int} {m : Int} {u : Value} {ps : List S40} {A : Option Addr} {c : Nat} {ls : List S50} (h : Rd T w W g N true m u ps (.slice A ls.length c) ls) (h0 : 0 < ls.length) (hge0 : w.heap.size ≤ g) (hs : ls.length ≤ 33554433) (hps : ps.length ≤ 8796093022208) (hl : ls.length = 2) (h1 : ¬ m ≤ (ps.length : Int)) (h2 : (rd_T50 ls 0).f3 ≥ N) :
    Calls Try.prog 13 #[.pointer (some ⟨g, 0, none⟩), .slice A ls.length c] W (LineP T w g N true m ps (.slice A ls.length c) ls 24 (rd_T50 ls 0).f1) := by
  obtain ⟨Au, cu, rfl⟩ := Kd.R_slice h.2.1
  obtain ⟨b, o, rfl, hbl, htok⟩ := tok_cells h.2.2.1 h0
  obtain ⟨hx0, hx1, hx2, hx3⟩ := htok 0 h0
  rw [show ((0 : Nat) : Int) = 0 from rfl, Nat.zero_mul, Nat.add_zero] at hx0 hx1 hx2 hx3
  obtain ⟨hy0, hy1, hy2, hy3⟩ := htok 1 (by omega)
  rw [show ((1 : Nat) : Int) = 1 from rfl, Nat.one_mul] at hy0 hy1 hy2 hy3
  have hz2 : W.cell? ⟨g, 2, none⟩ = some (.bool true) := (blk_cell h.1 2).trans rfl
  have hz0 : W.cell? ⟨g, 0, none⟩ = some (.int .i64 N) := (blk_cell h.1 0).trans rfl
  have hz1 : W.cell? ⟨g, 1, none⟩ = some (.slice Au ps.length cu) := (blk_cell h.1 1).trans rfl
  have hz3 : W.cell? ⟨g, 3, none⟩ = some (.int .i64 m) := (blk_cell h.1 3).trans rfl
  have hlt := blk_lt h.1
  have hq0 : decide (0 < ls.length) = true := decide_eq_true h0
  have hc1 : ((ls.length : Int) == 2) = true := by rw [beq_iff_eq]; omega
  have hc2 : ((ls.length : Int) != 2) = false := by rw [bne_eq_false_iff_eq]; omega
  have hq1 : decide (1 < ls.length) = true := decide_eq_true (by omega)
  have hq2 : decide ((1 : Int) < (ls.length : Int)) = true := decide_eq_true (by omega)
  have hge : 2 ≤ ls.length := by omega
  have hq4 : ((1 : Int) < (ls.length : Int)) = True := eq_true (by omega)
  have hd1 : decide (m ≤ (ps.length : Int)) = false := decide_eq_false h1
  have hd2 : decide (N ≤ (rd_T50 ls 0).f3) = true := decide_eq_true h2
  have hbg : b ≠ g := fun e_ => (h.2.2.1.1 b (by simp [Value.ownBlock])).1 e_
  have H := Aside0.mk h
  have BG := Aside0.mk hbg
  clear h htok hl h1 h2 hbg
  go_enter Try.func13, Try.ntmps13
  go_wp2
  have X := Aside0.mk (RdX.of H.out (.int .i64 0) (.int .i64 0))
  have hx0 := (World.cell?_alloc_lt W (Obj.cells #[Value.int IntKind.i64 0, Value.int IntKind.i64 0] 29) ⟨b, o, none⟩ hbl).trans hx0
  have hx1 := (World.cell?_alloc_lt W (Obj.cells #[Value.int IntKind.i64 0, Value.int IntKind.i64 0] 29) ⟨b, o + 1, none⟩ hbl).trans hx1
  have hx2 := (World.cell?_alloc_lt W (Obj.cells #[Value.int IntKind.i64 0, Value.int IntKind.i64 0] 29) ⟨b, o + 2, none⟩ hbl).trans hx2
  have hx3 := (World.cell?_alloc_lt W (Obj.cells #[Value.int IntKind.i64 0, Value.int IntKind.i64 0] 29) ⟨b, o + 3, none⟩ hbl).trans hx3
  have hy0 := (World.cell?_alloc_lt W (Obj.cells #[Value.int IntKind.i64 0, Value.int IntKind.i64 0] 29) ⟨b, o + 4, none⟩ hbl).trans hy0
  have hy1 := (World.cell?_alloc_lt W (Obj.cells #[Value.int IntKind.i64 0, Value.int IntKind.i64 0] 29) ⟨b, o + 4 + 1, none⟩ hbl).trans hy1
  have hy2 := (World.cell?_alloc_lt W (Obj.cells #[Value.int IntKind.i64 0, Value.int IntKind.i64 0] 29) ⟨b, o + 4 + 2, none⟩ hbl).trans hy2
  have hy3 := (World.cell?_alloc_lt W (Obj.cells #[Value.int IntKind.i64 0, Value.int IntKind.i64 0] 29) ⟨b, o + 4 + 3, none⟩ hbl).trans hy3
  clear H
  have hbl' : b < (W.alloc (Obj.cells #[Value.int IntKind.i64 0, Value.int IntKind.i64 0] 29)).heap.size := by simp [go_sem]; omega
  obtain ⟨g2, hg2⟩ : ∃ g2, W.heap.size = g2 := ⟨_, rfl⟩
  rw [hg2] at X ⊢
  clear hz0 hz1 hz2 hz3 hg2 hlt hbl
  generalize W.alloc (Obj.cells #[Value.int IntKind.i64 0, Value.int IntKind.i64 0] 29) = W1 at X hx0 hx1 hx2 hx3 hy0 hy1 hy2 hy3 hbl' ⊢
  have hg1 : g < W1.heap.size := blk_lt X.out.1
  have hg3 : g2 < W1.heap.size := blk_lt X.out.2.2.2.2.1
  have hz0 : W1.cell? ⟨g, 0, none⟩ = some (.int .i64 N) := (blk_cell X.out.1 0).trans rfl
  have hz1 : W1.cell? ⟨g, 1, none⟩ = some (.slice Au ps.length cu) := (blk_cell X.out.1 1).trans rfl
  have hz2 : W1.cell? ⟨g, 2, none⟩ = some (.bool true) := (blk_cell X.out.1 2).trans rfl
  have hz3 : W1.cell? ⟨g, 3, none⟩ = some (.int .i64 m) := (blk_cell X.out.1 3).trans rfl
  have hq_0 : W1.cell? ⟨g2, 0, none⟩ = some (.int .i64 0) := (blk_cell X.out.2.2.2.2.1 0).trans rfl
  have hq_1 : W1.cell? ⟨g2, 1, none⟩ = some (.int .i64 0) := (blk_cell X.out.2.2.2.2.1 1).trans rfl
  have hf_0 := blk_frozen X.out.2.2.2.2.1 0
  have hf_1 := blk_frozen X.out.2.2.2.2.1 1
  go_quiet (fail)
  have X2 := Aside0.mk (X.out.drewN nq)
  clear hz0 hz1 hz2 hz3 hq_0 hq_1 hf_0 hf_1 hg1 hg3 X
  replace hx0 : (W1.drewN nq).cell? ⟨b, o, none⟩ = _ := hx0
  replace hx1 : (W1.drewN nq).cell? ⟨b, o + 1, none⟩ = _ := hx1
  replace hx2 : (W1.drewN nq).cell? ⟨b, o + 2, none⟩ = _ := hx2
  replace hx3 : (W1.drewN nq).cell? ⟨b, o + 3, none⟩ = _ := hx3
  replace hy0 : (W1.drewN nq).cell? ⟨b, o + 4, none⟩ = _ := hy0
  replace hy1 : (W1.drewN nq).cell? ⟨b, o + 4 + 1, none⟩ = _ := hy1
  replace hy2 : (W1.drewN nq).cell? ⟨b, o + 4 + 2, none⟩ = _ := hy2
  replace hy3 : (W1.drewN nq).cell? ⟨b, o + 4 + 3, none⟩ = _ := hy3
  replace hbl' : b < (W1.drewN nq).heap.size := hbl'
  generalize W1.drewN nq = W2 at X2 hx0 hx1 hx2 hx3 hy0 hy1 hy2 hy3 hbl' ⊢
  have hg1 : g < W2.heap.size := blk_lt X2.out.1
  have hg3 : g2 < W2.heap.size := blk_lt X2.out.2.2.2.2.1
  have hz0 : W2.cell? ⟨g, 0, none⟩ = some (.int .i64 N) := (blk_cell X2.out.1 0).trans rfl
  have hq_0 : W2.cell? ⟨g2, 0, none⟩ = some (.int .i64 0) := (blk_cell X2.out.2.2.2.2.1 0).trans rfl
  have hq_1 : W2.cell? ⟨g2, 1, none⟩ = some (.int .i64 0) := (blk_cell X2.out.2.2.2.2.1 1).trans rfl
  have hf_0 := blk_frozen X2.out.2.2.2.2.1 0
  have hf_1 := blk_frozen X2.out.2.2.2.2.1 1
  go_wp2
  refine wp_loop_rounds 1 ?_
  rw [rounds_succ]
  go_wp2
  go_quiet (fail)
  go_wp2
  have Y := fun (o : Obj) (n : Nat) => RdX.out (((X2.out.alloc o).drewN n).put (.int .i64 24) (.int .i64 (rd_T50 ls 0).f1))
  have Y1 := fun (o : Obj) (n : Nat) => (Y o n).2.1
  have Y2 := fun (o : Obj) (n : Nat) => (Y o n).2.2
  refine bodyPost_ret (v := .agg #[.int .i64 24, .int .i64 (rd_T50 ls 0).f1]) (by simp [results, Try.results13, go_sem, Y1, Y2]) rfl ⟨rfl, _, (Y _ _).1⟩
end Go.Proofs.Ytjgaicdieddekaa.PParA
