import Derived.Test.YtjgaicdieddekaaZXLineD
set_option linter.unusedVariables false
set_option linter.unusedSimpArgs false
namespace Go.Proofs.Ytjgaicdieddekaa.PParA
open Go.RowKit Go.Proofs.YtjgaicdieddekaaW.PrintWords Go.Proofs.YtjgaicdieddekaaW.PrintLast Go.Proofs.YtjgaicdieddekaaW.PrintMore Go.Proofs.YtjgaicdieddekaaX
variable {T : Nat × Array Value}
set_option maxHeartbeats 4000000 in
set_option maxRecDepth 100000 in
theorem line_put {w W : World} {g : Nat} {N : Int} {m : Int} {u : Value} {ps : List S40} {A : Option Addr} {c : Nat} {ls : List S50} (h : Rd T w W g N true m u ps (.slice A ls.length c) ls) (h0 : 0 < ls.length) (hge0 : w.heap.size ≤ g) (hs : ls.length ≤ 33554433) (hps : ps.length < 8796093022208) (hl : ls.length = 2) (h1 : ¬ m ≤ (ps.length : Int)) (h2 : ¬ (rd_T50 ls 0).f3 ≥ N) (h3 : ¬ (rd_T50 ls 1).f3 ≥ N) :
    Calls Try.prog 13 #[.pointer (some ⟨g, 0, none⟩), .slice A ls.length c] W (LineP T w g N true m (ps ++ [⟨(rd_T50 ls 0).f3, (rd_T50 ls 1).f3⟩]) (.slice A ls.length c) ls 0 0) := by
  obtain ⟨Au, cu, rfl⟩ := Kd.R_slice h.2.1
  obtain ⟨b, o, rfl, hbl, htok⟩ := tok_cells h.2.2.1 h0
  obtain ⟨hx0, hx1, hx2, hx3⟩ := htok 0 h0
  rw [show ((0 : Nat) : Int) = 0 from rfl, Nat.zero_mul, Nat.add_zero] at hx0 hx1 hx2 hx3
  obtain ⟨hy0, hy1, hy2, hy3⟩ := htok 1 (by omega)
  rw [show ((1 : Nat) : Int) = 1 from rfl, Nat.one_mul] at hy0 hy1 hy2 hy3
  have hz2 : W.cell? ⟨g, 2, none⟩ = some (.bool true) := (blk_cell h.1 2).trans rfl
  have hz0 : W.cell? ⟨g, 0, none⟩ = some (.int .i64 N) := (blk_cell h.1 0).trans rfl
  have hz1 : W.cell? ⟨g, 1, none⟩ = some (.slice Au ps.length cu) := (blk_cell h.1 1).trans rfl
  have hz3 : W.cell? ⟨g, 3, none⟩ = some (.int .i64 m) := (blk_cell h.1 3).trans rfl
  have hlt := blk_lt h.1
  have hq0 : decide (0 < ls.length) = true := decide_eq_true h0
  have hc1 : ((ls.length : Int) == 2) = true := by rw [beq_iff_eq]; omega
  have hc2 : ((ls.length : Int) != 2) = false := by rw [bne_eq_false_iff_eq]; omega
  have hq1 : decide (1 < ls.length) = true := decide_eq_true (by omega)
  have hq2 : decide ((1 : Int) < (ls.length : Int)) = true := decide_eq_true (by omega)
  have hge : 2 ≤ ls.length := by omega
  have hle : ls.length ≤ 2 := by omega
  have hq4 : ((1 : Int) < (ls.length : Int)) = True := eq_true (by omega)
  have hd1 : decide (m ≤ (ps.length : Int)) = false := decide_eq_false h1
  have hd2 : decide (N ≤ (rd_T50 ls 0).f3) = false := decide_eq_false h2
  have hd3 : decide (N ≤ (rd_T50 ls 1).f3) = false := decide_eq_false h3
  have hbg : b ≠ g := fun e_ => (h.2.2.1.1 b (by simp [Value.ownBlock])).1 e_
  have H := Aside0.mk h
  have BG := Aside0.mk hbg
  clear h htok hl h1 h2 h3 hbg
  go_enter Try.func13, Try.ntmps13
  go_wp2
  have X := Aside0.mk (RdX.of H.out (.int .i64 0) (.int .i64 0))
  have hx0 := (World.cell?_alloc_lt W (Obj.cells #[Value.int IntKind.i64 0, Value.int IntKind.i64 0] 29) ⟨b, o, none⟩ hbl).trans hx0
  have hx1 := (World.cell?_alloc_lt W (Obj.cells #[Value.int IntKind.i64 0, Value.int IntKind.i64 0] 29) ⟨b, o + 1, none⟩ hbl).trans hx1
  have hx2 := (World.cell?_alloc_lt W (Obj.cells #[Value.int IntKind.i64 0, Value.int IntKind.i64 0] 29) ⟨b, o + 2, none⟩ hbl).trans hx2
  have hx3 := (World.cell?_alloc_lt W (Obj.cells #[Value.int IntKind.i64 0, Value.int IntKind.i64 0] 29) ⟨b, o + 3, none⟩ hbl).trans hx3
  have hy0 := (World.cell?_alloc_lt W (Obj.cells #[Value.int IntKind.i64 0, Value.int IntKind.i64 0] 29) ⟨b, o + 4, none⟩ hbl).trans hy0
  have hy1 := (World.cell?_alloc_lt W (Obj.cells #[Value.int IntKind.i64 0, Value.int IntKind.i64 0] 29) ⟨b, o + 4 + 1, none⟩ hbl).trans hy1
  have hy2 := (World.cell?_alloc_lt W (Obj.cells #[Value.int IntKind.i64 0, Value.int IntKind.i64 0] 29) ⟨b, o + 4 + 2, none⟩ hbl).trans hy2
  have hy3 := (World.cell?_alloc_lt W (Obj.cells #[Value.int IntKind.i64 0, Value.int IntKind.i64 0] 29) ⟨b, o + 4 + 3, none⟩ hbl).trans hy3
  clear H
  have hbl' : b < (W.alloc (Obj.cells #[Value.int IntKind.i64 0, Value.int IntKind.i64 0] 29)).heap.size := by simp [go_sem]; omega
  obtain ⟨g2, hg2⟩ : ∃ g2, W.heap.size = g2 := ⟨_, rfl⟩
  rw [hg2] at X ⊢
  clear hz0 hz1 hz2 hz3 hg2 hlt hbl
  generalize W.alloc (Obj.cells #[Value.int IntKind.i64 0, Value.int IntKind.i64 0] 29) = W1 at X hx0 hx1 hx2 hx3 hy0 hy1 hy2 hy3 hbl' ⊢
  have hg1 : g < W1.heap.size := blk_lt X.out.1
  have hg3 : g2 < W1.heap.size := blk_lt X.out.2.2.2.2.1
  have hz0 : W1.cell? ⟨g, 0, none⟩ = some (.int .i64 N) := (blk_cell X.out.1 0).trans rfl
  have hz1 : W1.cell? ⟨g, 1, none⟩ = some (.slice Au ps.length cu) := (blk_cell X.out.1 1).trans rfl
  have hz2 : W1.cell? ⟨g, 2, none⟩ = some (.bool true) := (blk_cell X.out.1 2).trans rfl
  have hz3 : W1.cell? ⟨g, 3, none⟩ = some (.int .i64 m) := (blk_cell X.out.1 3).trans rfl
  have hq_0 : W1.cell? ⟨g2, 0, none⟩ = some (.int .i64 0) := (blk_cell X.out.2.2.2.2.1 0).trans rfl
  have hq_1 : W1.cell? ⟨g2, 1, none⟩ = some (.int .i64 0) := (blk_cell X.out.2.2.2.2.1 1).trans rfl
  have hf_0 := blk_frozen X.out.2.2.2.2.1 0
  have hf_1 := blk_frozen X.out.2.2.2.2.1 1
  go_quiet (fail)
  have X2 := Aside0.mk (X.out.drewN nq)
  clear hz0 hz1 hz2 hz3 hq_0 hq_1 hf_0 hf_1 hg1 hg3 X
  replace hx0 : (W1.drewN nq).cell? ⟨b, o, none⟩ = _ := hx0
  replace hx1 : (W1.drewN nq).cell? ⟨b, o + 1, none⟩ = _ := hx1
  replace hx2 : (W1.drewN nq).cell? ⟨b, o + 2, none⟩ = _ := hx2
  replace hx3 : (W1.drewN nq).cell? ⟨b, o + 3, none⟩ = _ := hx3
  replace hy0 : (W1.drewN nq).cell? ⟨b, o + 4, none⟩ = _ := hy0
  replace hy1 : (W1.drewN nq).cell? ⟨b, o + 4 + 1, none⟩ = _ := hy1
  replace hy2 : (W1.drewN nq).cell? ⟨b, o + 4 + 2, none⟩ = _ := hy2
  replace hy3 : (W1.drewN nq).cell? ⟨b, o + 4 + 3, none⟩ = _ := hy3
  replace hbl' : b < (W1.drewN nq).heap.size := hbl'
  generalize W1.drewN nq = W2 at X2 hx0 hx1 hx2 hx3 hy0 hy1 hy2 hy3 hbl' ⊢
  have hg1 : g < W2.heap.size := blk_lt X2.out.1
  have hg3 : g2 < W2.heap.size := blk_lt X2.out.2.2.2.2.1
  have hz0 : W2.cell? ⟨g, 0, none⟩ = some (.int .i64 N) := (blk_cell X2.out.1 0).trans rfl
  have hq_0 : W2.cell? ⟨g2, 0, none⟩ = some (.int .i64 0) := (blk_cell X2.out.2.2.2.2.1 0).trans rfl
  have hq_1 : W2.cell? ⟨g2, 1, none⟩ = some (.int .i64 0) := (blk_cell X2.out.2.2.2.2.1 1).trans rfl
  have hf_0 := blk_frozen X2.out.2.2.2.2.1 0
  have hf_1 := blk_frozen X2.out.2.2.2.2.1 1
  go_wp2
  refine wp_loop_rounds 3 ?_
  rw [rounds_succ]
  go_wp2
  go_quiet (fail)
  have X3 := Aside0.mk ((X2.out.alloc (Obj.cells #[.int .i64 (rd_T50 ls 0).f0, .int .i64 (rd_T50 ls 0).f1, .int .i64 (rd_T50 ls 0).f2, .int .i64 (rd_T50 ls 0).f3] 50)).drewN nq)
  clear hz0 hq_0 hq_1 hf_0 hf_1 hg1 hg3
  replace hx0 : ((W2.alloc (Obj.cells #[.int .i64 (rd_T50 ls 0).f0, .int .i64 (rd_T50 ls 0).f1, .int .i64 (rd_T50 ls 0).f2, .int .i64 (rd_T50 ls 0).f3] 50)).drewN nq).cell? ⟨b, o, none⟩ = _ := (World.cell?_alloc_lt W2 (Obj.cells #[.int .i64 (rd_T50 ls 0).f0, .int .i64 (rd_T50 ls 0).f1, .int .i64 (rd_T50 ls 0).f2, .int .i64 (rd_T50 ls 0).f3] 50) ⟨b, o, none⟩ hbl').trans hx0
  replace hx1 : ((W2.alloc (Obj.cells #[.int .i64 (rd_T50 ls 0).f0, .int .i64 (rd_T50 ls 0).f1, .int .i64 (rd_T50 ls 0).f2, .int .i64 (rd_T50 ls 0).f3] 50)).drewN nq).cell? ⟨b, o + 1, none⟩ = _ := (World.cell?_alloc_lt W2 (Obj.cells #[.int .i64 (rd_T50 ls 0).f0, .int .i64 (rd_T50 ls 0).f1, .int .i64 (rd_T50 ls 0).f2, .int .i64 (rd_T50 ls 0).f3] 50) ⟨b, o + 1, none⟩ hbl').trans hx1
  replace hx2 : ((W2.alloc (Obj.cells #[.int .i64 (rd_T50 ls 0).f0, .int .i64 (rd_T50 ls 0).f1, .int .i64 (rd_T50 ls 0).f2, .int .i64 (rd_T50 ls 0).f3] 50)).drewN nq).cell? ⟨b, o + 2, none⟩ = _ := (World.cell?_alloc_lt W2 (Obj.cells #[.int .i64 (rd_T50 ls 0).f0, .int .i64 (rd_T50 ls 0).f1, .int .i64 (rd_T50 ls 0).f2, .int .i64 (rd_T50 ls 0).f3] 50) ⟨b, o + 2, none⟩ hbl').trans hx2
  replace hx3 : ((W2.alloc (Obj.cells #[.int .i64 (rd_T50 ls 0).f0, .int .i64 (rd_T50 ls 0).f1, .int .i64 (rd_T50 ls 0).f2, .int .i64 (rd_T50 ls 0).f3] 50)).drewN nq).cell? ⟨b, o + 3, none⟩ = _ := (World.cell?_alloc_lt W2 (Obj.cells #[.int .i64 (rd_T50 ls 0).f0, .int .i64 (rd_T50 ls 0).f1, .int .i64 (rd_T50 ls 0).f2, .int .i64 (rd_T50 ls 0).f3] 50) ⟨b, o + 3, none⟩ hbl').trans hx3
  replace hy0 : ((W2.alloc (Obj.cells #[.int .i64 (rd_T50 ls 0).f0, .int .i64 (rd_T50 ls 0).f1, .int .i64 (rd_T50 ls 0).f2, .int .i64 (rd_T50 ls 0).f3] 50)).drewN nq).cell? ⟨b, o + 4, none⟩ = _ := (World.cell?_alloc_lt W2 (Obj.cells #[.int .i64 (rd_T50 ls 0).f0, .int .i64 (rd_T50 ls 0).f1, .int .i64 (rd_T50 ls 0).f2, .int .i64 (rd_T50 ls 0).f3] 50) ⟨b, o + 4, none⟩ hbl').trans hy0
  replace hy1 : ((W2.alloc (Obj.cells #[.int .i64 (rd_T50 ls 0).f0, .int .i64 (rd_T50 ls 0).f1, .int .i64 (rd_T50 ls 0).f2, .int .i64 (rd_T50 ls 0).f3] 50)).drewN nq).cell? ⟨b, o + 4 + 1, none⟩ = _ := (World.cell?_alloc_lt W2 (Obj.cells #[.int .i64 (rd_T50 ls 0).f0, .int .i64 (rd_T50 ls 0).f1, .int .i64 (rd_T50 ls 0).f2, .int .i64 (rd_T50 ls 0).f3] 50) ⟨b, o + 4 + 1, none⟩ hbl').trans hy1
  replace hy2 : ((W2.alloc (Obj.cells #[.int .i64 (rd_T50 ls 0).f0, .int .i64 (rd_T50 ls 0).f1, .int .i64 (rd_T50 ls 0).f2, .int .i64 (rd_T50 ls 0).f3] 50)).drewN nq).cell? ⟨b, o + 4 + 2, none⟩ = _ := (World.cell?_alloc_lt W2 (Obj.cells #[.int .i64 (rd_T50 ls 0).f0, .int .i64 (rd_T50 ls 0).f1, .int .i64 (rd_T50 ls 0).f2, .int .i64 (rd_T50 ls 0).f3] 50) ⟨b, o + 4 + 2, none⟩ hbl').trans hy2
  replace hy3 : ((W2.alloc (Obj.cells #[.int .i64 (rd_T50 ls 0).f0, .int .i64 (rd_T50 ls 0).f1, .int .i64 (rd_T50 ls 0).f2, .int .i64 (rd_T50 ls 0).f3] 50)).drewN nq).cell? ⟨b, o + 4 + 3, none⟩ = _ := (World.cell?_alloc_lt W2 (Obj.cells #[.int .i64 (rd_T50 ls 0).f0, .int .i64 (rd_T50 ls 0).f1, .int .i64 (rd_T50 ls 0).f2, .int .i64 (rd_T50 ls 0).f3] 50) ⟨b, o + 4 + 3, none⟩ hbl').trans hy3
  replace hbl' : b < ((W2.alloc (Obj.cells #[.int .i64 (rd_T50 ls 0).f0, .int .i64 (rd_T50 ls 0).f1, .int .i64 (rd_T50 ls 0).f2, .int .i64 (rd_T50 ls 0).f3] 50)).drewN nq).heap.size := Nat.lt_of_lt_of_le hbl' (below_alloc (Below.refl _ W2) (Obj.cells #[.int .i64 (rd_T50 ls 0).f0, .int .i64 (rd_T50 ls 0).f1, .int .i64 (rd_T50 ls 0).f2, .int .i64 (rd_T50 ls 0).f3] 50)).size
  generalize (W2.alloc (Obj.cells #[.int .i64 (rd_T50 ls 0).f0, .int .i64 (rd_T50 ls 0).f1, .int .i64 (rd_T50 ls 0).f2, .int .i64 (rd_T50 ls 0).f3] 50)).drewN nq = W3 at X3 hx0 hx1 hx2 hx3 hy0 hy1 hy2 hy3 hbl' ⊢
  have hg1 : g < W3.heap.size := blk_lt X3.out.1
  have hg3 : g2 < W3.heap.size := blk_lt X3.out.2.2.2.2.1
  have hz0 : W3.cell? ⟨g, 0, none⟩ = some (.int .i64 N) := (blk_cell X3.out.1 0).trans rfl
  have hq_0 : W3.cell? ⟨g2, 0, none⟩ = some (.int .i64 0) := (blk_cell X3.out.2.2.2.2.1 0).trans rfl
  have hq_1 : W3.cell? ⟨g2, 1, none⟩ = some (.int .i64 0) := (blk_cell X3.out.2.2.2.2.1 1).trans rfl
  have hf_0 := blk_frozen X3.out.2.2.2.2.1 0
  have hf_1 := blk_frozen X3.out.2.2.2.2.1 1
  go_wp2
  rw [rounds_succ]
  go_wp2
  go_quiet (fail)
  have X4 := Aside0.mk ((X3.out.alloc (Obj.cells #[.int .i64 (rd_T50 ls 1).f0, .int .i64 (rd_T50 ls 1).f1, .int .i64 (rd_T50 ls 1).f2, .int .i64 (rd_T50 ls 1).f3] 50)).drewN nq)
  clear hz0 hq_0 hq_1 hf_0 hf_1 hg1 hg3
  replace hx3 : ((W3.alloc (Obj.cells #[.int .i64 (rd_T50 ls 1).f0, .int .i64 (rd_T50 ls 1).f1, .int .i64 (rd_T50 ls 1).f2, .int .i64 (rd_T50 ls 1).f3] 50)).drewN nq).cell? ⟨b, o + 3, none⟩ = _ := (World.cell?_alloc_lt W3 (Obj.cells #[.int .i64 (rd_T50 ls 1).f0, .int .i64 (rd_T50 ls 1).f1, .int .i64 (rd_T50 ls 1).f2, .int .i64 (rd_T50 ls 1).f3] 50) ⟨b, o + 3, none⟩ hbl').trans hx3
  replace hy3 : ((W3.alloc (Obj.cells #[.int .i64 (rd_T50 ls 1).f0, .int .i64 (rd_T50 ls 1).f1, .int .i64 (rd_T50 ls 1).f2, .int .i64 (rd_T50 ls 1).f3] 50)).drewN nq).cell? ⟨b, o + 4 + 3, none⟩ = _ := (World.cell?_alloc_lt W3 (Obj.cells #[.int .i64 (rd_T50 ls 1).f0, .int .i64 (rd_T50 ls 1).f1, .int .i64 (rd_T50 ls 1).f2, .int .i64 (rd_T50 ls 1).f3] 50) ⟨b, o + 4 + 3, none⟩ hbl').trans hy3
  replace hbl' : b < ((W3.alloc (Obj.cells #[.int .i64 (rd_T50 ls 1).f0, .int .i64 (rd_T50 ls 1).f1, .int .i64 (rd_T50 ls 1).f2, .int .i64 (rd_T50 ls 1).f3] 50)).drewN nq).heap.size := Nat.lt_of_lt_of_le hbl' (below_alloc (Below.refl _ W3) (Obj.cells #[.int .i64 (rd_T50 ls 1).f0, .int .i64 (rd_T50 ls 1).f1, .int .i64 (rd_T50 ls 1).f2, .int .i64 (rd_T50 ls 1).f3] 50)).size
  clear hx0 hx1 hx2 hy0 hy1 hy2
  generalize (W3.alloc (Obj.cells #[.int .i64 (rd_T50 ls 1).f0, .int .i64 (rd_T50 ls 1).f1, .int .i64 (rd_T50 ls 1).f2, .int .i64 (rd_T50 ls 1).f3] 50)).drewN nq = W4 at X4 hx3 hy3 hbl' ⊢
  go_wp2
  rw [rounds_succ]
  go_wp2
  have N12 : Aside0 (g ≠ g2) := ⟨X4.out.2.2.2.2.2.1⟩
  have N21 : Aside0 (g2 ≠ g) := ⟨fun e_ => X4.out.2.2.2.2.2.1 e_.symm⟩
  have GE2 : Aside0 (w.heap.size ≤ g2) := ⟨X4.out.2.2.2.2.2.2.1⟩
  have NTG : Aside0 (T.1 ≠ g) := ⟨X4.out.2.2.2.2.2.2.2.2.1⟩
  have NT2 : Aside0 (T.1 ≠ g2) := ⟨X4.out.2.2.2.2.2.2.2.2.2⟩
  have GE1 := Aside0.mk hge0
  have LM := Aside0.mk hps
  have HX := Aside0.mk hx3
  have HY := Aside0.mk hy3
  have HBL := Aside0.mk hbl'
  have B1 := bd (Aside0.mk X4.out.1)
  have Q1 := rd (Aside0.mk X4.out.2.1)
  have Q2 := rd (Aside0.mk X4.out.2.2.1)
  have HB := Aside0.mk (below_drew1 X4.out.2.2.2.1)
  have B2 := bd (Aside0.mk X4.out.2.2.2.2.1)
  have BT := bd (Aside0.mk X4.out.2.2.2.2.2.2.2.1)
  clear X4 hge0 hps hx3 hy3 hbl' X2 X3
  obtain ⟨ys, hys⟩ : ∃ y_ : List S40, y_ = (ps ++ [(⟨(rd_T50 ls 0).f3, (rd_T50 ls 1).f3⟩ : S40)]) := ⟨_, rfl⟩
  have NY := Aside0.mk hys
  clear hys
  refine start_ (n := 21) (S := fun w' => w'.cell? ⟨g, 1, none⟩ = some (.slice Au ps.length cu) ∧ w'.cell? ⟨b, o + 3, none⟩ = some (.int .i64 (rd_T50 ls 0).f3) ∧ w'.cell? ⟨b, o + 4 + 3, none⟩ = some (.int .i64 (rd_T50 ls 1).f3)) (ds := [16, 20]) (pf 0 21) (by kernel_rfl) rfl rfl ⟨bc B1 1, HX.out, HY.out⟩ (fun hHeld => ?_)
  refine with_tabW line_tab20 line_bits20 (fun HT_ HW_ => ?_)
  replace HBL : Aside0 (b < W4.drew.heap.size) := ⟨HBL.out⟩
  generalize W4.drew = w50 at B1 B2 BT Q1 Q2 HB HBL hHeld ⊢
  clear HX HY
  refine pu_ 0 (some 106) #[T_,F_,F_,F_,F_,F_,F_,F_,F_,F_,F_,F_,F_,F_,F_,F_,F_,F_,F_,F_,F_] HT_ ?_
  refine pu_ 1 (some 107) #[T_,T_,F_,F_,F_,F_,F_,F_,F_,F_,F_,F_,F_,F_,F_,F_,F_,F_,F_,F_,F_] HT_ ?_
  refine pu_ 2 (some 108) #[T_,T_,T_,F_,F_,F_,F_,F_,F_,F_,F_,F_,F_,F_,F_,F_,F_,F_,F_,F_,F_] HT_ ?_
  refine pu_ 3 (some 109) #[T_,T_,T_,T_,F_,F_,F_,F_,F_,F_,F_,F_,F_,F_,F_,F_,F_,F_,F_,F_,F_] HT_ ?_
  refine pu_ 4 (some 110) #[T_,T_,T_,T_,T_,F_,F_,F_,F_,F_,F_,F_,F_,F_,F_,F_,F_,F_,F_,F_,F_] HT_ ?_
  refine pu_ 6 (some 112) #[T_,T_,T_,T_,T_,F_,T_,F_,F_,F_,F_,F_,F_,F_,F_,F_,F_,F_,F_,F_,F_] HT_ ?_
  refine pu_ 7 (some 113) #[T_,T_,T_,T_,T_,F_,T_,T_,F_,F_,F_,F_,F_,F_,F_,F_,F_,F_,F_,F_,F_] HT_ ?_
  refine pu_ 8 (some 114) #[T_,T_,T_,T_,T_,F_,T_,T_,T_,F_,F_,F_,F_,F_,F_,F_,F_,F_,F_,F_,F_] HT_ ?_
  refine pu_ 10 (some 116) #[T_,T_,T_,T_,T_,F_,T_,T_,T_,F_,T_,F_,F_,F_,F_,F_,F_,F_,F_,F_,F_] HT_ ?_
  refine pu_ 11 (some 117) #[T_,T_,T_,T_,T_,F_,T_,T_,T_,F_,T_,T_,F_,F_,F_,F_,F_,F_,F_,F_,F_] HT_ ?_
  refine pu_ 12 (some 118) #[T_,T_,T_,T_,T_,F_,T_,T_,T_,F_,T_,T_,T_,F_,F_,F_,F_,F_,F_,F_,F_] HT_ ?_
  refine tk3_ 5 (some 111) #[T_,T_,T_,T_,T_,T_,T_,T_,T_,F_,T_,T_,T_,F_,F_,F_,F_,F_,F_,F_,F_] HT_ HW_ hHeld ?_
  refine tk3_ 9 (some 115) #[T_,T_,T_,T_,T_,T_,T_,T_,T_,T_,T_,T_,T_,F_,F_,F_,F_,F_,F_,F_,F_] HT_ HW_ hHeld ?_
  refine tk3_ 13 (some 119) #[T_,T_,T_,T_,T_,T_,T_,T_,T_,T_,T_,T_,T_,T_,F_,F_,F_,F_,F_,F_,F_] HT_ HW_ hHeld ?_
  refine pu_ 14 (some 120) (pf 15 21) HT_ ?_
  refine on_ 15 (some 121) (pf 16 21) HT_ (fun K hK => ?_)
  refine value_ (w1 := ?_) (v := ?_) (by rfl) rfl ?_ ?_
  rotate_left 2
  · go_simp
    constructor
    · rfl
    · rfl
  refine hK.out _ _ ⟨(blk_cell (blk_alloc B1.out _) 1).trans rfl, (World.cell?_alloc_lt _ _ _ HBL.out).trans hHeld.2.1, (World.cell?_alloc_lt _ _ _ HBL.out).trans hHeld.2.2⟩ (fun hHeld => ?_)
  clear hK K
  refine nm_ (some 121) ?_
  refine last_ (i := 16) (N := some 122) (pf 17 21) rfl rfl (one_of HT_.out (by kernel_rfl)) (by decide) (fun K hK => ?_)
  refine Kd.R_append_step k40 (w0 := w) w.heap.size (by rfl) (.tmp 111) (.tmp 121) 24 40 (.agg #[(.int .i64 0), (.int .i64 0)]) 16 rfl Try.underlying24 info40 rfl (by decide) (by omega) (.slice Au ps.length cu) ps (⟨(rd_T50 ls 0).f3, (rd_T50 ls 1).f3⟩ : S40) [.int .i64 ((rd_T50 ls 0).f3), .int .i64 ((rd_T50 ls 1).f3)] (fun k_ => (k_ ≠ g ∧ some k_ ≠ (Value.slice (some ⟨b, o, none⟩) ls.length c).ownBlock) ∧ k_ ≠ g2) (fun _ => False) rfl rfl ?aP (fun _ hk => hk.elim) ?aF ?aO ?aB ?aS ?aL ?_
  case aP => exact k40_mkM _ _ _ (⟨(rd_T50 ls 0).f3, (rd_T50 ls 1).f3⟩ : S40)
  case aB => exact hb0 HB
  case aF =>
    intro k_ hk_
    refine ⟨⟨?_, ?_⟩, ?_⟩
    · intro e_
      subst e_
      exact absurd hk_ (Nat.not_le_of_lt (blk_lt (bx B1)))
    · intro e_
      have e3 : k_ = b := by simpa [Value.ownBlock] using e_
      have hw := fun (w' : World) [i : Wb [] w50 w'] => Nat.lt_of_lt_of_le HBL.out i.size
      exact absurd hk_ (Nat.not_le_of_lt (by rw [e3]; exact hw _))
    · intro e_
      subst e_
      exact absurd hk_ (Nat.not_le_of_lt (blk_lt (bx B2)))
  case aO => exact rx Q1
  case aS => exact below_size (hb0 HB)
  case aL => have := LM.out; omega
  intro v9 w9 ho hb hg hat
  rw [← NY.out] at ho
  have B3 := Aside0.mk (blk_grown (bx B1) hg (Kd.R_ne Q1.out B1.out (by decide)))
  have B4 := Aside0.mk (blk_grown (bx B2) hg (Kd.R_ne Q1.out B2.out (by decide)))
  have BU := Aside0.mk (blk_grown (bx BT) hg (Kd.R_ne Q1.out BT.out (by decide)))
  have Q3 := Aside0.mk (Kd.R_apartR (Kd.R_over' (rx Q2) (Kd.R_typed (rx Q1)) (by decide) hg) ho (by decide))
  have Q4 := Aside0.mk ho
  have HB4 := Aside0.mk hb
  clear ho hb hg hat B1 B2 BT Q1 Q2 HB HBL
  obtain ⟨An, cn, en⟩ := Kd.R_slice Q4.out
  subst en
  refine hK.out _ _ ?_
  clear hK K
  refine nm_ (some 122) ?_
  refine pu_ 17 (some 123) (pf 18 21) HT_ ?_
  refine pu_ 18 (some 124) (pf 19 21) HT_ ?_
  refine pu_ 19 (some 125) (pf 20 21) HT_ ?_
  refine last_ (i := 20) (N := none) (pf 21 21) rfl rfl (one_of HT_.out (by kernel_rfl)) (by decide) (fun K hK => ?_)
  have hs1 : w9.cell? ⟨g, 1, none⟩ = some (.slice Au ps.length cu) := bc B3 1
  have hfs1 := blk_frozen B3.out 1
  refine skip_ (w1 := ?_) (by rfl) rfl ?_ ?_
  rotate_left
  · go_simp
    rfl
  refine hK.out _ _ ?_
  clear hK K
  refine done_ (done_of HT_.out (by kernel_rfl)) ?_
  have C1 := blk_put (u := .slice An ys.length cn) B3.out 1 rfl
  have C2 := blk_far (p := ⟨g, 1, none⟩) B4.out N21.out (.slice An ys.length cn)
  have C3 := Aside0.mk (Kd.R_far (p := ⟨g, 1, none⟩) Q4.out (fun _ hk => hk.1.1) (.slice An ys.length cn))
  have C4 := Aside0.mk (Kd.R_far (p := ⟨g, 1, none⟩) Q3.out (fun _ hk => hk.1.1.1) (.slice An ys.length cn))
  have C6 := Aside0.mk (blk_far (p := ⟨g, 1, none⟩) BU.out NTG.out (.slice An ys.length cn))
  have C5 : Aside0 (Below w.heap.size w (w9.setCell ⟨g, 1, none⟩ (.slice An ys.length cn))) := ⟨below_set HB4.out GE1.out⟩
  clear hs1 hfs1 hHeld HT_ HW_ B3 B4 BU Q3 Q4 HB4
  generalize w9.setCell ⟨g, 1, none⟩ (.slice An ys.length cn) = wz at C1 C2 C3 C4 C5 C6 ⊢
  have z0 : wz.cell? ⟨g2, 0, none⟩ = some (.int .i64 0) := (blk_cell C2 0).trans rfl
  have z1 : wz.cell? ⟨g2, 1, none⟩ = some (.int .i64 0) := (blk_cell C2 1).trans rfl
  have zf0 := blk_frozen C2 0
  have zf1 := blk_frozen C2 1
  have CC := Aside0.mk C1
  have CD := Aside0.mk C2
  clear C1 C2
  go_wp2
  have F2 := blk_put (u := .int .i64 0) (blk_put (u := .int .i64 0) CD.out 0 rfl) 1 rfl
  have y0 := (blk_cell F2 0).trans rfl
  have y1 := (blk_cell F2 1).trans rfl
  rw [← NY.out]
  refine bodyPost_ret (v := .agg #[.int .i64 0, .int .i64 0]) (by simp [results, Try.results13, go_sem, y0, y1]) rfl ⟨rfl, _, blk_far (blk_far CC.out N12.out _) N12.out _, ?_, ?_, ?_, blk_far (blk_far C6.out NT2.out _) NT2.out _, NTG.out⟩
  · exact Kd.R_mono (Kd.R_far (p := ⟨g2, 1, none⟩) (Kd.R_far (p := ⟨g2, 0, none⟩) C3.out (fun _ hk => hk.2) (.int .i64 0)) (fun _ hk => hk.2) (.int .i64 0)) (fun _ hk => hk.1)
  · exact Kd.R_mono (Kd.R_far (p := ⟨g2, 1, none⟩) (Kd.R_far (p := ⟨g2, 0, none⟩) C4.out (fun _ hk => hk.1.2) (.int .i64 0)) (fun _ hk => hk.1.2) (.int .i64 0)) (fun _ hk => ⟨hk.1.1.1, hk.2⟩)
  · exact below_set (below_set C5.out GE2.out) GE2.out
end Go.Proofs.Ytjgaicdieddekaa.PParA
