import Derived.Test.YtjgaicdieddekaaZXRaw
set_option linter.unusedVariables false
set_option linter.unusedSimpArgs false
namespace Go.Proofs.Ytjgaicdieddekaa.PParA
open Go.RowKit Go.Proofs.YtjgaicdieddekaaW.PrintWords Go.Proofs.YtjgaicdieddekaaW.PrintLast Go.Proofs.YtjgaicdieddekaaW.PrintMore Go.Proofs.YtjgaicdieddekaaX
set_option maxHeartbeats 4000000 in
set_option maxRecDepth 100000 in
theorem raw_long {w : World} {A : Option Addr} {c : Nat} {l : List Int} (hC : Kd.C (Kd.int .u8) w A l.length l) (hl : l.length ≤ 140737488355328) (h : 16777216 < l.length) :
    Calls Try.prog 7 #[.slice A l.length c] w fun e w' => RawP w w' e (0, [], 10, 16777216) := by
  have h1 : decide (16777216 < l.length) = true := decide_eq_true h
  have h2 : decide ((16777216 : Int) < (l.length : Int)) = true := decide_eq_true (by omega)
  clear hC
  go_enter Try.func7, Try.ntmps7
  go_wp2
  go_step3
  go_wp2
  try rw [Exit.noGoto_ret]
  show bodyPost Try.prog Try.f7 (fun e w' => RawP w w' e (0, [], 10, 16777216)) Exit.ret _ _
  refine bodyPost_ret (v := .tuple #[.agg #[.int .i64 0, .slice none 0 0], .agg #[.int .i64 10, .int .i64 16777216]]) (by simp [results, Try.results7, go_sem]) rfl ⟨.slice none 0 0, rfl, Kd.R_nil _ _ _ _ _, below_alloc (below_alloc (Below.refl _ _) _) _⟩
set_option maxHeartbeats 4000000 in
set_option maxRecDepth 100000 in
theorem raw_err {w : World} {A : Option Addr} {c : Nat} {l : List Int} (hC : Kd.C (Kd.int .u8) w A l.length l) (hl : l.length ≤ 140737488355328) (h : ¬ 16777216 < l.length) (a b : Int) (hs : scanF l = .error (a, b)) (hb : b ≠ 0) :
    Calls Try.prog 7 #[.slice A l.length c] w fun e w' => RawP w w' e (0, [], b, a) := by
  have h1 : decide (16777216 < l.length) = false := decide_eq_false h
  have h2 : decide ((16777216 : Int) < (l.length : Int)) = false := decide_eq_false (by omega)
  have h3 : (b == 0) = false := beq_eq_false_iff_ne.mpr hb
  have h4 : (b != 0) = true := bne_iff_ne.mpr hb
  have HC := Aside0.mk hC
  have HS := Aside0.mk hs
  have HL := Aside0.mk hl
  clear hC hs hl h hb
  go_enter Try.func7, Try.ntmps7
  go_wp2
  go_step3
  go_upto_region 3 with fail
  obtain ⟨g1, hg1⟩ : ∃ g, w.heap.size = g := ⟨_, rfl⟩
  have A1 := below_alloc (Below.refl w.heap.size w) (Obj.cells #[Value.int IntKind.i64 0, Value.slice none 0 0] 26)
  have B1 := blk_new w (Obj.cells #[Value.int IntKind.i64 0, Value.slice none 0 0] 26)
  have S1 : (w.alloc (Obj.cells #[Value.int IntKind.i64 0, Value.slice none 0 0] 26)).heap.size = g1 + 1 := by rw [← hg1]; simp [go_sem]
  rw [hg1] at B1 ⊢
  generalize w.alloc (Obj.cells #[Value.int IntKind.i64 0, Value.slice none 0 0] 26) = w1 at A1 B1 S1 ⊢
  have A2 := below_alloc A1 (Obj.cells #[Value.int IntKind.i64 0, Value.int IntKind.i64 0] 29)
  have B2 := blk_new w1 (Obj.cells #[Value.int IntKind.i64 0, Value.int IntKind.i64 0] 29)
  have B12 := blk_alloc B1 (Obj.cells #[Value.int IntKind.i64 0, Value.int IntKind.i64 0] 29)
  have S2 : (w1.alloc (Obj.cells #[Value.int IntKind.i64 0, Value.int IntKind.i64 0] 29)).heap.size = g1 + 1 + 1 := by rw [← S1]; simp [go_sem]
  rw [S1] at B2
  generalize w1.alloc (Obj.cells #[Value.int IntKind.i64 0, Value.int IntKind.i64 0] 29) = w2 at A2 B2 B12 S2 ⊢
  have AA := Aside0.mk A2
  have BB1 := Aside0.mk B12
  have BB2 := Aside0.mk B2
  have SS := Aside0.mk S2
  have GG := Aside0.mk hg1
  clear A1 A2 B1 B2 B12 S1 S2 hg1
  go_upto_region 4 with (go_at_call 12; refine (scan_c (w := w2) (Kd.C_below HC.out AA.out) HL.out).mono ?_; rintro e w5 hP; rw [HS.out] at hP; obtain ⟨rfl, hb⟩ := hP; have HB := Aside0.mk hb; clear hb)
  have C1 : w5.heap[g1]? = some (.cells #[.int .i64 0, .slice none 0 0] 26 (0, 0)) := (HB.out.block g1 (by have := SS.out; omega)).trans BB1.out
  have C2 : w5.heap[g1 + 1]? = some (.cells #[.int .i64 0, .int .i64 0] 29 (0, 0)) := (HB.out.block (g1 + 1) (by have := SS.out; omega)).trans BB2.out
  have D := Aside0.mk (below_then AA.out AA.out.size HB.out)
  have z10 : w5.cell? ⟨g1, 0, none⟩ = some (.int .i64 0) := (blk_cell C1 0).trans rfl
  have z11 : w5.cell? ⟨g1, 1, none⟩ = some (.slice none 0 0) := (blk_cell C1 1).trans rfl
  have z20 : w5.cell? ⟨g1 + 1, 0, none⟩ = some (.int .i64 0) := (blk_cell C2 0).trans rfl
  have z21 : w5.cell? ⟨g1 + 1, 1, none⟩ = some (.int .i64 0) := (blk_cell C2 1).trans rfl
  have f10 := blk_frozen C1 0
  have f11 := blk_frozen C1 1
  have f20 := blk_frozen C2 0
  have f21 := blk_frozen C2 1
  have N12 : g1 ≠ g1 + 1 := by omega
  have M12 := Aside0.mk N12
  have E1 := Aside0.mk C1
  have E2 := Aside0.mk C2
  clear C1 C2
  go_wp2
  try rw [Exit.noGoto_ret]
  show bodyPost Try.prog Try.f7 (fun e w' => RawP w w' e (0, [], b, a)) Exit.ret _ _
  have F1 := blk_far (p := ⟨g1 + 1, 1, none⟩) (blk_far (p := ⟨g1 + 1, 0, none⟩) (blk_put (u := .slice none 0 0) (blk_put (u := .int .i64 0) E1.out 0 rfl) 1 rfl) M12.out (.int .i64 b)) M12.out (.int .i64 a)
  have F2 := blk_put (u := .int .i64 a) (blk_put (u := .int .i64 b) (blk_far (p := ⟨g1, 1, none⟩) (blk_far (p := ⟨g1, 0, none⟩) E2.out M12.out.symm (.int .i64 0)) M12.out.symm (.slice none 0 0)) 0 rfl) 1 rfl
  have y10 := (blk_cell F1 0).trans rfl
  have y11 := (blk_cell F1 1).trans rfl
  have y20 := (blk_cell F2 0).trans rfl
  have y21 := (blk_cell F2 1).trans rfl
  refine bodyPost_ret (v := .tuple #[.agg #[.int .i64 0, .slice none 0 0], .agg #[.int .i64 b, .int .i64 a]]) (by simp [results, Try.results7, go_sem, y10, y11, y20, y21]) rfl ⟨.slice none 0 0, rfl, Kd.R_nil _ _ _ _ _, ?_⟩
  exact below_set (below_set (below_set (below_set D.out (by have := GG.out; omega)) (by have := GG.out; omega)) (by have := GG.out; omega)) (by have := GG.out; omega)
end Go.Proofs.Ytjgaicdieddekaa.PParA
