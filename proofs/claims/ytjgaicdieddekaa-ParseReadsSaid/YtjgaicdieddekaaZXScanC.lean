import Derived.Test.YtjgaicdieddekaaZXScanB
set_option linter.unusedVariables false
set_option linter.unusedSimpArgs false
namespace Go.Proofs.Ytjgaicdieddekaa.PParA
open Go.RowKit Go.Proofs.YtjgaicdieddekaaW.PrintWords Go.Proofs.YtjgaicdieddekaaW.PrintLast Go.Proofs.YtjgaicdieddekaaW.PrintMore Go.Proofs.YtjgaicdieddekaaX
def c_T : Bool × List (List Nat × List Nat) := (true, [([], []), ([0], [0]), ([], []), ([2], [2]), ([], []), ([1, 4, 0, 1, 4], [1]), ([3, 5, 0, 1, 2, 3, 4, 5], [3])])
def c_B : List Nat := [0, 1, 0, 4, 0, 3, 12]
theorem c_tab : rtab .any (opsOf Try.f18 5) = c_T := by kernel_rfl
theorem c_bits : waitsOk c_T.2 c_B = true := by kernel_rfl
set_option maxHeartbeats 4000000 in
set_option maxRecDepth 100000 in
theorem catch_panicking {w0 : World} (g1 g2 g3 : Nat) (c1 c2 c3 : Value) (a b : Int) (w : World) (h1 : w.heap[g1]? = some (.cells #[c1] 43 (0, 0))) (h2 : w.heap[g2]? = some (.cells #[c2] 3 (0, 0))) (h3 : w.heap[g3]? = some (.cells #[c3] 27 (0, 0))) (n12 : g1 ≠ g2) (n13 : g1 ≠ g3) (n23 : g2 ≠ g3)
    (hB : Below w0.heap.size w0 w) (e1 : w0.heap.size ≤ g1) (e2 : w0.heap.size ≤ g2) (e3 : w0.heap.size ≤ g3) :
    CallsD Try.prog 18 #[.pointer (some ⟨g1, 0, none⟩), .pointer (some ⟨g2, 0, none⟩), .pointer (some ⟨g3, 0, none⟩)] (.panicking ({ v := .iface 60 (.agg #[.int .i64 a, .int .i64 b]), recovered := false } :: [])) w fun e u' w' =>
      e = .returned (.tuple #[]) ∧ u' = .panicking ({ v := .iface 60 (.agg #[.int .i64 a, .int .i64 b]), recovered := true } :: []) ∧ w'.cell? ⟨g1, 0, none⟩ = some (.slice none 0 0) ∧ w'.cell? ⟨g2, 0, none⟩ = some (.int .i64 a) ∧ w'.cell? ⟨g3, 0, none⟩ = some (.int .i64 b) ∧ Below w0.heap.size w0 w' := by
  have hcz1 : w.cell? ⟨g1, 0, none⟩ = some c1 := (blk_cell h1 0).trans rfl
  have hcz2 : w.cell? ⟨g2, 0, none⟩ = some c2 := (blk_cell h2 0).trans rfl
  have hcz3 : w.cell? ⟨g3, 0, none⟩ = some c3 := (blk_cell h3 0).trans rfl
  have hfz1 := blk_frozen h1 0
  have hfz2 := blk_frozen h2 0
  have hfz3 := blk_frozen h3 0
  have hta := as60 a b
  refine callsD_of_wpS Try.func18 rfl fun c₀ cs hu => ?_
  apply wpS_seq
  apply wpS_region
  simp [wpOpsS, go_sem, recoverD, hu, Try.ntmps18, Exit.thenS]
  refine wpS_of_wp ?_
  simp only [Array.replicate_succ, Array.replicate_zero, List.push_toArray, List.append_toArray, List.nil_append, List.cons_append, List.setIfInBounds_toArray, List.set_cons_succ, List.set_cons_zero]
  go_wp2
  have HB := Aside0.mk (below_alloc hB (Obj.cells #[Value.int IntKind.i64 a, Value.int IntKind.i64 b] 60))
  have B4 := Aside0.mk (blk_new w (Obj.cells #[Value.int IntKind.i64 a, Value.int IntKind.i64 b] 60))
  have B1 := Aside0.mk (blk_alloc h1 (Obj.cells #[Value.int IntKind.i64 a, Value.int IntKind.i64 b] 60))
  have B2 := Aside0.mk (blk_alloc h2 (Obj.cells #[Value.int IntKind.i64 a, Value.int IntKind.i64 b] 60))
  have B3 := Aside0.mk (blk_alloc h3 (Obj.cells #[Value.int IntKind.i64 a, Value.int IntKind.i64 b] 60))
  obtain ⟨gf, hgf⟩ : ∃ gf, w.heap.size = gf := ⟨_, rfl⟩
  have n41 : Aside0 (gf ≠ g1) := ⟨by rw [← hgf]; exact Nat.ne_of_gt (blk_lt h1)⟩
  have n42 : Aside0 (gf ≠ g2) := ⟨by rw [← hgf]; exact Nat.ne_of_gt (blk_lt h2)⟩
  have n43 : Aside0 (gf ≠ g3) := ⟨by rw [← hgf]; exact Nat.ne_of_gt (blk_lt h3)⟩
  have m12 := Aside0.mk n12
  have m13 := Aside0.mk n13
  have m23 := Aside0.mk n23
  have m21 := Aside0.mk n12.symm
  have m31 := Aside0.mk n13.symm
  have m32 := Aside0.mk n23.symm
  have E1 := Aside0.mk e1
  have E2 := Aside0.mk e2
  have E3 := Aside0.mk e3
  have HU := Aside0.mk hu
  rw [hgf] at B4 ⊢
  clear hcz1 hcz2 hcz3 hfz1 hfz2 hfz3 n12 n13 n23 e1 e2 e3 hta hu hB
  generalize w.alloc (Obj.cells #[Value.int IntKind.i64 a, Value.int IntKind.i64 b] 60) = W1 at B1 B2 B3 B4 HB ⊢
  clear hgf h1 h2 h3
  replace B1 := bd B1
  replace B2 := bd B2
  replace B3 := bd B3
  replace B4 := bd B4
  replace HB := Aside0.mk (below_drew1 HB.out)
  refine start_ (n := 7) (S := fun w' => w'.cell? ⟨gf, 0, none⟩ = some (.int .i64 a) ∧ w'.cell? ⟨gf, 1, none⟩ = some (.int .i64 b)) (ds := []) (pf 0 7) (by kernel_rfl) rfl rfl ⟨bc B4 0, bc B4 1⟩ (fun hHeld => ?_)
  refine with_tabW c_tab c_bits (fun HT_ HW_ => ?_)
  generalize W1.drew = w8 at B1 B2 B3 B4 HB hHeld ⊢
  refine pu_ 0 (some 17) (pf 1 7) HT_ ?_
  refine pu_ 2 (some 19) #[T_,F_,T_,F_,F_,F_,F_] HT_ ?_
  refine tk2_ 1 (some 18) (pf 3 7) HT_ HW_ hHeld ?_
  refine tk2_ 3 (some 20) (pf 4 7) HT_ HW_ hHeld ?_
  refine on_ 4 none (pf 5 7) HT_ (fun K hK => ?_)
  have hs4 : w8.cell? ⟨g1, 0, none⟩ = some c1 := bc B1 0
  have hfs4 := blk_frozen B1.out 0
  refine skip_ (w1 := ?_) (by rfl) rfl ?_ ?_
  rotate_left
  · go_simp
    rfl
  refine hK.out _ _ ⟨(cell_far (p := ⟨g1, _, none⟩) n41.out _).trans hHeld.1, (cell_far (p := ⟨g1, _, none⟩) n41.out _).trans hHeld.2⟩ (fun hHeld => ?_)
  clear hK K hs4 hfs4
  have X1 : Aside0 ((w8.setCell ⟨g1, 0, none⟩ (.slice none 0 0)).heap[g1]? = some (.cells #[.slice none 0 0] 43 (0, 0))) := ⟨bp B1⟩
  have X2 : Aside0 ((w8.setCell ⟨g1, 0, none⟩ (.slice none 0 0)).heap[g2]? = some (.cells #[c2] 3 (0, 0))) := ⟨bx1 B2 m21⟩
  have X3 : Aside0 ((w8.setCell ⟨g1, 0, none⟩ (.slice none 0 0)).heap[g3]? = some (.cells #[c3] 27 (0, 0))) := ⟨bx1 B3 m31⟩
  have X5 : Aside0 (Below w0.heap.size w0 (w8.setCell ⟨g1, 0, none⟩ (.slice none 0 0))) := ⟨hb1 HB E1⟩
  clear B1 B2 B3 B4 HB
  generalize w8.setCell ⟨g1, 0, none⟩ (.slice none 0 0) = w9 at X1 X2 X3 X5 hHeld ⊢
  refine on_ 5 none (pf 6 7) HT_ (fun K hK => ?_)
  have hs5 : w9.cell? ⟨g2, 0, none⟩ = some c2 := bc X2 0
  have hfs5 := blk_frozen X2.out 0
  refine skip_ (w1 := ?_) (by rfl) rfl ?_ ?_
  rotate_left
  · go_simp
    rfl
  refine hK.out _ _ ⟨(cell_far (p := ⟨g2, _, none⟩) n42.out _).trans hHeld.1, (cell_far (p := ⟨g2, _, none⟩) n42.out _).trans hHeld.2⟩ (fun hHeld => ?_)
  clear hK K hs5 hfs5
  have Y1 : Aside0 ((w9.setCell ⟨g2, 0, none⟩ (.int .i64 a)).heap[g1]? = some (.cells #[.slice none 0 0] 43 (0, 0))) := ⟨bx1 X1 m12⟩
  have Y2 : Aside0 ((w9.setCell ⟨g2, 0, none⟩ (.int .i64 a)).heap[g2]? = some (.cells #[.int .i64 a] 3 (0, 0))) := ⟨bp X2⟩
  have Y3 : Aside0 ((w9.setCell ⟨g2, 0, none⟩ (.int .i64 a)).heap[g3]? = some (.cells #[c3] 27 (0, 0))) := ⟨bx1 X3 m32⟩
  have Y5 : Aside0 (Below w0.heap.size w0 (w9.setCell ⟨g2, 0, none⟩ (.int .i64 a))) := ⟨hb1 X5 E2⟩
  clear X1 X2 X3 X5
  generalize w9.setCell ⟨g2, 0, none⟩ (.int .i64 a) = wa at Y1 Y2 Y3 Y5 hHeld ⊢
  refine on_ 6 none (pf 7 7) HT_ (fun K hK => ?_)
  have hs6 : wa.cell? ⟨g3, 0, none⟩ = some c3 := bc Y3 0
  have hfs6 := blk_frozen Y3.out 0
  refine skip_ (w1 := ?_) (by rfl) rfl ?_ ?_
  rotate_left
  · go_simp
    rfl
  refine hK.out _ _ ⟨(cell_far (p := ⟨g3, _, none⟩) n43.out _).trans hHeld.1, (cell_far (p := ⟨g3, _, none⟩) n43.out _).trans hHeld.2⟩ (fun hHeld => ?_)
  clear hK K hs6 hfs6
  have Z1 : Aside0 ((wa.setCell ⟨g3, 0, none⟩ (.int .i64 b)).heap[g1]? = some (.cells #[.slice none 0 0] 43 (0, 0))) := ⟨bx1 Y1 m13⟩
  have Z2 : Aside0 ((wa.setCell ⟨g3, 0, none⟩ (.int .i64 b)).heap[g2]? = some (.cells #[.int .i64 a] 3 (0, 0))) := ⟨bx1 Y2 m23⟩
  have Z3 : Aside0 ((wa.setCell ⟨g3, 0, none⟩ (.int .i64 b)).heap[g3]? = some (.cells #[.int .i64 b] 27 (0, 0))) := ⟨bp Y3⟩
  have Z5 : Aside0 (Below w0.heap.size w0 (wa.setCell ⟨g3, 0, none⟩ (.int .i64 b))) := ⟨hb1 Y5 E3⟩
  clear Y1 Y2 Y3 Y5
  generalize wa.setCell ⟨g3, 0, none⟩ (.int .i64 b) = wb at Z1 Z2 Z3 Z5 hHeld ⊢
  refine done_ (done_of HT_.out (by kernel_rfl)) ?_
  have z1 : wb.cell? ⟨g1, 0, none⟩ = some (.slice none 0 0) := bc Z1 0
  have z2 : wb.cell? ⟨g2, 0, none⟩ = some (.int .i64 a) := bc Z2 0
  have z3 : wb.cell? ⟨g3, 0, none⟩ = some (.int .i64 b) := bc Z3 0
  clear hHeld HT_ HW_
  try go_wp2
  have h5 := Z5.out
  have hu := HU.out
  clear HU Z1 Z2 Z3 Z5
  simp [bodyPostS, results, Try.results18, z1, z2, z3, h5, hu]
end Go.Proofs.Ytjgaicdieddekaa.PParA
