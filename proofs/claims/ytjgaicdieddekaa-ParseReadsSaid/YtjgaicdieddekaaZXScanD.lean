import Derived.Test.YtjgaicdieddekaaZXScanC
set_option linter.unusedVariables false
set_option linter.unusedSimpArgs false
namespace Go.Proofs.Ytjgaicdieddekaa.PParA
open Go.RowKit Go.Proofs.YtjgaicdieddekaaW.PrintWords Go.Proofs.YtjgaicdieddekaaW.PrintLast Go.Proofs.YtjgaicdieddekaaW.PrintMore Go.Proofs.YtjgaicdieddekaaX
def scanF (l : List Int) : Except (Int × Int) (List S50) := if 33554432 < l.length then .error (33554432, 10) else scanG l l.length 0 []
def ScanP (w w' : World) (e : Ending) : Except (Int × Int) (List S50) → Prop
  | .ok ts => ∃ v, e = .returned (.tuple #[v, .int .i64 0, .int .i64 0]) ∧ Kd.R k50 50 w' w.heap.size (fun _ => True) v ts ∧ Below w.heap.size w w'
  | .error (a, b) => e = .returned (.tuple #[.slice none 0 0, .int .i64 a, .int .i64 b]) ∧ Below w.heap.size w w'
set_option maxHeartbeats 4000000 in
set_option maxRecDepth 100000 in
theorem scan_c {w : World} {A : Option Addr} {c : Nat} {l : List Int} (hC : Kd.C (Kd.int .u8) w A l.length l) (hl : l.length ≤ 140737488355328) :
    Calls Try.prog 12 #[.slice A l.length c] w fun e w' => ScanP w w' e (scanF l) := by
  have hmf : ∀ (fn : Fn) (first cap : Array Value) (w : World), (Instr.makeFunc fn first cap).run Try.prog w = .ok (.func fn first cap) w := fun _ _ _ _ => rfl
  have hu64 := Try.underlying64
  have HC := Aside0.mk hC
  have HL := Aside0.mk hl
  clear hC hl
  obtain ⟨R, hR⟩ : ∃ R, scanF l = R := ⟨_, rfl⟩
  have HR := Aside0.mk hR
  rw [hR]
  clear hR
  go_enter_defers Try.func12, Try.ntmps12
  go_wp2_with (fail)
  obtain ⟨g1, hg1⟩ : ∃ g, w.heap.size = g := ⟨_, rfl⟩
  have G1 := Aside0.mk hg1
  have A1 := below_alloc (Below.refl w.heap.size w) (Obj.cells #[Value.slice none 0 0] 43)
  have B1 := blk_new w (Obj.cells #[Value.slice none 0 0] 43)
  have S1 : (w.alloc (Obj.cells #[Value.slice none 0 0] 43)).heap.size = g1 + 1 := by rw [← hg1]; simp [go_sem]
  rw [hg1] at B1 ⊢
  generalize w.alloc (Obj.cells #[Value.slice none 0 0] 43) = w1 at A1 B1 S1 ⊢
  have A2 := below_alloc A1 (Obj.cells #[Value.int IntKind.i64 0] 3)
  have B2 := blk_new w1 (Obj.cells #[Value.int IntKind.i64 0] 3)
  have B12 := blk_alloc B1 (Obj.cells #[Value.int IntKind.i64 0] 3)
  have S2 : (w1.alloc (Obj.cells #[Value.int IntKind.i64 0] 3)).heap.size = g1 + 1 + 1 := by rw [← S1]; simp [go_sem]
  rw [S1] at B2
  generalize w1.alloc (Obj.cells #[Value.int IntKind.i64 0] 3) = w2 at A2 B2 B12 S2 ⊢
  have A3 := below_alloc A2 (Obj.cells #[Value.int IntKind.i64 0] 27)
  have B3 := blk_new w2 (Obj.cells #[Value.int IntKind.i64 0] 27)
  have B13 := blk_alloc B12 (Obj.cells #[Value.int IntKind.i64 0] 27)
  have B23 := blk_alloc B2 (Obj.cells #[Value.int IntKind.i64 0] 27)
  have S3 : (w2.alloc (Obj.cells #[Value.int IntKind.i64 0] 27)).heap.size = g1 + 1 + 1 + 1 := by rw [← S2]; simp [go_sem]
  rw [S2] at B3
  generalize w2.alloc (Obj.cells #[Value.int IntKind.i64 0] 27) = w3 at A3 B3 B13 B23 S3 ⊢
  have A4 := below_alloc (Below.refl w3.heap.size w3) (Obj.cells #[.slice A l.length c, Value.int IntKind.i64 0, Value.slice none 0 0] 64)
  have B4 := blk_new w3 (Obj.cells #[.slice A l.length c, Value.int IntKind.i64 0, Value.slice none 0 0] 64)
  rw [S3] at B4
  generalize w3.alloc (Obj.cells #[.slice A l.length c, Value.int IntKind.i64 0, Value.slice none 0 0] 64) = w4 at A4 B4 ⊢
  clear A1 A2 B1 B2 B12 S1 S2
  refine (all_c (w := w3) (A := A) (c := c) (l := l) (u := .slice none 0 0) (Kd.C_below HC.out A3) (by omega) HL.out ⟨B4, Kd.R_nil _ _ _ _ _, A4⟩).mono ?_
  have hR := HR.out
  unfold scanF at hR
  rw [hR]
  clear hR
  rintro e w5 hP
  cases R with
  | error ab =>
    obtain ⟨a, b⟩ := ab
    unfold AllP at hP
    obtain ⟨rfl, hb⟩ := hP
    have C1 : w5.heap[g1]? = some (.cells #[.slice none 0 0] 43 (0, 0)) := (hb.block g1 (by omega)).trans B13
    have C2 : w5.heap[g1 + 1]? = some (.cells #[.int .i64 0] 3 (0, 0)) := (hb.block (g1 + 1) (by omega)).trans B23
    have C3 : w5.heap[g1 + 1 + 1]? = some (.cells #[.int .i64 0] 27 (0, 0)) := (hb.block (g1 + 1 + 1) (by omega)).trans B3
    have hB : Below w.heap.size w w5 := below_then A3 A3.size hb
    go_wp2_with (fail)
    refine leaves_cons (f := 18) (args := #[.pointer (some ⟨g1, 0, none⟩), .pointer (some ⟨g1 + 1, 0, none⟩), .pointer (some ⟨g1 + 1 + 1, 0, none⟩)]) (by simp) (by simp [go_sem]) ?_
    refine (catch_panicking g1 (g1 + 1) (g1 + 1 + 1) _ _ _ a b w5 C1 C2 C3 (by omega) (by omega) (by omega) hB (by omega) (by omega) (by omega)).mono ?_
    rintro e u' w6 ⟨rfl, rfl, d1, d2, d3, hb6⟩
    simp [Leaves, settle, results, Try.results12, go_sem, d1, d2, d3]
    exact ⟨rfl, hb6⟩
  | ok ts =>
    unfold AllP at hP
    obtain ⟨rfl, a, u, hS⟩ := hP
    obtain ⟨E4, hR, hb⟩ := hS
    obtain ⟨Ao, co, eo⟩ := Kd.R_slice hR
    subst eo
    have C1 : w5.heap[g1]? = some (.cells #[.slice none 0 0] 43 (0, 0)) := (hb.block g1 (by omega)).trans B13
    have C2 : w5.heap[g1 + 1]? = some (.cells #[.int .i64 0] 3 (0, 0)) := (hb.block (g1 + 1) (by omega)).trans B23
    have C3 : w5.heap[g1 + 1 + 1]? = some (.cells #[.int .i64 0] 27 (0, 0)) := (hb.block (g1 + 1 + 1) (by omega)).trans B3
    have hB : Below w.heap.size w w5 := below_then A3 A3.size hb
    have F1 := blk_frozen C1 0
    have F2 := blk_frozen C2 0
    have F3 := blk_frozen C3 0
    have Z1 : w5.cell? ⟨g1, 0, none⟩ = some (.slice none 0 0) := (blk_cell C1 0).trans rfl
    have Z2 : w5.cell? ⟨g1 + 1, 0, none⟩ = some (.int .i64 0) := (blk_cell C2 0).trans rfl
    have Z3 : w5.cell? ⟨g1 + 1 + 1, 0, none⟩ = some (.int .i64 0) := (blk_cell C3 0).trans rfl
    have Z4 : w5.cell? ⟨g1 + 1 + 1 + 1, 2, none⟩ = some (.slice Ao ts.length co) := (blk_cell E4 2).trans rfl
    go_wp2_with (fail)
    have m1 : Aside0 (g1 ≠ g1 + 1) := ⟨by omega⟩
    have m2 : Aside0 (g1 ≠ g1 + 1 + 1) := ⟨by omega⟩
    have m3 : Aside0 (g1 + 1 ≠ g1 + 1 + 1) := ⟨by omega⟩
    have N1 : (((w5.setCell ⟨g1, 0, none⟩ (Value.slice Ao ts.length co)).setCell ⟨g1 + 1, 0, none⟩ (Value.int IntKind.i64 0)).setCell ⟨g1 + 1 + 1, 0, none⟩ (Value.int IntKind.i64 0)).cell? ⟨g1, 0, none⟩ = some (.slice Ao ts.length co) :=
      (cell_far (p := ⟨g1 + 1 + 1, _, none⟩) m2.out _).trans ((cell_far (p := ⟨g1 + 1, _, none⟩) m1.out _).trans ((blk_cell (blk_put C1 0 _ rfl) 0).trans rfl))
    have T2 := blk_put (u := .int .i64 0) ((bx1 (w' := w5.setCell ⟨g1, 0, none⟩ (Value.slice Ao ts.length co)) ⟨C2⟩ ⟨m1.out.symm⟩)) 0 rfl
    have N2 : (((w5.setCell ⟨g1, 0, none⟩ (Value.slice Ao ts.length co)).setCell ⟨g1 + 1, 0, none⟩ (Value.int IntKind.i64 0)).setCell ⟨g1 + 1 + 1, 0, none⟩ (Value.int IntKind.i64 0)).cell? ⟨g1 + 1, 0, none⟩ = some (.int .i64 0) :=
      (cell_far (p := ⟨g1 + 1 + 1, _, none⟩) m3.out _).trans ((blk_cell T2 0).trans rfl)
    have T3 := blk_put (u := .int .i64 0) ((bx2 (w' := (w5.setCell ⟨g1, 0, none⟩ (Value.slice Ao ts.length co)).setCell ⟨g1 + 1, 0, none⟩ (Value.int IntKind.i64 0)) ⟨C3⟩ ⟨m2.out.symm⟩ ⟨m3.out.symm⟩)) 0 rfl
    have N3 : (((w5.setCell ⟨g1, 0, none⟩ (Value.slice Ao ts.length co)).setCell ⟨g1 + 1, 0, none⟩ (Value.int IntKind.i64 0)).setCell ⟨g1 + 1 + 1, 0, none⟩ (Value.int IntKind.i64 0)).cell? ⟨g1 + 1 + 1, 0, none⟩ = some (.int .i64 0) := (blk_cell T3 0).trans rfl
    have O6 := Kd.R_far (p := ⟨g1 + 1 + 1, 0, none⟩) (Kd.R_far (p := ⟨g1 + 1, 0, none⟩) (Kd.R_far (p := ⟨g1, 0, none⟩) (Kd.R_bound hR) (fun k hk => by have := hk.2.1; show k ≠ g1; omega) (.slice Ao ts.length co)) (fun k hk => by have := hk.2.1; show k ≠ g1 + 1; omega) (.int .i64 0)) (fun k hk => by have := hk.2.1; show k ≠ g1 + 1 + 1; omega) (.int .i64 0)
    have HB6 := hb3 (w' := ((w5.setCell ⟨g1, 0, none⟩ (Value.slice Ao ts.length co)).setCell ⟨g1 + 1, 0, none⟩ (Value.int IntKind.i64 0)).setCell ⟨g1 + 1 + 1, 0, none⟩ (Value.int IntKind.i64 0)) ⟨hB⟩ (g1 := g1) (g2 := g1 + 1) (g3 := g1 + 1 + 1) ⟨by omega⟩ ⟨by omega⟩ ⟨by omega⟩
    clear T2 T3 Z1 Z2 Z3 Z4 F1 F2 F3 C1 C2 C3 E4 hB hR
    generalize ((w5.setCell ⟨g1, 0, none⟩ (Value.slice Ao ts.length co)).setCell ⟨g1 + 1, 0, none⟩ (Value.int IntKind.i64 0)).setCell ⟨g1 + 1 + 1, 0, none⟩ (Value.int IntKind.i64 0) = w6 at N1 N2 N3 O6 HB6 ⊢
    refine leaves_cons (f := 18) (args := #[.pointer (some ⟨g1, 0, none⟩), .pointer (some ⟨g1 + 1, 0, none⟩), .pointer (some ⟨g1 + 1 + 1, 0, none⟩)]) (by simp) (by simp [go_sem]) ?_
    refine (catch_idle _ _ _ w6).mono ?_
    rintro e u' w7 ⟨rfl, rfl, rfl⟩
    simp [Leaves, settle, results, Try.results12, go_sem, N1, N2, N3]
    exact ⟨_, rfl, Kd.R_mono (Kd.R_raise (b := w3.heap.size) (b' := w.heap.size) (fun _ _ _ _ h => h) O6 (fun k hk => by have := Kd.R_base O6 k hk; omega)) (fun _ _ => trivial), HB6⟩
end Go.Proofs.Ytjgaicdieddekaa.PParA
