-- By hand: tangramlaw02.fixed: two texts whose answers the document gives.
import Derived.Test.YtjgaicdieddekaaZXRawE
import Derived.Test.YtjgaicdieddekaaZPParAx9
import Derived.Lib.SlBytesConst
import Derived.Deep.Cut
set_option linter.unusedVariables false
set_option linter.unusedSimpArgs false
namespace Go.Proofs.Ytjgaicdieddekaa.PParA
open Go.RowKit Go.Sort Go.Proofs.YtjgaicdieddekaaW.PrintWords Go.Proofs.YtjgaicdieddekaaW.PrintLast Go.Proofs.YtjgaicdieddekaaW.PrintMore Go.Proofs.YtjgaicdieddekaaX
attribute [local go_sem high] eqA40 eqA29
theorem C_lit (W : World) (xs : List Int) (fr : Nat × Nat) (h : xs.length ≤ 9223372036854775807) : Kd.C (Kd.int .u8) (W.alloc (.cells (xs.map (Value.int .u8)).toArray 5 fr)) (some ⟨W.heap.size, 0, none⟩) xs.length xs := by
  refine ⟨rfl, h, fun _ => ⟨_, rfl, fun j p hj => ⟨[.int .u8 p], rfl, rfl, fun i u hu => ?_⟩⟩⟩
  have hi : i = 0 := by
    have := (List.getElem?_eq_some_iff.1 hu).1
    simp at this
    omega
  subst hi
  simp at hu
  subst hu
  have e : ((⟨W.heap.size, 0, none⟩ : Addr).add (j * 1 + 0)) = ⟨W.heap.size, j, none⟩ := by
    unfold Addr.add
    split
    · simp_all
    · simp
  show (W.alloc _).cell? ((⟨W.heap.size, 0, none⟩ : Addr).add (j * 1 + 0)) = _
  rw [e]
  simp [World.cell?, World.alloc, -World.alloc_eq, hj]
theorem raw_1 : rawF [51, 32, 50, 10, 48, 32, 49, 10, 50, 32, 50, 10] = (3, [⟨0, 1⟩, ⟨2, 2⟩], 0, 0) := by kernel_rfl
theorem raw_2 : rawF [51, 32, 49, 10, 48, 32, 51, 10] = (0, [], 24, 6) := by kernel_rfl
theorem raw_3 : rawF [48, 32, 48] = (0, [], 0, 0) := by kernel_rfl
theorem fix_1 (w : World) : Calls Try.prog 7 #[.slice (some ⟨w.heap.size, 0, none⟩) 12 12] (w.alloc (.cells #[.int .u8 51, .int .u8 32, .int .u8 50, .int .u8 10, .int .u8 48, .int .u8 32, .int .u8 49, .int .u8 10, .int .u8 50, .int .u8 32, .int .u8 50, .int .u8 10] 5 (12, 13))) fun e w' => ∃ b o c, e = .returned (.tuple #[.agg #[.int .i64 3, .slice (some ⟨b, o, none⟩) 2 c], .agg #[.int .i64 0, .int .i64 0]]) ∧ (w'.cell? ⟨b, o + 2, none⟩ = some (.int .i64 2) ∧ w'.cell? ⟨b, o + 3, none⟩ = some (.int .i64 2)) ∧ b < w'.heap.size ∧ Below w.heap.size w w' := by
  have h := raw_c (c := 12) (l := [51, 32, 50, 10, 48, 32, 49, 10, 50, 32, 50, 10]) (C_lit w [51, 32, 50, 10, 48, 32, 49, 10, 50, 32, 50, 10] (12, 13) (by decide)) (by decide)
  refine h.mono ?_
  intro e w' hP
  rw [raw_1] at hP
  obtain ⟨v, rfl, hR, hb⟩ := hP
  obtain ⟨Ao, co, rfl⟩ := Kd.R_slice hR
  obtain ⟨ad, e1, hx0, hx1⟩ := at_T40 (Kd.R_reads' hR).2.2 0 (by omega) (by decide)
  cases e1
  obtain ⟨ad2, e2, hy0, hy1⟩ := at_T40 (Kd.R_reads' hR).2.2 1 (by omega) (by decide)
  cases e2
  obtain ⟨b, o, s⟩ := ad
  obtain rfl : s = none := by simpa [Addr.add] using World.cell?_spot hx0
  refine ⟨b, o, co, rfl, ⟨?_, ?_⟩, ?_, below_then ((Below.refl _ _).alloc (Nat.le_refl _) _) (by simp) hb⟩
  · simpa [Addr.add, rd_T40, rdOf] using hy0
  · simpa [Addr.add, rd_T40, rdOf] using hy1
  · exact World.block_lt_of_cell? w' _ hx0
theorem fix_2 (w : World) : Calls Try.prog 7 #[.slice (some ⟨w.heap.size, 0, none⟩) 8 8] (w.alloc (.cells #[.int .u8 51, .int .u8 32, .int .u8 49, .int .u8 10, .int .u8 48, .int .u8 32, .int .u8 51, .int .u8 10] 5 (8, 9))) fun e w' => ∃ A c, e = .returned (.tuple #[.agg #[.int .i64 0, .slice A 0 c], .agg #[.int .i64 24, .int .i64 6]]) ∧ Below w.heap.size w w' := by
  have h := raw_c (c := 8) (l := [51, 32, 49, 10, 48, 32, 51, 10]) (C_lit w [51, 32, 49, 10, 48, 32, 51, 10] (8, 9) (by decide)) (by decide)
  refine h.mono ?_
  intro e w' hP
  rw [raw_2] at hP
  obtain ⟨v, rfl, hR, hb⟩ := hP
  obtain ⟨Ao, co, rfl⟩ := Kd.R_slice hR
  exact ⟨Ao, co, rfl, below_then ((Below.refl _ _).alloc (Nat.le_refl _) _) (by simp) hb⟩
theorem acc_3 : parse_Accepts.f 0 [48, 32, 48] = some true := by
  have h : parse_Raw.f 0 [48, 32, 48] = some (0, [], 0, 0) := by unfold parse_Raw.f; rw [if_pos (by decide), raw_3]
  unfold parse_Accepts.f
  rw [h]
  rfl
theorem fix_3 (w : World) : Calls Try.prog 10 #[.slice (some ⟨w.heap.size, 0, none⟩) 3 3] (w.alloc (.cells #[.int .u8 48, .int .u8 32, .int .u8 48] 5 (3, 4))) fun e w' => e = .returned (.bool true) ∧ Below w.heap.size w w' := by
  refine (parse_Accepts.calls 0 _ 3 [48, 32, 48] true _ (C_lit w [48, 32, 48] (3, 4) (by decide)) (by decide) acc_3).mono ?_
  rintro e w' ⟨rfl, hb⟩
  exact ⟨rfl, below_then ((Below.refl _ _).alloc (Nat.le_refl _) _) (by simp) hb⟩
def Fa (w W : World) (b o : Nat) : Prop := (W.cell? ⟨b, o + 2, none⟩ = some (.int .i64 2) ∧ W.cell? ⟨b, o + 3, none⟩ = some (.int .i64 2)) ∧ b < W.heap.size ∧ Below w.heap.size w W
theorem Fa.below {w W W1 : World} {b o : Nat} (h : Fa w W b o) (hb : Below W.heap.size W W1) : Fa w W1 b o :=
  ⟨⟨(hb.cell (p := ⟨b, o + 2, none⟩) h.2.1).trans h.1.1, (hb.cell (p := ⟨b, o + 3, none⟩) h.2.1).trans h.1.2⟩, Nat.lt_of_lt_of_le h.2.1 hb.size, below_then h.2.2 h.2.2.size hb⟩
theorem Fa.set {w W : World} {b o g : Nat} (h : Fa w W b o) (hn : b ≠ g) (hg : w.heap.size ≤ g) (i : Nat) (v : Value) : Fa w (W.setCell ⟨g, i, none⟩ v) b o :=
  ⟨⟨(cell_far (p := ⟨g, i, none⟩) hn v).trans h.1.1, (cell_far (p := ⟨g, i, none⟩) hn v).trans h.1.2⟩, by simpa using h.2.1, below_set h.2.2 hg⟩
set_option maxHeartbeats 4000000 in
set_option maxRecDepth 100000 in
theorem fixed_c (w : World) : Calls Try.prog 6 #[] w fun e w' => e = .returned (.bool true) ∧ Below w.heap.size w w' := by
  have hcv : ∀ (w : World) (C : Array Value) (n c : Nat), (convert 22 22 (.slice (some ⟨w.heap.size, 0, none⟩) n c)).run Try.prog (w.alloc (.cells C 5)) = .ok (.slice (some ⟨w.heap.size, 0, none⟩) n c) (w.alloc (.cells C 5 (C.size, C.size + 1))) :=
    fun w C n c => Lib.run_convert_bytes_const w 22 5 C n c Try.underlying22 Try.underlying5
  have hu26 := Try.underlying26
  have hu29 := Try.underlying29
  have hu40 := Try.underlying40
  go_enter Try.func6, Try.ntmps6
  go_upto_region 2 with (first | (go_at_call 7; refine (fix_1 _).mono ?_; rintro e w2 ⟨b, o, c, rfl, hx, hl, hb⟩; have FA : Aside0 (Fa w w2 b o) := ⟨⟨hx, hl, hb⟩⟩; clear hx hl hb) | ((with_reducible refine gate_dst (N := 1) rfl ?_); refine be_ 1 #[.int .i64 0, .slice none 0 0] 26 ?_; intro g1 hg w3 hbox hb; have B1 := Aside0.mk hbox; have N1 : Aside0 (b ≠ g1 ∧ w.heap.size ≤ g1) := ⟨by have := FA.out.2.1; have := FA.out.2.2.size; omega⟩; replace FA : Aside0 (Fa w w3 b o) := ⟨FA.out.below hb⟩; clear hbox hb hg) | ((with_reducible refine gate_dst (N := 2) rfl ?_); refine be_ 2 #[.int .i64 0, .int .i64 0] 29 ?_; intro g2 hg w4 hbox hb; have B2 := Aside0.mk hbox; have N12 := lx B1 hg; have N21 := gx B1 hg; replace B1 := kx B1 hb; have N2 : Aside0 (b ≠ g2 ∧ w.heap.size ≤ g2) := ⟨by have := FA.out.2.1; have := FA.out.2.2.size; omega⟩; replace FA : Aside0 (Fa w w4 b o) := ⟨FA.out.below hb⟩; clear hbox hb hg; have z0 := bc B1 0; have z1 := bc B1 1; have f0 := blk_frozen B1.out 0; have f1 := blk_frozen B1.out 1) | ((with_reducible refine gate_store (t := 26) (p := 1) rfl ?_); refine store_event (t := 26) (p := 1) (v := ?vo1) (w1 := ((w4.setCell ⟨g1, 0, none⟩ (.int .i64 3)).setCell ⟨g1, 1, none⟩ (.slice (some ⟨b, o, none⟩) 2 c))) ?hg ?ho ?hn ?hr ?_; (case ho => rfl); (case hg => rfl); (case hn => rfl); (case hr => first | (go_simp; done) | (go_simp; rfl)); intro w5 hw; clear z0 z1 f0 f1; replace FA : Aside0 (Fa w w5 b o) := ⟨by rw [hw]; exact (FA.out.set N1.out.1 N1.out.2 _ _).set N1.out.1 N1.out.2 _ _⟩; replace B1 : Aside0 (w5.heap[g1]? = some (.cells #[.int .i64 3, .slice (some ⟨b, o, none⟩) 2 c] 26 (0, 0))) := ⟨by rw [hw]; exact blk_put (blk_put B1.out 0 _ rfl) 1 _ rfl⟩; replace B2 : Aside0 (w5.heap[g2]? = some (.cells #[.int .i64 0, .int .i64 0] 29 (0, 0))) := ⟨by rw [hw]; exact blk_far (blk_far B2.out N21.out _) N21.out _⟩; clear hw; have z0 := bc B2 0; have z1 := bc B2 1; have f0 := blk_frozen B2.out 0; have f1 := blk_frozen B2.out 1) | ((with_reducible refine gate_store (t := 29) (p := 2) rfl ?_); refine store_event (t := 29) (p := 2) (v := ?vo2) (w1 := ((w5.setCell ⟨g2, 0, none⟩ (.int .i64 0)).setCell ⟨g2, 1, none⟩ (.int .i64 0))) ?hg ?ho ?hn ?hr ?_; (case ho => rfl); (case hg => rfl); (case hn => rfl); (case hr => first | (go_simp; done) | (go_simp; rfl)); intro w6 hw; clear z0 z1 f0 f1; replace FA : Aside0 (Fa w w6 b o) := ⟨by rw [hw]; exact (FA.out.set N2.out.1 N2.out.2 _ _).set N2.out.1 N2.out.2 _ _⟩; replace B1 : Aside0 (w6.heap[g1]? = some (.cells #[.int .i64 3, .slice (some ⟨b, o, none⟩) 2 c] 26 (0, 0))) := ⟨by rw [hw]; exact blk_far (blk_far B1.out N12.out _) N12.out _⟩; replace B2 : Aside0 (w6.heap[g2]? = some (.cells #[.int .i64 0, .int .i64 0] 29 (0, 0))) := ⟨by rw [hw]; exact blk_put (blk_put B2.out 0 _ rfl) 1 _ rfl⟩; clear hw))
  go_upto_region 3 with (first | (go_at_call 7; refine (fix_2 _).mono ?_; rintro e w7 ⟨A2, c2, rfl, hb⟩; replace B1 := kx B1 hb; replace B2 := kx B2 hb; replace FA : Aside0 (Fa w w7 b o) := ⟨FA.out.below hb⟩; clear hb) | ((with_reducible refine gate_dst (N := 3) rfl ?_); refine be_ 3 #[.int .i64 0, .slice none 0 0] 26 ?_; intro g3 hg w8 hbox hb; have B3 := Aside0.mk hbox; have N13 := lx B1 hg; have N23 := lx B2 hg; replace B1 := kx B1 hb; replace B2 := kx B2 hb; have N3 : Aside0 (b ≠ g3 ∧ w.heap.size ≤ g3) := ⟨by have := FA.out.2.1; have := FA.out.2.2.size; omega⟩; replace FA : Aside0 (Fa w w8 b o) := ⟨FA.out.below hb⟩; clear hbox hb hg) | ((with_reducible refine gate_dst (N := 4) rfl ?_); refine be_ 4 #[.int .i64 0, .int .i64 0] 29 ?_; intro g4 hg w9 hbox hb; have B4 := Aside0.mk hbox; have N14 := lx B1 hg; have N24 := lx B2 hg; have N43 := gx B3 hg; replace B1 := kx B1 hb; replace B2 := kx B2 hb; replace B3 := kx B3 hb; have N4 : Aside0 (b ≠ g4 ∧ w.heap.size ≤ g4) := ⟨by have := FA.out.2.1; have := FA.out.2.2.size; omega⟩; replace FA : Aside0 (Fa w w9 b o) := ⟨FA.out.below hb⟩; clear hbox hb hg; have z0 := bc B3 0; have z1 := bc B3 1; have f0 := blk_frozen B3.out 0; have f1 := blk_frozen B3.out 1) | ((with_reducible refine gate_store (t := 26) (p := 3) rfl ?_); refine store_event (t := 26) (p := 3) (v := ?vo3) (w1 := ((w9.setCell ⟨g3, 0, none⟩ (.int .i64 0)).setCell ⟨g3, 1, none⟩ (.slice A2 0 c2))) ?hg ?ho ?hn ?hr ?_; (case ho => rfl); (case hg => rfl); (case hn => rfl); (case hr => first | (go_simp; done) | (go_simp; rfl)); intro w10 hw; clear z0 z1 f0 f1; replace FA : Aside0 (Fa w w10 b o) := ⟨by rw [hw]; exact (FA.out.set N3.out.1 N3.out.2 _ _).set N3.out.1 N3.out.2 _ _⟩; replace B1 : Aside0 (w10.heap[g1]? = some (.cells #[.int .i64 3, .slice (some ⟨b, o, none⟩) 2 c] 26 (0, 0))) := ⟨by rw [hw]; exact blk_far (blk_far B1.out N13.out _) N13.out _⟩; replace B2 : Aside0 (w10.heap[g2]? = some (.cells #[.int .i64 0, .int .i64 0] 29 (0, 0))) := ⟨by rw [hw]; exact blk_far (blk_far B2.out N23.out _) N23.out _⟩; replace B4 : Aside0 (w10.heap[g4]? = some (.cells #[.int .i64 0, .int .i64 0] 29 (0, 0))) := ⟨by rw [hw]; exact blk_far (blk_far B4.out N43.out _) N43.out _⟩; clear hw B3; have z0 := bc B4 0; have z1 := bc B4 1; have f0 := blk_frozen B4.out 0; have f1 := blk_frozen B4.out 1) | ((with_reducible refine gate_store (t := 29) (p := 4) rfl ?_); refine store_event (t := 29) (p := 4) (v := ?vo4) (w1 := ((w10.setCell ⟨g4, 0, none⟩ (.int .i64 24)).setCell ⟨g4, 1, none⟩ (.int .i64 6))) ?hg ?ho ?hn ?hr ?_; (case ho => rfl); (case hg => rfl); (case hn => rfl); (case hr => first | (go_simp; done) | (go_simp; rfl)); intro w11 hw; clear z0 z1 f0 f1; replace FA : Aside0 (Fa w w11 b o) := ⟨by rw [hw]; exact (FA.out.set N4.out.1 N4.out.2 _ _).set N4.out.1 N4.out.2 _ _⟩; replace B1 : Aside0 (w11.heap[g1]? = some (.cells #[.int .i64 3, .slice (some ⟨b, o, none⟩) 2 c] 26 (0, 0))) := ⟨by rw [hw]; exact blk_far (blk_far B1.out N14.out _) N14.out _⟩; replace B2 : Aside0 (w11.heap[g2]? = some (.cells #[.int .i64 0, .int .i64 0] 29 (0, 0))) := ⟨by rw [hw]; exact blk_far (blk_far B2.out N24.out _) N24.out _⟩; replace B4 : Aside0 (w11.heap[g4]? = some (.cells #[.int .i64 24, .int .i64 6] 29 (0, 0))) := ⟨by rw [hw]; exact blk_put (blk_put B4.out 0 _ rfl) 1 _ rfl⟩; clear hw))
  have q10 := bc B1 0
  have q11 := bc B1 1
  have q20 := bc B2 0
  have q21 := bc B2 1
  have q40 := bc B4 0
  have q41 := bc B4 1
  have hx2 := FA.out.1.1
  have hx3 := FA.out.1.2
  go_wp2_with (go_at_call 10; refine (fix_3 _).mono ?_; rintro e w12 ⟨rfl, hb⟩)
  go_ret
  exact ⟨rfl, below_then FA.out.2.2 FA.out.2.2.size hb⟩
end Go.Proofs.Ytjgaicdieddekaa.PParA
