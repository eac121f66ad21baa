-- By hand: tangramlaw01.awake: a fixed fact.
import Derived.Test.YtjgaicdieddekaaDoorZXNumA
import Derived.Test.YtjgaicdieddekaaDoorZXScanD
import Derived.Lib.SlBytesConst
import Derived.Deep.Cut
set_option linter.unusedVariables false
set_option linter.unusedSimpArgs false
namespace Go.Proofs.YtjgaicdieddekaaDoor.PNumA
open Go.RowKit Go.Sort Go.Proofs.YtjgaicdieddekaaDoorW.PrintWords Go.Proofs.YtjgaicdieddekaaDoorW.PrintLast Go.Proofs.YtjgaicdieddekaaDoorW.PrintMore Go.Proofs.YtjgaicdieddekaaDoorX
theorem C_lit (W : World) (xs : List Int) (fr : Nat × Nat) (h : xs.length ≤ 9223372036854775807) : Kd.C (Kd.int .u8) (W.alloc (.cells (xs.map (Value.int .u8)).toArray 5 fr)) (some ⟨W.heap.size, 0, none⟩) xs.length xs := by
  refine ⟨rfl, h, fun _ => ⟨_, rfl, fun j p hj => ⟨[.int .u8 p], rfl, rfl, fun i u hu => ?_⟩⟩⟩
  have hi : i = 0 := by
    have := (List.getElem?_eq_some_iff.1 hu).1
    simp at this
    omega
  subst hi
  simp at hu
  subst hu
  have e : ((⟨W.heap.size, 0, none⟩ : Addr).add (j * 1 + 0)) = ⟨W.heap.size, j, none⟩ := by
    unfold Addr.add
    split
    · simp_all
    · simp
  show (W.alloc _).cell? ((⟨W.heap.size, 0, none⟩ : Addr).add (j * 1 + 0)) = _
  rw [e]
  simp [World.cell?, World.alloc, -World.alloc_eq, hj]
theorem scan_1 : scanF [51, 48, 32, 50, 10] = .ok [⟨1, 0, 2, 30⟩, ⟨1, 3, 4, 2⟩, ⟨2, 4, 5, 0⟩, ⟨3, 5, 5, 0⟩] := by kernel_rfl
theorem scan_2 : scanF [49, 50, 120] = .error (2, 11) := by kernel_rfl
theorem awake_1 (w : World) : Calls Tryd.prog 11 #[.slice (some ⟨w.heap.size, 0, none⟩) 5 5] (w.alloc (.cells #[.int .u8 51, .int .u8 48, .int .u8 32, .int .u8 50, .int .u8 10] 5 (5, 6))) fun e w' => ∃ b o c, e = .returned (.tuple #[.slice (some ⟨b, o, none⟩) 4 c, .int .i64 0, .int .i64 0]) ∧ (w'.cell? ⟨b, o, none⟩ = some (.int .i64 1) ∧ w'.cell? ⟨b, o + 1, none⟩ = some (.int .i64 0) ∧ w'.cell? ⟨b, o + 2, none⟩ = some (.int .i64 2) ∧ w'.cell? ⟨b, o + 3, none⟩ = some (.int .i64 30) ∧ w'.cell? ⟨b, o + 8, none⟩ = some (.int .i64 2)) ∧ b < w'.heap.size ∧ Below w.heap.size w w' := by
  have h := scan_c (c := 5) (l := [51, 48, 32, 50, 10]) (C_lit w [51, 48, 32, 50, 10] (5, 6) (by decide)) (by decide)
  refine h.mono ?_
  intro e w' hP
  rw [scan_1] at hP
  obtain ⟨v, rfl, hR, hb⟩ := hP
  obtain ⟨Ao, co, rfl⟩ := Kd.R_slice hR
  obtain ⟨ad, e1, hx0, hx1, hx2, hx3⟩ := at_T34 (Kd.R_reads' hR).2.2 0 (by omega) (by decide)
  cases e1
  obtain ⟨ad2, e2, hy0, hy1, hy2, hy3⟩ := at_T34 (Kd.R_reads' hR).2.2 2 (by omega) (by decide)
  cases e2
  obtain ⟨b, o, s⟩ := ad
  obtain rfl : s = none := by simpa [Addr.add] using World.cell?_spot hx0
  refine ⟨b, o, co, rfl, ⟨?_, ?_, ?_, ?_, ?_⟩, ?_, below_then ((Below.refl _ _).alloc (Nat.le_refl _) _) (by simp) hb⟩
  · simpa [Addr.add, rd_T34, rdOf] using hx0
  · simpa [Addr.add, rd_T34, rdOf] using hx1
  · simpa [Addr.add, rd_T34, rdOf] using hx2
  · simpa [Addr.add, rd_T34, rdOf] using hx3
  · simpa [Addr.add, rd_T34, rdOf] using hy0
  · exact World.block_lt_of_cell? w' _ hx0
theorem awake_2 (w : World) : Calls Tryd.prog 11 #[.slice (some ⟨w.heap.size, 0, none⟩) 3 3] (w.alloc (.cells #[.int .u8 49, .int .u8 50, .int .u8 120] 5 (3, 4))) fun e w' => e = .returned (.tuple #[.slice none 0 0, .int .i64 2, .int .i64 11]) ∧ Below w.heap.size w w' := by
  have h := scan_c (c := 3) (l := [49, 50, 120]) (C_lit w [49, 50, 120] (3, 4) (by decide)) (by decide)
  refine h.mono ?_
  intro e w' hP
  rw [scan_2] at hP
  obtain ⟨rfl, hb⟩ := hP
  exact ⟨rfl, below_then ((Below.refl _ _).alloc (Nat.le_refl _) _) (by simp) hb⟩
set_option maxHeartbeats 1000000 in
set_option maxRecDepth 100000 in
theorem awake_c (w : World) (hT : TabW w) : Calls Tryd.prog 10 #[] w fun e w' => e = .returned (.bool true) ∧ Below w.heap.size w w' := by
  have hcv : ∀ (w : World) (C : Array Value) (n c : Nat), (convert 22 22 (.slice (some ⟨w.heap.size, 0, none⟩) n c)).run Tryd.prog (w.alloc (.cells C 5)) = .ok (.slice (some ⟨w.heap.size, 0, none⟩) n c) (w.alloc (.cells C 5 (C.size, C.size + 1))) :=
    fun w C n c => Lib.run_convert_bytes_const w 22 5 C n c Tryd.underlying22 Tryd.underlying5
  have HT := Aside0.mk hT
  clear hT
  have hu34 := Tryd.underlying34
  go_enter Tryd.func10, Tryd.ntmps10
  go_upto_region 2 with (go_at_call 11; refine (awake_1 _).mono ?_; rintro e w2 ⟨b, o, c, rfl, hx, hl, hb⟩; have HX := Aside0.mk hx; have HL := Aside0.mk hl; have HB := Aside0.mk hb; clear hx hl hb)
  go_upto_region 3 with (go_at_call 11; refine (awake_2 _).mono ?_; rintro e w4 ⟨rfl, hb⟩)
  have hX : ∀ n, n < 9 → w4.cell? ⟨b, o + n, none⟩ = w2.cell? ⟨b, o + n, none⟩ := fun n _ => hb.cell (p := ⟨b, o + n, none⟩) HL.out
  have HB4 := Aside0.mk (below_then HB.out HB.out.size hb)
  obtain ⟨hx0, hx1, hx2, hx3, hx8⟩ := HX.out
  replace hx0 : w4.cell? ⟨b, o, none⟩ = some (.int .i64 1) := (hX 0 (by omega)).trans hx0
  replace hx1 := (hX 1 (by omega)).trans hx1
  replace hx2 := (hX 2 (by omega)).trans hx2
  replace hx3 := (hX 3 (by omega)).trans hx3
  replace hx8 := (hX 8 (by omega)).trans hx8
  clear hX hb HB HX HL
  go_wp2_with ((go_at_call 14; refine (text_c (-70) (by decide) (by decide) _ (tb HT (hb0 HB4))).mono ?_; rintro e w6 ⟨rfl, hb⟩; have HB6 := Aside0.mk (below_then HB4.out HB4.out.size hb); clear hb))
  go_ret
  have hI : (Lib.itoa (-70) == [45, 55, 48]) = true := by kernel_rfl
  exact ⟨congrArg (fun b => Ending.returned (.bool b)) hI, HB6.out⟩
end Go.Proofs.YtjgaicdieddekaaDoor.PNumA
