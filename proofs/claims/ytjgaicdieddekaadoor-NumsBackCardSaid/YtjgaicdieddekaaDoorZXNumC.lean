-- By hand: nums.Scan of a text's bytes: '[]byte(text)' made at the call.
import Derived.Test.YtjgaicdieddekaaDoorZXScanD
import Derived.Lib.ConvBytes
set_option linter.unusedVariables false
set_option linter.unusedSimpArgs false
namespace Go.Proofs.YtjgaicdieddekaaDoor.PNumA
open Go.RowKit Go.Proofs.YtjgaicdieddekaaDoorW.PrintWords Go.Proofs.YtjgaicdieddekaaDoorW.PrintLast Go.Proofs.YtjgaicdieddekaaDoorW.PrintMore Go.Proofs.YtjgaicdieddekaaDoorX
theorem bytesWorld_below (w : World) (e : TypeId) (s : ByteArray) : Below w.heap.size w (Lib.bytesWorld w e s) :=
  ⟨rfl, rfl, rfl, by rw [Lib.bytesWorld_size]; omega, fun i hi => Lib.bytesWorld_at_old w e s i hi⟩
theorem C_text (w : World) (s : ByteArray) (hs : s.size ≤ 140737488355328) : Kd.C (Kd.int .u8) (Lib.bytesWorld w 5 s) (some ⟨w.heap.size, 0, none⟩) (s.data.toList.map fun c => (c.toNat : Int)).length (s.data.toList.map fun c => (c.toNat : Int)) := by
  have hl : (s.data.toList.map fun c => (c.toNat : Int)).length = s.size := by rw [List.length_map]; rfl
  refine ⟨rfl, by rw [hl]; omega, fun _ => ⟨_, rfl, fun j p hj => ⟨[.int .u8 p], rfl, rfl, fun i u hu => ?_⟩⟩⟩
  have hi : i = 0 := by
    have := (List.getElem?_eq_some_iff.1 hu).1
    simp at this
    omega
  subst hi
  simp at hu
  subst hu
  have e : ((⟨w.heap.size, 0, none⟩ : Addr).add (j * 1 + 0)) = ⟨w.heap.size, j, none⟩ := by
    unfold Addr.add
    split
    · simp_all
    · simp
  have hj' : j < s.size := by
    have := (List.getElem?_eq_some_iff.1 hj).1
    rw [hl] at this
    exact this
  show (Lib.bytesWorld w 5 s).cell? ((⟨w.heap.size, 0, none⟩ : Addr).add (j * 1 + 0)) = _
  rw [e, Lib.bytesWorld_cell w _ s j hj']
  rw [List.getElem?_map] at hj
  have h2 : j < s.data.toList.length := hj'
  rw [List.getElem?_eq_getElem h2] at hj
  obtain rfl := Option.some.inj hj
  rw [List.getD_eq_getElem?_getD, List.getElem?_eq_getElem h2]
  rfl
theorem scan_text (s : ByteArray) (hs : s.size ≤ 140737488355328) (w : World) :
    Calls Tryd.prog 11 #[.slice (some ⟨w.heap.size, 0, none⟩) s.size (grownCap w s.size 0 5)] (Lib.bytesWorld w 5 s) fun e w' => match scanF (s.data.toList.map fun c => (c.toNat : Int)) with
      | .ok ts => ∃ v, e = .returned (.tuple #[v, .int .i64 0, .int .i64 0]) ∧ Kd.R k34 34 w' w.heap.size (fun _ => True) v ts ∧ Below w.heap.size w w'
      | .error ab => e = .returned (.tuple #[.slice none 0 0, .int .i64 ab.1, .int .i64 ab.2]) ∧ Below w.heap.size w w' := by
  have hl : (s.data.toList.map fun c => (c.toNat : Int)).length = s.size := by rw [List.length_map]; rfl
  have h := scan_c (c := grownCap w s.size 0 5) (C_text w s hs) (by rw [hl]; exact hs)
  rw [hl] at h
  refine h.mono ?_
  intro e w' hP
  have hb0 := bytesWorld_below w 5 s
  cases hR : scanF (s.data.toList.map fun c => (c.toNat : Int)) with
  | ok ts =>
    rw [hR] at hP
    obtain ⟨v, he, hr, hb⟩ := hP
    exact ⟨v, he, Kd.R_lower hr hb0.size, below_then hb0 hb0.size hb⟩
  | error ab =>
    obtain ⟨a, b⟩ := ab
    rw [hR] at hP
    exact ⟨hP.1, below_then hb0 hb0.size hP.2⟩
end Go.Proofs.YtjgaicdieddekaaDoor.PNumA
