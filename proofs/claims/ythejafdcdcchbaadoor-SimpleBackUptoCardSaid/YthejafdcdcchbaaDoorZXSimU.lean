-- By hand: a text's bytes, '[]byte(text)' made at the call.
import Derived.Test.YthejafdcdcchbaaDoorZPSimAx0
import Derived.Lib.ConvBytes
set_option linter.unusedVariables false
set_option linter.unusedSimpArgs false
namespace Go.Proofs.YthejafdcdcchbaaDoor.PSimA
open Go.RowKit Go.Proofs.YthejafdcdcchbaaDoorW.PrintWords Go.Proofs.YthejafdcdcchbaaDoorW.PrintLast Go.Proofs.YthejafdcdcchbaaDoorW.PrintMore Go.Proofs.YthejafdcdcchbaaDoorX
theorem bytesWorld_below (w : World) (e : TypeId) (s : ByteArray) : Below w.heap.size w (Lib.bytesWorld w e s) :=
  ⟨rfl, rfl, rfl, by rw [Lib.bytesWorld_size]; omega, fun i hi => Lib.bytesWorld_at_old w e s i hi⟩
theorem C_text (w : World) (s : ByteArray) (hs : s.size ≤ 140737488355328) : Kd.C (Kd.int .u8) (Lib.bytesWorld w 5 s) (some ⟨w.heap.size, 0, none⟩) (s.data.toList.map fun c => (c.toNat : Int)).length (s.data.toList.map fun c => (c.toNat : Int)) := by
  have hl : (s.data.toList.map fun c => (c.toNat : Int)).length = s.size := by rw [List.length_map]; rfl
  refine ⟨rfl, by rw [hl]; omega, fun _ => ⟨_, rfl, fun j p hj => ⟨[.int .u8 p], rfl, rfl, fun i u hu => ?_⟩⟩⟩
  have hi : i = 0 := by
    have := (List.getElem?_eq_some_iff.1 hu).1
    simp at this
    omega
  subst hi
  simp at hu
  subst hu
  have e : ((⟨w.heap.size, 0, none⟩ : Addr).add (j * 1 + 0)) = ⟨w.heap.size, j, none⟩ := by
    unfold Addr.add
    split
    · simp_all
    · simp
  have hj' : j < s.size := by
    have := (List.getElem?_eq_some_iff.1 hj).1
    rw [hl] at this
    exact this
  show (Lib.bytesWorld w 5 s).cell? ((⟨w.heap.size, 0, none⟩ : Addr).add (j * 1 + 0)) = _
  rw [e, Lib.bytesWorld_cell w _ s j hj']
  rw [List.getElem?_map] at hj
  have h2 : j < s.data.toList.length := hj'
  rw [List.getElem?_eq_getElem h2] at hj
  obtain rfl := Option.some.inj hj
  rw [List.getD_eq_getElem?_getD, List.getElem?_eq_getElem h2]
  rfl
/-- stores into the cells of an element of two, one by one -/
theorem setc2 (w : World) (g o : Nat) (a b : Value) : w.setCells g (o * k53.sz + 0) [a, b] = (w.setCell ⟨g, o * 2, none⟩ a).setCell ⟨g, o * 2 + 1, none⟩ b := rfl
theorem setc10 (w : World) (g o : Nat) (a : Value) : w.setCells g (o * k53.sz + 0) [a] = w.setCell ⟨g, o * 2, none⟩ a := rfl
theorem setc11 (w : World) (g o : Nat) (a : Value) : w.setCells g (o * k53.sz + 1) [a] = w.setCell ⟨g, o * 2 + 1, none⟩ a := rfl
end Go.Proofs.YthejafdcdcchbaaDoor.PSimA
