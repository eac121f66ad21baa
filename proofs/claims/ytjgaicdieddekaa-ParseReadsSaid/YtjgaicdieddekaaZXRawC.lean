import Derived.Test.YtjgaicdieddekaaZXRawB
import Derived.Deep.LoopGhost
set_option linter.unusedVariables false
set_option linter.unusedSimpArgs false
namespace Go.Proofs.Ytjgaicdieddekaa.PParA
open Go.RowKit Go.Proofs.YtjgaicdieddekaaW.PrintWords Go.Proofs.YtjgaicdieddekaaW.PrintLast Go.Proofs.YtjgaicdieddekaaW.PrintMore Go.Proofs.YtjgaicdieddekaaX
/-- The reader at block g, its pairs, the line's tokens so far. -/
def Rb (w W : World) (g : Nat) (N : Int) (hd : Bool) (m : Int) (u : Value) (ps : List S40) (V : Value) (ls : List S50) : Prop :=
  W.heap[g]? = some (.cells #[.int .i64 N, u, .bool hd, .int .i64 m] 47 (0, 0)) ∧ Kd.R k40 40 W w.heap.size (fun k_ => k_ ≠ g ∧ some k_ ≠ V.ownBlock) u ps ∧ Kd.R k50 50 W w.heap.size (fun k_ => k_ ≠ g ∧ some k_ ≠ u.ownBlock) V ls ∧ Below w.heap.size w W
theorem Rd.rb {T : Nat × Array Value} {w W : World} {g : Nat} {N : Int} {hd : Bool} {m : Int} {u : Value} {ps : List S40} {V : Value} {ls : List S50} (h : Rd T w W g N hd m u ps V ls) : Rb w W g N hd m u ps V ls := ⟨h.1, h.2.1, h.2.2.1, h.2.2.2.1⟩
theorem Rb.rd {T : Nat × Array Value} {w W : World} {g : Nat} {N : Int} {hd : Bool} {m : Int} {u : Value} {ps : List S40} {V : Value} {ls : List S50} (h : Rb w W g N hd m u ps V ls) (hT : W.heap[T.1]? = some (.cells T.2 50 (0, 0))) (hn : T.1 ≠ g) : Rd T w W g N hd m u ps V ls := ⟨h.1, h.2.1, h.2.2.1, h.2.2.2, hT, hn⟩
theorem Rb.new (w : World) : Rb w (w.alloc (.cells #[.int .i64 0, .slice none 0 0, .bool false, .int .i64 0] 47)) w.heap.size 0 false 0 (.slice none 0 0) [] (.slice none 0 0) [] :=
  ⟨blk_new w _, Kd.R_nil _ _ _ _ _, Kd.R_nil _ _ _ _ _, below_alloc (Below.refl _ _) _⟩
theorem Rb.below {w W W1 : World} {g : Nat} {N : Int} {hd : Bool} {m : Int} {u : Value} {ps : List S40} {V : Value} {ls : List S50} (h : Rb w W g N hd m u ps V ls) (hb : Below W.heap.size W W1) : Rb w W1 g N hd m u ps V ls :=
  ⟨(hb.block g (blk_lt h.1)).trans h.1, Kd.R_below h.2.1 hb, Kd.R_below h.2.2.1 hb, below_then h.2.2.2 h.2.2.2.size hb⟩
/-- A new box is laid and filled. -/
theorem Rb.box {w W W1 : World} {g : Nat} {N : Int} {hd : Bool} {m : Int} {u : Value} {ps : List S40} {V : Value} {ls : List S50} (h : Rb w W g N hd m u ps V ls) {gb : Nat} (hg : gb = W.heap.size) (hb : Below W.heap.size W W1) (hbox : W1.heap[gb]? = some (.cells #[.int .i64 0, .int .i64 0, .int .i64 0, .int .i64 0] 50 (0, 0))) (a b c d : Value) :
    Rd (gb, #[a, b, c, d]) w ((((W1.setCell ⟨gb, 0, none⟩ a).setCell ⟨gb, 1, none⟩ b).setCell ⟨gb, 2, none⟩ c).setCell ⟨gb, 3, none⟩ d) g N hd m u ps V ls := by
  have hl := blk_lt h.1
  have hne : g ≠ gb := by omega
  have hz := h.2.2.2.size
  have hle : w.heap.size ≤ gb := by omega
  have q1 := Kd.R_below (Kd.R_elderB h.2.1 gb (Nat.le_of_eq hg.symm)) hb
  have q2 := Kd.R_below (Kd.R_elderB h.2.2.1 gb (Nat.le_of_eq hg.symm)) hb
  have h1 := h.below hb
  refine ⟨blk_far (blk_far (blk_far (blk_far h1.1 hne _) hne _) hne _) hne _, ?_, ?_, ?_, blk_put (blk_put (blk_put (blk_put hbox 0 _ rfl) 1 _ rfl) 2 _ rfl) 3 _ rfl, hne.symm⟩
  · exact Kd.R_mono (Kd.R_far (p := ⟨gb, 3, none⟩) (Kd.R_far (p := ⟨gb, 2, none⟩) (Kd.R_far (p := ⟨gb, 1, none⟩) (Kd.R_far (p := ⟨gb, 0, none⟩) q1 (fun _ hk => hk.2) a) (fun _ hk => hk.2) b) (fun _ hk => hk.2) c) (fun _ hk => hk.2) d) (fun _ hk => hk.1)
  · exact Kd.R_mono (Kd.R_far (p := ⟨gb, 3, none⟩) (Kd.R_far (p := ⟨gb, 2, none⟩) (Kd.R_far (p := ⟨gb, 1, none⟩) (Kd.R_far (p := ⟨gb, 0, none⟩) q2 (fun _ hk => hk.2) a) (fun _ hk => hk.2) b) (fun _ hk => hk.2) c) (fun _ hk => hk.2) d) (fun _ hk => hk.1)
  · exact below_set (below_set (below_set (below_set h1.2.2.2 hle) hle) hle) hle
/-- A new box of a fault is laid and filled. -/
theorem Rd.box {T : Nat × Array Value} {w W W1 : World} {g : Nat} {N : Int} {hd : Bool} {m : Int} {u : Value} {ps : List S40} {V : Value} {ls : List S50} (h : Rd T w W g N hd m u ps V ls) {gb : Nat} (hg : gb = W.heap.size) (hb : Below W.heap.size W W1) (hbox : W1.heap[gb]? = some (.cells #[.int .i64 0, .int .i64 0] 29 (0, 0))) (a b : Value) :
    Rd T w ((W1.setCell ⟨gb, 0, none⟩ a).setCell ⟨gb, 1, none⟩ b) g N hd m u ps V ls ∧ ((W1.setCell ⟨gb, 0, none⟩ a).setCell ⟨gb, 1, none⟩ b).heap[gb]? = some (.cells #[a, b] 29 (0, 0)) := by
  have hl := blk_lt h.1
  have hT := blk_lt h.2.2.2.2.1
  have hne : g ≠ gb := by omega
  have hnT : T.1 ≠ gb := by omega
  have hz := h.2.2.2.1.size
  have hle : w.heap.size ≤ gb := by omega
  have q1 := Kd.R_below (Kd.R_elderB h.2.1 gb (Nat.le_of_eq hg.symm)) hb
  have q2 := Kd.R_below (Kd.R_elderB h.2.2.1 gb (Nat.le_of_eq hg.symm)) hb
  have h1 := h.rb.below hb
  refine ⟨⟨blk_far (blk_far h1.1 hne _) hne _, ?_, ?_, ?_, blk_far (blk_far ((hb.block T.1 hT).trans h.2.2.2.2.1) hnT _) hnT _, h.2.2.2.2.2⟩, blk_put (blk_put hbox 0 _ rfl) 1 _ rfl⟩
  · exact Kd.R_mono (Kd.R_far (p := ⟨gb, 1, none⟩) (Kd.R_far (p := ⟨gb, 0, none⟩) q1 (fun _ hk => hk.2) a) (fun _ hk => hk.2) b) (fun _ hk => hk.1)
  · exact Kd.R_mono (Kd.R_far (p := ⟨gb, 1, none⟩) (Kd.R_far (p := ⟨gb, 0, none⟩) q2 (fun _ hk => hk.2) a) (fun _ hk => hk.2) b) (fun _ hk => hk.1)
  · exact below_set (below_set h1.2.2.2 hle) hle
end Go.Proofs.Ytjgaicdieddekaa.PParA
