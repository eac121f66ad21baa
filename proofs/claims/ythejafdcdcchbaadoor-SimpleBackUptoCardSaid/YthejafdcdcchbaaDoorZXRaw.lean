import Derived.Test.YthejafdcdcchbaaDoorZXLineB
import Derived.Deep.LoopGhost
import Derived.Test.YthejafdcdcchbaaDoorZXParP
-- parse.Raw by hand: what it says ('rawF').
set_option linter.unusedVariables false
set_option linter.unusedSimpArgs false
namespace Go.Proofs.YthejafdcdcchbaaDoor.PSimA
open Go.RowKit Go.Proofs.YthejafdcdcchbaaDoorW.PrintWords Go.Proofs.YthejafdcdcchbaaDoorW.PrintLast Go.Proofs.YthejafdcdcchbaaDoorW.PrintMore Go.Proofs.YthejafdcdcchbaaDoorX
/-- N, the pairs, the fault, its place. -/
abbrev RawR := Int × List S53 × Int × Int
def finF (n : Int) (N : Int) (hd : Bool) (m : Int) (ps : List S53) : RawR :=
  if hd = false then (0, [], 20, n) else if (ps.length : Int) < m then (0, [], 25, n) else (N, ps, 0, 0)
/-- The tokens, one by one; ls: the line's so far. -/
def rawT (n : Int) : List S95 → List S95 → Int → Bool → Int → List S53 → RawR
  | [], ls, N, hd, m, ps => finF n N hd m ps
  | t :: ts, ls, N, hd, m, ps =>
    if t.f0 = 1 then rawT n ts (ls ++ [t]) N hd m ps
    else if 0 < ls.length then
      if (lineF N hd m ps ls).code ≠ 0 then (0, [], (lineF N hd m ps ls).code, (lineF N hd m ps ls).at_)
      else if t.f0 = 3 then finF n (lineF N hd m ps ls).N (lineF N hd m ps ls).hd (lineF N hd m ps ls).m (lineF N hd m ps ls).ps
      else rawT n ts [] (lineF N hd m ps ls).N (lineF N hd m ps ls).hd (lineF N hd m ps ls).m (lineF N hd m ps ls).ps
    else if t.f0 = 3 then finF n N hd m ps
    else rawT n ts ls N hd m ps
def rawF (l : List Int) : RawR :=
  if 16777216 < l.length then (0, [], 10, 16777216)
  else match scanF l with
    | .error ab => (0, [], ab.2, ab.1)
    | .ok ts => rawT l.length ts [] 0 false 0 []
def RawP (w w' : World) (e : Ending) (r : RawR) : Prop := ∃ v, e = .returned (.tuple #[.agg #[.int .i64 r.1, v], .agg #[.int .i64 r.2.2.1, .int .i64 r.2.2.2]]) ∧ Kd.R k53 53 w' w.heap.size (fun _ => True) v r.2.1 ∧ Below w.heap.size w w'
end Go.Proofs.YthejafdcdcchbaaDoor.PSimA

set_option linter.unusedVariables false
set_option linter.unusedSimpArgs false
namespace Go.Proofs.YthejafdcdcchbaaDoor.PSimA
open Go.RowKit Go.Proofs.YthejafdcdcchbaaDoorW.PrintWords Go.Proofs.YthejafdcdcchbaaDoorW.PrintLast Go.Proofs.YthejafdcdcchbaaDoorW.PrintMore Go.Proofs.YthejafdcdcchbaaDoorX
set_option maxHeartbeats 4000000 in
set_option maxRecDepth 100000 in
theorem raw_long {w : World} {A : Option Addr} {c : Nat} {l : List Int} (hC : Kd.C (Kd.int .u8) w A l.length l) (hl : l.length ≤ 140737488355328) (h : 16777216 < l.length) :
    Calls Tryd.prog 32 #[.slice A l.length c] w fun e w' => RawP w w' e (0, [], 10, 16777216) := by
  have h1 : decide (16777216 < l.length) = true := decide_eq_true h
  have h2 : decide ((16777216 : Int) < (l.length : Int)) = true := decide_eq_true (by omega)
  clear hC
  go_enter Tryd.func32, Tryd.ntmps32
  go_wp2
  go_step3
  go_wp2
  try rw [Exit.noGoto_ret]
  show bodyPost Tryd.prog Tryd.f32 (fun e w' => RawP w w' e (0, [], 10, 16777216)) Exit.ret _ _
  refine bodyPost_ret (v := .tuple #[.agg #[.int .i64 0, .slice none 0 0], .agg #[.int .i64 10, .int .i64 16777216]]) (by simp [results, Tryd.results32, go_sem]) rfl ⟨.slice none 0 0, rfl, Kd.R_nil _ _ _ _ _, below_alloc (below_alloc (Below.refl _ _) _) _⟩
set_option maxHeartbeats 4000000 in
set_option maxRecDepth 100000 in
theorem raw_err {w : World} {A : Option Addr} {c : Nat} {l : List Int} (hC : Kd.C (Kd.int .u8) w A l.length l) (hl : l.length ≤ 140737488355328) (h : ¬ 16777216 < l.length) (a b : Int) (hs : scanF l = .error (a, b)) (hb : b ≠ 0) :
    Calls Tryd.prog 32 #[.slice A l.length c] w fun e w' => RawP w w' e (0, [], b, a) := by
  have h1 : decide (16777216 < l.length) = false := decide_eq_false h
  have h2 : decide ((16777216 : Int) < (l.length : Int)) = false := decide_eq_false (by omega)
  have h3 : (b == 0) = false := beq_eq_false_iff_ne.mpr hb
  have h4 : (b != 0) = true := bne_iff_ne.mpr hb
  have HC := Aside0.mk hC
  have HS := Aside0.mk hs
  have HL := Aside0.mk hl
  clear hC hs hl h hb
  go_enter Tryd.func32, Tryd.ntmps32
  go_wp2
  go_step3
  go_upto_region 3 with fail
  obtain ⟨g1, hg1⟩ : ∃ g, w.heap.size = g := ⟨_, rfl⟩
  have A1 := below_alloc (Below.refl w.heap.size w) (Obj.cells #[Value.int IntKind.i64 0, Value.slice none 0 0] 58)
  have B1 := blk_new w (Obj.cells #[Value.int IntKind.i64 0, Value.slice none 0 0] 58)
  have S1 : (w.alloc (Obj.cells #[Value.int IntKind.i64 0, Value.slice none 0 0] 58)).heap.size = g1 + 1 := by rw [← hg1]; simp [go_sem]
  rw [hg1] at B1 ⊢
  generalize w.alloc (Obj.cells #[Value.int IntKind.i64 0, Value.slice none 0 0] 58) = w1 at A1 B1 S1 ⊢
  have A2 := below_alloc A1 (Obj.cells #[Value.int IntKind.i64 0, Value.int IntKind.i64 0] 60)
  have B2 := blk_new w1 (Obj.cells #[Value.int IntKind.i64 0, Value.int IntKind.i64 0] 60)
  have B12 := blk_alloc B1 (Obj.cells #[Value.int IntKind.i64 0, Value.int IntKind.i64 0] 60)
  have S2 : (w1.alloc (Obj.cells #[Value.int IntKind.i64 0, Value.int IntKind.i64 0] 60)).heap.size = g1 + 1 + 1 := by rw [← S1]; simp [go_sem]
  rw [S1] at B2
  generalize w1.alloc (Obj.cells #[Value.int IntKind.i64 0, Value.int IntKind.i64 0] 60) = w2 at A2 B2 B12 S2 ⊢
  have AA := Aside0.mk A2
  have BB1 := Aside0.mk B12
  have BB2 := Aside0.mk B2
  have SS := Aside0.mk S2
  have GG := Aside0.mk hg1
  clear A1 A2 B1 B2 B12 S1 S2 hg1
  go_upto_region 4 with (go_at_call 48; refine (scan_c (w := w2) (Kd.C_below HC.out AA.out) HL.out).mono ?_; rintro e w5 hP; rw [HS.out] at hP; obtain ⟨rfl, hb⟩ := hP; have HB := Aside0.mk hb; clear hb)
  have C1 : w5.heap[g1]? = some (.cells #[.int .i64 0, .slice none 0 0] 58 (0, 0)) := (HB.out.block g1 (by have := SS.out; omega)).trans BB1.out
  have C2 : w5.heap[g1 + 1]? = some (.cells #[.int .i64 0, .int .i64 0] 60 (0, 0)) := (HB.out.block (g1 + 1) (by have := SS.out; omega)).trans BB2.out
  have D := Aside0.mk (below_then AA.out AA.out.size HB.out)
  have z10 : w5.cell? ⟨g1, 0, none⟩ = some (.int .i64 0) := (blk_cell C1 0).trans rfl
  have z11 : w5.cell? ⟨g1, 1, none⟩ = some (.slice none 0 0) := (blk_cell C1 1).trans rfl
  have z20 : w5.cell? ⟨g1 + 1, 0, none⟩ = some (.int .i64 0) := (blk_cell C2 0).trans rfl
  have z21 : w5.cell? ⟨g1 + 1, 1, none⟩ = some (.int .i64 0) := (blk_cell C2 1).trans rfl
  have f10 := blk_frozen C1 0
  have f11 := blk_frozen C1 1
  have f20 := blk_frozen C2 0
  have f21 := blk_frozen C2 1
  have N12 : g1 ≠ g1 + 1 := by omega
  have M12 := Aside0.mk N12
  have E1 := Aside0.mk C1
  have E2 := Aside0.mk C2
  clear C1 C2
  go_wp2
  try rw [Exit.noGoto_ret]
  show bodyPost Tryd.prog Tryd.f32 (fun e w' => RawP w w' e (0, [], b, a)) Exit.ret _ _
  have F1 := blk_far (p := ⟨g1 + 1, 1, none⟩) (blk_far (p := ⟨g1 + 1, 0, none⟩) (blk_put (u := .slice none 0 0) (blk_put (u := .int .i64 0) E1.out 0 rfl) 1 rfl) M12.out (.int .i64 b)) M12.out (.int .i64 a)
  have F2 := blk_put (u := .int .i64 a) (blk_put (u := .int .i64 b) (blk_far (p := ⟨g1, 1, none⟩) (blk_far (p := ⟨g1, 0, none⟩) E2.out M12.out.symm (.int .i64 0)) M12.out.symm (.slice none 0 0)) 0 rfl) 1 rfl
  have y10 := (blk_cell F1 0).trans rfl
  have y11 := (blk_cell F1 1).trans rfl
  have y20 := (blk_cell F2 0).trans rfl
  have y21 := (blk_cell F2 1).trans rfl
  refine bodyPost_ret (v := .tuple #[.agg #[.int .i64 0, .slice none 0 0], .agg #[.int .i64 b, .int .i64 a]]) (by simp [results, Tryd.results32, go_sem, y10, y11, y20, y21]) rfl ⟨.slice none 0 0, rfl, Kd.R_nil _ _ _ _ _, ?_⟩
  exact below_set (below_set (below_set (below_set D.out (by have := GG.out; omega)) (by have := GG.out; omega)) (by have := GG.out; omega)) (by have := GG.out; omega)
end Go.Proofs.YthejafdcdcchbaaDoor.PSimA

set_option linter.unusedVariables false
set_option linter.unusedSimpArgs false
namespace Go.Proofs.YthejafdcdcchbaaDoor.PSimA
open Go.RowKit Go.Proofs.YthejafdcdcchbaaDoorW.PrintWords Go.Proofs.YthejafdcdcchbaaDoorW.PrintLast Go.Proofs.YthejafdcdcchbaaDoorW.PrintMore Go.Proofs.YthejafdcdcchbaaDoorX
/-- The reader at block g, its pairs, the line's tokens so far. -/
def Rb (w W : World) (g : Nat) (N : Int) (hd : Bool) (m : Int) (u : Value) (ps : List S53) (V : Value) (ls : List S95) : Prop :=
  W.heap[g]? = some (.cells #[.int .i64 N, u, .bool hd, .int .i64 m] 92 (0, 0)) ∧ Kd.R k53 53 W w.heap.size (fun k_ => k_ ≠ g ∧ some k_ ≠ V.ownBlock) u ps ∧ Kd.R k95 95 W w.heap.size (fun k_ => k_ ≠ g ∧ some k_ ≠ u.ownBlock) V ls ∧ Below w.heap.size w W
theorem Rd.rb {T : Nat × Array Value} {w W : World} {g : Nat} {N : Int} {hd : Bool} {m : Int} {u : Value} {ps : List S53} {V : Value} {ls : List S95} (h : Rd T w W g N hd m u ps V ls) : Rb w W g N hd m u ps V ls := ⟨h.1, h.2.1, h.2.2.1, h.2.2.2.1⟩
theorem Rb.rd {T : Nat × Array Value} {w W : World} {g : Nat} {N : Int} {hd : Bool} {m : Int} {u : Value} {ps : List S53} {V : Value} {ls : List S95} (h : Rb w W g N hd m u ps V ls) (hT : W.heap[T.1]? = some (.cells T.2 95 (0, 0))) (hn : T.1 ≠ g) : Rd T w W g N hd m u ps V ls := ⟨h.1, h.2.1, h.2.2.1, h.2.2.2, hT, hn⟩
theorem Rb.new (w : World) : Rb w (w.alloc (.cells #[.int .i64 0, .slice none 0 0, .bool false, .int .i64 0] 92)) w.heap.size 0 false 0 (.slice none 0 0) [] (.slice none 0 0) [] :=
  ⟨blk_new w _, Kd.R_nil _ _ _ _ _, Kd.R_nil _ _ _ _ _, below_alloc (Below.refl _ _) _⟩
theorem Rb.below {w W W1 : World} {g : Nat} {N : Int} {hd : Bool} {m : Int} {u : Value} {ps : List S53} {V : Value} {ls : List S95} (h : Rb w W g N hd m u ps V ls) (hb : Below W.heap.size W W1) : Rb w W1 g N hd m u ps V ls :=
  ⟨(hb.block g (blk_lt h.1)).trans h.1, Kd.R_below h.2.1 hb, Kd.R_below h.2.2.1 hb, below_then h.2.2.2 h.2.2.2.size hb⟩
/-- A new box is laid and filled. -/
theorem Rb.box {w W W1 : World} {g : Nat} {N : Int} {hd : Bool} {m : Int} {u : Value} {ps : List S53} {V : Value} {ls : List S95} (h : Rb w W g N hd m u ps V ls) {gb : Nat} (hg : gb = W.heap.size) (hb : Below W.heap.size W W1) (hbox : W1.heap[gb]? = some (.cells #[.int .i64 0, .int .i64 0, .int .i64 0, .int .i64 0] 95 (0, 0))) (a b c d : Value) :
    Rd (gb, #[a, b, c, d]) w ((((W1.setCell ⟨gb, 0, none⟩ a).setCell ⟨gb, 1, none⟩ b).setCell ⟨gb, 2, none⟩ c).setCell ⟨gb, 3, none⟩ d) g N hd m u ps V ls := by
  have hl := blk_lt h.1
  have hne : g ≠ gb := by omega
  have hz := h.2.2.2.size
  have hle : w.heap.size ≤ gb := by omega
  have q1 := Kd.R_below (Kd.R_elderB h.2.1 gb (Nat.le_of_eq hg.symm)) hb
  have q2 := Kd.R_below (Kd.R_elderB h.2.2.1 gb (Nat.le_of_eq hg.symm)) hb
  have h1 := h.below hb
  refine ⟨blk_far (blk_far (blk_far (blk_far h1.1 hne _) hne _) hne _) hne _, ?_, ?_, ?_, blk_put (blk_put (blk_put (blk_put hbox 0 _ rfl) 1 _ rfl) 2 _ rfl) 3 _ rfl, hne.symm⟩
  · exact Kd.R_mono (Kd.R_far (p := ⟨gb, 3, none⟩) (Kd.R_far (p := ⟨gb, 2, none⟩) (Kd.R_far (p := ⟨gb, 1, none⟩) (Kd.R_far (p := ⟨gb, 0, none⟩) q1 (fun _ hk => hk.2) a) (fun _ hk => hk.2) b) (fun _ hk => hk.2) c) (fun _ hk => hk.2) d) (fun _ hk => hk.1)
  · exact Kd.R_mono (Kd.R_far (p := ⟨gb, 3, none⟩) (Kd.R_far (p := ⟨gb, 2, none⟩) (Kd.R_far (p := ⟨gb, 1, none⟩) (Kd.R_far (p := ⟨gb, 0, none⟩) q2 (fun _ hk => hk.2) a) (fun _ hk => hk.2) b) (fun _ hk => hk.2) c) (fun _ hk => hk.2) d) (fun _ hk => hk.1)
  · exact below_set (below_set (below_set (below_set h1.2.2.2 hle) hle) hle) hle
/-- A new box of a fault is laid and filled. -/
theorem Rd.box {T : Nat × Array Value} {w W W1 : World} {g : Nat} {N : Int} {hd : Bool} {m : Int} {u : Value} {ps : List S53} {V : Value} {ls : List S95} (h : Rd T w W g N hd m u ps V ls) {gb : Nat} (hg : gb = W.heap.size) (hb : Below W.heap.size W W1) (hbox : W1.heap[gb]? = some (.cells #[.int .i64 0, .int .i64 0] 60 (0, 0))) (a b : Value) :
    Rd T w ((W1.setCell ⟨gb, 0, none⟩ a).setCell ⟨gb, 1, none⟩ b) g N hd m u ps V ls ∧ ((W1.setCell ⟨gb, 0, none⟩ a).setCell ⟨gb, 1, none⟩ b).heap[gb]? = some (.cells #[a, b] 60 (0, 0)) := by
  have hl := blk_lt h.1
  have hT := blk_lt h.2.2.2.2.1
  have hne : g ≠ gb := by omega
  have hnT : T.1 ≠ gb := by omega
  have hz := h.2.2.2.1.size
  have hle : w.heap.size ≤ gb := by omega
  have q1 := Kd.R_below (Kd.R_elderB h.2.1 gb (Nat.le_of_eq hg.symm)) hb
  have q2 := Kd.R_below (Kd.R_elderB h.2.2.1 gb (Nat.le_of_eq hg.symm)) hb
  have h1 := h.rb.below hb
  refine ⟨⟨blk_far (blk_far h1.1 hne _) hne _, ?_, ?_, ?_, blk_far (blk_far ((hb.block T.1 hT).trans h.2.2.2.2.1) hnT _) hnT _, h.2.2.2.2.2⟩, blk_put (blk_put hbox 0 _ rfl) 1 _ rfl⟩
  · exact Kd.R_mono (Kd.R_far (p := ⟨gb, 1, none⟩) (Kd.R_far (p := ⟨gb, 0, none⟩) q1 (fun _ hk => hk.2) a) (fun _ hk => hk.2) b) (fun _ hk => hk.1)
  · exact Kd.R_mono (Kd.R_far (p := ⟨gb, 1, none⟩) (Kd.R_far (p := ⟨gb, 0, none⟩) q2 (fun _ hk => hk.2) a) (fun _ hk => hk.2) b) (fun _ hk => hk.1)
  · exact below_set (below_set h1.2.2.2 hle) hle
end Go.Proofs.YthejafdcdcchbaaDoor.PSimA

set_option linter.unusedVariables false
set_option linter.unusedSimpArgs false
namespace Go.Proofs.YthejafdcdcchbaaDoor.PSimA
open Go.RowKit Go.Proofs.YthejafdcdcchbaaDoorW.PrintWords Go.Proofs.YthejafdcdcchbaaDoorW.PrintLast Go.Proofs.YthejafdcdcchbaaDoorW.PrintMore Go.Proofs.YthejafdcdcchbaaDoorX
theorem drop_rd (ts : List S95) (i : Nat) (h : i < ts.length) : ts.drop i = rd_T95 ts (i : Int) :: ts.drop (i + 1) := by
  rw [List.drop_eq_getElem_cons h]
  unfold rd_T95
  rw [Int.toNat_natCast, List.getD_eq_getElem?_getD, List.getElem?_eq_getElem h]
  rfl
theorem lineF_len (N : Int) (hd : Bool) (m : Int) (ps : List S53) (ls : List S95) : (lineF N hd m ps ls).ps.length ≤ ps.length + 1 := by
  unfold lineF
  repeat' split
  all_goals simp
set_option maxHeartbeats 4000000 in
set_option maxRecDepth 100000 in
theorem raw_ok {w : World} {A : Option Addr} {c : Nat} {l : List Int} (hC : Kd.C (Kd.int .u8) w A l.length l) (hl : l.length ≤ 140737488355328) (h : ¬ 16777216 < l.length) (ts : List S95) (hs : scanF l = .ok ts) (hn : ts.length ≤ 33554433) :
    Calls Tryd.prog 32 #[.slice A l.length c] w fun e w' => RawP w w' e (rawT l.length ts [] 0 false 0 []) := by
  have h1 : decide (16777216 < l.length) = false := decide_eq_false h
  have h2 : decide ((16777216 : Int) < (l.length : Int)) = false := decide_eq_false (by omega)
  have HC := Aside0.mk hC
  have HS := Aside0.mk hs
  have HL := Aside0.mk hl
  have HN := Aside0.mk hn
  obtain ⟨R, hR⟩ : ∃ R, rawT l.length ts [] 0 false 0 [] = R := ⟨_, rfl⟩
  rw [hR]
  have HR := Aside0.mk hR
  clear hC hs hl h hn hR
  go_enter Tryd.func32, Tryd.ntmps32
  go_wp2
  go_step3
  go_upto_region 3 with fail
  obtain ⟨g1, hg1⟩ : ∃ g, w.heap.size = g := ⟨_, rfl⟩
  have A1 := below_alloc (Below.refl w.heap.size w) (Obj.cells #[Value.int IntKind.i64 0, Value.slice none 0 0] 58)
  have B1 := blk_new w (Obj.cells #[Value.int IntKind.i64 0, Value.slice none 0 0] 58)
  have S1 : (w.alloc (Obj.cells #[Value.int IntKind.i64 0, Value.slice none 0 0] 58)).heap.size = g1 + 1 := by rw [← hg1]; simp [go_sem]
  rw [hg1] at B1 ⊢
  generalize w.alloc (Obj.cells #[Value.int IntKind.i64 0, Value.slice none 0 0] 58) = w1 at A1 B1 S1 ⊢
  have A2 := below_alloc A1 (Obj.cells #[Value.int IntKind.i64 0, Value.int IntKind.i64 0] 60)
  have B2 := blk_new w1 (Obj.cells #[Value.int IntKind.i64 0, Value.int IntKind.i64 0] 60)
  have B12 := blk_alloc B1 (Obj.cells #[Value.int IntKind.i64 0, Value.int IntKind.i64 0] 60)
  have S2 : (w1.alloc (Obj.cells #[Value.int IntKind.i64 0, Value.int IntKind.i64 0] 60)).heap.size = g1 + 1 + 1 := by rw [← S1]; simp [go_sem]
  rw [S1] at B2
  generalize w1.alloc (Obj.cells #[Value.int IntKind.i64 0, Value.int IntKind.i64 0] 60) = w2 at A2 B2 B12 S2 ⊢
  have AA := Aside0.mk A2
  have BB1 := Aside0.mk B12
  have BB2 := Aside0.mk B2
  have SS := Aside0.mk S2
  have GG := Aside0.mk hg1
  clear A1 A2 B1 B2 B12 S1 S2 hg1
  go_upto_region 4 with (go_at_call 48; refine (scan_c (w := w2) (Kd.C_below HC.out AA.out) HL.out).mono ?_; rintro e w5 hP; rw [HS.out] at hP; obtain ⟨v, rfl, hr, hb⟩ := hP; have HB := Aside0.mk hb; have TOK := Aside0.mk hr; obtain ⟨Ao, co, rfl⟩ := Kd.R_slice hr; clear hb hr)
  have C1 : Aside0 (w5.heap[g1]? = some (.cells #[.int .i64 0, .slice none 0 0] 58 (0, 0))) := ⟨(HB.out.block g1 (by have := SS.out; omega)).trans BB1.out⟩
  have C2 : Aside0 (w5.heap[g1 + 1]? = some (.cells #[.int .i64 0, .int .i64 0] 60 (0, 0))) := ⟨(HB.out.block (g1 + 1) (by have := SS.out; omega)).trans BB2.out⟩
  have D := Aside0.mk (below_then AA.out AA.out.size HB.out)
  have N12 : Aside0 (g1 ≠ g1 + 1) := ⟨by omega⟩
  clear BB1 BB2 AA HB
  go_upto_region 6 with fail
  go_upto_region 7 with fail
  have RB := Aside0.mk (Rb.new w5)
  obtain ⟨g3, hg3⟩ : ∃ g, w5.heap.size = g := ⟨_, rfl⟩
  rw [hg3] at RB ⊢
  have G3 := Aside0.mk hg3
  clear hg3
  generalize w5.alloc (Obj.cells #[Value.int IntKind.i64 0, Value.slice none 0 0, Value.bool false, Value.int IntKind.i64 0] 92) = w6 at RB ⊢
  go_wp2
  go_step3
  go_upto_block 0 with fail
  go_cut [] (fun wc => ∃ (N : Int) (hd : Bool) (m : Int) (u : Value) (ps : List S53) (V : Value) (ls : List S95), Aside0 (finF l.length N hd m ps = R) ∧ Aside0 (Rb w5 wc g3 N hd m u ps V ls))
  case first =>
    go_wp2
    go_loopg [8, 31] ts.length (fun kq v8 v31 w' => ∃ (i : Nat) (N : Int) (hd : Bool) (m : Int) (u : Value) (ps : List S53) (ls : List S95), v31 = .int .i64 (i : Int) ∧ Aside0 (rawT l.length (ts.drop i) ls N hd m ps = R) ∧ Aside0 (i + kq = ts.length ∧ ls.length ≤ i ∧ ps.length ≤ i) ∧ Aside0 (Rb w5 w' g3 N hd m u ps v8 ls))
    case atStart => exact ⟨0, 0, false, 0, .slice none 0 0, [], [], rfl, HR, ⟨by simp⟩, RB⟩
    case round =>
      obtain ⟨i, N, hd, m, u, ps, ls, rfl, HA, HK, RB⟩ := hrel
      obtain ⟨A8, c8, e8⟩ := Kd.R_slice RB.out.2.2.1
      subst e8
      by_cases hi : i < ts.length
      · have hi1 : decide ((i : Int) < (ts.length : Int)) = true := decide_eq_true (by omega)
        have hi2 : decide (i < ts.length) = true := decide_eq_true hi
        have hz := HA.out
        rw [drop_rd ts i hi] at hz
        obtain ⟨ad, ea, hx0, hx1, hx2, hx3⟩ := at_T95 (Kd.R_reads' (Kd.R_below TOK.out RB.out.2.2.2)).2.2 (i : Int) (by omega) (by omega)
        cases ea
        have hp := eq_true (show (0 : Int) ≤ (i : Int) by omega)
        have hq := eq_true (show (i : Int) < (ts.length : Int) by omega)
        generalize rd_T95 ts (i : Int) = t at hz hx0 hx1 hx2 hx3
        obtain ⟨t0, t1, t2, t3⟩ := t
        dsimp only at hx0 hx1 hx2 hx3
        rw [Int.toNat_natCast] at hx0 hx1 hx2 hx3
        rw [rawT] at hz
        dsimp only at hz
        have HI := Aside0.mk hi
        have hib : i < 33554433 := by have := HN.out; omega
        clear HA hi
        cases gk with
        | zero => exact absurd HK.out.1 (by have := HI.out; omega)
        | succ k1 =>
          by_cases c1 : t0 = 1
          · rw [if_pos c1] at hz
            have hd1 : (t0 == 1) = true := beq_iff_eq.mpr c1
            have hd2 : (t0 != 1) = false := bne_eq_false_iff_eq.mpr c1
            have HZ := Aside0.mk hz
            clear hz c1
            go_wp2_with (first | ((with_reducible refine gate_dst (N := 10) rfl ?_); refine be_ 10 #[.int .i64 0, .int .i64 0, .int .i64 0, .int .i64 0] 95 ?_; intro gb hg w7 hbox hb; have HG := Aside0.mk hg; have HBX := Aside0.mk hb; have BX := Aside0.mk hbox; have hcz0 := bc BX 0; have hcz1 := bc BX 1; have hcz2 := bc BX 2; have hcz3 := bc BX 3; have hfz0 := blk_frozen BX.out 0; have hfz1 := blk_frozen BX.out 1; have hfz2 := blk_frozen BX.out 2; have hfz3 := blk_frozen BX.out 3; clear hb hbox hg) | ((with_reducible refine gate_store (t := 95) (p := 10) rfl ?_); refine store_event (t := 95) (p := 10) (v := ?vo) (w1 := ((((w7.setCell ⟨gb, 0, none⟩ (.int .i64 t0)).setCell ⟨gb, 1, none⟩ (.int .i64 t1)).setCell ⟨gb, 2, none⟩ (.int .i64 t2)).setCell ⟨gb, 3, none⟩ (.int .i64 t3))) ?hg ?ho ?hn ?hr ?_; (case ho => rfl); (case hg => rfl); (case hn => rfl); (case hr => first | (go_simp; done) | (go_simp; rfl)); intro w8 hw; have RD : Aside0 (Rd (gb, #[.int .i64 t0, .int .i64 t1, .int .i64 t2, .int .i64 t3]) w5 w8 g3 N hd m u ps (.slice A8 ls.length c8) ls) := ⟨(by rw [hw]; exact Rb.box RB.out HG.out HBX.out BX.out _ _ _ _)⟩; clear hw hcz0 hcz1 hcz2 hcz3 hfz0 hfz1 hfz2 hfz3 BX HBX HG; have BT := Aside0.mk RD.out.2.2.2.2.1; have hc0 := bc BT 0; have hc1 := bc BT 1; have hc2 := bc BT 2; have hc3 := bc BT 3; have RBk := Aside0.mk RD.out.1; have RP := Aside0.mk RD.out.2.1; have RV := Aside0.mk RD.out.2.2.1; have RBel := Aside0.mk RD.out.2.2.2.1) | ((with_reducible refine gate_builtin (b := .append) (xs := #[.tmp 38, .tmp 40]) rfl ?_); at_builtin; refine Kd.R_append k95 (w0 := w5) w5.heap.size rfl (.tmp 38) (.tmp 40) 88 95 (.agg #[(.int .i64 0), (.int .i64 0), (.int .i64 0), (.int .i64 0)]) 32 rfl Tryd.underlying88 info95 rfl (by decide) (by omega) (.slice A8 ls.length c8) ls (⟨t0, t1, t2, t3⟩ : S95) [.int .i64 t0, .int .i64 t1, .int .i64 t2, .int .i64 t3] (fun k_ => k_ ≠ g3 ∧ some k_ ≠ u.ownBlock) (fun _ => False) rfl (by first | (go_simp; done) | (go_simp; rfl)) ?aP (fun _ hk => hk.elim) ?aF ?aO ?aB ?aS ?aL ?_; (case aP => exact k95_mkM _ _ _ (⟨t0, t1, t2, t3⟩ : S95)); (case aB => exact hb0 RBel); (case aF => exact (fun k_ hk => ⟨Kd.freshB (g := g3) (o := .cells #[.int .i64 N, u, .bool hd, .int .i64 m] 92 (0, 0)) (bx RBk) k_ hk, Kd.fresh' (Kd.R_lt (rx RP)) k_ hk⟩)); (case aO => exact rx RV); (case aS => exact (below_size (hb0 RBel))); (case aL => have := HK.out; have := HN.out; omega); intro v9 w9 ho hb hg hat; have n1 := Aside0.mk (blk_grown (bx RBk) hg (Kd.R_ne RV.out RBk.out (by decide))); have n2 := Aside0.mk (Kd.R_mono (Kd.R_apartR (Kd.R_over' (rx RP) (Kd.R_typed (rx RV)) (by decide) hg) ho (by decide)) (ok' := fun k_ => k_ ≠ g3 ∧ some k_ ≠ v9.ownBlock) (fun _ hk => ⟨hk.1.1, hk.2⟩)); have n3 := Aside0.mk ho; have n4 := Aside0.mk hb; clear ho hb hg hat))
            go_roundg k1
            case measure => omega
            case rel => exact ⟨i + 1, N, hd, m, u, ps, ls ++ [⟨t0, t1, t2, t3⟩], by go_num, HZ, ⟨by obtain ⟨e1, e2, e3⟩ := HK.out; rw [List.length_append, List.length_singleton]; exact ⟨by omega, by omega, by omega⟩⟩, ⟨n1.out, n2.out, n3.out, n4.out⟩⟩
          · rw [if_neg c1] at hz
            have hd1 : (t0 == 1) = false := beq_eq_false_iff_ne.mpr c1
            have hd2 : (t0 != 1) = true := bne_iff_ne.mpr c1
            clear c1
            by_cases c2 : 0 < ls.length
            · rw [if_pos c2] at hz
              have hl1 : decide (0 < ls.length) = true := decide_eq_true c2
              have hl2 : decide ((0 : Int) < (ls.length : Int)) = true := decide_eq_true (by omega)
              have HLP := Aside0.mk (lineF_len N hd m ps ls)
              obtain ⟨L, hL⟩ : ∃ L, lineF N hd m ps ls = L := ⟨_, rfl⟩
              rw [hL] at hz HLP
              obtain ⟨Lc, La, LN, Lh, Lm, Lp⟩ := L
              dsimp only at hz HLP
              have HL9 := Aside0.mk hL
              clear hL
              have C2' := Aside0.mk c2
              clear c2
              by_cases c4 : Lc = 0
              · rw [if_neg (by simp [c4])] at hz
                have hd4 : (Lc == 0) = true := beq_iff_eq.mpr c4
                have hd5 : (Lc != 0) = false := bne_eq_false_iff_eq.mpr c4
                clear c4
                have q5 : (0 : Int) ≤ (ls.length : Int) := by omega
                obtain ⟨i5, hi5, _, hsz5, _⟩ := info_parts info95
                have hcut5 := cut_to (P := Tryd.prog) 88 95 .i64 Tryd.underlying88 hi5 A8 ls.length c8 0 (by omega) q5 (Kd.R_reads' RB.out.2.2.1).2.1
                clear hi5 hsz5
                by_cases c3 : t0 = 3
                · rw [if_pos c3] at hz
                  have hd3 : (t0 == 3) = true := beq_iff_eq.mpr c3
                  have HZ := Aside0.mk hz
                  clear hz c3
                  go_wp2_with (first | ((with_reducible refine gate_dst (N := 10) rfl ?_); refine be_ 10 #[.int .i64 0, .int .i64 0, .int .i64 0, .int .i64 0] 95 ?_; intro gb hg w7 hbox hb; have HG := Aside0.mk hg; have HBX := Aside0.mk hb; have BX := Aside0.mk hbox; have hcz0 := bc BX 0; have hcz1 := bc BX 1; have hcz2 := bc BX 2; have hcz3 := bc BX 3; have hfz0 := blk_frozen BX.out 0; have hfz1 := blk_frozen BX.out 1; have hfz2 := blk_frozen BX.out 2; have hfz3 := blk_frozen BX.out 3; clear hb hbox hg) | ((with_reducible refine gate_store (t := 95) (p := 10) rfl ?_); refine store_event (t := 95) (p := 10) (v := ?vo) (w1 := ((((w7.setCell ⟨gb, 0, none⟩ (.int .i64 t0)).setCell ⟨gb, 1, none⟩ (.int .i64 t1)).setCell ⟨gb, 2, none⟩ (.int .i64 t2)).setCell ⟨gb, 3, none⟩ (.int .i64 t3))) ?hg ?ho ?hn ?hr ?_; (case ho => rfl); (case hg => rfl); (case hn => rfl); (case hr => first | (go_simp; done) | (go_simp; rfl)); intro w8 hw; have RD : Aside0 (Rd (gb, #[.int .i64 t0, .int .i64 t1, .int .i64 t2, .int .i64 t3]) w5 w8 g3 N hd m u ps (.slice A8 ls.length c8) ls) := ⟨(by rw [hw]; exact Rb.box RB.out HG.out HBX.out BX.out _ _ _ _)⟩; clear hw hcz0 hcz1 hcz2 hcz3 hfz0 hfz1 hfz2 hfz3 BX HBX HG; have BT := Aside0.mk RD.out.2.2.2.2.1; have hc0 := bc BT 0; have hc1 := bc BT 1; have hc2 := bc BT 2; have hc3 := bc BT 3; have RBk := Aside0.mk RD.out.1; have RP := Aside0.mk RD.out.2.1; have RV := Aside0.mk RD.out.2.2.1; have RBel := Aside0.mk RD.out.2.2.2.1; have hq0 := blk_frozen RBk.out 0) | (go_at_call 49; refine (line_c RD.out C2'.out (Nat.le_of_eq G3.out) (by have := HK.out; have := HN.out; omega) (by have := HK.out; have := HN.out; omega)).mono ?_; rintro e w9 hP; rw [HL9.out] at hP; obtain ⟨rfl, u', hQ⟩ := hP; have RQ := Aside0.mk hQ; clear hQ RD RBk RP RV RBel BT hc0 hc1 hc2 hc3 hq0) | ((with_reducible refine gate_dst (N := 11) rfl ?_); refine be_ 11 #[.int .i64 0, .int .i64 0] 60 ?_; intro gc hg w10 hbox hb; have HG := Aside0.mk hg; have HBX := Aside0.mk hb; have BX := Aside0.mk hbox; have hcz0 := bc BX 0; have hcz1 := bc BX 1; have hfz0 := blk_frozen BX.out 0; have hfz1 := blk_frozen BX.out 1; clear hb hbox hg) | ((with_reducible refine gate_store (t := 60) (p := 11) rfl ?_); refine store_event (t := 60) (p := 11) (v := ?vo2) (w1 := ((w10.setCell ⟨gc, 0, none⟩ (.int .i64 Lc)).setCell ⟨gc, 1, none⟩ (.int .i64 La))) ?hg ?ho ?hn ?hr ?_; (case ho => rfl); (case hg => rfl); (case hn => rfl); (case hr => first | (go_simp; done) | (go_simp; rfl)); intro w12 hw; have RX : Aside0 (Rd (gb, #[.int .i64 t0, .int .i64 t1, .int .i64 t2, .int .i64 t3]) w5 w12 g3 LN Lh Lm u' Lp (.slice A8 ls.length c8) ls ∧ w12.heap[gc]? = some (.cells #[.int .i64 Lc, .int .i64 La] 60 (0, 0))) := ⟨(by rw [hw]; exact Rd.box RQ.out HG.out HBX.out BX.out _ _)⟩; have GC : Aside0 (w5.heap.size ≤ gc) := ⟨(by rw [HG.out]; exact RQ.out.2.2.2.1.size)⟩; clear hw hcz0 hcz1 hfz0 hfz1 BX HBX HG RQ; have BT := Aside0.mk RX.out.1.2.2.2.2.1; have hc0 := bc BT 0; have hc1 := bc BT 1; have hc2 := bc BT 2; have hc3 := bc BT 3; have BC := Aside0.mk RX.out.2; have hr0 := bc BC 0; have hr1 := bc BC 1))
                  go_meet
                  case rel => exact ⟨LN, Lh, Lm, u', Lp, _, ls, HZ, ⟨RX.out.1.rb⟩⟩
                · rw [if_neg c3] at hz
                  have hd3 : (t0 == 3) = false := beq_eq_false_iff_ne.mpr c3
                  have HZ := Aside0.mk hz
                  clear hz c3
                  go_wp2_with (first | ((with_reducible refine gate_dst (N := 10) rfl ?_); refine be_ 10 #[.int .i64 0, .int .i64 0, .int .i64 0, .int .i64 0] 95 ?_; intro gb hg w7 hbox hb; have HG := Aside0.mk hg; have HBX := Aside0.mk hb; have BX := Aside0.mk hbox; have hcz0 := bc BX 0; have hcz1 := bc BX 1; have hcz2 := bc BX 2; have hcz3 := bc BX 3; have hfz0 := blk_frozen BX.out 0; have hfz1 := blk_frozen BX.out 1; have hfz2 := blk_frozen BX.out 2; have hfz3 := blk_frozen BX.out 3; clear hb hbox hg) | ((with_reducible refine gate_store (t := 95) (p := 10) rfl ?_); refine store_event (t := 95) (p := 10) (v := ?vo) (w1 := ((((w7.setCell ⟨gb, 0, none⟩ (.int .i64 t0)).setCell ⟨gb, 1, none⟩ (.int .i64 t1)).setCell ⟨gb, 2, none⟩ (.int .i64 t2)).setCell ⟨gb, 3, none⟩ (.int .i64 t3))) ?hg ?ho ?hn ?hr ?_; (case ho => rfl); (case hg => rfl); (case hn => rfl); (case hr => first | (go_simp; done) | (go_simp; rfl)); intro w8 hw; have RD : Aside0 (Rd (gb, #[.int .i64 t0, .int .i64 t1, .int .i64 t2, .int .i64 t3]) w5 w8 g3 N hd m u ps (.slice A8 ls.length c8) ls) := ⟨(by rw [hw]; exact Rb.box RB.out HG.out HBX.out BX.out _ _ _ _)⟩; clear hw hcz0 hcz1 hcz2 hcz3 hfz0 hfz1 hfz2 hfz3 BX HBX HG; have BT := Aside0.mk RD.out.2.2.2.2.1; have hc0 := bc BT 0; have hc1 := bc BT 1; have hc2 := bc BT 2; have hc3 := bc BT 3; have RBk := Aside0.mk RD.out.1; have RP := Aside0.mk RD.out.2.1; have RV := Aside0.mk RD.out.2.2.1; have RBel := Aside0.mk RD.out.2.2.2.1; have hq0 := blk_frozen RBk.out 0) | (go_at_call 49; refine (line_c RD.out C2'.out (Nat.le_of_eq G3.out) (by have := HK.out; have := HN.out; omega) (by have := HK.out; have := HN.out; omega)).mono ?_; rintro e w9 hP; rw [HL9.out] at hP; obtain ⟨rfl, u', hQ⟩ := hP; have RQ := Aside0.mk hQ; clear hQ RD RBk RP RV RBel BT hc0 hc1 hc2 hc3 hq0) | ((with_reducible refine gate_dst (N := 11) rfl ?_); refine be_ 11 #[.int .i64 0, .int .i64 0] 60 ?_; intro gc hg w10 hbox hb; have HG := Aside0.mk hg; have HBX := Aside0.mk hb; have BX := Aside0.mk hbox; have hcz0 := bc BX 0; have hcz1 := bc BX 1; have hfz0 := blk_frozen BX.out 0; have hfz1 := blk_frozen BX.out 1; clear hb hbox hg) | ((with_reducible refine gate_store (t := 60) (p := 11) rfl ?_); refine store_event (t := 60) (p := 11) (v := ?vo2) (w1 := ((w10.setCell ⟨gc, 0, none⟩ (.int .i64 Lc)).setCell ⟨gc, 1, none⟩ (.int .i64 La))) ?hg ?ho ?hn ?hr ?_; (case ho => rfl); (case hg => rfl); (case hn => rfl); (case hr => first | (go_simp; done) | (go_simp; rfl)); intro w12 hw; have RX : Aside0 (Rd (gb, #[.int .i64 t0, .int .i64 t1, .int .i64 t2, .int .i64 t3]) w5 w12 g3 LN Lh Lm u' Lp (.slice A8 ls.length c8) ls ∧ w12.heap[gc]? = some (.cells #[.int .i64 Lc, .int .i64 La] 60 (0, 0))) := ⟨(by rw [hw]; exact Rd.box RQ.out HG.out HBX.out BX.out _ _)⟩; have GC : Aside0 (w5.heap.size ≤ gc) := ⟨(by rw [HG.out]; exact RQ.out.2.2.2.1.size)⟩; clear hw hcz0 hcz1 hfz0 hfz1 BX HBX HG RQ; have BT := Aside0.mk RX.out.1.2.2.2.2.1; have hc0 := bc BT 0; have hc1 := bc BT 1; have hc2 := bc BT 2; have hc3 := bc BT 3; have BC := Aside0.mk RX.out.2; have hr0 := bc BC 0; have hr1 := bc BC 1))
                  go_roundg k1
                  case measure => omega
                  case rel => exact ⟨i + 1, LN, Lh, Lm, u', Lp, [], by go_num, HZ, ⟨by obtain ⟨e1, e2, e3⟩ := HK.out; have := HLP.out; exact ⟨by omega, by simp, by omega⟩⟩, ⟨RX.out.1.1, Kd.R_mono RX.out.1.2.1 (fun _ hk => by cases A8 <;> exact hk), by simpa using Kd.R_take (m := 0) RX.out.1.2.2.1 (by omega), RX.out.1.2.2.2.1⟩⟩
              · rw [if_pos c4] at hz
                have hd4 : (Lc == 0) = false := beq_eq_false_iff_ne.mpr c4
                have hd5 : (Lc != 0) = true := bne_iff_ne.mpr c4
                have HZ := Aside0.mk hz
                clear hz c4
                go_wp2_with (first | ((with_reducible refine gate_dst (N := 10) rfl ?_); refine be_ 10 #[.int .i64 0, .int .i64 0, .int .i64 0, .int .i64 0] 95 ?_; intro gb hg w7 hbox hb; have HG := Aside0.mk hg; have HBX := Aside0.mk hb; have BX := Aside0.mk hbox; have hcz0 := bc BX 0; have hcz1 := bc BX 1; have hcz2 := bc BX 2; have hcz3 := bc BX 3; have hfz0 := blk_frozen BX.out 0; have hfz1 := blk_frozen BX.out 1; have hfz2 := blk_frozen BX.out 2; have hfz3 := blk_frozen BX.out 3; clear hb hbox hg) | ((with_reducible refine gate_store (t := 95) (p := 10) rfl ?_); refine store_event (t := 95) (p := 10) (v := ?vo) (w1 := ((((w7.setCell ⟨gb, 0, none⟩ (.int .i64 t0)).setCell ⟨gb, 1, none⟩ (.int .i64 t1)).setCell ⟨gb, 2, none⟩ (.int .i64 t2)).setCell ⟨gb, 3, none⟩ (.int .i64 t3))) ?hg ?ho ?hn ?hr ?_; (case ho => rfl); (case hg => rfl); (case hn => rfl); (case hr => first | (go_simp; done) | (go_simp; rfl)); intro w8 hw; have RD : Aside0 (Rd (gb, #[.int .i64 t0, .int .i64 t1, .int .i64 t2, .int .i64 t3]) w5 w8 g3 N hd m u ps (.slice A8 ls.length c8) ls) := ⟨(by rw [hw]; exact Rb.box RB.out HG.out HBX.out BX.out _ _ _ _)⟩; clear hw hcz0 hcz1 hcz2 hcz3 hfz0 hfz1 hfz2 hfz3 BX HBX HG; have BT := Aside0.mk RD.out.2.2.2.2.1; have hc0 := bc BT 0; have hc1 := bc BT 1; have hc2 := bc BT 2; have hc3 := bc BT 3; have RBk := Aside0.mk RD.out.1; have RP := Aside0.mk RD.out.2.1; have RV := Aside0.mk RD.out.2.2.1; have RBel := Aside0.mk RD.out.2.2.2.1; have hq0 := blk_frozen RBk.out 0) | (go_at_call 49; refine (line_c RD.out C2'.out (Nat.le_of_eq G3.out) (by have := HK.out; have := HN.out; omega) (by have := HK.out; have := HN.out; omega)).mono ?_; rintro e w9 hP; rw [HL9.out] at hP; obtain ⟨rfl, u', hQ⟩ := hP; have RQ := Aside0.mk hQ; clear hQ RD RBk RP RV RBel BT hc0 hc1 hc2 hc3 hq0) | ((with_reducible refine gate_dst (N := 11) rfl ?_); refine be_ 11 #[.int .i64 0, .int .i64 0] 60 ?_; intro gc hg w10 hbox hb; have HG := Aside0.mk hg; have HBX := Aside0.mk hb; have BX := Aside0.mk hbox; have hcz0 := bc BX 0; have hcz1 := bc BX 1; have hfz0 := blk_frozen BX.out 0; have hfz1 := blk_frozen BX.out 1; clear hb hbox hg) | ((with_reducible refine gate_store (t := 60) (p := 11) rfl ?_); refine store_event (t := 60) (p := 11) (v := ?vo2) (w1 := ((w10.setCell ⟨gc, 0, none⟩ (.int .i64 Lc)).setCell ⟨gc, 1, none⟩ (.int .i64 La))) ?hg ?ho ?hn ?hr ?_; (case ho => rfl); (case hg => rfl); (case hn => rfl); (case hr => first | (go_simp; done) | (go_simp; rfl)); intro w12 hw; have RX : Aside0 (Rd (gb, #[.int .i64 t0, .int .i64 t1, .int .i64 t2, .int .i64 t3]) w5 w12 g3 LN Lh Lm u' Lp (.slice A8 ls.length c8) ls ∧ w12.heap[gc]? = some (.cells #[.int .i64 Lc, .int .i64 La] 60 (0, 0))) := ⟨(by rw [hw]; exact Rd.box RQ.out HG.out HBX.out BX.out _ _)⟩; have GC : Aside0 (w5.heap.size ≤ gc) := ⟨(by rw [HG.out]; exact RQ.out.2.2.2.1.size)⟩; clear hw hcz0 hcz1 hfz0 hfz1 BX HBX HG RQ; have BT := Aside0.mk RX.out.1.2.2.2.2.1; have hc0 := bc BT 0; have hc1 := bc BT 1; have hc2 := bc BT 2; have hc3 := bc BT 3; have BC := Aside0.mk RX.out.2; have hr0 := bc BC 0; have hr1 := bc BC 1))
                have D1 : Aside0 (w12.heap[g1]? = some (.cells #[.int .i64 0, .slice none 0 0] 58 (0, 0))) := ⟨(RX.out.1.2.2.2.1.block g1 (blk_lt C1.out)).trans C1.out⟩
                have D2 : Aside0 (w12.heap[g1 + 1]? = some (.cells #[.int .i64 0, .int .i64 0] 60 (0, 0))) := ⟨(RX.out.1.2.2.2.1.block (g1 + 1) (blk_lt C2.out)).trans C2.out⟩
                have HBE := Aside0.mk (below_drew1 (below_then D.out D.out.size RX.out.1.2.2.2.1))
                have NC : Aside0 (gc ≠ g1 ∧ gc ≠ g1 + 1) := ⟨by have := GC.out; have := blk_lt C1.out; omega, by have := GC.out; have := blk_lt C2.out; omega⟩
                replace D1 := bd D1
                replace D2 := bd D2
                replace BC := bd BC
                clear RX BT hc0 hc1 hc2 hc3 hr0 hr1
                refine start_ (n := 4) (S := fun w' => w'.cell? ⟨gc, 0, none⟩ = some (.int .i64 Lc) ∧ w'.cell? ⟨gc, 1, none⟩ = some (.int .i64 La)) (ds := []) (pf 0 4) (by kernel_rfl) rfl rfl ⟨bc BC 0, bc BC 1⟩ (fun hHeld => ?_)
                generalize w12.drew = w13 at D1 D2 BC HBE hHeld ⊢
                refine pure_ (i := 0) (N := some 50) (v := ?_) (a' := ?_) (pf 1 4) rfl rfl (by kernel_rfl) (fun _ _ _ h => h) (Or.inl ⟨by rfl, ?_⟩) ?_ ?_
                rotate_left
                · intro w'
                  go_simp
                  with_reducible rfl
                rotate_left
                · simp only [Act.put, List.setIfInBounds_toArray, List.set_cons_zero, List.set_cons_succ, i64_w, i32_w]
                  rfl
                refine take_ (i := 1) (N := some 51) (v := ?_) (a' := ?_) (pf 2 4) rfl rfl (by kernel_rfl) (fun _ _ _ h => h) (Or.inl ⟨by rfl, ?_⟩) hHeld ?_ ?_
                rotate_left
                · rintro w' ⟨s0, s1⟩
                  go_simp
                  with_reducible rfl
                rotate_left
                · simp only [Act.put, List.setIfInBounds_toArray, List.set_cons_zero, List.set_cons_succ, i64_w, i32_w]
                  rfl
                refine one_ (i := 2) (N := none) (pf 3 4) rfl rfl (by kernel_rfl) (by decide) (fun K hK => ?_)
                have s10 : w13.cell? ⟨g1, 0, none⟩ = some (.int .i64 0) := bc D1 0
                have s11 : w13.cell? ⟨g1, 1, none⟩ = some (.slice none 0 0) := bc D1 1
                have f10 := blk_frozen D1.out 0
                have f11 := blk_frozen D1.out 1
                refine skip_ (w1 := ?_) (by rfl) rfl ?_ ?_
                rotate_left
                · go_simp
                  rfl
                refine hK.out _ _ ⟨(cell_far (p := ⟨g1, _, none⟩) NC.out.1 _).trans ((cell_far (p := ⟨g1, _, none⟩) NC.out.1 _).trans hHeld.1), (cell_far (p := ⟨g1, _, none⟩) NC.out.1 _).trans ((cell_far (p := ⟨g1, _, none⟩) NC.out.1 _).trans hHeld.2)⟩ (fun hHeld => ?_)
                clear hK K
                refine one_ (i := 3) (N := none) (pf 4 4) rfl rfl (by kernel_rfl) (by decide) (fun K hK => ?_)
                have s20 : w13.cell? ⟨g1 + 1, 0, none⟩ = some (.int .i64 0) := bc D2 0
                have s21 : w13.cell? ⟨g1 + 1, 1, none⟩ = some (.int .i64 0) := bc D2 1
                have f20 := blk_frozen D2.out 0
                have f21 := blk_frozen D2.out 1
                refine skip_ (w1 := ?_) (by rfl) rfl ?_ ?_
                rotate_left
                · go_simp
                  rfl
                refine hK.out _ _ ⟨(cell_far (p := ⟨g1 + 1, _, none⟩) NC.out.2 _).trans ((cell_far (p := ⟨g1 + 1, _, none⟩) NC.out.2 _).trans hHeld.1), (cell_far (p := ⟨g1 + 1, _, none⟩) NC.out.2 _).trans ((cell_far (p := ⟨g1 + 1, _, none⟩) NC.out.2 _).trans hHeld.2)⟩ (fun hHeld => ?_)
                clear hK K
                refine done_ (by kernel_rfl) ?_
                go_wp2
                try rw [Exit.noGoto_ret]
                show bodyPost Tryd.prog Tryd.f32 (fun e w' => RawP w w' e R) Exit.ret _ _
                have F1 := blk_far (p := ⟨g1 + 1, 1, none⟩) (blk_far (p := ⟨g1 + 1, 0, none⟩) (blk_put (u := .slice none 0 0) (blk_put (u := .int .i64 0) D1.out 0 rfl) 1 rfl) N12.out (.int .i64 Lc)) N12.out (.int .i64 La)
                have F2 := blk_put (u := .int .i64 La) (blk_put (u := .int .i64 Lc) (blk_far (p := ⟨g1, 1, none⟩) (blk_far (p := ⟨g1, 0, none⟩) D2.out N12.out.symm (.int .i64 0)) N12.out.symm (.slice none 0 0)) 0 rfl) 1 rfl
                have y10 := (blk_cell F1 0).trans rfl
                have y11 := (blk_cell F1 1).trans rfl
                have y20 := (blk_cell F2 0).trans rfl
                have y21 := (blk_cell F2 1).trans rfl
                refine bodyPost_ret (v := .tuple #[.agg #[.int .i64 0, .slice none 0 0], .agg #[.int .i64 Lc, .int .i64 La]]) (by simp [results, Tryd.results32, go_sem, y10, y11, y20, y21]) rfl ⟨.slice none 0 0, by rw [← HZ.out], by rw [← HZ.out]; exact Kd.R_nil _ _ _ _ _, ?_⟩
                exact below_set (below_set (below_set (below_set HBE.out (by have := GG.out; omega)) (by have := GG.out; omega)) (by have := GG.out; omega)) (by have := GG.out; omega)
            · rw [if_neg c2] at hz
              have hl1 : decide (0 < ls.length) = false := decide_eq_false c2
              have hl2 : decide ((0 : Int) < (ls.length : Int)) = false := decide_eq_false (by omega)
              clear c2
              by_cases c3 : t0 = 3
              · rw [if_pos c3] at hz
                have hd3 : (t0 == 3) = true := beq_iff_eq.mpr c3
                have HZ := Aside0.mk hz
                clear hz c3
                go_wp2_with (first | ((with_reducible refine gate_dst (N := 10) rfl ?_); refine be_ 10 #[.int .i64 0, .int .i64 0, .int .i64 0, .int .i64 0] 95 ?_; intro gb hg w7 hbox hb; have HG := Aside0.mk hg; have HBX := Aside0.mk hb; have BX := Aside0.mk hbox; have hcz0 := bc BX 0; have hcz1 := bc BX 1; have hcz2 := bc BX 2; have hcz3 := bc BX 3; have hfz0 := blk_frozen BX.out 0; have hfz1 := blk_frozen BX.out 1; have hfz2 := blk_frozen BX.out 2; have hfz3 := blk_frozen BX.out 3; clear hb hbox hg) | ((with_reducible refine gate_store (t := 95) (p := 10) rfl ?_); refine store_event (t := 95) (p := 10) (v := ?vo) (w1 := ((((w7.setCell ⟨gb, 0, none⟩ (.int .i64 t0)).setCell ⟨gb, 1, none⟩ (.int .i64 t1)).setCell ⟨gb, 2, none⟩ (.int .i64 t2)).setCell ⟨gb, 3, none⟩ (.int .i64 t3))) ?hg ?ho ?hn ?hr ?_; (case ho => rfl); (case hg => rfl); (case hn => rfl); (case hr => first | (go_simp; done) | (go_simp; rfl)); intro w8 hw; have RD : Aside0 (Rd (gb, #[.int .i64 t0, .int .i64 t1, .int .i64 t2, .int .i64 t3]) w5 w8 g3 N hd m u ps (.slice A8 ls.length c8) ls) := ⟨(by rw [hw]; exact Rb.box RB.out HG.out HBX.out BX.out _ _ _ _)⟩; clear hw hcz0 hcz1 hcz2 hcz3 hfz0 hfz1 hfz2 hfz3 BX HBX HG; have BT := Aside0.mk RD.out.2.2.2.2.1; have hc0 := bc BT 0; have hc1 := bc BT 1; have hc2 := bc BT 2; have hc3 := bc BT 3; have RBk := Aside0.mk RD.out.1; have RP := Aside0.mk RD.out.2.1; have RV := Aside0.mk RD.out.2.2.1; have RBel := Aside0.mk RD.out.2.2.2.1))
                go_meet
                case rel => exact ⟨N, hd, m, u, ps, _, ls, HZ, ⟨RD.out.rb⟩⟩
              · rw [if_neg c3] at hz
                have hd3 : (t0 == 3) = false := beq_eq_false_iff_ne.mpr c3
                have HZ := Aside0.mk hz
                clear hz c3
                go_wp2_with (first | ((with_reducible refine gate_dst (N := 10) rfl ?_); refine be_ 10 #[.int .i64 0, .int .i64 0, .int .i64 0, .int .i64 0] 95 ?_; intro gb hg w7 hbox hb; have HG := Aside0.mk hg; have HBX := Aside0.mk hb; have BX := Aside0.mk hbox; have hcz0 := bc BX 0; have hcz1 := bc BX 1; have hcz2 := bc BX 2; have hcz3 := bc BX 3; have hfz0 := blk_frozen BX.out 0; have hfz1 := blk_frozen BX.out 1; have hfz2 := blk_frozen BX.out 2; have hfz3 := blk_frozen BX.out 3; clear hb hbox hg) | ((with_reducible refine gate_store (t := 95) (p := 10) rfl ?_); refine store_event (t := 95) (p := 10) (v := ?vo) (w1 := ((((w7.setCell ⟨gb, 0, none⟩ (.int .i64 t0)).setCell ⟨gb, 1, none⟩ (.int .i64 t1)).setCell ⟨gb, 2, none⟩ (.int .i64 t2)).setCell ⟨gb, 3, none⟩ (.int .i64 t3))) ?hg ?ho ?hn ?hr ?_; (case ho => rfl); (case hg => rfl); (case hn => rfl); (case hr => first | (go_simp; done) | (go_simp; rfl)); intro w8 hw; have RD : Aside0 (Rd (gb, #[.int .i64 t0, .int .i64 t1, .int .i64 t2, .int .i64 t3]) w5 w8 g3 N hd m u ps (.slice A8 ls.length c8) ls) := ⟨(by rw [hw]; exact Rb.box RB.out HG.out HBX.out BX.out _ _ _ _)⟩; clear hw hcz0 hcz1 hcz2 hcz3 hfz0 hfz1 hfz2 hfz3 BX HBX HG; have BT := Aside0.mk RD.out.2.2.2.2.1; have hc0 := bc BT 0; have hc1 := bc BT 1; have hc2 := bc BT 2; have hc3 := bc BT 3; have RBk := Aside0.mk RD.out.1; have RP := Aside0.mk RD.out.2.1; have RV := Aside0.mk RD.out.2.2.1; have RBel := Aside0.mk RD.out.2.2.2.1))
                go_roundg k1
                case measure => omega
                case rel => exact ⟨i + 1, N, hd, m, u, ps, ls, by go_num, HZ, ⟨by obtain ⟨e1, e2, e3⟩ := HK.out; exact ⟨by omega, by omega, by omega⟩⟩, ⟨RD.out.rb⟩⟩
      · have hi1 : decide ((i : Int) < (ts.length : Int)) = false := decide_eq_false (by omega)
        have hi2 : decide (i < ts.length) = false := decide_eq_false hi
        have hz := HA.out
        rw [List.drop_eq_nil_of_le (by omega), rawT] at hz
        have HZ := Aside0.mk hz
        clear hz HA hi
        go_wp2
        go_meet
        case rel => exact ⟨N, hd, m, u, ps, _, ls, HZ, RB⟩
  case rest =>
    obtain ⟨N, hd, m, u, ps, V, ls, HA, RB⟩ := hcut
    obtain ⟨Au, cu, eu⟩ := Kd.R_slice RB.out.2.1
    subst eu
    have D1 : Aside0 (wc.heap[g1]? = some (.cells #[.int .i64 0, .slice none 0 0] 58 (0, 0))) := ⟨(RB.out.2.2.2.block g1 (blk_lt C1.out)).trans C1.out⟩
    have D2 : Aside0 (wc.heap[g1 + 1]? = some (.cells #[.int .i64 0, .int .i64 0] 60 (0, 0))) := ⟨(RB.out.2.2.2.block (g1 + 1) (blk_lt C2.out)).trans C2.out⟩
    have BR := Aside0.mk RB.out.1
    have z10 : wc.cell? ⟨g1, 0, none⟩ = some (.int .i64 0) := bc D1 0
    have z11 : wc.cell? ⟨g1, 1, none⟩ = some (.slice none 0 0) := bc D1 1
    have z20 : wc.cell? ⟨g1 + 1, 0, none⟩ = some (.int .i64 0) := bc D2 0
    have z21 : wc.cell? ⟨g1 + 1, 1, none⟩ = some (.int .i64 0) := bc D2 1
    have f10 := blk_frozen D1.out 0
    have f11 := blk_frozen D1.out 1
    have f20 := blk_frozen D2.out 0
    have f21 := blk_frozen D2.out 1
    have q0 : wc.cell? ⟨g3, 0, none⟩ = some (.int .i64 N) := bc BR 0
    have q1 : wc.cell? ⟨g3, 1, none⟩ = some (.slice Au ps.length cu) := bc BR 1
    have q2 : wc.cell? ⟨g3, 2, none⟩ = some (.bool hd) := bc BR 2
    have q3 : wc.cell? ⟨g3, 3, none⟩ = some (.int .i64 m) := bc BR 3
    cases hd with
    | false =>
      replace HA := HA.out
      unfold finF at HA
      rw [if_pos rfl] at HA
      replace HA := Aside0.mk HA
      go_wp2
      try rw [Exit.noGoto_ret]
      show bodyPost Tryd.prog Tryd.f32 (fun e w' => RawP w w' e R) Exit.ret _ _
      have F1 := blk_far (p := ⟨g1 + 1, 1, none⟩) (blk_far (p := ⟨g1 + 1, 0, none⟩) (blk_put (u := .slice none 0 0) (blk_put (u := .int .i64 0) D1.out 0 rfl) 1 rfl) N12.out (.int .i64 20)) N12.out (.int .i64 (l.length : Int))
      have F2 := blk_put (u := .int .i64 (l.length : Int)) (blk_put (u := .int .i64 20) (blk_far (p := ⟨g1, 1, none⟩) (blk_far (p := ⟨g1, 0, none⟩) D2.out N12.out.symm (.int .i64 0)) N12.out.symm (.slice none 0 0)) 0 rfl) 1 rfl
      have y10 := (blk_cell F1 0).trans rfl
      have y11 := (blk_cell F1 1).trans rfl
      have y20 := (blk_cell F2 0).trans rfl
      have y21 := (blk_cell F2 1).trans rfl
      refine bodyPost_ret (v := .tuple #[.agg #[.int .i64 0, .slice none 0 0], .agg #[.int .i64 20, .int .i64 (l.length : Int)]]) (by simp [results, Tryd.results32, go_sem, y10, y11, y20, y21]) rfl ⟨.slice none 0 0, by rw [← HA.out], by rw [← HA.out]; exact Kd.R_nil _ _ _ _ _, ?_⟩
      exact below_set (below_set (below_set (below_set (below_then D.out D.out.size RB.out.2.2.2) (by have := GG.out; omega)) (by have := GG.out; omega)) (by have := GG.out; omega)) (by have := GG.out; omega)
    | true =>
      by_cases c1 : (ps.length : Int) < m
      · have c2 : decide ((ps.length : Int) < m) = true := decide_eq_true c1
        replace HA := HA.out
        unfold finF at HA
        rw [if_neg (by decide), if_pos c1] at HA
        replace HA := Aside0.mk HA
        clear c1
        go_wp2
        try rw [Exit.noGoto_ret]
        show bodyPost Tryd.prog Tryd.f32 (fun e w' => RawP w w' e R) Exit.ret _ _
        have F1 := blk_far (p := ⟨g1 + 1, 1, none⟩) (blk_far (p := ⟨g1 + 1, 0, none⟩) (blk_put (u := .slice none 0 0) (blk_put (u := .int .i64 0) D1.out 0 rfl) 1 rfl) N12.out (.int .i64 25)) N12.out (.int .i64 (l.length : Int))
        have F2 := blk_put (u := .int .i64 (l.length : Int)) (blk_put (u := .int .i64 25) (blk_far (p := ⟨g1, 1, none⟩) (blk_far (p := ⟨g1, 0, none⟩) D2.out N12.out.symm (.int .i64 0)) N12.out.symm (.slice none 0 0)) 0 rfl) 1 rfl
        have y10 := (blk_cell F1 0).trans rfl
        have y11 := (blk_cell F1 1).trans rfl
        have y20 := (blk_cell F2 0).trans rfl
        have y21 := (blk_cell F2 1).trans rfl
        refine bodyPost_ret (v := .tuple #[.agg #[.int .i64 0, .slice none 0 0], .agg #[.int .i64 25, .int .i64 (l.length : Int)]]) (by simp [results, Tryd.results32, go_sem, y10, y11, y20, y21]) rfl ⟨.slice none 0 0, by rw [← HA.out], by rw [← HA.out]; exact Kd.R_nil _ _ _ _ _, ?_⟩
        exact below_set (below_set (below_set (below_set (below_then D.out D.out.size RB.out.2.2.2) (by have := GG.out; omega)) (by have := GG.out; omega)) (by have := GG.out; omega)) (by have := GG.out; omega)
      · have c2 : decide ((ps.length : Int) < m) = false := decide_eq_false c1
        replace HA := HA.out
        unfold finF at HA
        rw [if_neg (by decide), if_neg c1] at HA
        replace HA := Aside0.mk HA
        clear c1
        go_wp2
        try rw [Exit.noGoto_ret]
        show bodyPost Tryd.prog Tryd.f32 (fun e w' => RawP w w' e R) Exit.ret _ _
        have F1 := blk_far (p := ⟨g1 + 1, 1, none⟩) (blk_far (p := ⟨g1 + 1, 0, none⟩) (blk_put (u := .slice Au ps.length cu) (blk_put (u := .int .i64 N) D1.out 0 rfl) 1 rfl) N12.out (.int .i64 0)) N12.out (.int .i64 0)
        have F2 := blk_put (u := .int .i64 0) (blk_put (u := .int .i64 0) (blk_far (p := ⟨g1, 1, none⟩) (blk_far (p := ⟨g1, 0, none⟩) D2.out N12.out.symm (.int .i64 N)) N12.out.symm (.slice Au ps.length cu)) 0 rfl) 1 rfl
        have y10 := (blk_cell F1 0).trans rfl
        have y11 := (blk_cell F1 1).trans rfl
        have y20 := (blk_cell F2 0).trans rfl
        have y21 := (blk_cell F2 1).trans rfl
        refine bodyPost_ret (v := .tuple #[.agg #[.int .i64 N, .slice Au ps.length cu], .agg #[.int .i64 0, .int .i64 0]]) (by simp [results, Tryd.results32, go_sem, y10, y11, y20, y21]) rfl ⟨.slice Au ps.length cu, by rw [← HA.out], by rw [← HA.out]; exact Kd.R_lower (Kd.R_mono (Kd.R_far (p := ⟨g1 + 1, 1, none⟩) (Kd.R_far (p := ⟨g1 + 1, 0, none⟩) (Kd.R_far (p := ⟨g1, 1, none⟩) (Kd.R_far (p := ⟨g1, 0, none⟩) (Kd.R_types (Kd.R_types RB.out.2.1 D1.out (by decide)) D2.out (by decide)) (fun _ hk => hk.1.2) (.int .i64 N)) (fun _ hk => hk.1.2) (.slice Au ps.length cu)) (fun _ hk => hk.2) (.int .i64 0)) (fun _ hk => hk.2) (.int .i64 0)) (fun _ hk => trivial)) D.out.size, ?_⟩
        exact below_set (below_set (below_set (below_set (below_then D.out D.out.size RB.out.2.2.2) (by have := GG.out; omega)) (by have := GG.out; omega)) (by have := GG.out; omega)) (by have := GG.out; omega)

end Go.Proofs.YthejafdcdcchbaaDoor.PSimA

set_option linter.unusedVariables false
set_option linter.unusedSimpArgs false
namespace Go.Proofs.YthejafdcdcchbaaDoor.PSimA
open Go.RowKit Go.Proofs.YthejafdcdcchbaaDoorW.PrintWords Go.Proofs.YthejafdcdcchbaaDoorW.PrintLast Go.Proofs.YthejafdcdcchbaaDoorW.PrintMore Go.Proofs.YthejafdcdcchbaaDoorX
theorem raw_c {w : World} {A : Option Addr} {c : Nat} {l : List Int} (hC : Kd.C (Kd.int .u8) w A l.length l) (hl : l.length ≤ 140737488355328) :
    Calls Tryd.prog 32 #[.slice A l.length c] w fun e w' => RawP w w' e (rawF l) := by
  unfold rawF
  by_cases h : 16777216 < l.length
  · rw [if_pos h]; exact raw_long hC hl h
  · rw [if_neg h]
    have hs := scanF_eq l (by omega)
    cases hR : scanF l with
    | error ab => obtain ⟨a, b⟩ := ab; exact raw_err hC hl h a b hR (scn_code l _ 0 (Nat.le_refl _) (by omega) _ (hs.symm.trans hR))
    | ok ts =>
      have := scn_len l _ 0 ts (Nat.le_refl _) (by omega) (hs.symm.trans hR)
      exact raw_ok hC hl h ts hR (by omega)
end Go.Proofs.YthejafdcdcchbaaDoor.PSimA
