-- Own words: shorter faces of what the print says again and again.
import Derived.Test.YthfoliejhdpbaaaV
import Derived.WalkKit
import Derived.KernelRfl
set_option linter.unusedVariables false
namespace Go.Proofs.YthfoliejhdpbaaaX
open Go.RowKit Go.Proofs.YthfoliejhdpbaaaW.PrintWords Go.Proofs.YthfoliejhdpbaaaW.PrintLast Go.Proofs.YthfoliejhdpbaaaW.PrintMore
abbrev T_ : Bool := true
abbrev F_ : Bool := false
class MemL (g : Nat) (gs : List Nat) : Prop where
  out : g ∈ gs
instance memHead (g : Nat) (gs : List Nat) : MemL g (g :: gs) := ⟨List.mem_cons_self⟩
instance memTail (g h : Nat) (gs : List Nat) [m : MemL g gs] : MemL g (h :: gs) := ⟨List.mem_cons_of_mem _ m.out⟩
class Wb (gs : List Nat) (w w' : World) : Prop where
  os : w'.os = w.os
  tape : w'.tape = w.tape
  output : w'.output = w.output
  size : w.heap.size ≤ w'.heap.size
  block : ∀ i, i < w.heap.size → i ∉ gs → w'.heap[i]? = w.heap[i]?
instance wbRefl (gs : List Nat) (w : World) : Wb gs w w := ⟨rfl, rfl, rfl, Nat.le_refl _, fun _ _ _ => rfl⟩
instance wbAlloc (gs : List Nat) (w v : World) (o : Obj) [h : Wb gs w v] : Wb gs w (v.alloc o) :=
  ⟨h.os, h.tape, h.output, Nat.le_trans h.size (Below.refl _ v |>.alloc (Nat.le_refl _) o).size, fun i hi hg => ((Below.heap_alloc v o i (Nat.lt_of_lt_of_le hi h.size))).trans (h.block i hi hg)⟩
instance wbDrewN (gs : List Nat) (w v : World) (n : Nat) [h : Wb gs w v] : Wb gs w (v.drewN n) := ⟨h.os, h.tape, h.output, h.size, h.block⟩
instance wbDrew (gs : List Nat) (w v : World) [h : Wb gs w v] : Wb gs w v.drew := ⟨h.os, h.tape, h.output, h.size, h.block⟩
instance wbSet (gs : List Nat) (w v : World) (g : Nat) (j : Nat) (x : Value) [h : Wb gs w v] [m : MemL g gs] : Wb gs w (v.setCell ⟨g, j, none⟩ x) :=
  have b : Below g v (v.setCell ⟨g, j, none⟩ x) := Below.setCell (p := ⟨g, j, none⟩) (Below.refl _ v) (Nat.le_refl _) x
  ⟨b.os.trans h.os, b.tape.trans h.tape, b.output.trans h.output, Nat.le_trans h.size b.size, fun i hi hg => (Below.heap_setCell v ⟨g, j, none⟩ x i (fun e => hg (by rw [e]; exact m.out))).trans (h.block i hi hg)⟩
def pf (i n : Nat) : Array Bool := ⟨List.replicate i true ++ List.replicate (n - i) false⟩
class Bp (g : Nat) (t : TypeId) (cs : Array Value) (w w' : World) (cs' : outParam (Array Value)) : Prop where
  out : w.heap[g]? = some (.cells cs t (0, 0)) → w'.heap[g]? = some (.cells cs' t (0, 0))
instance bpRefl (g : Nat) (t : TypeId) (cs : Array Value) (w : World) : Bp g t cs w w cs := ⟨id⟩
instance bpAlloc (g : Nat) (t : TypeId) (cs c1 : Array Value) (w v : World) (o : Obj) [h : Bp g t cs w v c1] : Bp g t cs w (v.alloc o) c1 := ⟨fun x => blk_alloc (h.out x) o⟩
instance bpDrewN (g : Nat) (t : TypeId) (cs c1 : Array Value) (w v : World) (n : Nat) [h : Bp g t cs w v c1] : Bp g t cs w (v.drewN n) c1 := ⟨fun x => blk_drewN (h.out x) n⟩
instance bpDrew (g : Nat) (t : TypeId) (cs c1 : Array Value) (w v : World) [h : Bp g t cs w v c1] : Bp g t cs w v.drew c1 := ⟨fun x => blk_drew (h.out x)⟩
instance bpSet (g : Nat) (t : TypeId) (cs c1 : Array Value) (w v : World) (i : Nat) (u : Value) [h : Bp g t cs w v c1] : Bp g t cs w (v.setCell ⟨g, i, none⟩ u) (c1.setIfInBounds i u) := ⟨fun x => blk_put (h.out x) i u rfl⟩
theorem bp {g : Nat} {t : TypeId} {cs c1 c2 : Array Value} {w w' : World} (h : Aside0 (w.heap[g]? = some (.cells cs t (0, 0)))) [i : Bp g t cs w w' c1] (e : c1 = c2 := by rfl) : w'.heap[g]? = some (.cells c2 t (0, 0)) := e ▸ i.out h.out
section
variable {P : Program} {ops : Array Oper} {Q : Exit → Act → World → Prop} {md : Region.Mode} {S : World → Prop} {ds : List Nat}
theorem pu_ (i : Nat) (N : Option Tmp) (l' : Array Bool) {T : Bool × List (List Nat × List Nat)} (HT : Aside0 (rtab md ops = T)) {oi : Oper} {v : Value} {fuel : Nat} {l : Array Bool} {a : Act} {w : World} {a' : Act}
    (h : wpAnyLast P md ops Q S ds fuel l' a' w) (hi : ops[i]? = some oi := by rfl) (hN : oi.dst = N := by rfl) (hc : anyT T l.toList l'.toList i = true := by kernel_rfl) (hQ : ∀ c a w, Q (.panic c) (a.put oi.dst v) w → Q (.panic c) a w := by exact fun _ _ _ h => h)
    (hg : Region.wanted oi (yielded ops a.tmps) = true := by rfl) (hy : ∀ w', (execOp a.eval oi).run P w' = .ok (.value v) w' := by (intro w'; go_simp; with_reducible rfl)) (ha : a.put N v = a' := by (simp only [Act.put, List.setIfInBounds_toArray, List.set_cons_zero, List.set_cons_succ, i64_w, i32_w]; rfl)) : wpAnyLast P md ops Q S ds (fuel + 1) l a w :=
  pure_ l' hi hN (any_of HT.out hc) hQ (Or.inl ⟨hg, hy⟩) ha h
theorem tk2_ (i : Nat) (N : Option Tmp) (l' : Array Bool) {T : Bool × List (List Nat × List Nat)} {B : List Nat} (HT : Aside0 (rtab md ops = T)) (HW : Aside0 (waitsOk T.2 B = true)) {oi : Oper} {v : Value} {fuel : Nat} {l : Array Bool} {a : Act} {w : World} (hS : S w) {a' : Act}
    (h : wpAnyLast P md ops Q S ds fuel l' a' w) (hi : ops[i]? = some oi := by rfl) (hN : oi.dst = N := by rfl) (hc : takeW T B ds l.toList l'.toList i = true := by kernel_rfl) (hQ : ∀ c a w, Q (.panic c) (a.put oi.dst v) w → Q (.panic c) a w := by exact fun _ _ _ h => h)
    (hg : Region.wanted oi (yielded ops a.tmps) = true := by rfl) (hy : ∀ w', S w' → (execOp a.eval oi).run P w' = .ok (.value v) w' := by (rintro w' ⟨s0, s1⟩; go_simp; with_reducible rfl)) (ha : a.put N v = a' := by (simp only [Act.put, List.setIfInBounds_toArray, List.set_cons_zero, List.set_cons_succ, i64_w, i32_w]; rfl)) : wpAnyLast P md ops Q S ds (fuel + 1) l a w :=
  take_ l' hi hN (take_ofW HT.out HW.out hc) hQ (Or.inl ⟨hg, hy⟩) hS ha h
theorem tk3_ (i : Nat) (N : Option Tmp) (l' : Array Bool) {T : Bool × List (List Nat × List Nat)} {B : List Nat} (HT : Aside0 (rtab md ops = T)) (HW : Aside0 (waitsOk T.2 B = true)) {oi : Oper} {v : Value} {fuel : Nat} {l : Array Bool} {a : Act} {w : World} (hS : S w) {a' : Act}
    (h : wpAnyLast P md ops Q S ds fuel l' a' w) (hi : ops[i]? = some oi := by rfl) (hN : oi.dst = N := by rfl) (hc : takeW T B ds l.toList l'.toList i = true := by kernel_rfl) (hQ : ∀ c a w, Q (.panic c) (a.put oi.dst v) w → Q (.panic c) a w := by exact fun _ _ _ h => h)
    (hg : Region.wanted oi (yielded ops a.tmps) = true := by rfl) (hy : ∀ w', S w' → (execOp a.eval oi).run P w' = .ok (.value v) w' := by (rintro w' ⟨s0, s1, s2⟩; go_simp; with_reducible rfl)) (ha : a.put N v = a' := by (simp only [Act.put, List.setIfInBounds_toArray, List.set_cons_zero, List.set_cons_succ, i64_w, i32_w]; rfl)) : wpAnyLast P md ops Q S ds (fuel + 1) l a w :=
  take_ l' hi hN (take_ofW HT.out HW.out hc) hQ (Or.inl ⟨hg, hy⟩) hS ha h
theorem tk4_ (i : Nat) (N : Option Tmp) (l' : Array Bool) {T : Bool × List (List Nat × List Nat)} {B : List Nat} (HT : Aside0 (rtab md ops = T)) (HW : Aside0 (waitsOk T.2 B = true)) {oi : Oper} {v : Value} {fuel : Nat} {l : Array Bool} {a : Act} {w : World} (hS : S w) {a' : Act}
    (h : wpAnyLast P md ops Q S ds fuel l' a' w) (hi : ops[i]? = some oi := by rfl) (hN : oi.dst = N := by rfl) (hc : takeW T B ds l.toList l'.toList i = true := by kernel_rfl) (hQ : ∀ c a w, Q (.panic c) (a.put oi.dst v) w → Q (.panic c) a w := by exact fun _ _ _ h => h)
    (hg : Region.wanted oi (yielded ops a.tmps) = true := by rfl) (hy : ∀ w', S w' → (execOp a.eval oi).run P w' = .ok (.value v) w' := by (rintro w' ⟨s0, s1, s2, s3⟩; go_simp; with_reducible rfl)) (ha : a.put N v = a' := by (simp only [Act.put, List.setIfInBounds_toArray, List.set_cons_zero, List.set_cons_succ, i64_w, i32_w]; rfl)) : wpAnyLast P md ops Q S ds (fuel + 1) l a w :=
  take_ l' hi hN (take_ofW HT.out HW.out hc) hQ (Or.inl ⟨hg, hy⟩) hS ha h
theorem tk6_ (i : Nat) (N : Option Tmp) (l' : Array Bool) {T : Bool × List (List Nat × List Nat)} {B : List Nat} (HT : Aside0 (rtab md ops = T)) (HW : Aside0 (waitsOk T.2 B = true)) {oi : Oper} {v : Value} {fuel : Nat} {l : Array Bool} {a : Act} {w : World} (hS : S w) {a' : Act}
    (h : wpAnyLast P md ops Q S ds fuel l' a' w) (hi : ops[i]? = some oi := by rfl) (hN : oi.dst = N := by rfl) (hc : takeW T B ds l.toList l'.toList i = true := by kernel_rfl) (hQ : ∀ c a w, Q (.panic c) (a.put oi.dst v) w → Q (.panic c) a w := by exact fun _ _ _ h => h)
    (hg : Region.wanted oi (yielded ops a.tmps) = true := by rfl) (hy : ∀ w', S w' → (execOp a.eval oi).run P w' = .ok (.value v) w' := by (rintro w' ⟨s0, s1, s2, s3, s4, s5⟩; go_simp; with_reducible rfl)) (ha : a.put N v = a' := by (simp only [Act.put, List.setIfInBounds_toArray, List.set_cons_zero, List.set_cons_succ, i64_w, i32_w]; rfl)) : wpAnyLast P md ops Q S ds (fuel + 1) l a w :=
  take_ l' hi hN (take_ofW HT.out HW.out hc) hQ (Or.inl ⟨hg, hy⟩) hS ha h
theorem tk8_ (i : Nat) (N : Option Tmp) (l' : Array Bool) {T : Bool × List (List Nat × List Nat)} {B : List Nat} (HT : Aside0 (rtab md ops = T)) (HW : Aside0 (waitsOk T.2 B = true)) {oi : Oper} {v : Value} {fuel : Nat} {l : Array Bool} {a : Act} {w : World} (hS : S w) {a' : Act}
    (h : wpAnyLast P md ops Q S ds fuel l' a' w) (hi : ops[i]? = some oi := by rfl) (hN : oi.dst = N := by rfl) (hc : takeW T B ds l.toList l'.toList i = true := by kernel_rfl) (hQ : ∀ c a w, Q (.panic c) (a.put oi.dst v) w → Q (.panic c) a w := by exact fun _ _ _ h => h)
    (hg : Region.wanted oi (yielded ops a.tmps) = true := by rfl) (hy : ∀ w', S w' → (execOp a.eval oi).run P w' = .ok (.value v) w' := by (rintro w' ⟨s0, s1, s2, s3, s4, s5, s6, s7⟩; go_simp; with_reducible rfl)) (ha : a.put N v = a' := by (simp only [Act.put, List.setIfInBounds_toArray, List.set_cons_zero, List.set_cons_succ, i64_w, i32_w]; rfl)) : wpAnyLast P md ops Q S ds (fuel + 1) l a w :=
  take_ l' hi hN (take_ofW HT.out HW.out hc) hQ (Or.inl ⟨hg, hy⟩) hS ha h
theorem tk12_ (i : Nat) (N : Option Tmp) (l' : Array Bool) {T : Bool × List (List Nat × List Nat)} {B : List Nat} (HT : Aside0 (rtab md ops = T)) (HW : Aside0 (waitsOk T.2 B = true)) {oi : Oper} {v : Value} {fuel : Nat} {l : Array Bool} {a : Act} {w : World} (hS : S w) {a' : Act}
    (h : wpAnyLast P md ops Q S ds fuel l' a' w) (hi : ops[i]? = some oi := by rfl) (hN : oi.dst = N := by rfl) (hc : takeW T B ds l.toList l'.toList i = true := by kernel_rfl) (hQ : ∀ c a w, Q (.panic c) (a.put oi.dst v) w → Q (.panic c) a w := by exact fun _ _ _ h => h)
    (hg : Region.wanted oi (yielded ops a.tmps) = true := by rfl) (hy : ∀ w', S w' → (execOp a.eval oi).run P w' = .ok (.value v) w' := by (rintro w' ⟨s0, s1, s2, s3, s4, s5, s6, s7, s8, s9, s10, s11⟩; go_simp; with_reducible rfl)) (ha : a.put N v = a' := by (simp only [Act.put, List.setIfInBounds_toArray, List.set_cons_zero, List.set_cons_succ, i64_w, i32_w]; rfl)) : wpAnyLast P md ops Q S ds (fuel + 1) l a w :=
  take_ l' hi hN (take_ofW HT.out HW.out hc) hQ (Or.inl ⟨hg, hy⟩) hS ha h
theorem pn_ (i : Nat) (N : Option Tmp) (l' : Array Bool) {T : Bool × List (List Nat × List Nat)} (HT : Aside0 (rtab md ops = T)) {oi : Oper} {fuel : Nat} {l : Array Bool} {a : Act} {w : World} {a' : Act}
    (h : wpAnyLast P md ops Q S ds fuel l' a' w) (hi : ops[i]? = some oi := by rfl) (hN : oi.dst = N := by rfl) (hc : anyT T l.toList l'.toList i = true := by kernel_rfl) (hQ : ∀ c a w, Q (.panic c) (a.put oi.dst undef) w → Q (.panic c) a w := by exact fun _ _ _ h => h)
    (hg : Region.wanted oi (yielded ops a.tmps) = false := by rfl) (ha : a.put N undef = a' := by (simp only [Act.put, List.setIfInBounds_toArray, List.set_cons_zero, List.set_cons_succ, i64_w, i32_w]; rfl)) : wpAnyLast P md ops Q S ds (fuel + 1) l a w :=
  pure_ l' hi hN (any_of HT.out hc) hQ (Or.inr ⟨hg, rfl⟩) ha h
theorem be_ (N : Tmp) (cs : Array Value) (t : TypeId) {o : Oper} {rest : List Oper} {a : Act} {W : World} (h : ∀ g, g = W.heap.size → ∀ w1, w1.heap[g]? = some (.cells cs t (0, 0)) → Below W.heap.size W w1 → wpList P ops Q rest (a.put o.dst (.pointer (some ⟨g, 0, none⟩))) w1)
    (hgd : o.guard = none := by rfl) (hd : o.dst = some N := by rfl) (hrun : (execOp a.eval o).run P W = .ok (.value (.pointer (some ⟨W.heap.size, 0, none⟩))) (W.alloc (.cells cs t (0, 0))) := by first | (go_simp; done) | (go_simp; rfl)) : wpList P ops Q (o :: rest) a W :=
  Kd.event_run hgd hrun (h _ rfl _ (blk_new W _) (below_alloc (Below.refl _ _) _))
theorem nm_ (N : Option Tmp) {fuel : Nat} {l : Array Bool} {a a' : Act} {v : Value} {w : World} (h : wpAnyLast P md ops Q S ds fuel l a' w) (ha : a.put N v = a' := by (simp only [Act.put, List.setIfInBounds_toArray, List.set_cons_zero, List.set_cons_succ, i64_w, i32_w]; rfl)) : wpAnyLast P md ops Q S ds fuel l (a.put N v) w := norm_ ha h
theorem on_ (i : Nat) (N : Option Tmp) (l' : Array Bool) {T : Bool × List (List Nat × List Nat)} (HT : Aside0 (rtab md ops = T)) {oi : Oper} {fuel : Nat} {l : Array Bool} {a : Act} {w : World}
    (h : ∀ K : Act → World → Prop, Shut (∀ a' w', S w' → (S w' → wpAnyLast P md ops Q S ds fuel l' a' w') → K a' w') → if Region.wanted oi (yielded ops a.tmps) = true then Oper.wp P oi a w K Q else K (a.put N undef) w)
    (hi : ops[i]? = some oi := by rfl) (hN : oi.dst = N := by rfl) (hc : (readyT T.2 l.toList == [i] && l.toList.set i true == l'.toList) = true := by kernel_rfl) (hd : i ∉ ds := by decide) : wpAnyLast P md ops Q S ds (fuel + 1) l a w :=
  one_ l' hi hN (one_of HT.out hc) hd h
theorem bs_ (N : Tmp) (cs : Array Value) (t : TypeId) {o : Oper} {a : Act} {Kc : Act → World → Prop} {W : World} (h : ∀ g, g = W.heap.size → ∀ w1, w1.heap[g]? = some (.cells cs t (0, 0)) → Below W.heap.size W w1 → Kc (a.put o.dst (.pointer (some ⟨g, 0, none⟩))) w1)
    (hd : o.dst = some N := by rfl) (hw : Region.wanted o (yielded ops a.tmps) = true := by rfl)
    (hrun : (execOp a.eval o).run P W = .ok (.value (.pointer (some ⟨W.heap.size, 0, none⟩))) (W.alloc (.cells cs t (0, 0))) := by first | (go_simp; done) | (go_simp; rfl)) : if Region.wanted o (yielded ops a.tmps) = true then Oper.wp P o a W Kc Q else Kc (a.put o.dst undef) W :=
  box_step hw hd hrun h
theorem gs_ {f : FuncId} {fn : Func} (hf : P.funcs[f]? = some fn) (args : Array Value) {oi : Oper} {N : Option Tmp} {a : Act} {w : World} {K : Act → World → Prop} {as : Array Operand} {ts : Array TypeId}
    (h : Calls P f args w fun e w' => ∃ v, e = .returned v ∧ K (a.put N v) w') (hname : (fn.name == "runtime.NumGoroutine") = false := by kernel_rfl) (hb : fn.body.isSome = true := by rfl)
    (hw : Region.wanted oi (yielded ops a.tmps) = true := by rfl) (hN : oi.dst = N := by rfl) (hop : oi.op = .call { callee := .value (.func f), args := as, argTypes := ts } := by rfl)
    (hargs : as.map a.eval = args := by ((try simp only [List.map_toArray, List.map_cons, List.map_nil]); first | done | rfl | (simp only [List.length_drop, List.length_take]; rfl))) : if Region.wanted oi (yielded ops a.tmps) = true then Oper.wp P oi a w K Q else K (a.put N undef) w :=
  goes_ hf hname hb args hw hN hop hargs h
theorem gl_ (N : Option Tmp) {f : FuncId} {fn : Func} (hf : P.funcs[f]? = some fn) (args : Array Value) {rest : List Oper} {oi : Oper} {a : Act} {w : World} {as : Array Operand} {ts : Array TypeId}
    (h : Calls P f args w fun e w' => ∃ v, e = .returned v ∧ wpList P ops Q rest (a.put N v) w') (hd : oi.dst = N := by rfl) (hg : oi.guard = none := by rfl) (hname : (fn.name == "runtime.NumGoroutine") = false := by kernel_rfl) (hb : fn.body.isSome = true := by rfl)
    (hop : oi.op = .call { callee := .value (.func f), args := as, argTypes := ts } := by rfl)
    (hargs : as.map a.eval = args := by ((try simp only [List.map_toArray, List.map_cons, List.map_nil]); first | done | rfl | (simp only [List.length_drop, List.length_take]; rfl))) : wpList P ops Q (oi :: rest) a w :=
  goesL_ N hd hg hf hname hb args hop hargs h
end
section
variable {α : Type} {d : Kd α} {e : Nat} {ok : Nat → Prop} {v : Value} {xs : List α} {base g b : Nat} {o : Obj} {a w w' w1 : World} {g1 g2 g3 g4 g5 g6 g7 g8 g9 g10 g11 g12 g13 g14 : Nat}
theorem Wb.below (h : Wb [] w w') : Below w.heap.size w w' := ⟨h.os, h.tape, h.output, h.size, fun i hi => h.block i hi (by simp)⟩
theorem rx (h : Aside0 (d.R e w base ok v xs)) [i : Wb [] w w'] : d.R e w' base ok v xs := Kd.R_below h.out i.below
theorem ry (h : Aside0 (d.R e w base ok v xs)) [i : Wb [] w w'] (hb : Below w'.heap.size w' w1) : Aside0 (d.R e w1 base ok v xs) := ⟨Kd.R_below (rx h) hb⟩
theorem sx {A A' : Option Addr} {n n' c c' : Nat} (h : Value.slice A n c = .slice A' n' c') : A' = A ∧ c' = c := by
  injection h with h1 h2 h3
  exact ⟨h1.symm, h3.symm⟩
theorem rd (h : Aside0 (d.R e w base ok v xs)) : Aside0 (d.R e w.drew base ok v xs) := ⟨Kd.R_drew h.out⟩
theorem bd (h : Aside0 (w.heap[g]? = some o)) : Aside0 (w.drew.heap[g]? = some o) := ⟨blk_drew h.out⟩
theorem bx (h : Aside0 (w.heap[g]? = some o)) [i : Wb [] w w'] : w'.heap[g]? = some o := blk_below h.out i.below
theorem kx (h : Aside0 (w.heap[g]? = some o)) [i : Wb [] w w'] (hb : Below w'.heap.size w' w1) : Aside0 (w1.heap[g]? = some o) := ⟨blk_below (bx h) hb⟩
theorem wq (h : Below a.heap.size a w) (hg : b = w.heap.size) : Aside0 (a.heap.size ≤ b) := ⟨by rw [hg]; exact h.size⟩
theorem hs (h : Below a.heap.size a w) (hb : Below w.heap.size w w1) : Aside0 (Below a.heap.size a w1) := ⟨below_step h hb⟩
theorem bc {cs : Array Value} {t : TypeId} {u : Value} (h : Aside0 (w.heap[g]? = some (.cells cs t (0, 0)))) (j : Nat) (hu : cs[j]? = some u := by rfl) : w.cell? ⟨g, j, none⟩ = some u := (blk_cell h.out j).trans hu
theorem cr {A : Option Addr} {n c : Nat} (h : Aside0 (d.R e w base ok (.slice A n c) xs)) [i : Wb [] w w'] : d.C w' A xs.length xs := Kd.C_below (Kd.R_reads' h.out).2.2 i.below
theorem lx (h : Aside0 (w.heap[g]? = some o)) [i : Wb [] w w'] (hg : b = w'.heap.size) : Aside0 (g ≠ b) := ⟨by rw [hg]; exact Nat.ne_of_lt (blk_lt (bx h))⟩
theorem gx (h : Aside0 (w.heap[g]? = some o)) [i : Wb [] w w'] (hg : b = w'.heap.size) : Aside0 (b ≠ g) := ⟨by rw [hg]; exact Nat.ne_of_gt (blk_lt (bx h))⟩
theorem bx_ {gs : List Nat} (h : Aside0 (w.heap[g]? = some o)) [i : Wb gs w w'] (hg : g ∉ gs) : w'.heap[g]? = some o := (i.block g (blk_lt h.out) hg).trans h.out
theorem bx1 (h : Aside0 (w.heap[g]? = some o)) (h1 : Aside0 (g ≠ g1)) [i : Wb [g1] w w'] : w'.heap[g]? = some o := bx_ (gs := [g1]) h (by simp [h1.out])
theorem bx2 (h : Aside0 (w.heap[g]? = some o)) (h1 : Aside0 (g ≠ g1)) (h2 : Aside0 (g ≠ g2)) [i : Wb [g1, g2] w w'] : w'.heap[g]? = some o := bx_ (gs := [g1, g2]) h (by simp [h1.out, h2.out])
theorem hb_ {gs : List Nat} (h : Aside0 (Below a.heap.size a w)) (hg : ∀ g ∈ gs, a.heap.size ≤ g) [i : Wb gs w w'] : Below a.heap.size a w' :=
  ⟨i.os.trans h.out.os, i.tape.trans h.out.tape, i.output.trans h.out.output, Nat.le_trans h.out.size i.size, fun k hk => (by
    have h1 := h.out.size
    by_cases hw : k < w.heap.size
    · exact (i.block k hw (fun hm => absurd (hg k hm) (by omega))).trans (h.out.block k hk)
    · omega)⟩
theorem hb0 (h : Aside0 (Below a.heap.size a w)) [i : Wb [] w w'] : Below a.heap.size a w' := hb_ (gs := []) h (by simp)
theorem hb1 (h : Aside0 (Below a.heap.size a w)) (h1 : Aside0 (a.heap.size ≤ g1)) [i : Wb [g1] w w'] : Below a.heap.size a w' := hb_ (gs := [g1]) h (by simp [h1.out])
theorem hb2 (h : Aside0 (Below a.heap.size a w)) (h1 : Aside0 (a.heap.size ≤ g1)) (h2 : Aside0 (a.heap.size ≤ g2)) [i : Wb [g1, g2] w w'] : Below a.heap.size a w' := hb_ (gs := [g1, g2]) h (by simp [h1.out, h2.out])
theorem hb3 (h : Aside0 (Below a.heap.size a w)) (h1 : Aside0 (a.heap.size ≤ g1)) (h2 : Aside0 (a.heap.size ≤ g2)) (h3 : Aside0 (a.heap.size ≤ g3)) [i : Wb [g1, g2, g3] w w'] : Below a.heap.size a w' := hb_ (gs := [g1, g2, g3]) h (by simp [h1.out, h2.out, h3.out])
theorem hb4 (h : Aside0 (Below a.heap.size a w)) (h1 : Aside0 (a.heap.size ≤ g1)) (h2 : Aside0 (a.heap.size ≤ g2)) (h3 : Aside0 (a.heap.size ≤ g3)) (h4 : Aside0 (a.heap.size ≤ g4)) [i : Wb [g1, g2, g3, g4] w w'] : Below a.heap.size a w' := hb_ (gs := [g1, g2, g3, g4]) h (by simp [h1.out, h2.out, h3.out, h4.out])
theorem hb5 (h : Aside0 (Below a.heap.size a w)) (h1 : Aside0 (a.heap.size ≤ g1)) (h2 : Aside0 (a.heap.size ≤ g2)) (h3 : Aside0 (a.heap.size ≤ g3)) (h4 : Aside0 (a.heap.size ≤ g4)) (h5 : Aside0 (a.heap.size ≤ g5)) [i : Wb [g1, g2, g3, g4, g5] w w'] : Below a.heap.size a w' := hb_ (gs := [g1, g2, g3, g4, g5]) h (by simp [h1.out, h2.out, h3.out, h4.out, h5.out])
theorem rf {cs : Array Value} {t g : Nat} (h : Aside0 (d.R e w base ok v xs)) (b : Aside0 (w.heap[g]? = some (.cells cs t (0, 0)))) [i : Wb [g] w w'] (ht : ∀ q, q ∈ e :: d.E → q ≠ t := by decide) : d.R e w' base ok v xs :=
  Kd.R_mono (Kd.R_step (Kd.R_types h.out b.out ht) (fun k hk hlt => i.block k hlt (by simpa using hk.2))) (fun _ hk => hk.1)
theorem el {β : Type} {d' : Kd β} {e' : Nat} {ok' : Nat → Prop} {ys : List β} {u : Value} (hu : d.R e w base ok u xs) (h0 : d'.R e' w1 w.heap.size ok' v ys) (hb : Below w.heap.size w w1) : Aside0 (d.R e w1 base (fun k => ok k ∧ some k ≠ v.ownBlock) u xs) := ⟨Kd.R_elder' hu (Kd.R_base h0) hb⟩
theorem kb (h : w.heap[g]? = some o) (hb : Below w.heap.size w w1) : Aside0 (w1.heap[g]? = some o) := ⟨blk_below h hb⟩
end
end Go.Proofs.YthfoliejhdpbaaaX
