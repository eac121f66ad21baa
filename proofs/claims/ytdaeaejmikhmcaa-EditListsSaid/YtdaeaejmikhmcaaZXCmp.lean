/- The comparison closure of edit.made, walked by hand: what it hands back, and that it lays blocks alone. -/
import Derived.Test.YtdaeaejmikhmcaaZXSort
import Derived.Test.YtdaeaejmikhmcaaZXShelf
import Derived.StillTailTactics
import Derived.Lib.Small
import Derived.Lib.Walk
set_option linter.unusedVariables false
namespace Go.Proofs.YtdaeaejmikhmcaaX
open Go.Shelf Go.RowKit Go.Lib Go.Sort Go.Proofs
set_option maxHeartbeats 1000000
set_option maxRecDepth 20000
theorem isNaN59 (x : Int) (w : World) : Calls Try.prog 59 #[.int .i64 x] w fun e w' => e = .returned (.bool false) ∧ w' = w := by
  go_enter Try.func59, Try.ntmps59
  go_wp2
  go_ret
  exact ⟨rfl, rfl⟩
theorem compare54 (x y : Int) (w : World) : Calls Try.prog 54 #[.int .i64 x, .int .i64 y] w fun e w' => e = .returned (.int .i64 (Lib.compareInt x y)) ∧ w' = w := by
  go_enter Try.func54, Try.ntmps54
  go_wp2_with (go_at_call 59; refine (isNaN59 _ _).mono ?_; rintro e w' ⟨rfl, rfl⟩)
  all_goals (go_ret; refine ⟨?_, rfl⟩; unfold Lib.compareInt; (repeat' split) <;> first | rfl | (exfalso; omega))
theorem or53 (a b : Int) (g cap : Nat) (w : World) (h0 : w.cell? ⟨g, 0, none⟩ = some (.int .i64 a)) (h1 : w.cell? ⟨g, 1, none⟩ = some (.int .i64 b)) :
    Calls Try.prog 53 #[.slice (some ⟨g, 0, none⟩) 2 cap] w fun e w' => e = .returned (.int .i64 (if a ≠ 0 then a else b)) ∧ w' = w := by
  go_enter Try.func53, Try.ntmps53
  go_wp2
  refine wp_loop_rounds 3 ?_
  rw [rounds_succ]
  by_cases ha : a = 0
  · subst ha
    go_wp2
    rw [rounds_succ]
    by_cases hb : b = 0
    · subst hb
      go_wp2
      rw [rounds_succ]
      go_wp2
      go_ret
      exact ⟨rfl, rfl⟩
    · go_wp2
      go_ret
      exact ⟨rfl, rfl⟩
  · go_wp2
    go_ret
    exact ⟨by simp, rfl⟩
theorem closure52 (x y : Int × Int) (W : World) : Calls Try.prog 52 #[.agg #[.int .i64 x.1, .int .i64 x.2], .agg #[.int .i64 y.1, .int .i64 y.2]] W fun e w' => e = .returned (.int .i64 (if Lib.compareInt x.1 y.1 ≠ 0 then Lib.compareInt x.1 y.1 else Lib.compareInt x.2 y.2)) ∧ ∃ q os', w' = grow (W.drewN q) os' := by
  have h1 := fun W' => compare54 x.1 y.1 W'
  have h2 := fun W' => compare54 x.2 y.2 W'
  generalize Lib.compareInt x.1 y.1 = r at h1 ⊢
  generalize Lib.compareInt x.2 y.2 = s at h2 ⊢
  have h3 := fun g cap W' k0 k1 => or53 r s g cap W' k0 k1
  generalize (if r ≠ 0 then r else s) = u at h3 ⊢
  go_enter Try.func52, Try.ntmps52
  go_wp2
  have e0 : ((W.alloc (Obj.cells #[Value.int IntKind.i64 x.fst, Value.int IntKind.i64 x.snd] 46)).alloc (Obj.cells #[Value.int IntKind.i64 y.fst, Value.int IntKind.i64 y.snd] 46)) = grow W #[Obj.cells #[Value.int IntKind.i64 x.fst, Value.int IntKind.i64 x.snd] 46, Obj.cells #[Value.int IntKind.i64 y.fst, Value.int IntKind.i64 y.snd] 46] := by
    rw [alloc_eq_grow, alloc_eq_grow, grow_grow]; rfl
  have c0 : (grow W #[Obj.cells #[Value.int IntKind.i64 x.fst, Value.int IntKind.i64 x.snd] 46, Obj.cells #[Value.int IntKind.i64 y.fst, Value.int IntKind.i64 y.snd] 46]).cell? ⟨W.heap.size, 0, none⟩ = some (Value.int IntKind.i64 x.fst) := by
    simp [← e0]
  have c1 : (grow W #[Obj.cells #[Value.int IntKind.i64 x.fst, Value.int IntKind.i64 x.snd] 46, Obj.cells #[Value.int IntKind.i64 y.fst, Value.int IntKind.i64 y.snd] 46]).cell? ⟨W.heap.size, 1, none⟩ = some (Value.int IntKind.i64 x.snd) := by
    simp [← e0]
  have c2 : (grow W #[Obj.cells #[Value.int IntKind.i64 x.fst, Value.int IntKind.i64 x.snd] 46, Obj.cells #[Value.int IntKind.i64 y.fst, Value.int IntKind.i64 y.snd] 46]).cell? ⟨W.heap.size + 1, 0, none⟩ = some (Value.int IntKind.i64 y.fst) := by
    simp [← e0]
  have c3 : (grow W #[Obj.cells #[Value.int IntKind.i64 x.fst, Value.int IntKind.i64 x.snd] 46, Obj.cells #[Value.int IntKind.i64 y.fst, Value.int IntKind.i64 y.snd] 46]).cell? ⟨W.heap.size + 1, 1, none⟩ = some (Value.int IntKind.i64 y.snd) := by
    simp [← e0]
  rw [e0]
  generalize #[Obj.cells #[Value.int IntKind.i64 x.fst, Value.int IntKind.i64 x.snd] 46, Obj.cells #[Value.int IntKind.i64 y.fst, Value.int IntKind.i64 y.snd] 46] = os at c0 c1 c2 c3 ⊢
  have hW : (grow W os).drew = grow (W.drewN 1) os := rfl
  replace c0 : (grow W os).drew.cell? ⟨W.heap.size, 0, none⟩ = some (Value.int IntKind.i64 x.fst) := c0
  replace c1 : (grow W os).drew.cell? ⟨W.heap.size, 1, none⟩ = some (Value.int IntKind.i64 x.snd) := c1
  replace c2 : (grow W os).drew.cell? ⟨W.heap.size + 1, 0, none⟩ = some (Value.int IntKind.i64 y.fst) := c2
  replace c3 : (grow W os).drew.cell? ⟨W.heap.size + 1, 1, none⟩ = some (Value.int IntKind.i64 y.snd) := c3
  refine wp_region_still_tail 10 (by kernel_rfl) (by kernel_rfl) ?_
  change wpStill _ _ ((grow W os).drew) (fun a' => wpList _ _ _ _ a' ((grow W os).drew)) _ _
  generalize (grow W os).drew = W2 at c0 c1 c2 c3 hW ⊢
  have hV : ∀ p : World → Prop, p (grow (W.drewN 1) os) → p W2 := fun p h => hW ▸ h
  clear hW e0
  simp only [List.take_succ_cons, List.take_zero, List.drop_succ_cons, List.drop_zero]
  still_step
  still_step
  still_step
  still_step
  still_call (h1 W2)
  still_step
  still_step
  still_step
  still_step
  still_call (h2 W2)
  refine wpStill_nil ?_
  go_wp2_with (go_at_call 53; refine (h3 _ _ _ (by simp) (by simp)).mono ?_; rintro e w' ⟨rfl, rfl⟩)
  go_ret
  rw [alloc_eq_grow]
  exact ⟨rfl, hV (fun W3 => ∃ q os', grow W3 _ = grow (W.drewN q) os') ⟨1, _, grow_grow _ _ _⟩⟩
end Go.Proofs.YtdaeaejmikhmcaaX
