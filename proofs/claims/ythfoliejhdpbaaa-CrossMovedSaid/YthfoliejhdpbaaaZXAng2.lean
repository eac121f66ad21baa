-- By hand: cross.against, and the closure that cross.round hands to the sort.
import Derived.Test.YthfoliejhdpbaaaZXAng
import Derived.Test.YthfoliejhdpbaaaZPCroAx19
import Derived.Test.YthfoliejhdpbaaaZXShelf
import Derived.StillTailTactics
import Derived.Lib.Small
import Derived.Lib.Walk
set_option linter.unusedVariables false
set_option linter.unusedSimpArgs false
namespace Go.Proofs.Ythfoliejhdpbaaa.PCroA
open Go.Shelf Go.RowKit Go.Lib Go.Sort Go.Proofs Go.Proofs.YthfoliejhdpbaaaW.PrintWords Go.Proofs.YthfoliejhdpbaaaW.PrintLast Go.Proofs.YthfoliejhdpbaaaW.PrintMore Go.Proofs.YthfoliejhdpbaaaX
set_option maxHeartbeats 4000000 in
set_option maxRecDepth 100000 in
theorem half_q (a b : Int) (W : World) : Calls Try.prog 64 #[.int .i64 a, .int .i64 b] W fun e w' => e = .returned (.int .i64 (halfI ⟨a, b⟩)) ∧ ∃ nd, w' = W.drewN nd := by
  unfold halfI
  dsimp only
  by_cases h1 : b < 0
  · rw [if_pos (Or.inl h1)]
    have d1 : decide (b < 0) = true := decide_eq_true h1
    go_enter Try.func64, Try.ntmps64
    go_wp2
    go_ret
    exact ⟨rfl, 0, rfl⟩
  · have d1 : decide (b < 0) = false := decide_eq_false h1
    by_cases h2 : b = 0
    · have d2 : (b == 0) = true := beq_iff_eq.mpr h2
      by_cases h3 : a < 0
      · rw [if_pos (Or.inr ⟨h2, h3⟩)]
        have d3 : decide (a < 0) = true := decide_eq_true h3
        clear h2
        go_enter Try.func64, Try.ntmps64
        go_wp2
        go_ret
        exact ⟨rfl, 0, rfl⟩
      · rw [if_neg (by omega)]
        have d3 : decide (a < 0) = false := decide_eq_false h3
        clear h2
        go_enter Try.func64, Try.ntmps64
        go_wp2
        go_ret
        exact ⟨rfl, 0, rfl⟩
    · rw [if_neg (by omega)]
      have d2 : (b == 0) = false := beq_eq_false_iff_ne.mpr h2
      clear h2
      go_enter Try.func64, Try.ntmps64
      go_wp2
      go_ret
      exact ⟨rfl, 0, rfl⟩
set_option maxHeartbeats 4000000 in
set_option maxRecDepth 100000 in
theorem sign_q (n : Int) (W : World) : Calls Try.prog 60 #[.int .i64 n] W fun e w' => e = .returned (.int .i64 (sgn n)) ∧ ∃ nd, w' = W.drewN nd := by
  unfold sgn
  by_cases h1 : n > 0
  · rw [if_pos h1]
    have d1 : decide (n > 0) = true := decide_eq_true h1
    have d2 : decide (0 < n) = true := decide_eq_true h1
    go_enter Try.func60, Try.ntmps60
    go_wp2
    go_ret
    exact ⟨rfl, 0, rfl⟩
  · rw [if_neg h1]
    have d1 : decide (n > 0) = false := decide_eq_false h1
    have d2 : decide (0 < n) = false := decide_eq_false h1
    by_cases h3 : n < 0
    · rw [if_pos h3]
      have d3 : decide (n < 0) = true := decide_eq_true h3
      go_enter Try.func60, Try.ntmps60
      go_wp2
      go_ret
      exact ⟨rfl, 0, rfl⟩
    · rw [if_neg h3]
      have d3 : decide (n < 0) = false := decide_eq_false h3
      go_enter Try.func60, Try.ntmps60
      go_wp2
      go_ret
      exact ⟨rfl, 0, rfl⟩
theorem wrap_neg_sgn (n : Int) : wrap64 (-sgn n) = -sgn n := by
  have : sgn n = 1 ∨ sgn n = -1 ∨ sgn n = 0 := by unfold sgn; split <;> (try split) <;> simp
  rcases this with h | h | h <;> rw [h, w64 (by omega) (by omega)]
set_option maxHeartbeats 8000000 in
set_option maxRecDepth 100000 in
theorem against_q (a b c d : Int) (hX : wrap64 (wrap64 (a * d) - wrap64 (b * c)) = X2 ⟨a, b⟩ ⟨c, d⟩) (W : World) :
    Calls Try.prog 50 #[.agg #[.int .i64 a, .int .i64 b], .agg #[.int .i64 c, .int .i64 d]] W fun e w' => e = .returned (.int .i64 (angF ⟨a, b⟩ ⟨c, d⟩)) ∧ ∃ q os', w' = grow (W.drewN q) os' := by
  have hg : ∀ o1 o2 n, ∃ q os', ((W.alloc o1).alloc o2).drewN n = grow (W.drewN q) os' := fun o1 o2 n => ⟨n, #[o1] ++ #[o2], by rw [alloc_eq_grow, alloc_eq_grow, grow_grow]; rfl⟩
  have h1 := fun W' => half_q a b W'
  have h2 := fun W' => half_q c d W'
  have h3 := fun W' => sign_q (X2 ⟨a, b⟩ ⟨c, d⟩) W'
  have hw := wrap_neg_sgn (X2 ⟨a, b⟩ ⟨c, d⟩)
  unfold angF
  have r1 := half_01 ⟨a, b⟩
  have r2 := half_01 ⟨c, d⟩
  generalize halfI ⟨a, b⟩ = p at h1 r1 ⊢
  generalize halfI ⟨c, d⟩ = q at h2 r2 ⊢
  generalize sgn (X2 ⟨a, b⟩ ⟨c, d⟩) = s at h3 hw ⊢
  by_cases e : p = q
  · have e1 : (p == q) = true := beq_iff_eq.mpr e
    have e2 : (p != q) = false := bne_eq_false_iff_eq.mpr e
    rw [if_neg (by simp [e])]
    clear e
    go_enter Try.func50, Try.ntmps50
    go_wp2
    have c0 : ((W.alloc (Obj.cells #[Value.int IntKind.i64 a, Value.int IntKind.i64 b] 23)).alloc (Obj.cells #[Value.int IntKind.i64 c, Value.int IntKind.i64 d] 23)).cell? ⟨W.heap.size, 0, none⟩ = some (.int .i64 a) := by simp
    have c1 : ((W.alloc (Obj.cells #[Value.int IntKind.i64 a, Value.int IntKind.i64 b] 23)).alloc (Obj.cells #[Value.int IntKind.i64 c, Value.int IntKind.i64 d] 23)).cell? ⟨W.heap.size, 1, none⟩ = some (.int .i64 b) := by simp
    have c2 : ((W.alloc (Obj.cells #[Value.int IntKind.i64 a, Value.int IntKind.i64 b] 23)).alloc (Obj.cells #[Value.int IntKind.i64 c, Value.int IntKind.i64 d] 23)).cell? ⟨W.heap.size + 1, 0, none⟩ = some (.int .i64 c) := by simp
    have c3 : ((W.alloc (Obj.cells #[Value.int IntKind.i64 a, Value.int IntKind.i64 b] 23)).alloc (Obj.cells #[Value.int IntKind.i64 c, Value.int IntKind.i64 d] 23)).cell? ⟨W.heap.size + 1, 1, none⟩ = some (.int .i64 d) := by simp
    have hg1 := fun n => hg (Obj.cells #[Value.int IntKind.i64 a, Value.int IntKind.i64 b] 23) (Obj.cells #[Value.int IntKind.i64 c, Value.int IntKind.i64 d] 23) n
    clear hg
    generalize (W.alloc (Obj.cells #[Value.int IntKind.i64 a, Value.int IntKind.i64 b] 23)).alloc (Obj.cells #[Value.int IntKind.i64 c, Value.int IntKind.i64 d] 23) = W1 at c0 c1 c2 c3 hg1 ⊢
    have HG := Aside0.mk hg1
    clear hg1
    go_quiet (first | (go_at_call 64; (with_reducible refine (h1 _).mono ?_); rintro e w' ⟨rfl, ⟨nd, rfl⟩⟩; (try first | exact ⟨rfl, _, World.drewN_drewN _ _ _⟩ | exact ⟨rfl, _, Eq.trans (World.drewN_drewN _ _ _) (congrArg (World.drewN _) (Nat.add_assoc _ _ _))⟩)) | (go_at_call 64; (with_reducible refine (h2 _).mono ?_); rintro e w' ⟨rfl, ⟨nd, rfl⟩⟩; (try first | exact ⟨rfl, _, World.drewN_drewN _ _ _⟩ | exact ⟨rfl, _, Eq.trans (World.drewN_drewN _ _ _) (congrArg (World.drewN _) (Nat.add_assoc _ _ _))⟩)))
    go_wp2_with (go_at_call 60; (with_reducible refine (h3 _).mono ?_); rintro e w' ⟨rfl, ⟨nd, rfl⟩⟩)
    go_ret
    refine ⟨by rw [hw]; rfl, ?_⟩
    first | exact HG.out _ | (rw [World.drewN_drewN]; exact HG.out _)
  · have e1 : (p == q) = false := beq_eq_false_iff_ne.mpr e
    have e2 : (p != q) = true := bne_iff_ne.mpr e
    have e3 : wrap64 (p - q) = p - q := by rw [w64 (by omega) (by omega)]
    rw [if_pos e]
    clear e
    go_enter Try.func50, Try.ntmps50
    go_wp2
    have c0 : ((W.alloc (Obj.cells #[Value.int IntKind.i64 a, Value.int IntKind.i64 b] 23)).alloc (Obj.cells #[Value.int IntKind.i64 c, Value.int IntKind.i64 d] 23)).cell? ⟨W.heap.size, 0, none⟩ = some (.int .i64 a) := by simp
    have c1 : ((W.alloc (Obj.cells #[Value.int IntKind.i64 a, Value.int IntKind.i64 b] 23)).alloc (Obj.cells #[Value.int IntKind.i64 c, Value.int IntKind.i64 d] 23)).cell? ⟨W.heap.size, 1, none⟩ = some (.int .i64 b) := by simp
    have c2 : ((W.alloc (Obj.cells #[Value.int IntKind.i64 a, Value.int IntKind.i64 b] 23)).alloc (Obj.cells #[Value.int IntKind.i64 c, Value.int IntKind.i64 d] 23)).cell? ⟨W.heap.size + 1, 0, none⟩ = some (.int .i64 c) := by simp
    have c3 : ((W.alloc (Obj.cells #[Value.int IntKind.i64 a, Value.int IntKind.i64 b] 23)).alloc (Obj.cells #[Value.int IntKind.i64 c, Value.int IntKind.i64 d] 23)).cell? ⟨W.heap.size + 1, 1, none⟩ = some (.int .i64 d) := by simp
    have hg1 := fun n => hg (Obj.cells #[Value.int IntKind.i64 a, Value.int IntKind.i64 b] 23) (Obj.cells #[Value.int IntKind.i64 c, Value.int IntKind.i64 d] 23) n
    clear hg
    generalize (W.alloc (Obj.cells #[Value.int IntKind.i64 a, Value.int IntKind.i64 b] 23)).alloc (Obj.cells #[Value.int IntKind.i64 c, Value.int IntKind.i64 d] 23) = W1 at c0 c1 c2 c3 hg1 ⊢
    have HG := Aside0.mk hg1
    clear hg1
    go_quiet (first | (go_at_call 64; (with_reducible refine (h1 _).mono ?_); rintro e w' ⟨rfl, ⟨nd, rfl⟩⟩; (try first | exact ⟨rfl, _, World.drewN_drewN _ _ _⟩ | exact ⟨rfl, _, Eq.trans (World.drewN_drewN _ _ _) (congrArg (World.drewN _) (Nat.add_assoc _ _ _))⟩)) | (go_at_call 64; (with_reducible refine (h2 _).mono ?_); rintro e w' ⟨rfl, ⟨nd, rfl⟩⟩; (try first | exact ⟨rfl, _, World.drewN_drewN _ _ _⟩ | exact ⟨rfl, _, Eq.trans (World.drewN_drewN _ _ _) (congrArg (World.drewN _) (Nat.add_assoc _ _ _))⟩)))
    go_wp2
    go_ret
    refine ⟨rfl, ?_⟩
    first | exact HG.out _ | (rw [World.drewN_drewN]; exact HG.out _)
set_option maxHeartbeats 4000000 in
set_option maxRecDepth 100000 in
theorem clos_q (g1 g2 : Nat) (ad : Addr) (cp : Nat) (dirs : List S23) (h k : Int) (h0 : 0 ≤ h) (h1 : h < dirs.length) (k0 : 0 ≤ k) (k1 : k < dirs.length) (W : World)
    (hb1 : W.cell? ⟨g1, 0, none⟩ = some (.func (.func 50) #[] #[])) (hb2 : W.cell? ⟨g2, 0, none⟩ = some (.slice (some ad) dirs.length cp))
    (hcl : ∀ i : Int, 0 ≤ i → i < dirs.length → W.cell? (ad.add (i.toNat * 2)) = some (.int .i64 (rd_T23 dirs i).f0) ∧ W.cell? ⟨(ad.add (i.toNat * 2)).block, (ad.add (i.toNat * 2)).off + 1, none⟩ = some (.int .i64 (rd_T23 dirs i).f1))
    (hX : wrap64 (wrap64 ((rd_T23 dirs h).f0 * (rd_T23 dirs k).f1) - wrap64 ((rd_T23 dirs h).f1 * (rd_T23 dirs k).f0)) = X2 (rd_T23 dirs h) (rd_T23 dirs k)) :
    Calls Try.prog 63 #[.int .i64 h, .int .i64 k, .pointer (some ⟨g1, 0, none⟩), .pointer (some ⟨g2, 0, none⟩)] W fun e w' => e = .returned (.int .i64 (angF (rd_T23 dirs h) (rd_T23 dirs k))) ∧ ∃ q os', w' = grow (W.drewN q) os' := by
  obtain ⟨x0, x1⟩ := hcl h h0 h1
  obtain ⟨y0, y1⟩ := hcl k k0 k1
  have hq := against_q (rd_T23 dirs h).f0 (rd_T23 dirs h).f1 (rd_T23 dirs k).f0 (rd_T23 dirs k).f1 hX
  have e3 : (⟨(rd_T23 dirs h).f0, (rd_T23 dirs h).f1⟩ : S23) = rd_T23 dirs h := rfl
  have e4 : (⟨(rd_T23 dirs k).f0, (rd_T23 dirs k).f1⟩ : S23) = rd_T23 dirs k := rfl
  rw [e3, e4] at hq
  have p0 : decide (0 ≤ h) = true := decide_eq_true h0
  have p1 : decide (h < (dirs.length : Int)) = true := decide_eq_true h1
  have q0 : decide (0 ≤ k) = true := decide_eq_true k0
  have q1 : decide (k < (dirs.length : Int)) = true := decide_eq_true k1
  clear hX hcl e3 e4
  have u23 := Try.underlying23
  have u32 := Try.underlying32
  have u77 := Try.underlying77
  have hq' := fun W' => hq W'
  clear hq
  generalize angF (rd_T23 dirs h) (rd_T23 dirs k) = r at hq' ⊢
  go_enter Try.func63, Try.ntmps63
  go_wp2
  have hW : W.drew = W.drewN 1 := rfl
  replace hb1 : W.drew.cell? ⟨g1, 0, none⟩ = _ := hb1
  replace hb2 : W.drew.cell? ⟨g2, 0, none⟩ = _ := hb2
  replace x0 : W.drew.cell? _ = _ := x0
  replace x1 : W.drew.cell? _ = _ := x1
  replace y0 : W.drew.cell? _ = _ := y0
  replace y1 : W.drew.cell? _ = _ := y1
  refine wp_region_still_tail 9 (by kernel_rfl) (by kernel_rfl) ?_
  change wpStill _ _ (W.drew) (fun a' => wpList _ _ _ _ a' (W.drew)) _ _
  generalize W.drew = W2 at hb1 hb2 x0 x1 y0 y1 hW ⊢
  have hV : ∀ p : World → Prop, p (W.drewN 1) → p W2 := fun p h => hW ▸ h
  clear hW
  simp only [List.take_succ_cons, List.take_zero, List.drop_succ_cons, List.drop_zero]
  still_step
  still_step
  still_step
  still_step
  still_step
  still_step
  still_step
  still_step
  still_step
  refine wpStill_nil ?_
  go_wp2_with (go_at_call 50; (with_reducible refine (hq' _).mono ?_); rintro e w' ⟨rfl, ⟨q, os', rfl⟩⟩)
  go_ret
  refine ⟨rfl, ?_⟩
  exact hV (fun W3 => ∃ q' os'', grow (W3.drewN q) os' = grow (W.drewN q') os'') ⟨1 + q, os', by rw [World.drewN_drewN]⟩
end Go.Proofs.Ythfoliejhdpbaaa.PCroA
