-- PRINTED by print.py (a twelfth state) out of the translation. Not trusted: Lean checks it.
import Derived.Test.YthejafdcdcchbaaDoorZPSimAx0
import Derived.Test.YthejafdcdcchbaaDoorZPSimAx7
namespace Go.Proofs.YthejafdcdcchbaaDoor.PSimA
open Go.RowKit Go.Proofs.YthejafdcdcchbaaDoorW.PrintWords Go.Proofs.YthejafdcdcchbaaDoorW.PrintLast Go.Proofs.YthejafdcdcchbaaDoorW.PrintMore
open Go.Proofs.YthejafdcdcchbaaDoorX
attribute [local go_sem] max2_int min2_int max_two min_two max_three min_three max_four min_four   -- for this text's walks alone
set_option linter.unusedVariables false
set_option linter.unusedSimpArgs false

/-! ### api_Edge_46: function 46 -/
def api_Edge_46.l0 : Nat → List (S42) → Int → Int → Int → Int → Int → Option (Int × Bool)
 | 0, _, _, _, _, _, _ => none
 | k + 1, x0, x8, x9, x10, x166000, x166001 => if x9 < x10 then (if 0 ≤ (wrap64 ((IntKind.u64.wrap (wrap64 (x9 + x10))) / 2)) then (if (wrap64 ((IntKind.u64.wrap (wrap64 (x9 + x10))) / 2)) < (x0.length : Int) then ((simple_compare.f ((rd_T42 x0 (wrap64 ((IntKind.u64.wrap (wrap64 (x9 + x10))) / 2))).f0) ((rd_T42 x0 (wrap64 ((IntKind.u64.wrap (wrap64 (x9 + x10))) / 2))).f1) x166000 x166001).bind fun t167 => (if t167 < 0 then (api_Edge_46.l0 k x0 x8 (wrap64 ((wrap64 ((IntKind.u64.wrap (wrap64 (x9 + x10))) / 2)) + 1)) x10 x166000 x166001) else (api_Edge_46.l0 k x0 x8 x9 (wrap64 ((IntKind.u64.wrap (wrap64 (x9 + x10))) / 2)) x166000 x166001))) else (none)) else (none)) else (if x9 < x8 then (if 0 ≤ x9 then (if x9 < (x0.length : Int) then ((simple_compare.f ((rd_T42 x0 x9).f0) ((rd_T42 x0 x9).f1) x166000 x166001).bind fun t169 => (some (x9, (t169 == 0)))) else (none)) else (none)) else (some (x9, false)))
def api_Edge_46.f (k : Nat) (l0 : List (S42)) (a1_0 : Int) (a1_1 : Int) (a2 : Int) : Option (Int × Bool) := api_Edge_46.l0 k l0 (l0.length : Int) 0 (l0.length : Int) a1_0 a1_1
theorem api_Edge_46.mono_l : ∀ k, (∀ y0 y1 y2 y3 y4 y5, LeO (api_Edge_46.l0 k y0 y1 y2 y3 y4 y5) (api_Edge_46.l0 (k + 1) y0 y1 y2 y3 y4 y5))
 | 0 => fun _ _ _ _ _ _ r h => by simp [api_Edge_46.l0] at h
 | k + 1 => by
  have ih0 := api_Edge_46.mono_l k
  ·intro y0 y1 y2 y3 y4 y5
   unfold api_Edge_46.l0
   repeat' first
   | (with_reducible exact ih0 _ _ _ _ _ _)
   | (with_reducible exact LeO.refl _)
   | (with_reducible exact LeO.none _)
   | (with_reducible refine LeO.ite ?_ ?_)
   | (with_reducible refine LeO.bind ?_ (fun _ => ?_))
   | exact ih0 _ _ _ _ _ _
   | exact LeO.none _
   | refine LeO.ite ?_ ?_
   | refine LeO.bind ?_ (fun _ => ?_)
theorem api_Edge_46.mono : ∀ a0 a1 a2 a3 k, LeO (api_Edge_46.f k a0 a1 a2 a3) (api_Edge_46.f (k + 1) a0 a1 a2 a3) := by
 intro a0 a1 a2 a3 k; have ih0 := api_Edge_46.mono_l k
 unfold api_Edge_46.f
 repeat' first
   | (with_reducible exact ih0 _ _ _ _ _ _)
   | (with_reducible exact LeO.refl _)
   | (with_reducible exact LeO.none _)
   | (with_reducible refine LeO.ite ?_ ?_)
   | (with_reducible refine LeO.bind ?_ (fun _ => ?_))
   | exact ih0 _ _ _ _ _ _
   | exact LeO.none _
   | refine LeO.ite ?_ ?_
   | refine LeO.bind ?_ (fun _ => ?_)
def api_Edge_46.T5 : Bool × List (List Nat × List Nat) := (true, [([], []), ([], []), ([], []), ([1, 2], [1, 2]), ([3], [3]), ([], []), ([0, 4, 5], [0, 4, 5]), ([6], [6])])
def api_Edge_46.B5 : List Nat := [0, 0, 0, 6, 14, 0, 63, 127]
theorem api_Edge_46.tab5 : rtab .any (opsOf Tryd.f46 5) = api_Edge_46.T5 := by kernel_rfl
theorem api_Edge_46.bits5 : waitsOk api_Edge_46.T5.2 api_Edge_46.B5 = true := by kernel_rfl
def api_Edge_46.T8 : Bool × List (List Nat × List Nat) := (true, [([], []), ([], []), ([], []), ([1, 2], [1, 2]), ([3], [3]), ([4], [4]), ([4], [4]), ([4], [4]), ([6, 7, 4], [4, 6, 7]), ([8, 4], [4, 8]), ([4], [4]), ([5, 9, 10, 4, 4], [4, 5, 9, 10]), ([11, 4], [4, 11]), ([4, 12], [4, 12]), ([0, 11, 0], [0]), ([13, 14, 0, 1, 2, 3, 4, 5, 6, 7, 8, 9, 10, 11, 12, 13, 14], [13])])
def api_Edge_46.B8 : List Nat := [0, 0, 0, 6, 14, 30, 30, 30, 222, 478, 30, 2046, 4094, 8190, 4095, 32767]
theorem api_Edge_46.tab8 : rtab .any (opsOf Tryd.f46 8) = api_Edge_46.T8 := by kernel_rfl
theorem api_Edge_46.bits8 : waitsOk api_Edge_46.T8.2 api_Edge_46.B8 = true := by kernel_rfl
theorem goesV_ {P : Program} {ops : Array Oper} {Q : Exit → Act → World → Prop} {c : Operand} {oi : Oper} {N : Option Tmp} {a : Act} {w : World} {K : Act → World → Prop} {f : FuncId} {fn : Func} {xs : Array Operand} {ts : Array TypeId} (hf : P.funcs[f]? = some fn) (hname : (fn.name == "runtime.NumGoroutine") = false) (hb : fn.body.isSome = true) (args : Array Value)
  (hw : Region.wanted oi (yielded ops a.tmps) = true) (hN : oi.dst = N) (hop : oi.op = .call { callee := .value c, args := xs, argTypes := ts }) (hargs : xs.map a.eval = args)
  (h : Calls P f args w fun e w' => ∃ v, e = .returned v ∧ K (a.put N v) w') (hc : a.eval c = .func (.func f) #[] #[] := by rfl) : if Region.wanted oi (yielded ops a.tmps) = true then Oper.wp P oi a w K Q else K (a.put N undef) w := by
 refine call_ f args hw hN ?_ h; have he := enters_ hf hname hb args w
 unfold execOp
 simp [hop, resolve, Deferred.ofValue, invoke, hc, hargs, he]
set_option maxHeartbeats 8000000 in
set_option maxRecDepth 100000 in
theorem api_Edge_46.calls (k : Nat) (A0 : Option Addr) (c0 : Nat) (l0 : List (S42)) (a1_0 : Int) (a1_1 : Int) (a2 : Int) (r1 : Int) (r2 : Bool) (w : World) (hr0 : Kd.C k42 w A0 l0.length l0) (hc0 : l0.length ≤ c0) (h : api_Edge_46.f k l0 a1_0 a1_1 a2 = some (r1, r2)) :
  Calls Tryd.prog 46 #[.slice A0 l0.length c0, .agg #[.int .i64 a1_0, .int .i64 a1_1], .func (Fn.func 37) #[] #[]] w fun e w' => e = .returned (.tuple #[.int .i64 r1, .bool r2]) ∧ Below w.heap.size w w' := by
 have hu42 := Tryd.underlying42; have HR0 := Aside0.mk hr0; have HC0 := Aside0.mk hc0; clear hr0 hc0; have HB := Aside0.mk (Below.refl w.heap.size w); have H : (api_Edge_46.l0 k l0 (l0.length : Int) 0 (l0.length : Int) a1_0 a1_1) = some (r1, r2) := h; clear h; have H' := Aside0.mk H; clear H
 go_enter Tryd.func46, Tryd.ntmps46
 go_wp2_with (first | ((with_reducible refine gate_dst (N := 4) rfl ?_); refine be_ 4 #[.int .i64 a1_0, .int .i64 a1_1] 42 ?_; intro gb165 hg w4 hbox hb; have BK165 := Aside0.mk (hbox); have GW165 := wq (hb0 HB) hg; have GE165 := wq (hb0 HB) hg; replace HB := hs (hb0 HB) hb; clear hb hbox hg))
 go_loopg [9, 10] k (fun kq v9 v10 w' => ∃ (x9_1 : Int) (x10_1 : Int), v9 = .int .i64 x9_1 ∧ v10 = .int .i64 x10_1 ∧ Aside0 (api_Edge_46.l0 kq l0 (l0.length : Int) x9_1 x10_1 a1_0 a1_1 = some (r1, r2)) ∧ Aside0 (kq ≤ k) ∧ Aside0 (w'.heap[gb165]? = some (.cells #[.int .i64 a1_0, .int .i64 a1_1] 42 (0, 0))) ∧ Aside0 (Below w.heap.size w w'))
 case atStart => exact ⟨(0), ((l0.length : Int)), (by first | rfl | (simp; done) | (simp [*]; done)), (by first | rfl | (simp; done) | (simp [*]; done)), H', ⟨Nat.le_refl _⟩, ⟨bx BK165⟩, ⟨hb1 HB GE165⟩⟩
 case round =>
  clear H'
  try clear p2
  try clear c4
  obtain ⟨x9_1, x10_1, rfl, rfl, HA, HK1, BK165, HB⟩ := hrel
  cases gk with
  | zero => exact absurd HA.out (by simp [api_Edge_46.l0])
  | succ k1 =>
   have H := HA.out; clear HA; simp only [api_Edge_46.l0] at H
   by_cases c5 : x9_1 < x10_1
   ·rw [if_pos c5] at H; have c5b0 : decide (x9_1 < x10_1) = true := decide_eq_true c5; clear c5; obtain ⟨ji6, hji6⟩ : ∃ j_ : Int, (wrap64 ((IntKind.u64.wrap (wrap64 (x9_1 + x10_1))) / 2)) = j_ := ⟨_, rfl⟩; replace H : (if 0 ≤ (ji6) then (if (ji6) < (l0.length : Int) then ((simple_compare.f ((rd_T42 l0 (ji6)).f0) ((rd_T42 l0 (ji6)).f1) a1_0 a1_1).bind fun t167 => (if t167 < 0 then (api_Edge_46.l0 k1 l0 (l0.length : Int) (wrap64 ((ji6) + 1)) x10_1 a1_0 a1_1) else (api_Edge_46.l0 k1 l0 (l0.length : Int) x9_1 ji6 a1_0 a1_1))) else (none)) else (none)) = some (r1, r2) := by first | (rw [hji6] at H; exact H) | (simp only [hji6] at H ⊢; exact H)
    have hji6w : (IntKind.i64.wrap ((IntKind.u64.wrap (wrap64 (x9_1 + x10_1))) / 2)) = ji6 := (i64_w _).trans hji6
    by_cases c7 : 0 ≤ (ji6)
    ·rw [if_pos c7] at H; have c7b0 : decide (0 ≤ (ji6)) = true := decide_eq_true c7; clear c7
     by_cases c8 : (ji6) < (l0.length : Int)
     ·rw [if_pos c8] at H; have c8b0 : decide ((ji6) < (l0.length : Int)) = true := decide_eq_true c8; clear c8; replace H := Option.bind_eq_some_iff.mp H; obtain ⟨t167, A90, H⟩ := H; replace H : (if t167 < 0 then (api_Edge_46.l0 k1 l0 (l0.length : Int) (wrap64 ((ji6) + 1)) x10_1 a1_0 a1_1) else (api_Edge_46.l0 k1 l0 (l0.length : Int) x9_1 ji6 a1_0 a1_1)) = some (r1, r2) := H; have A9 := Aside0.mk A90; clear A90
      by_cases c10 : t167 < 0
      ·rw [if_pos c10] at H; have c10b0 : decide (t167 < 0) = true := decide_eq_true c10; clear c10; have H' := Aside0.mk H; clear H
       try go_wp2
       replace BK165 := bd BK165; replace HB := Aside0.mk (below_drew1 HB.out); have p166 : 0 ≤ ((ji6) : Int) := of_decide_eq_true (by first | (with_reducible assumption) | assumption); have q166 : (ji6) < (l0.length : Int) := of_decide_eq_true (by first | (with_reducible assumption) | assumption); obtain ⟨ad166, e166, hx166_0, hx166_1⟩ := at_T42 HR0.out (ji6) p166 q166; have hw166_1 := hx166_1; have hw166_0 := hx166_0
       cases e166
       replace hx166_0 := (HB.out.cell (World.block_lt_of_cell? w _ hx166_0)).trans hx166_0; replace hx166_1 := (HB.out.cell (World.block_lt_of_cell? w _ hx166_1)).trans hx166_1; replace p166 := eq_true p166; replace q166 := eq_true q166; refine start_ (n := 8) (S := fun w' => w'.cell? ⟨gb165, 0, none⟩ = some (.int .i64 a1_0) ∧ w'.cell? ⟨gb165, 1, none⟩ = some (.int .i64 a1_1) ∧ w'.cell? (ad166.add (((ji6)).toNat * 2)) = some (.int .i64 ((rd_T42 l0 (ji6)).f0)) ∧ w'.cell? ⟨(ad166.add (((ji6)).toNat * 2)).block, (ad166.add (((ji6)).toNat * 2)).off + 1, none⟩ = some (.int .i64 ((rd_T42 l0 (ji6)).f1))) (ds := []) (pf 0 8) (by kernel_rfl) rfl rfl ⟨bc BK165 0, bc BK165 1, ((HB.out.cell (World.block_lt_of_cell? w _ hw166_0)).trans hw166_0), ((HB.out.cell (World.block_lt_of_cell? w _ hw166_1)).trans hw166_1)⟩ (fun hHeld => ?_); refine with_tabW api_Edge_46.tab5 api_Edge_46.bits5 (fun HT_ HW_ => ?_); generalize wr.drew = w11 at BK165 HB hx166_0 hx166_1 hHeld ⊢; refine pu_ 0 (some 24) (pf 1 8) HT_ ?_; refine pu_ 1 (some 25) (pf 2 8) HT_ ?_; refine pu_ 2 (some 26) (pf 3 8) HT_ ?_; refine pu_ 3 (some 27) (pf 4 8) HT_ ?_; refine tk4_ 4 (some 28) (pf 5 8) HT_ HW_ hHeld ?_; refine tk4_ 5 (some 29) (pf 6 8) HT_ HW_ hHeld ?_; refine on_ 6 (some 30) (pf 7 8) HT_ (fun K hK => ?_); refine goesV_ Tryd.func37 (by kernel_rfl) rfl #[.agg #[.int .i64 ((rd_T42 l0 (ji6)).f0), .int .i64 ((rd_T42 l0 (ji6)).f1)], .agg #[.int .i64 a1_0, .int .i64 a1_1]] (by rfl) rfl rfl (by (try simp only [List.map_toArray, List.map_cons, List.map_nil]); first | done | (simp only [hji6]; rfl) | rfl | (simp only [List.length_drop, List.length_take]; rfl)) ?_
       with_reducible refine (simple_compare.calls ((rd_T42 l0 (ji6)).f0) ((rd_T42 l0 (ji6)).f1) a1_0 a1_1 t167 _ A9.out).mono ?_
       rintro e w12 ⟨rfl, hb⟩; refine ⟨_, rfl, ?_⟩; replace BK165 := kx BK165 hb; replace HB := hs (hb1 HB GE165) hb
       (try clear hb)
       (try clear hb2)
       (try clear hk)
       (try clear hi)
       refine hK.out _ _ ⟨bc BK165 0, bc BK165 1, ((HB.out.cell (World.block_lt_of_cell? w _ hw166_0)).trans hw166_0), ((HB.out.cell (World.block_lt_of_cell? w _ hw166_1)).trans hw166_1)⟩ (fun hHeld => ?_); clear hK K; refine nm_ (some 30) ?_; refine pu_ 7 (some 31) (pf 8 8) HT_ ?_; refine done_ (done_of HT_.out (by kernel_rfl)) ?_
       try go_wp2
       go_roundg k1
       case measure => have := HK1.out; omega
       case rel => exact ⟨(wrap64 ((ji6) + 1)), (x10_1), (by first | rfl | (simp; done) | (simp only [← hji6] <;> (first | rfl | simp)) | (simp [*]; done)), (by first | rfl | (simp; done) | (simp [*]; done)), H', ⟨by have := HK1.out; omega⟩, ⟨bx BK165⟩, ⟨hb1 HB GE165⟩⟩
      ·rw [if_neg c10] at H; have c10b0 : decide (t167 < 0) = false := decide_eq_false c10; clear c10; have H' := Aside0.mk H; clear H
       try go_wp2
       replace BK165 := bd BK165; replace HB := Aside0.mk (below_drew1 HB.out); have p166 : 0 ≤ ((ji6) : Int) := of_decide_eq_true (by first | (with_reducible assumption) | assumption); have q166 : (ji6) < (l0.length : Int) := of_decide_eq_true (by first | (with_reducible assumption) | assumption); obtain ⟨ad166, e166, hx166_0, hx166_1⟩ := at_T42 HR0.out (ji6) p166 q166; have hw166_1 := hx166_1; have hw166_0 := hx166_0
       cases e166
       replace hx166_0 := (HB.out.cell (World.block_lt_of_cell? w _ hx166_0)).trans hx166_0; replace hx166_1 := (HB.out.cell (World.block_lt_of_cell? w _ hx166_1)).trans hx166_1; replace p166 := eq_true p166; replace q166 := eq_true q166; refine start_ (n := 8) (S := fun w' => w'.cell? ⟨gb165, 0, none⟩ = some (.int .i64 a1_0) ∧ w'.cell? ⟨gb165, 1, none⟩ = some (.int .i64 a1_1) ∧ w'.cell? (ad166.add (((ji6)).toNat * 2)) = some (.int .i64 ((rd_T42 l0 (ji6)).f0)) ∧ w'.cell? ⟨(ad166.add (((ji6)).toNat * 2)).block, (ad166.add (((ji6)).toNat * 2)).off + 1, none⟩ = some (.int .i64 ((rd_T42 l0 (ji6)).f1))) (ds := []) (pf 0 8) (by kernel_rfl) rfl rfl ⟨bc BK165 0, bc BK165 1, ((HB.out.cell (World.block_lt_of_cell? w _ hw166_0)).trans hw166_0), ((HB.out.cell (World.block_lt_of_cell? w _ hw166_1)).trans hw166_1)⟩ (fun hHeld => ?_); refine with_tabW api_Edge_46.tab5 api_Edge_46.bits5 (fun HT_ HW_ => ?_); generalize wr.drew = w13 at BK165 HB hx166_0 hx166_1 hHeld ⊢; refine pu_ 0 (some 24) (pf 1 8) HT_ ?_; refine pu_ 1 (some 25) (pf 2 8) HT_ ?_; refine pu_ 2 (some 26) (pf 3 8) HT_ ?_; refine pu_ 3 (some 27) (pf 4 8) HT_ ?_; refine tk4_ 4 (some 28) (pf 5 8) HT_ HW_ hHeld ?_; refine tk4_ 5 (some 29) (pf 6 8) HT_ HW_ hHeld ?_; refine on_ 6 (some 30) (pf 7 8) HT_ (fun K hK => ?_); refine goesV_ Tryd.func37 (by kernel_rfl) rfl #[.agg #[.int .i64 ((rd_T42 l0 (ji6)).f0), .int .i64 ((rd_T42 l0 (ji6)).f1)], .agg #[.int .i64 a1_0, .int .i64 a1_1]] (by rfl) rfl rfl (by (try simp only [List.map_toArray, List.map_cons, List.map_nil]); first | done | (simp only [hji6]; rfl) | rfl | (simp only [List.length_drop, List.length_take]; rfl)) ?_
       with_reducible refine (simple_compare.calls ((rd_T42 l0 (ji6)).f0) ((rd_T42 l0 (ji6)).f1) a1_0 a1_1 t167 _ A9.out).mono ?_
       rintro e w14 ⟨rfl, hb⟩; refine ⟨_, rfl, ?_⟩; replace BK165 := kx BK165 hb; replace HB := hs (hb1 HB GE165) hb
       (try clear hb)
       (try clear hb2)
       (try clear hk)
       (try clear hi)
       refine hK.out _ _ ⟨bc BK165 0, bc BK165 1, ((HB.out.cell (World.block_lt_of_cell? w _ hw166_0)).trans hw166_0), ((HB.out.cell (World.block_lt_of_cell? w _ hw166_1)).trans hw166_1)⟩ (fun hHeld => ?_); clear hK K; refine nm_ (some 30) ?_; refine pu_ 7 (some 31) (pf 8 8) HT_ ?_; refine done_ (done_of HT_.out (by kernel_rfl)) ?_
       try go_wp2
       go_roundg k1
       case measure => have := HK1.out; omega
       case rel => exact ⟨(x9_1), (ji6), (by first | rfl | (simp; done) | (simp [*]; done)), (by first | rfl | (simp; done) | (simp only [← hji6] <;> (first | rfl | simp)) | (simp [*]; done)), H', ⟨by have := HK1.out; omega⟩, ⟨bx BK165⟩, ⟨hb1 HB GE165⟩⟩
     ·rw [if_neg c8] at H; exact absurd H (by simp)
    ·rw [if_neg c7] at H; exact absurd H (by simp)
   ·rw [if_neg c5] at H; have c5b0 : decide (x9_1 < x10_1) = false := decide_eq_false c5; clear c5
    by_cases c15 : x9_1 < (l0.length : Int)
    ·rw [if_pos c15] at H; have c15b0 : decide (x9_1 < (l0.length : Int)) = true := decide_eq_true c15; clear c15
     by_cases c16 : 0 ≤ x9_1
     ·rw [if_pos c16] at H; have c16b0 : decide (0 ≤ x9_1) = true := decide_eq_true c16; clear c16
      by_cases c17 : x9_1 < (l0.length : Int)
      ·rw [if_pos c17] at H; have c17b0 : decide (x9_1 < (l0.length : Int)) = true := decide_eq_true c17; clear c17; replace H := Option.bind_eq_some_iff.mp H; obtain ⟨t169, A180, H⟩ := H; replace H : (some (x9_1, (t169 == 0))) = some (r1, r2) := H; have A18 := Aside0.mk A180; clear A180; simp only [Option.some.injEq, Prod.mk.injEq] at H; obtain ⟨rfl, rfl⟩ := H
       try go_wp2
       replace BK165 := bd BK165; replace HB := Aside0.mk (below_drew1 HB.out); have p168 : 0 ≤ (x9_1 : Int) := of_decide_eq_true (by first | (with_reducible assumption) | assumption); have q168 : x9_1 < (l0.length : Int) := of_decide_eq_true (by first | (with_reducible assumption) | assumption); obtain ⟨ad168, e168, hx168_0, hx168_1⟩ := at_T42 HR0.out x9_1 p168 q168; have hw168_1 := hx168_1; have hw168_0 := hx168_0
       cases e168
       replace hx168_0 := (HB.out.cell (World.block_lt_of_cell? w _ hx168_0)).trans hx168_0; replace hx168_1 := (HB.out.cell (World.block_lt_of_cell? w _ hx168_1)).trans hx168_1; replace p168 := eq_true p168; replace q168 := eq_true q168; refine start_ (n := 16) (S := fun w' => w'.cell? ⟨gb165, 0, none⟩ = some (.int .i64 a1_0) ∧ w'.cell? ⟨gb165, 1, none⟩ = some (.int .i64 a1_1) ∧ w'.cell? (ad168.add ((x9_1).toNat * 2)) = some (.int .i64 ((rd_T42 l0 x9_1).f0)) ∧ w'.cell? ⟨(ad168.add ((x9_1).toNat * 2)).block, (ad168.add ((x9_1).toNat * 2)).off + 1, none⟩ = some (.int .i64 ((rd_T42 l0 x9_1).f1))) (ds := []) (pf 0 16) (by kernel_rfl) rfl rfl ⟨bc BK165 0, bc BK165 1, ((HB.out.cell (World.block_lt_of_cell? w _ hw168_0)).trans hw168_0), ((HB.out.cell (World.block_lt_of_cell? w _ hw168_1)).trans hw168_1)⟩ (fun hHeld => ?_); refine with_tabW api_Edge_46.tab8 api_Edge_46.bits8 (fun HT_ HW_ => ?_); generalize wr.drew = w19 at BK165 HB hx168_0 hx168_1 hHeld ⊢; refine pu_ 0 (some 35) (pf 1 16) HT_ ?_; refine pu_ 1 (some 36) (pf 2 16) HT_ ?_; refine pu_ 2 (some 37) (pf 3 16) HT_ ?_; refine pu_ 3 (some 38) (pf 4 16) HT_ ?_; refine pu_ 4 (some 39) (pf 5 16) HT_ ?_; refine pu_ 5 (some 40) (pf 6 16) HT_ ?_; refine pu_ 6 (some 41) (pf 7 16) HT_ ?_
       refine pu_ 7 (some 42) (pf 8 16) HT_ ?_; refine pu_ 8 (some 43) (pf 9 16) HT_ ?_; refine tk4_ 9 (some 44) (pf 10 16) HT_ HW_ hHeld ?_; refine tk4_ 10 (some 45) (pf 11 16) HT_ HW_ hHeld ?_; refine on_ 11 (some 46) (pf 12 16) HT_ (fun K hK => ?_); refine goesV_ Tryd.func37 (by kernel_rfl) rfl #[.agg #[.int .i64 ((rd_T42 l0 x9_1).f0), .int .i64 ((rd_T42 l0 x9_1).f1)], .agg #[.int .i64 a1_0, .int .i64 a1_1]] (by rfl) rfl rfl (by (try simp only [List.map_toArray, List.map_cons, List.map_nil]); first | done | rfl | (simp only [List.length_drop, List.length_take]; rfl)) ?_
       with_reducible refine (simple_compare.calls ((rd_T42 l0 x9_1).f0) ((rd_T42 l0 x9_1).f1) a1_0 a1_1 t169 _ A18.out).mono ?_
       rintro e w20 ⟨rfl, hb⟩; refine ⟨_, rfl, ?_⟩; replace BK165 := kx BK165 hb; replace HB := hs (hb1 HB GE165) hb
       (try clear hb)
       (try clear hb2)
       (try clear hk)
       (try clear hi)
       refine hK.out _ _ ⟨bc BK165 0, bc BK165 1, ((HB.out.cell (World.block_lt_of_cell? w _ hw168_0)).trans hw168_0), ((HB.out.cell (World.block_lt_of_cell? w _ hw168_1)).trans hw168_1)⟩ (fun hHeld => ?_); clear hK K; refine nm_ (some 46) ?_; refine pu_ 12 (some 47) (pf 13 16) HT_ ?_; refine pu_ 13 (some 48) (pf 14 16) HT_ ?_; refine pu_ 14 (some 6) (pf 15 16) HT_ ?_; refine pu_ 15 (some 7) (pf 16 16) HT_ ?_; refine done_ (done_of HT_.out (by kernel_rfl)) ?_
       try go_wp2
       go_ret2
       exact ⟨by first | rfl | (simp [errW_none, errW_some] <;> rfl) | (simp [*, errW_none, errW_some] <;> rfl), hb1 HB GE165⟩
      ·rw [if_neg c17] at H; exact absurd H (by simp)
     ·rw [if_neg c16] at H; exact absurd H (by simp)
    ·rw [if_neg c15] at H; have c15b0 : decide (x9_1 < (l0.length : Int)) = false := decide_eq_false c15; clear c15; simp only [Option.some.injEq, Prod.mk.injEq] at H; obtain ⟨rfl, rfl⟩ := H
     try go_wp2
     replace BK165 := bd BK165; replace HB := Aside0.mk (below_drew1 HB.out); refine start_ (n := 16) (S := fun w' => True) (ds := []) (pf 0 16) (by kernel_rfl) rfl rfl trivial (fun hHeld => ?_); refine with_tabW api_Edge_46.tab8 api_Edge_46.bits8 (fun HT_ HW_ => ?_); generalize wr.drew = w21 at BK165 HB hHeld ⊢; refine pu_ 0 (some 35) (pf 1 16) HT_ ?_; refine pu_ 1 (some 36) (pf 2 16) HT_ ?_; refine pu_ 2 (some 37) (pf 3 16) HT_ ?_; refine pu_ 3 (some 38) (pf 4 16) HT_ ?_; refine pu_ 4 (some 39) (pf 5 16) HT_ ?_; refine pn_ 5 (some 40) (pf 6 16) HT_ ?_; refine pn_ 6 (some 41) (pf 7 16) HT_ ?_; refine pn_ 7 (some 42) (pf 8 16) HT_ ?_; refine pn_ 8 (some 43) (pf 9 16) HT_ ?_; refine pn_ 9 (some 44) (pf 10 16) HT_ ?_; refine pn_ 10 (some 45) (pf 11 16) HT_ ?_; refine pn_ 11 (some 46) (pf 12 16) HT_ ?_; refine pn_ 12 (some 47) (pf 13 16) HT_ ?_; refine pu_ 13 (some 48) (pf 14 16) HT_ ?_
     refine pu_ 14 (some 6) (pf 15 16) HT_ ?_; refine pu_ 15 (some 7) (pf 16 16) HT_ ?_; refine done_ (done_of HT_.out (by kernel_rfl)) ?_
     try go_wp2
     go_ret2
     exact ⟨by first | rfl | (simp [errW_none, errW_some] <;> rfl) | (simp [*, errW_none, errW_some] <;> rfl), hb1 HB GE165⟩

end Go.Proofs.YthejafdcdcchbaaDoor.PSimA
