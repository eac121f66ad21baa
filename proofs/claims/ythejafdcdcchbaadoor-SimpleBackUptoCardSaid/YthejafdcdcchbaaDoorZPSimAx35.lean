import Derived.Test.YthejafdcdcchbaaDoorZPSimAx0
import Derived.Test.YthejafdcdcchbaaDoorZXSimI
import Derived.Test.YthejafdcdcchbaaDoorZPSimAx17
-- PRINTED by print.py (a twelfth state) out of the translation. Not trusted: Lean checks it.
namespace Go.Proofs.YthejafdcdcchbaaDoor.PSimA
open Go.RowKit Go.Proofs.YthejafdcdcchbaaDoorW.PrintWords Go.Proofs.YthejafdcdcchbaaDoorW.PrintLast Go.Proofs.YthejafdcdcchbaaDoorW.PrintMore
open Go.Proofs.YthejafdcdcchbaaDoorX
attribute [local go_sem] max2_int min2_int max_two min_two max_three min_three max_four min_four   -- for this text's walks alone
set_option linter.unusedVariables false
set_option linter.unusedSimpArgs false

/-! ### strconv_Itoa: function 38 -/
def strconv_Itoa.f (a0 : Int) : Option (ByteArray) := if -9223372036854775808 ≤ a0 ∧ a0 ≤ 9223372036854775807 then some (⟨(Lib.itoa a0).toArray⟩ : ByteArray) else none
theorem strconv_Itoa.calls (a0 : Int) (r : ByteArray) (w : World) (hT : TabW w) (h : strconv_Itoa.f a0 = some r) :
  Calls Tryd.prog 38 #[.int .i64 a0] w fun e w' => e = .returned (.string r) ∧ Below w.heap.size w w' := by
 unfold strconv_Itoa.f at h
 by_cases hl : -9223372036854775808 ≤ a0 ∧ a0 ≤ 9223372036854775807
 · rw [if_pos hl] at h; obtain rfl := Option.some.inj h; exact itoa_c a0 hl.1 hl.2 w hT
 · rw [if_neg hl] at h; cases h

end Go.Proofs.YthejafdcdcchbaaDoor.PSimA

-- PRINTED by print.py (a twelfth state) out of the translation. Not trusted: Lean checks it.
namespace Go.Proofs.YthejafdcdcchbaaDoor.PSimA
open Go.RowKit Go.Proofs.YthejafdcdcchbaaDoorW.PrintWords Go.Proofs.YthejafdcdcchbaaDoorW.PrintLast Go.Proofs.YthejafdcdcchbaaDoorW.PrintMore
open Go.Proofs.YthejafdcdcchbaaDoorX
attribute [local go_sem] max2_int min2_int max_two min_two max_three min_three max_four min_four   -- for this text's walks alone
set_option linter.unusedVariables false
set_option linter.unusedSimpArgs false

/-! ### tangramref03_Text: function 16 -/
def tangramref03_Text.l0 : Nat → ByteArray → Int → Int → List (S42) → Option (ByteArray × Int)
 | 0, _, _, _, _ => none
 | k + 1, x5, x6, x402000, x402001 => if x6 < (x402001.length : Int) then (if 0 ≤ x6 then ((strconv_Itoa.f ((rd_T42 x402001 x6).f0)).bind fun t406 => (if x5.size + t406.size ≤ 9223372036854775807 then (if (x5 ++ t406).size + 1 ≤ 9223372036854775807 then ((strconv_Itoa.f ((rd_T42 x402001 x6).f1)).bind fun t408 => (if ((x5 ++ t406) ++ (⟨#[32]⟩ : ByteArray)).size + t408.size ≤ 9223372036854775807 then (if (((x5 ++ t406) ++ (⟨#[32]⟩ : ByteArray)) ++ t408).size + 1 ≤ 9223372036854775807 then (tangramref03_Text.l0 k ((((x5 ++ t406) ++ (⟨#[32]⟩ : ByteArray)) ++ t408) ++ (⟨#[10]⟩ : ByteArray)) (wrap64 (x6 + 1)) x402000 x402001) else (none)) else (none))) else (none)) else (none))) else (none)) else (if (x5.size : Int) > 16777216 then (some ((⟨#[]⟩ : ByteArray), 141)) else (some (x5, 0)))
def tangramref03_Text.f (k : Nat) (a0_0 : Int) (l0_1 : List (S42)) : Option (ByteArray × Int) := (tangramref03_Valid.f k a0_0 l0_1).bind fun t402 => (if t402 = true then (if (l0_1.length : Int) > 2097152 then (some ((⟨#[]⟩ : ByteArray), 141)) else ((strconv_Itoa.f a0_0).bind fun t403 => (if t403.size + 1 ≤ 9223372036854775807 then ((strconv_Itoa.f (l0_1.length : Int)).bind fun t404 => (if (t403 ++ (⟨#[32]⟩ : ByteArray)).size + t404.size ≤ 9223372036854775807 then (if ((t403 ++ (⟨#[32]⟩ : ByteArray)) ++ t404).size + 1 ≤ 9223372036854775807 then (tangramref03_Text.l0 k (((t403 ++ (⟨#[32]⟩ : ByteArray)) ++ t404) ++ (⟨#[10]⟩ : ByteArray)) 0 a0_0 l0_1) else (none)) else (none))) else (none)))) else (some ((⟨#[]⟩ : ByteArray), 1)))
theorem tangramref03_Text.mono_l : ∀ k, (∀ y0 y1 y2 y3, LeO (tangramref03_Text.l0 k y0 y1 y2 y3) (tangramref03_Text.l0 (k + 1) y0 y1 y2 y3))
 | 0 => fun _ _ _ _ r h => by simp [tangramref03_Text.l0] at h
 | k + 1 => by
  have ih0 := tangramref03_Text.mono_l k
  ·intro y0 y1 y2 y3
   unfold tangramref03_Text.l0
   repeat' first
   | (with_reducible exact ih0 _ _ _ _)
   | (with_reducible exact tangramref03_Valid.mono _ _ _)
   | (with_reducible exact LeO.refl _)
   | (with_reducible exact LeO.none _)
   | (with_reducible refine LeO.ite ?_ ?_)
   | (with_reducible refine LeO.bind ?_ (fun _ => ?_))
   | exact ih0 _ _ _ _
   | exact tangramref03_Valid.mono _ _ _
   | exact LeO.none _
   | refine LeO.ite ?_ ?_
   | refine LeO.bind ?_ (fun _ => ?_)
theorem tangramref03_Text.mono : ∀ a0 a1 k, LeO (tangramref03_Text.f k a0 a1) (tangramref03_Text.f (k + 1) a0 a1) := by
 intro a0 a1 k; have ih0 := tangramref03_Text.mono_l k
 unfold tangramref03_Text.f
 repeat' first
   | (with_reducible exact ih0 _ _ _ _)
   | (with_reducible exact tangramref03_Valid.mono _ _ _)
   | (with_reducible exact LeO.refl _)
   | (with_reducible exact LeO.none _)
   | (with_reducible refine LeO.ite ?_ ?_)
   | (with_reducible refine LeO.bind ?_ (fun _ => ?_))
   | exact ih0 _ _ _ _
   | exact tangramref03_Valid.mono _ _ _
   | exact LeO.none _
   | refine LeO.ite ?_ ?_
   | refine LeO.bind ?_ (fun _ => ?_)
def tangramref03_Text.T6 : Bool × List (List Nat × List Nat) := (true, [([], []), ([0], [0]), ([1], [1]), ([2], [2]), ([], []), ([4], [4]), ([5], [5]), ([6, 2], [6]), ([3, 7], [3, 7]), ([8], [8]), ([9, 7, 0, 1, 2, 3, 4, 5, 6, 7, 8, 9], [9])])
def tangramref03_Text.B6 : List Nat := [0, 1, 3, 7, 0, 16, 48, 119, 255, 511, 1023]
theorem tangramref03_Text.tab6 : rtab .any (opsOf Tryd.f16 6) = tangramref03_Text.T6 := by kernel_rfl
theorem tangramref03_Text.bits6 : waitsOk tangramref03_Text.T6.2 tangramref03_Text.B6 = true := by kernel_rfl
def tangramref03_Text.T10 : Bool × List (List Nat × List Nat) := (true, [([], []), ([], []), ([1], [1]), ([], []), ([2, 3], [2, 3]), ([4], [4]), ([5], [5]), ([6], [6]), ([0, 7], [0, 7]), ([8], [8]), ([], []), ([10], [10]), ([], []), ([11, 12], [11, 12]), ([13], [13]), ([14], [14]), ([15, 7], [15]), ([9, 16], [9, 16]), ([17], [17]), ([18, 16, 0, 1, 2, 3, 4, 5, 6, 7, 8, 9, 10, 11, 12, 13, 14, 15, 16, 17, 18], [0, 18])])
def tangramref03_Text.B10 : List Nat := [0, 0, 2, 0, 14, 30, 62, 126, 255, 511, 0, 1024, 0, 7168, 15360, 31744, 64766, 131071, 262143, 524287]
theorem tangramref03_Text.tab10 : rtab .any (opsOf Tryd.f16 10) = tangramref03_Text.T10 := by kernel_rfl
theorem tangramref03_Text.bits10 : waitsOk tangramref03_Text.T10.2 tangramref03_Text.B10 = true := by kernel_rfl
set_option maxHeartbeats 8000000 in
set_option maxRecDepth 100000 in
theorem tangramref03_Text.calls (k : Nat) (a0_0 : Int) (A0_1 : Option Addr) (c0_1 : Nat) (l0_1 : List (S42)) (r1 : ByteArray) (r2 : Int) (w : World) (hT : TabW w) (hr0_1 : Kd.C k42 w A0_1 l0_1.length l0_1) (hc0_1 : l0_1.length ≤ c0_1) (h : tangramref03_Text.f k a0_0 l0_1 = some (r1, r2)) :
  Calls Tryd.prog 16 #[.agg #[.int .i64 a0_0, .slice A0_1 l0_1.length c0_1]] w fun e w' => e = .returned (.tuple #[.string r1, .int .i64 r2]) ∧ Below w.heap.size w w' := by
 have HT := Aside0.mk hT; clear hT; have hu26 := Tryd.underlying26; have HR0_1 := Aside0.mk hr0_1; have HC0_1 := Aside0.mk hc0_1; clear hr0_1 hc0_1; have HB := Aside0.mk (Below.refl w.heap.size w); have H : ((tangramref03_Valid.f k a0_0 l0_1).bind fun t402 => (if t402 = true then (if (l0_1.length : Int) > 2097152 then (some ((⟨#[]⟩ : ByteArray), 141)) else ((strconv_Itoa.f a0_0).bind fun t403 => (if t403.size + 1 ≤ 9223372036854775807 then ((strconv_Itoa.f (l0_1.length : Int)).bind fun t404 => (if (t403 ++ (⟨#[32]⟩ : ByteArray)).size + t404.size ≤ 9223372036854775807 then (if ((t403 ++ (⟨#[32]⟩ : ByteArray)) ++ t404).size + 1 ≤ 9223372036854775807 then (tangramref03_Text.l0 k (((t403 ++ (⟨#[32]⟩ : ByteArray)) ++ t404) ++ (⟨#[10]⟩ : ByteArray)) 0 a0_0 l0_1) else (none)) else (none))) else (none)))) else (some ((⟨#[]⟩ : ByteArray), 1)))) = some (r1, r2) := h; clear h; replace H := Option.bind_eq_some_iff.mp H; obtain ⟨t402, A20, H⟩ := H; replace H : (if t402 = true then (if (l0_1.length : Int) > 2097152 then (some ((⟨#[]⟩ : ByteArray), 141)) else ((strconv_Itoa.f a0_0).bind fun t403 => (if t403.size + 1 ≤ 9223372036854775807 then ((strconv_Itoa.f (l0_1.length : Int)).bind fun t404 => (if (t403 ++ (⟨#[32]⟩ : ByteArray)).size + t404.size ≤ 9223372036854775807 then (if ((t403 ++ (⟨#[32]⟩ : ByteArray)) ++ t404).size + 1 ≤ 9223372036854775807 then (tangramref03_Text.l0 k (((t403 ++ (⟨#[32]⟩ : ByteArray)) ++ t404) ++ (⟨#[10]⟩ : ByteArray)) 0 a0_0 l0_1) else (none)) else (none))) else (none)))) else (some ((⟨#[]⟩ : ByteArray), 1))) = some (r1, r2) := H
 have A2 := Aside0.mk A20; clear A20
 by_cases c3 : t402 = true
 ·subst c3; have H1 : (if (l0_1.length : Int) > 2097152 then (some ((⟨#[]⟩ : ByteArray), 141)) else ((strconv_Itoa.f a0_0).bind fun t403 => (if t403.size + 1 ≤ 9223372036854775807 then ((strconv_Itoa.f (l0_1.length : Int)).bind fun t404 => (if (t403 ++ (⟨#[32]⟩ : ByteArray)).size + t404.size ≤ 9223372036854775807 then (if ((t403 ++ (⟨#[32]⟩ : ByteArray)) ++ t404).size + 1 ≤ 9223372036854775807 then (tangramref03_Text.l0 k (((t403 ++ (⟨#[32]⟩ : ByteArray)) ++ t404) ++ (⟨#[10]⟩ : ByteArray)) 0 a0_0 l0_1) else (none)) else (none))) else (none)))) = some (r1, r2) := by rw [if_pos rfl] at H; exact H
  clear H; have H := H1; clear H1
  by_cases c4 : (l0_1.length : Int) > 2097152
  ·rw [if_pos c4] at H; have c4b0 : decide (2097152 < (l0_1.length : Int)) = true := decide_eq_true c4; have c4b1 : decide (2097152 < l0_1.length) = true := decide_eq_true (by omega); clear c4; simp only [Option.some.injEq, Prod.mk.injEq] at H; obtain ⟨rfl, rfl⟩ := H
   go_enter Tryd.func16, Tryd.ntmps16
   go_wp2_with (first | ((with_reducible refine gate_dst (N := 1) rfl ?_); refine be_ 1 #[.int .i64 a0_0, .slice A0_1 l0_1.length c0_1] 26 ?_; intro gb401 hg w5 hbox hb; have BK401 := Aside0.mk (hbox); have GW401 := wq (hb0 HB) hg; have GE401 := wq (hb0 HB) hg; replace HB := hs (hb0 HB) hb; clear hb hbox hg; have hcz6_0 : w5.cell? ⟨gb401, 0, none⟩ = some (.int .i64 a0_0) := bc BK401 0; have hcz6_1 : w5.cell? ⟨gb401, 1, none⟩ = some (.slice A0_1 l0_1.length c0_1) := bc BK401 1; have hfz6_0 := blk_frozen BK401.out 0; have hfz6_1 := blk_frozen BK401.out 1) | ((with_reducible refine gate_callee (f := 25) rfl ?_); refine gl_ (some 8) Tryd.func25 #[.agg #[.int .i64 a0_0, .slice A0_1 l0_1.length c0_1]] ?_; (with_reducible refine (tangramref03_Valid.calls k a0_0 _ _ l0_1 true _ ?side1 ?side2 A2.out).mono ?_); (case side1 => repeat (first | exact (Kd.C_below HR0_1.out HB.out) | (with_reducible refine Kd.C_alloc ?_ _) | (with_reducible refine Kd.C_drewN ?_ _) | (with_reducible refine Kd.C_drew ?_))); (case side2 => exact HC0_1.out); rintro e w7 ⟨rfl, hb⟩; refine ⟨_, rfl, ?_⟩; replace BK401 := kx BK401 hb; replace HB := hs (hb1 HB GE401) hb; (try clear hb); (try clear hb2); (try clear hk); (try clear hi); have hcz8_0 : w7.cell? ⟨gb401, 0, none⟩ = some (.int .i64 a0_0) := bc BK401 0; have hcz8_1 : w7.cell? ⟨gb401, 1, none⟩ = some (.slice A0_1 l0_1.length c0_1) := bc BK401 1; have hfz8_0 := blk_frozen BK401.out 0; have hfz8_1 := blk_frozen BK401.out 1))
   go_ret2
   exact ⟨by first | rfl | (simp [errW_none, errW_some] <;> rfl) | (simp [*, errW_none, errW_some] <;> rfl), hb1 HB GE401⟩
  ·rw [if_neg c4] at H; have c4b0 : decide (2097152 < (l0_1.length : Int)) = false := decide_eq_false c4; have c4b1 : decide (2097152 < l0_1.length) = false := decide_eq_false (by omega); clear c4; replace H := Option.bind_eq_some_iff.mp H; obtain ⟨t403, A90, H⟩ := H; replace H : (if t403.size + 1 ≤ 9223372036854775807 then ((strconv_Itoa.f (l0_1.length : Int)).bind fun t404 => (if (t403 ++ (⟨#[32]⟩ : ByteArray)).size + t404.size ≤ 9223372036854775807 then (if ((t403 ++ (⟨#[32]⟩ : ByteArray)) ++ t404).size + 1 ≤ 9223372036854775807 then (tangramref03_Text.l0 k (((t403 ++ (⟨#[32]⟩ : ByteArray)) ++ t404) ++ (⟨#[10]⟩ : ByteArray)) 0 a0_0 l0_1) else (none)) else (none))) else (none)) = some (r1, r2) := H; have A9 := Aside0.mk A90; clear A90
   by_cases c10 : t403.size + 1 ≤ 9223372036854775807
   ·rw [if_pos c10] at H; have c10b0 := eq_true c10; have c10b1 : decide (t403.size + 1 ≤ 9223372036854775807) = true := decide_eq_true c10
    try have c10b2 : (9223372036854775807 < t403.size + 1) = False := eq_false (Nat.not_lt.2 c10)
    try have c10n : (9223372036854775807 < t403.size + 1) = False := by (have e_ := c10b2; first | exact e_ | (simp only [ByteArray.size_append, show (⟨#[32]⟩ : ByteArray).size = 1 from rfl, show (⟨#[10]⟩ : ByteArray).size = 1 from rfl] at e_; exact e_))
    replace H := Option.bind_eq_some_iff.mp H; obtain ⟨t404, A110, H⟩ := H; replace H : (if (t403 ++ (⟨#[32]⟩ : ByteArray)).size + t404.size ≤ 9223372036854775807 then (if ((t403 ++ (⟨#[32]⟩ : ByteArray)) ++ t404).size + 1 ≤ 9223372036854775807 then (tangramref03_Text.l0 k (((t403 ++ (⟨#[32]⟩ : ByteArray)) ++ t404) ++ (⟨#[10]⟩ : ByteArray)) 0 a0_0 l0_1) else (none)) else (none)) = some (r1, r2) := H; have A11 := Aside0.mk A110; clear A110
    by_cases c12 : (t403 ++ (⟨#[32]⟩ : ByteArray)).size + t404.size ≤ 9223372036854775807
    ·rw [if_pos c12] at H; have c12b0 := eq_true c12; have c12b1 : decide ((t403 ++ (⟨#[32]⟩ : ByteArray)).size + t404.size ≤ 9223372036854775807) = true := decide_eq_true c12
     try have c12b2 : (9223372036854775807 < (t403 ++ (⟨#[32]⟩ : ByteArray)).size + t404.size) = False := eq_false (Nat.not_lt.2 c12)
     try have c12n : (9223372036854775807 < t403.size + 1 + t404.size) = False := by (have e_ := c12b2; first | exact e_ | (simp only [ByteArray.size_append, show (⟨#[32]⟩ : ByteArray).size = 1 from rfl, show (⟨#[10]⟩ : ByteArray).size = 1 from rfl] at e_; exact e_))
     by_cases c13 : ((t403 ++ (⟨#[32]⟩ : ByteArray)) ++ t404).size + 1 ≤ 9223372036854775807
     ·rw [if_pos c13] at H; have c13b0 := eq_true c13; have c13b1 : decide (((t403 ++ (⟨#[32]⟩ : ByteArray)) ++ t404).size + 1 ≤ 9223372036854775807) = true := decide_eq_true c13
      try have c13b2 : (9223372036854775807 < ((t403 ++ (⟨#[32]⟩ : ByteArray)) ++ t404).size + 1) = False := eq_false (Nat.not_lt.2 c13)
      try have c13n : (9223372036854775807 < t403.size + 1 + t404.size + 1) = False := by (have e_ := c13b2; first | exact e_ | (simp only [ByteArray.size_append, show (⟨#[32]⟩ : ByteArray).size = 1 from rfl, show (⟨#[10]⟩ : ByteArray).size = 1 from rfl] at e_; exact e_))
      have H' := Aside0.mk H; clear H
      go_enter Tryd.func16, Tryd.ntmps16
      try go_wp2_with (first | ((with_reducible refine gate_dst (N := 1) rfl ?_); refine be_ 1 #[.int .i64 a0_0, .slice A0_1 l0_1.length c0_1] 26 ?_; intro gb401 hg w14 hbox hb; have BK401 := Aside0.mk (hbox); have GW401 := wq (hb0 HB) hg; have GE401 := wq (hb0 HB) hg; replace HB := hs (hb0 HB) hb; clear hb hbox hg; have hcz15_0 : w14.cell? ⟨gb401, 0, none⟩ = some (.int .i64 a0_0) := bc BK401 0; have hcz15_1 : w14.cell? ⟨gb401, 1, none⟩ = some (.slice A0_1 l0_1.length c0_1) := bc BK401 1; have hfz15_0 := blk_frozen BK401.out 0; have hfz15_1 := blk_frozen BK401.out 1) | ((with_reducible refine gate_callee (f := 25) rfl ?_); refine gl_ (some 8) Tryd.func25 #[.agg #[.int .i64 a0_0, .slice A0_1 l0_1.length c0_1]] ?_; (with_reducible refine (tangramref03_Valid.calls k a0_0 _ _ l0_1 true _ ?side1 ?side2 A2.out).mono ?_); (case side1 => repeat (first | exact (Kd.C_below HR0_1.out HB.out) | (with_reducible refine Kd.C_alloc ?_ _) | (with_reducible refine Kd.C_drewN ?_ _) | (with_reducible refine Kd.C_drew ?_))); (case side2 => exact HC0_1.out); rintro e w16 ⟨rfl, hb⟩; refine ⟨_, rfl, ?_⟩; replace BK401 := kx BK401 hb; replace HB := hs (hb1 HB GE401) hb; (try clear hb); (try clear hb2); (try clear hk); (try clear hi); have hcz17_0 : w16.cell? ⟨gb401, 0, none⟩ = some (.int .i64 a0_0) := bc BK401 0; have hcz17_1 : w16.cell? ⟨gb401, 1, none⟩ = some (.slice A0_1 l0_1.length c0_1) := bc BK401 1; have hfz17_0 := blk_frozen BK401.out 0; have hfz17_1 := blk_frozen BK401.out 1))
      replace BK401 := bd BK401; replace HB := Aside0.mk (below_drew1 HB.out); refine start_ (n := 11) (S := fun w' => w'.cell? ⟨gb401, 0, none⟩ = some (.int .i64 a0_0) ∧ w'.cell? ⟨gb401, 1, none⟩ = some (.slice A0_1 l0_1.length c0_1)) (ds := []) (pf 0 11) (by kernel_rfl) rfl rfl ⟨bc BK401 0, bc BK401 1⟩ (fun hHeld => ?_); refine with_tabW tangramref03_Text.tab6 tangramref03_Text.bits6 (fun HT_ HW_ => ?_); generalize w16.drew = w18 at BK401 HB hHeld ⊢; refine pu_ 0 (some 15) (pf 1 11) HT_ ?_; refine pu_ 4 (some 19) #[T_,F_,F_,F_,T_,F_,F_,F_,F_,F_,F_] HT_ ?_; refine tk2_ 1 (some 16) #[T_,T_,F_,F_,T_,F_,F_,F_,F_,F_,F_] HT_ HW_ hHeld ?_; refine tk2_ 5 (some 20) #[T_,T_,F_,F_,T_,T_,F_,F_,F_,F_,F_] HT_ HW_ hHeld ?_; refine pu_ 6 (some 21) #[T_,T_,F_,F_,T_,T_,T_,F_,F_,F_,F_] HT_ ?_; refine on_ 2 (some 17) #[T_,T_,T_,F_,T_,T_,T_,F_,F_,F_,F_] HT_ (fun K hK => ?_); refine gs_ Tryd.func38 #[.int .i64 a0_0] ?_
      with_reducible refine (strconv_Itoa.calls a0_0 t403 _ ?sideT A9.out).mono ?_
      (case sideT => exact tb HT (hb0 HB))
      rintro e w19 ⟨rfl, hb⟩; refine ⟨_, rfl, ?_⟩; replace BK401 := kx BK401 hb; replace HB := hs (hb1 HB GE401) hb
      (try clear hb)
      (try clear hb2)
      (try clear hk)
      (try clear hi)
      refine hK.out _ _ ⟨bc BK401 0, bc BK401 1⟩ (fun hHeld => ?_); clear hK K; refine nm_ (some 17) ?_; refine pu_ 3 (some 18) (pf 7 11) HT_ ?_; refine on_ 7 (some 22) (pf 8 11) HT_ (fun K hK => ?_); refine gs_ Tryd.func38 #[.int .i64 (l0_1.length : Int)] ?_
      with_reducible refine (strconv_Itoa.calls (l0_1.length : Int) t404 _ ?sideT A11.out).mono ?_
      (case sideT => exact tb HT (hb0 HB))
      rintro e w20 ⟨rfl, hb⟩; refine ⟨_, rfl, ?_⟩; replace BK401 := kx BK401 hb; replace HB := hs (hb1 HB GE401) hb
      (try clear hb)
      (try clear hb2)
      (try clear hk)
      (try clear hi)
      refine hK.out _ _ ⟨bc BK401 0, bc BK401 1⟩ (fun hHeld => ?_); clear hK K; refine nm_ (some 22) ?_; refine pu_ 8 (some 23) (pf 9 11) HT_ ?_; refine pu_ 9 (some 24) (pf 10 11) HT_ ?_; refine pu_ 10 (some 5) (pf 11 11) HT_ ?_; refine done_ (done_of HT_.out (by kernel_rfl)) ?_
      try go_wp2
      go_loopg [5, 6] k (fun kq v5 v6 w' => ∃ (x5_1 : ByteArray) (x6_1 : Int), v5 = .string x5_1 ∧ v6 = .int .i64 x6_1 ∧ Aside0 (tangramref03_Text.l0 kq x5_1 x6_1 a0_0 l0_1 = some (r1, r2)) ∧ Aside0 (kq ≤ k) ∧ Aside0 (w'.heap[gb401]? = some (.cells #[.int .i64 a0_0, (.slice A0_1 l0_1.length c0_1)] 26 (0, 0))) ∧ Aside0 (Below w.heap.size w w'))
      case atStart => exact ⟨(((t403 ++ (⟨#[32]⟩ : ByteArray)) ++ t404) ++ (⟨#[10]⟩ : ByteArray)), (0), (by first | rfl | (simp; done) | (simp [*]; done)), (by first | rfl | (simp; done) | (simp [*]; done)), H', ⟨Nat.le_refl _⟩, ⟨bx BK401⟩, ⟨hb1 HB GE401⟩⟩
      case round =>
       clear H'
       try clear c1
       try clear c2
       try clear p2
       try clear c3
       try clear c4
       try clear c4b0
       try clear c4b1
       try clear c10
       try clear c10b0
       try clear c10b1
       try clear c10b2
       try clear c12
       try clear c12b0
       try clear c12b1
       try clear c12b2
       try clear c13
       try clear c13b0
       try clear c13b1
       try clear c13b2
       try clear c16
       try clear hcz15_0
       try clear hcz15_1
       try clear hcz17_0
       try clear hcz17_1
       try clear hcz6_0
       try clear hcz6_1
       try clear hcz8_0
       try clear hcz8_1
       try clear hfz15_0
       try clear hfz15_1
       try clear hfz17_0
       try clear hfz17_1
       try clear hfz6_0
       try clear hfz6_1
       try clear hfz8_0
       try clear hfz8_1
       obtain ⟨x5_1, x6_1, rfl, rfl, HA, HK1, BK401, HB⟩ := hrel
       cases gk with
       | zero => exact absurd HA.out (by simp [tangramref03_Text.l0])
       | succ k1 =>
        have H := HA.out; clear HA; simp only [tangramref03_Text.l0] at H
        by_cases c21 : x6_1 < (l0_1.length : Int)
        ·rw [if_pos c21] at H; have c21b0 : decide (x6_1 < (l0_1.length : Int)) = true := decide_eq_true c21; clear c21
         by_cases c22 : 0 ≤ x6_1
         ·rw [if_pos c22] at H; have c22b0 : decide (0 ≤ x6_1) = true := decide_eq_true c22; clear c22; replace H := Option.bind_eq_some_iff.mp H; obtain ⟨t406, A230, H⟩ := H; replace H : (if x5_1.size + t406.size ≤ 9223372036854775807 then (if (x5_1 ++ t406).size + 1 ≤ 9223372036854775807 then ((strconv_Itoa.f ((rd_T42 l0_1 x6_1).f1)).bind fun t408 => (if ((x5_1 ++ t406) ++ (⟨#[32]⟩ : ByteArray)).size + t408.size ≤ 9223372036854775807 then (if (((x5_1 ++ t406) ++ (⟨#[32]⟩ : ByteArray)) ++ t408).size + 1 ≤ 9223372036854775807 then (tangramref03_Text.l0 k1 ((((x5_1 ++ t406) ++ (⟨#[32]⟩ : ByteArray)) ++ t408) ++ (⟨#[10]⟩ : ByteArray)) (wrap64 (x6_1 + 1)) a0_0 l0_1) else (none)) else (none))) else (none)) else (none)) = some (r1, r2) := H; have A23 := Aside0.mk A230; clear A230
          by_cases c24 : x5_1.size + t406.size ≤ 9223372036854775807
          ·rw [if_pos c24] at H; have c24b0 := eq_true c24; have c24b1 : decide (x5_1.size + t406.size ≤ 9223372036854775807) = true := decide_eq_true c24
           try have c24b2 : (9223372036854775807 < x5_1.size + t406.size) = False := eq_false (Nat.not_lt.2 c24)
           try have c24n : (9223372036854775807 < x5_1.size + t406.size) = False := by (have e_ := c24b2; first | exact e_ | (simp only [ByteArray.size_append, show (⟨#[32]⟩ : ByteArray).size = 1 from rfl, show (⟨#[10]⟩ : ByteArray).size = 1 from rfl] at e_; exact e_))
           by_cases c25 : (x5_1 ++ t406).size + 1 ≤ 9223372036854775807
           ·rw [if_pos c25] at H; have c25b0 := eq_true c25; have c25b1 : decide ((x5_1 ++ t406).size + 1 ≤ 9223372036854775807) = true := decide_eq_true c25
            try have c25b2 : (9223372036854775807 < (x5_1 ++ t406).size + 1) = False := eq_false (Nat.not_lt.2 c25)
            try have c25n : (9223372036854775807 < x5_1.size + t406.size + 1) = False := by (have e_ := c25b2; first | exact e_ | (simp only [ByteArray.size_append, show (⟨#[32]⟩ : ByteArray).size = 1 from rfl, show (⟨#[10]⟩ : ByteArray).size = 1 from rfl] at e_; exact e_))
            replace H := Option.bind_eq_some_iff.mp H; obtain ⟨t408, A260, H⟩ := H; replace H : (if ((x5_1 ++ t406) ++ (⟨#[32]⟩ : ByteArray)).size + t408.size ≤ 9223372036854775807 then (if (((x5_1 ++ t406) ++ (⟨#[32]⟩ : ByteArray)) ++ t408).size + 1 ≤ 9223372036854775807 then (tangramref03_Text.l0 k1 ((((x5_1 ++ t406) ++ (⟨#[32]⟩ : ByteArray)) ++ t408) ++ (⟨#[10]⟩ : ByteArray)) (wrap64 (x6_1 + 1)) a0_0 l0_1) else (none)) else (none)) = some (r1, r2) := H; have A26 := Aside0.mk A260; clear A260
            by_cases c27 : ((x5_1 ++ t406) ++ (⟨#[32]⟩ : ByteArray)).size + t408.size ≤ 9223372036854775807
            ·rw [if_pos c27] at H; have c27b0 := eq_true c27; have c27b1 : decide (((x5_1 ++ t406) ++ (⟨#[32]⟩ : ByteArray)).size + t408.size ≤ 9223372036854775807) = true := decide_eq_true c27
             try have c27b2 : (9223372036854775807 < ((x5_1 ++ t406) ++ (⟨#[32]⟩ : ByteArray)).size + t408.size) = False := eq_false (Nat.not_lt.2 c27)
             try have c27n : (9223372036854775807 < x5_1.size + t406.size + 1 + t408.size) = False := by (have e_ := c27b2; first | exact e_ | (simp only [ByteArray.size_append, show (⟨#[32]⟩ : ByteArray).size = 1 from rfl, show (⟨#[10]⟩ : ByteArray).size = 1 from rfl] at e_; exact e_))
             by_cases c28 : (((x5_1 ++ t406) ++ (⟨#[32]⟩ : ByteArray)) ++ t408).size + 1 ≤ 9223372036854775807
             ·rw [if_pos c28] at H; have c28b0 := eq_true c28; have c28b1 : decide ((((x5_1 ++ t406) ++ (⟨#[32]⟩ : ByteArray)) ++ t408).size + 1 ≤ 9223372036854775807) = true := decide_eq_true c28
              try have c28b2 : (9223372036854775807 < (((x5_1 ++ t406) ++ (⟨#[32]⟩ : ByteArray)) ++ t408).size + 1) = False := eq_false (Nat.not_lt.2 c28)
              try have c28n : (9223372036854775807 < x5_1.size + t406.size + 1 + t408.size + 1) = False := by (have e_ := c28b2; first | exact e_ | (simp only [ByteArray.size_append, show (⟨#[32]⟩ : ByteArray).size = 1 from rfl, show (⟨#[10]⟩ : ByteArray).size = 1 from rfl] at e_; exact e_))
              have H' := Aside0.mk H; clear H; have hcz29_0 : wr.cell? ⟨gb401, 0, none⟩ = some (.int .i64 a0_0) := bc BK401 0; have hcz29_1 : wr.cell? ⟨gb401, 1, none⟩ = some (.slice A0_1 l0_1.length c0_1) := bc BK401 1; have hfz29_0 := blk_frozen BK401.out 0; have hfz29_1 := blk_frozen BK401.out 1
              try go_wp2
              replace BK401 := bd BK401; replace HB := Aside0.mk (below_drew1 HB.out); have p405 : 0 ≤ (x6_1 : Int) := of_decide_eq_true (by first | (with_reducible assumption) | assumption); have q405 : x6_1 < (l0_1.length : Int) := of_decide_eq_true (by first | (with_reducible assumption) | assumption); obtain ⟨ad405, e405, hx405_0, hx405_1⟩ := at_T42 HR0_1.out x6_1 p405 q405; have hw405_1 := hx405_1; have hw405_0 := hx405_0
              cases e405
              replace hx405_0 := (HB.out.cell (World.block_lt_of_cell? w _ hx405_0)).trans hx405_0; replace hx405_1 := (HB.out.cell (World.block_lt_of_cell? w _ hx405_1)).trans hx405_1; replace p405 := eq_true p405; replace q405 := eq_true q405; have p407 : 0 ≤ (x6_1 : Int) := of_decide_eq_true (by first | (with_reducible assumption) | assumption); have q407 : x6_1 < (l0_1.length : Int) := of_decide_eq_true (by first | (with_reducible assumption) | assumption); obtain ⟨ad407, e407, hx407_0, hx407_1⟩ := at_T42 HR0_1.out x6_1 p407 q407; have hw407_1 := hx407_1; have hw407_0 := hx407_0; obtain rfl : ad405 = ad407 := (by injection e407); replace hx407_0 := (HB.out.cell (World.block_lt_of_cell? w _ hx407_0)).trans hx407_0; replace hx407_1 := (HB.out.cell (World.block_lt_of_cell? w _ hx407_1)).trans hx407_1; replace p407 := eq_true p407; replace q407 := eq_true q407; refine start_ (n := 20) (S := fun w' => w'.cell? ⟨gb401, 0, none⟩ = some (.int .i64 a0_0) ∧ w'.cell? ⟨gb401, 1, none⟩ = some (.slice (some ad405) l0_1.length c0_1) ∧ w'.cell? (ad405.add ((x6_1).toNat * 2)) = some (.int .i64 ((rd_T42 l0_1 x6_1).f0)) ∧ w'.cell? ⟨(ad405.add ((x6_1).toNat * 2)).block, (ad405.add ((x6_1).toNat * 2)).off + 1, none⟩ = some (.int .i64 ((rd_T42 l0_1 x6_1).f1)) ∧ w'.cell? (ad405.add ((x6_1).toNat * 2)) = some (.int .i64 ((rd_T42 l0_1 x6_1).f0)) ∧ w'.cell? ⟨(ad405.add ((x6_1).toNat * 2)).block, (ad405.add ((x6_1).toNat * 2)).off + 1, none⟩ = some (.int .i64 ((rd_T42 l0_1 x6_1).f1))) (ds := []) (pf 0 20) (by kernel_rfl) rfl rfl ⟨bc BK401 0, bc BK401 1, ((HB.out.cell (World.block_lt_of_cell? w _ hw405_0)).trans hw405_0), ((HB.out.cell (World.block_lt_of_cell? w _ hw405_1)).trans hw405_1), ((HB.out.cell (World.block_lt_of_cell? w _ hw407_0)).trans hw407_0), ((HB.out.cell (World.block_lt_of_cell? w _ hw407_1)).trans hw407_1)⟩ (fun hHeld => ?_); refine with_tabW tangramref03_Text.tab10 tangramref03_Text.bits10 (fun HT_ HW_ => ?_)
              generalize wr.drew = w30 at BK401 HB hx405_0 hx405_1 hx407_0 hx407_1 hHeld ⊢; refine pu_ 0 (some 32) (pf 1 20) HT_ ?_; refine pu_ 1 (some 33) (pf 2 20) HT_ ?_; refine pu_ 3 (some 35) #[T_,T_,F_,T_,F_,F_,F_,F_,F_,F_,F_,F_,F_,F_,F_,F_,F_,F_,F_,F_] HT_ ?_; refine pu_ 10 (some 42) #[T_,T_,F_,T_,F_,F_,F_,F_,F_,F_,T_,F_,F_,F_,F_,F_,F_,F_,F_,F_] HT_ ?_; refine pu_ 12 (some 44) #[T_,T_,F_,T_,F_,F_,F_,F_,F_,F_,T_,F_,T_,F_,F_,F_,F_,F_,F_,F_] HT_ ?_; refine tk6_ 2 (some 34) #[T_,T_,T_,T_,F_,F_,F_,F_,F_,F_,T_,F_,T_,F_,F_,F_,F_,F_,F_,F_] HT_ HW_ hHeld ?_; refine pu_ 4 (some 36) #[T_,T_,T_,T_,T_,F_,F_,F_,F_,F_,T_,F_,T_,F_,F_,F_,F_,F_,F_,F_] HT_ ?_; refine pu_ 5 (some 37) #[T_,T_,T_,T_,T_,T_,F_,F_,F_,F_,T_,F_,T_,F_,F_,F_,F_,F_,F_,F_] HT_ ?_; refine tk6_ 6 (some 38) #[T_,T_,T_,T_,T_,T_,T_,F_,F_,F_,T_,F_,T_,F_,F_,F_,F_,F_,F_,F_] HT_ HW_ hHeld ?_; refine tk6_ 11 (some 43) #[T_,T_,T_,T_,T_,T_,T_,F_,F_,F_,T_,T_,T_,F_,F_,F_,F_,F_,F_,F_] HT_ HW_ hHeld ?_; refine pu_ 13 (some 45) #[T_,T_,T_,T_,T_,T_,T_,F_,F_,F_,T_,T_,T_,T_,F_,F_,F_,F_,F_,F_] HT_ ?_; refine pu_ 14 (some 46) #[T_,T_,T_,T_,T_,T_,T_,F_,F_,F_,T_,T_,T_,T_,T_,F_,F_,F_,F_,F_] HT_ ?_; refine tk6_ 15 (some 47) #[T_,T_,T_,T_,T_,T_,T_,F_,F_,F_,T_,T_,T_,T_,T_,T_,F_,F_,F_,F_] HT_ HW_ hHeld ?_; refine on_ 7 (some 39) #[T_,T_,T_,T_,T_,T_,T_,T_,F_,F_,T_,T_,T_,T_,T_,T_,F_,F_,F_,F_] HT_ (fun K hK => ?_); refine gs_ Tryd.func38 #[.int .i64 ((rd_T42 l0_1 x6_1).f0)] ?_
              with_reducible refine (strconv_Itoa.calls ((rd_T42 l0_1 x6_1).f0) t406 _ ?sideT A23.out).mono ?_
              (case sideT => exact tb HT (hb0 HB))
              rintro e w31 ⟨rfl, hb⟩; refine ⟨_, rfl, ?_⟩; replace BK401 := kx BK401 hb; replace HB := hs (hb1 HB GE401) hb
              (try clear hb)
              (try clear hb2)
              (try clear hk)
              (try clear hi)
              refine hK.out _ _ ⟨bc BK401 0, bc BK401 1, ((HB.out.cell (World.block_lt_of_cell? w _ hw405_0)).trans hw405_0), ((HB.out.cell (World.block_lt_of_cell? w _ hw405_1)).trans hw405_1), ((HB.out.cell (World.block_lt_of_cell? w _ hw407_0)).trans hw407_0), ((HB.out.cell (World.block_lt_of_cell? w _ hw407_1)).trans hw407_1)⟩ (fun hHeld => ?_); clear hK K; refine nm_ (some 39) ?_; refine pu_ 8 (some 40) #[T_,T_,T_,T_,T_,T_,T_,T_,T_,F_,T_,T_,T_,T_,T_,T_,F_,F_,F_,F_] HT_ ?_; refine pu_ 9 (some 41) (pf 16 20) HT_ ?_; refine on_ 16 (some 48) (pf 17 20) HT_ (fun K hK => ?_); refine gs_ Tryd.func38 #[.int .i64 ((rd_T42 l0_1 x6_1).f1)] ?_
              with_reducible refine (strconv_Itoa.calls ((rd_T42 l0_1 x6_1).f1) t408 _ ?sideT A26.out).mono ?_
              (case sideT => exact tb HT (hb0 HB))
              rintro e w32 ⟨rfl, hb⟩; refine ⟨_, rfl, ?_⟩; replace BK401 := kx BK401 hb; replace HB := hs (hb1 HB GE401) hb
              (try clear hb)
              (try clear hb2)
              (try clear hk)
              (try clear hi)
              refine hK.out _ _ ⟨bc BK401 0, bc BK401 1, ((HB.out.cell (World.block_lt_of_cell? w _ hw405_0)).trans hw405_0), ((HB.out.cell (World.block_lt_of_cell? w _ hw405_1)).trans hw405_1), ((HB.out.cell (World.block_lt_of_cell? w _ hw407_0)).trans hw407_0), ((HB.out.cell (World.block_lt_of_cell? w _ hw407_1)).trans hw407_1)⟩ (fun hHeld => ?_); clear hK K; refine nm_ (some 48) ?_; refine pu_ 17 (some 49) (pf 18 20) HT_ ?_; refine pu_ 18 (some 50) (pf 19 20) HT_ ?_; refine pu_ 19 (some 5) (pf 20 20) HT_ ?_; refine done_ (done_of HT_.out (by kernel_rfl)) ?_
              try go_wp2
              go_roundg k1
              case measure => have := HK1.out; omega
              case rel => exact ⟨((((x5_1 ++ t406) ++ (⟨#[32]⟩ : ByteArray)) ++ t408) ++ (⟨#[10]⟩ : ByteArray)), (wrap64 (x6_1 + 1)), (by first | rfl | (simp; done) | (simp [*]; done)), (by first | rfl | (simp; done) | (simp [*]; done)), H', ⟨by have := HK1.out; omega⟩, ⟨bx BK401⟩, ⟨hb1 HB GE401⟩⟩
             ·rw [if_neg c28] at H; exact absurd H (by simp)
            ·rw [if_neg c27] at H; exact absurd H (by simp)
           ·rw [if_neg c25] at H; exact absurd H (by simp)
          ·rw [if_neg c24] at H; exact absurd H (by simp)
         ·rw [if_neg c22] at H; exact absurd H (by simp)
        ·rw [if_neg c21] at H; have c21b0 : decide (x6_1 < (l0_1.length : Int)) = false := decide_eq_false c21; clear c21
         by_cases c33 : (x5_1.size : Int) > 16777216
         ·rw [if_pos c33] at H; have c33b0 : decide (16777216 < (x5_1.size : Int)) = true := decide_eq_true c33; have c33b1 : decide (16777216 < x5_1.size) = true := decide_eq_true (by omega); clear c33; simp only [Option.some.injEq, Prod.mk.injEq] at H; obtain ⟨rfl, rfl⟩ := H; have hcz34_0 : wr.cell? ⟨gb401, 0, none⟩ = some (.int .i64 a0_0) := bc BK401 0; have hcz34_1 : wr.cell? ⟨gb401, 1, none⟩ = some (.slice A0_1 l0_1.length c0_1) := bc BK401 1; have hfz34_0 := blk_frozen BK401.out 0; have hfz34_1 := blk_frozen BK401.out 1
          go_wp2
          go_ret2
          exact ⟨by first | rfl | (simp [errW_none, errW_some] <;> rfl) | (simp [*, errW_none, errW_some] <;> rfl), hb1 HB GE401⟩
         ·rw [if_neg c33] at H; have c33b0 : decide (16777216 < (x5_1.size : Int)) = false := decide_eq_false c33; have c33b1 : decide (16777216 < x5_1.size) = false := decide_eq_false (by omega); clear c33; simp only [Option.some.injEq, Prod.mk.injEq] at H; obtain ⟨rfl, rfl⟩ := H; have hcz35_0 : wr.cell? ⟨gb401, 0, none⟩ = some (.int .i64 a0_0) := bc BK401 0; have hcz35_1 : wr.cell? ⟨gb401, 1, none⟩ = some (.slice A0_1 l0_1.length c0_1) := bc BK401 1; have hfz35_0 := blk_frozen BK401.out 0; have hfz35_1 := blk_frozen BK401.out 1
          go_wp2
          go_ret2
          exact ⟨by first | rfl | (simp [errW_none, errW_some] <;> rfl) | (simp [*, errW_none, errW_some] <;> rfl), hb1 HB GE401⟩
     ·rw [if_neg c13] at H; exact absurd H (by simp)
    ·rw [if_neg c12] at H; exact absurd H (by simp)
   ·rw [if_neg c10] at H; exact absurd H (by simp)
 ·replace c3 := Bool.eq_false_iff.mpr c3; subst c3; have H1 : (some ((⟨#[]⟩ : ByteArray), 1)) = some (r1, r2) := by rw [if_neg (show ¬ (false = true) by decide)] at H; exact H
  clear H; have H := H1; clear H1; simp only [Option.some.injEq, Prod.mk.injEq] at H; obtain ⟨rfl, rfl⟩ := H
  go_enter Tryd.func16, Tryd.ntmps16
  go_wp2_with (first | ((with_reducible refine gate_dst (N := 1) rfl ?_); refine be_ 1 #[.int .i64 a0_0, .slice A0_1 l0_1.length c0_1] 26 ?_; intro gb401 hg w36 hbox hb; have BK401 := Aside0.mk (hbox); have GW401 := wq (hb0 HB) hg; have GE401 := wq (hb0 HB) hg; replace HB := hs (hb0 HB) hb; clear hb hbox hg; have hcz37_0 : w36.cell? ⟨gb401, 0, none⟩ = some (.int .i64 a0_0) := bc BK401 0; have hcz37_1 : w36.cell? ⟨gb401, 1, none⟩ = some (.slice A0_1 l0_1.length c0_1) := bc BK401 1; have hfz37_0 := blk_frozen BK401.out 0; have hfz37_1 := blk_frozen BK401.out 1) | ((with_reducible refine gate_callee (f := 25) rfl ?_); refine gl_ (some 8) Tryd.func25 #[.agg #[.int .i64 a0_0, .slice A0_1 l0_1.length c0_1]] ?_; (with_reducible refine (tangramref03_Valid.calls k a0_0 _ _ l0_1 false _ ?side1 ?side2 A2.out).mono ?_); (case side1 => repeat (first | exact (Kd.C_below HR0_1.out HB.out) | (with_reducible refine Kd.C_alloc ?_ _) | (with_reducible refine Kd.C_drewN ?_ _) | (with_reducible refine Kd.C_drew ?_))); (case side2 => exact HC0_1.out); rintro e w38 ⟨rfl, hb⟩; refine ⟨_, rfl, ?_⟩; replace BK401 := kx BK401 hb; replace HB := hs (hb1 HB GE401) hb; (try clear hb); (try clear hb2); (try clear hk); (try clear hi)))
  go_ret2
  exact ⟨by first | rfl | (simp [errW_none, errW_some] <;> rfl) | (simp [*, errW_none, errW_some] <;> rfl), hb1 HB GE401⟩

end Go.Proofs.YthejafdcdcchbaaDoor.PSimA
