-- PRINTED by print.py (a twelfth state) out of the translation. Not trusted: Lean checks it.
import Derived.Test.YtdaeaejmikhmcaaZPEditCx0
namespace Go.Proofs.Ytdaeaejmikhmcaa.PEditC
open Go.RowKit Go.Proofs.YtdaeaejmikhmcaaW.PrintWords Go.Proofs.YtdaeaejmikhmcaaW.PrintLast Go.Proofs.YtdaeaejmikhmcaaW.PrintMore
open Go.Proofs.YtdaeaejmikhmcaaX
attribute [local go_sem] max2_int min2_int max_two min_two max_three min_three max_four min_four   -- for this text's walks alone
set_option linter.unusedVariables false
set_option linter.unusedSimpArgs false

/-! ### edit_Sub_c1: function 43 -/
def edit_Sub_c1.f (a0 : Int) (a1_0 : Int) (a1_1 : Int) (l2 : List Bool) : Option (Bool) := if 0 ≤ a0 then (if a0 < (l2.length : Int) then (some (rdOf false l2 a0)) else (none)) else (none)
/-- The variable that the closure shares: at block g the row's slice, and the row. -/
def BxB (w : World) (g : Nat) (A : Option Addr) (c : Nat) (l : List Bool) : Prop := w.heap[g]? = some (.cells #[.slice A l.length c] 62 (0, 0)) ∧ Kd.C Kd.bool w A l.length l
theorem BxB.below {w w1 : World} {g : Nat} {A : Option Addr} {c : Nat} {l : List Bool} (h : BxB w g A c l) (hb : Below w.heap.size w w1) : BxB w1 g A c l := ⟨blk_below h.1 hb, Kd.C_below h.2 hb⟩
set_option maxHeartbeats 8000000 in
set_option maxRecDepth 100000 in
theorem edit_Sub_c1.calls (a0 : Int) (a1_0 : Int) (a1_1 : Int) (A2 : Option Addr) (c2 : Nat) (l2 : List Bool) (r : Bool) (w : World) {g2 : Nat} (hr2 : BxB w g2 A2 c2 l2) (hc2 : l2.length ≤ c2) (h : edit_Sub_c1.f a0 a1_0 a1_1 l2 = some r) :
  Calls Try.prog 43 #[.int .i64 a0, .agg #[.int .i64 a1_0, .int .i64 a1_1], .pointer (some ⟨g2, 0, none⟩)] w fun e w' => e = .returned (.bool r) ∧ Below w.heap.size w w' := by
 have hu46 := Try.underlying46; have HR2 := Aside0.mk hr2.2; have BS2 := Aside0.mk hr2.1; have HC2 := Aside0.mk hc2; clear hr2 hc2; have HB := Aside0.mk (Below.refl w.heap.size w); have H : (if 0 ≤ a0 then (if a0 < (l2.length : Int) then (some (rdOf false l2 a0)) else (none)) else (none)) = some r := h; clear h
 by_cases c4 : 0 ≤ a0
 ·rw [if_pos c4] at H; have c4b0 : decide (0 ≤ a0) = true := decide_eq_true c4; clear c4
  by_cases c5 : a0 < (l2.length : Int)
  ·rw [if_pos c5] at H; have c5b0 : decide (a0 < (l2.length : Int)) = true := decide_eq_true c5; clear c5; obtain rfl := Option.some.inj H
   go_enter Try.func43, Try.ntmps43
   go_wp2_with (first | ((with_reducible refine gate_dst (N := 4) rfl ?_); refine be_ 4 #[.int .i64 a1_0, .int .i64 a1_1] 46 ?_; intro gb741 hg w6 hbox hb; have BK741 := Aside0.mk (hbox); have GW741 := wq (hb0 HB) hg; have GE741 := wq (hb0 HB) hg; replace HB := hs (hb0 HB) hb; clear hb hbox hg; have hcb_ : w6.cell? ⟨g2, 0, none⟩ = some (.slice A2 l2.length c2) := (blk_cell (blk_below BS2.out HB.out) 0).trans rfl; have p742 : 0 ≤ (a0 : Int) := of_decide_eq_true (by first | (with_reducible assumption) | assumption); have q742 : a0 < (l2.length : Int) := of_decide_eq_true (by first | (with_reducible assumption) | assumption); obtain ⟨ad742, e742, hx742_0⟩ := Kd.at_bool HR2.out a0 p742 q742; cases e742; replace hx742_0 := (HB.out.cell (World.block_lt_of_cell? w _ hx742_0)).trans hx742_0; replace p742 := eq_true p742; replace q742 := eq_true q742))
   go_ret
   exact ⟨by first | rfl | (simp [errW_none, errW_some] <;> rfl) | (simp [*, errW_none, errW_some] <;> rfl), hb1 HB GE741⟩
  ·rw [if_neg c5] at H; exact absurd H (by simp)
 ·rw [if_neg c4] at H; exact absurd H (by simp)

end Go.Proofs.Ytdaeaejmikhmcaa.PEditC
