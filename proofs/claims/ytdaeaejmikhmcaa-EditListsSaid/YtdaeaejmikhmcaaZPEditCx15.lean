-- PRINTED by print.py (a twelfth state) out of the translation. Not trusted: Lean checks it.
import Derived.Test.YtdaeaejmikhmcaaZPEditCx0
import Derived.Test.YtdaeaejmikhmcaaZPEditCx10
namespace Go.Proofs.Ytdaeaejmikhmcaa.PEditC
open Go.RowKit Go.Proofs.YtdaeaejmikhmcaaW.PrintWords Go.Proofs.YtdaeaejmikhmcaaW.PrintLast Go.Proofs.YtdaeaejmikhmcaaW.PrintMore
open Go.Proofs.YtdaeaejmikhmcaaX
attribute [local go_sem] max2_int min2_int max_two min_two max_three min_three max_four min_four   -- for this text's walks alone
set_option linter.unusedVariables false
set_option linter.unusedSimpArgs false

/-! ### edit_Divide_c1: function 49 -/
def edit_Divide_c1.f (a0 : Int) (a1_0 : Int) (a1_1 : Int) (s2_0 : Int) : Option (Bool × Int) := some ((a0 != s2_0), s2_0)
set_option maxHeartbeats 8000000 in
set_option maxRecDepth 100000 in
theorem edit_Divide_c1.calls (a0 : Int) (a1_0 : Int) (a1_1 : Int) (g : Nat) (s2_0 : Int) (r1 : Bool) (r2 : Int) (w0 w : World) (hI : IsS3 w0 w g s2_0) (hB : Below w0.heap.size w0 w) (h : edit_Divide_c1.f a0 a1_0 a1_1 s2_0 = some (r1, r2)) :
  Calls Try.prog 49 #[.int .i64 a0, .agg #[.int .i64 a1_0, .int .i64 a1_1], .pointer (some ⟨g, 0, none⟩)] w fun e w' => e = .returned (.bool r1) ∧ IsS3 w0 w' g r2 ∧ Below w0.heap.size w0 w' ∧ KeepBut w w' g none := by
 have hu46 := Try.underlying46; have HI2 := Aside0.mk hI; have HK := Aside0.mk (KeepBut.refl w g none); have HL := Aside0.mk hB.size; clear hI; have HW0 := Aside0.mk hB.size; have HB := Aside0.mk hB; clear hB; have H : (some ((a0 != s2_0), s2_0)) = some (r1, r2) := h; clear h; simp only [Option.some.injEq, Prod.mk.injEq] at H; obtain ⟨rfl, rfl⟩ := H
 go_enter Try.func49, Try.ntmps49
 go_wp2_with (first | ((with_reducible refine gate_dst (N := 4) rfl ?_); refine be_ 4 #[.int .i64 a1_0, .int .i64 a1_1] 46 ?_; intro gb195 hg w4 hbox hb; replace HB := Aside0.mk (below_step (by repeat (first | (with_reducible first | exact HB.out | apply below_alloc | apply pw_below_drewN | apply below_drew1 | refine below_set ?_ (IsS3.ge HI2.out)) | exact HB.out)) hb); have BK195 := Aside0.mk (hbox); have GW195 := Aside0.mk ((by rw [hg]; exact (keep_size (w := w) (g := g) (row := none) (by repeat (first | (with_reducible first | exact HK.out | apply KeepBut.set_ | apply keep_drewN | apply keep_drew | apply keep_alloc) | exact HK.out))) : w.heap.size ≤ gb195)); have GE195 := Aside0.mk ((Nat.le_trans HW0.out (by rw [hg]; exact (keep_size (w := w) (g := g) (row := none) (by repeat (first | (with_reducible first | exact HK.out | apply KeepBut.set_ | apply keep_drewN | apply keep_drew | apply keep_alloc) | exact HK.out))) : w.heap.size ≤ gb195) : w0.heap.size ≤ gb195)); replace HK := Aside0.mk (KeepBut.trans (by repeat (first | (with_reducible first | exact HK.out | apply KeepBut.set_ | apply keep_drewN | apply keep_drew | apply keep_alloc) | exact HK.out)) (KeepBut.of_below hb g none) (.inl rfl)); have NB2_195 := Aside0.mk ((by rw [hg]; exact Nat.ne_of_lt (IsS3.lt (show IsS3 w0 _ g s2_0 from by repeat (first | (with_reducible first | exact HI2.out | apply IsS3.alloc | apply IsS3.drewN | apply IsS3.drew | apply IsS3.set_0) | exact HI2.out))) : g ≠ gb195)); have NB195_2 := Aside0.mk ((by rw [hg]; exact Nat.ne_of_gt (IsS3.lt (show IsS3 w0 _ g s2_0 from by repeat (first | (with_reducible first | exact HI2.out | apply IsS3.alloc | apply IsS3.drewN | apply IsS3.drew | apply IsS3.set_0) | exact HI2.out))) : gb195 ≠ g)); replace HI2 := Aside0.mk (IsS3.below (by repeat (first | (with_reducible first | exact HI2.out | apply IsS3.alloc | apply IsS3.drewN | apply IsS3.drew | apply IsS3.set_0) | exact HI2.out)) hb); clear hb hbox hg; obtain ⟨HGz5, hgz5⟩ := HI2.out; have hcz5_0 := cellS3_0 HGz5; have hfz5_0 := blk_frozen HGz5 0; clear HGz5 hgz5))
 go_ret
 exact ⟨by first | rfl | (simp [errW_none, errW_some] <;> rfl) | (simp [*, errW_none, errW_some] <;> rfl), by repeat (first | (with_reducible first | exact HI2.out | apply IsS3.alloc | apply IsS3.drewN | apply IsS3.drew | apply IsS3.set_0 | refine IsS3.far ?_ NB2_195.out _) | exact HI2.out), by repeat (first | (with_reducible first | exact HB.out | apply below_alloc | apply pw_below_drewN | apply below_drew1 | refine below_set ?_ (IsS3.ge HI2.out) | refine below_set ?_ GE195.out) | exact HB.out), by repeat (first | (with_reducible first | exact HK.out | apply KeepBut.set_ | apply keep_drewN | apply keep_drew | apply keep_alloc | refine keep_far ?_ GW195.out _) | exact HK.out)⟩

end Go.Proofs.Ytdaeaejmikhmcaa.PEditC
