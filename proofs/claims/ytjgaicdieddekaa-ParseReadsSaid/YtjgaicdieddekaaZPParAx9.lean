-- PRINTED by print.py (a twelfth state) out of the translation. Not trusted: Lean checks it.
import Derived.Test.YtjgaicdieddekaaZPParAx0
import Derived.Test.YtjgaicdieddekaaZPParAx8
namespace Go.Proofs.Ytjgaicdieddekaa.PParA
open Go.RowKit Go.Proofs.YtjgaicdieddekaaW.PrintWords Go.Proofs.YtjgaicdieddekaaW.PrintLast Go.Proofs.YtjgaicdieddekaaW.PrintMore
open Go.Proofs.YtjgaicdieddekaaX
attribute [local go_sem] max2_int min2_int max_two min_two max_three min_three max_four min_four   -- for this text's walks alone
set_option linter.unusedVariables false
set_option linter.unusedSimpArgs false

/-! ### parse_Accepts: function 10 -/
def parse_Accepts.f (k : Nat) (l0 : List Int) : Option (Bool) := (parse_Raw.f k l0).bind fun bt175 => (some (bt175.2.2.1 == 0))
theorem parse_Accepts.mono : ∀ a0 k, LeO (parse_Accepts.f k a0) (parse_Accepts.f (k + 1) a0) := by
 intro a0 k
 unfold parse_Accepts.f
 repeat' first
   | (with_reducible exact parse_Raw.mono _ _)
   | (with_reducible exact LeO.refl _)
   | (with_reducible exact LeO.none _)
   | (with_reducible refine LeO.ite ?_ ?_)
   | (with_reducible refine LeO.bind ?_ (fun _ => ?_))
   | exact parse_Raw.mono _ _
   | exact LeO.none _
   | refine LeO.ite ?_ ?_
   | refine LeO.bind ?_ (fun _ => ?_)
set_option maxHeartbeats 8000000 in
set_option maxRecDepth 100000 in
theorem parse_Accepts.calls (k : Nat) (A0 : Option Addr) (c0 : Nat) (l0 : List Int) (r : Bool) (w : World) (hr0 : Kd.C (Kd.int .u8) w A0 l0.length l0) (hc0 : l0.length ≤ c0) (h : parse_Accepts.f k l0 = some r) :
  Calls Try.prog 10 #[.slice A0 l0.length c0] w fun e w' => e = .returned (.bool r) ∧ Below w.heap.size w w' := by
 have hu26 := Try.underlying26; have hu29 := Try.underlying29; have HR0 := Aside0.mk hr0; have HC0 := Aside0.mk hc0; clear hr0 hc0; have HB := Aside0.mk (Below.refl w.heap.size w); have H : ((parse_Raw.f k l0).bind fun bt175 => (some (bt175.2.2.1 == 0))) = some r := h; clear h; replace H := Option.bind_eq_some_iff.mp H; obtain ⟨⟨t175, t176, t179, t180⟩, A20, H⟩ := H; (try dsimp only at H); have A2 := Aside0.mk A20; clear A20; obtain rfl := Option.some.inj H
 go_enter Try.func10, Try.ntmps10
 go_wp2_with (first | ((with_reducible refine gate_callee (f := 7) rfl ?_); refine gl_ (some 7) Try.func7 #[.slice A0 l0.length c0] ?_; (with_reducible refine (parse_Raw.calls k _ _ l0 t175 t176 t179 t180 _ ?side1 ?side2 A2.out).mono ?_); (case side1 => repeat (first | exact HR0.out | (with_reducible refine Kd.C_alloc ?_ _) | (with_reducible refine Kd.C_drewN ?_ _) | (with_reducible refine Kd.C_drew ?_))); (case side2 => exact HC0.out); rintro e w3 ⟨v177, rfl, ho0, hb⟩; refine ⟨_, rfl, ?_⟩; have HO178 := Aside0.mk (Kd.R_lower ho0 (below_size (hb0 HB))); replace HB := hs (hb0 HB) hb; (try clear hb); (try clear hb2); (try clear hk); (try clear hi); (try clear ho0)) | ((with_reducible refine gate_dst (N := 3) rfl ?_); refine be_ 3 #[.int .i64 0, .slice none 0 0] 26 ?_; intro gb181 hg w4 hbox hb; replace HO178 := ry HO178 hb; have BK181 := Aside0.mk (hbox); have GW181 := wq (hb0 HB) hg; have GE181 := wq (hb0 HB) hg; replace HB := hs (hb0 HB) hb; clear hb hbox hg) | ((with_reducible refine gate_dst (N := 4) rfl ?_); refine be_ 4 #[.int .i64 0, .int .i64 0] 29 ?_; intro gb182 hg w5 hbox hb; replace HO178 := ry HO178 hb; have BK182 := Aside0.mk (hbox); have GW182 := wq (hb1 HB GE181) hg; have GE182 := wq (hb1 HB GE181) hg; replace HB := hs (hb1 HB GE181) hb; have NB181_182 := lx BK181 hg; have NB182_181 := gx BK181 hg; replace BK181 := kx BK181 hb; clear hb hbox hg; have hnb6 := NB181_182.out; have hnc6 := NB182_181.out; have hcz7_0 : w5.cell? ⟨gb181, 0, none⟩ = some (.int .i64 0) := bc BK181 0; have hcz7_1 : w5.cell? ⟨gb181, 1, none⟩ = some (.slice none 0 0) := bc BK181 1; have hfz7_0 := blk_frozen BK181.out 0; have hfz7_1 := blk_frozen BK181.out 1; obtain ⟨Ao8, co8, eo8⟩ := Kd.R_slice HO178.out; subst eo8; have hcz9_0 : w5.cell? ⟨gb182, 0, none⟩ = some (.int .i64 0) := bc BK182 0; have hcz9_1 : w5.cell? ⟨gb182, 1, none⟩ = some (.int .i64 0) := bc BK182 1; have hfz9_0 := blk_frozen BK182.out 0; have hfz9_1 := blk_frozen BK182.out 1))
 go_ret
 exact ⟨by first | rfl | (simp [errW_none, errW_some] <;> rfl) | (simp [*, errW_none, errW_some] <;> rfl), hb2 HB GE181 GE182⟩

end Go.Proofs.Ytjgaicdieddekaa.PParA
