-- PRINTED by print.py (a twelfth state) out of the translation. Not trusted: Lean checks it.
import Derived.Test.YtjgaicdieddekaaZPParAx0
import Derived.ChangeKeysEq
namespace Go.Proofs.Ytjgaicdieddekaa.PParA
open Go.RowKit Go.Proofs.YtjgaicdieddekaaW.PrintWords Go.Proofs.YtjgaicdieddekaaW.PrintLast Go.Proofs.YtjgaicdieddekaaW.PrintMore
open Go.Proofs.YtjgaicdieddekaaX
attribute [local go_sem] max2_int min2_int max_two min_two max_three min_three max_four min_four   -- for this text's walks alone
set_option linter.unusedVariables false
set_option linter.unusedSimpArgs false

theorem eqi_cons {P : Program} {w : World} {d sz : Nat} {e : TypeId} {xs ys : Array Value} {j : Nat} {is : List Nat} {a b : Value} {r s : Bool} (ha : (part e xs (j * sz)).run P w = .ok a w) (hb : (part e ys (j * sz)).run P w = .ok b w) (he : (Op.equalIn d e a b).run P w = .ok r w) (hs : (Op.eqItems d e sz xs ys is).run P w = .ok s w) : (Op.eqItems d e sz xs ys (j :: is)).run P w = .ok (r && s) w := by
 simp only [Op.eqItems, Sem.run_bind, ha, hb, he, Result.andThen_ok]
 cases r <;> simp [hs]
theorem eqA40 (d : Nat) (w : World) (x0 y0 : Int) (x1 y1 : Int) :
  (Op.equalIn (d + 2) 40 (.agg #[.int .i64 x0, .int .i64 x1]) (.agg #[.int .i64 y0, .int .i64 y1])).run Try.prog w = .ok (x0 == y0 && (x1 == y1)) w := by
 have hi : ∃ i, Try.prog.info? 3 = some i := Option.isSome_iff_exists.1 (by kernel_rfl); obtain ⟨i, hi⟩ := hi; have hc : Try.prog.cellsOf 3 = 1 := by kernel_rfl
 rw [run_equalIn_array (n := 2) (e := 3) w (d + 1) _ _ Try.underlying40 hi, hc]; rw [show (x0 == y0 && (x1 == y1)) = (x0 == y0 && (x1 == y1 && true)) by simp]; refine eqi_cons (by go_simp; rfl) (by go_simp; rfl) (by go_simp) ?_; refine eqi_cons (by go_simp; rfl) (by go_simp; rfl) (by go_simp) ?_
 simp [Op.eqItems]
end Go.Proofs.Ytjgaicdieddekaa.PParA
