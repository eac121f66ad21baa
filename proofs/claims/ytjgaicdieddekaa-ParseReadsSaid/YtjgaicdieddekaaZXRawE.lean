import Derived.Test.YtjgaicdieddekaaZXRawD
import Derived.Test.YtjgaicdieddekaaZXParP
set_option linter.unusedVariables false
set_option linter.unusedSimpArgs false
namespace Go.Proofs.Ytjgaicdieddekaa.PParA
open Go.RowKit Go.Proofs.YtjgaicdieddekaaW.PrintWords Go.Proofs.YtjgaicdieddekaaW.PrintLast Go.Proofs.YtjgaicdieddekaaW.PrintMore Go.Proofs.YtjgaicdieddekaaX
theorem raw_c {w : World} {A : Option Addr} {c : Nat} {l : List Int} (hC : Kd.C (Kd.int .u8) w A l.length l) (hl : l.length ≤ 140737488355328) :
    Calls Try.prog 7 #[.slice A l.length c] w fun e w' => RawP w w' e (rawF l) := by
  unfold rawF
  by_cases h : 16777216 < l.length
  · rw [if_pos h]; exact raw_long hC hl h
  · rw [if_neg h]
    have hs := scanF_eq l (by omega)
    cases hR : scanF l with
    | error ab => obtain ⟨a, b⟩ := ab; exact raw_err hC hl h a b hR (scn_code l _ 0 (Nat.le_refl _) (by omega) _ (hs.symm.trans hR))
    | ok ts =>
      have := scn_len l _ 0 ts (Nat.le_refl _) (by omega) (hs.symm.trans hR)
      exact raw_ok hC hl h ts hR (by omega)
end Go.Proofs.Ytjgaicdieddekaa.PParA
