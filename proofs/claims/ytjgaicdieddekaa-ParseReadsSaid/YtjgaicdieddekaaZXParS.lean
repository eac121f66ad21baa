-- Plain facts: what was read is what the document says.
import Derived.Test.YtjgaicdieddekaaZXParR
import Derived.Test.YtjgaicdieddekaaZPParAx9
import Derived.Test.YtjgaicdieddekaaZPParAx14
set_option linter.unusedVariables false
set_option linter.unusedSimpArgs false
namespace Go.Proofs.Ytjgaicdieddekaa.PParA
open Go.RowKit Go.Proofs.YtjgaicdieddekaaW.PrintWords Go.Proofs.YtjgaicdieddekaaW.PrintLast Go.Proofs.YtjgaicdieddekaaW.PrintMore Go.Proofs.YtjgaicdieddekaaX
theorem rd_f0 (ps : List S40) (i : Nat) : Go.Proofs.YtjgaicdieddekaaW.PrintWords.rd (ps.map S40.f0) (i : Int) = (rd_T40 ps (i : Int)).f0 := by
  unfold rd_T40 Go.Proofs.YtjgaicdieddekaaW.PrintWords.rd
  rw [List.getD_eq_getElem?_getD, List.getD_eq_getElem?_getD, List.getElem?_map]
  cases ps[(i : Int).toNat]? <;> rfl
theorem rd_f1 (ps : List S40) (i : Nat) : Go.Proofs.YtjgaicdieddekaaW.PrintWords.rd (ps.map S40.f1) (i : Int) = (rd_T40 ps (i : Int)).f1 := by
  unfold rd_T40 Go.Proofs.YtjgaicdieddekaaW.PrintWords.rd
  rw [List.getD_eq_getElem?_getD, List.getD_eq_getElem?_getD, List.getElem?_map]
  cases ps[(i : Int).toNat]? <;> rfl
theorem same_l (ps : List S40) (hp : ps.length ≤ 33554433) (a b c d e : Int) : ∀ n i, i + n = ps.length → Ev (fun k => tangramlaw02_same.l0 k (ps.length : Int) (i : Int) a ps b (ps.map S40.f0) (ps.map S40.f1) c d) true := by
  intro n
  induction n with
  | zero =>
    intro i hi
    refine Ev.succ ?_
    simp only [tangramlaw02_same.l0]
    exact Ev.neg (by omega) (Ev.val rfl)
  | succ n ih =>
    intro i hi
    refine Ev.succ ?_
    simp only [tangramlaw02_same.l0, rd_f0, rd_f1]
    refine Ev.pos (by omega) (Ev.pos (by omega) (Ev.pos (by omega) (Ev.pos (by simp; omega) (Ev.pos (by simp; omega) (Ev.neg (by simp) ?_)))))
    rw [w64 (by omega) (by omega)]
    have := ih (i + 1) (by omega)
    rw [show ((i + 1 : Nat) : Int) = (i : Int) + 1 by omega] at this
    exact this
theorem same_ev (N : Int) (ps : List S40) (c a : Int) (hp : ps.length ≤ 33554433) : Ev (fun k => tangramlaw02_same.f k N ps c a N (ps.map S40.f0) (ps.map S40.f1) c a) true := by
  simp only [tangramlaw02_same.f]
  refine Ev.pos trivial (Ev.pos trivial (Ev.pos trivial ?_))
  refine Ev.succ ?_
  simp only [tangramlaw02_same.j0]
  refine Ev.neg (by simp) ?_
  exact same_l ps hp N N c a 0 ps.length 0 (by omega)
theorem runL_len (n : Int) : ∀ (L : List (List S50)) (N : Int) (hd : Bool) (m : Int) (ps : List S40), (runL n L N hd m ps).2.1.length ≤ ps.length + L.length := by
  intro L
  induction L with
  | nil =>
    intro N hd m ps
    unfold runL finF
    split
    · simp
    · split <;> simp
  | cons l r ih =>
    intro N hd m ps
    rw [runL]
    split
    · simp
    · have := ih (lineF N hd m ps l).N (lineF N hd m ps l).hd (lineF N hd m ps l).m (lineF N hd m ps l).ps
      have := lineF_len N hd m ps l
      simp
      omega
theorem rawF_len (l : List Int) : (rawF l).2.1.length ≤ 33554433 := by
  unfold rawF
  split
  · simp
  · have hs := scanF_eq l (by omega)
    cases hR : scanF l with
    | error ab => simp
    | ok ts =>
      have hl := scn_len l _ 0 ts (Nat.le_refl _) (by omega) (hs.symm.trans hR)
      have ht := scn_tok l _ 0 ts (Nat.le_refl _) (by omega) (hs.symm.trans hR)
      dsimp only
      rw [rawT_run _ _ _ _ _ _ _ ht]
      have h1 := runL_len l.length (docL ts []) 0 false 0 []
      have h2 := docL_len ts []
      simp only [List.length_nil] at h1
      omega
theorem raw_f (k : Nat) (l : List Int) (h : l.length ≤ 140737488355328) : parse_Raw.f k l = some (rawF l) := by
  unfold parse_Raw.f
  rw [if_pos h]
theorem acc_f (k : Nat) (l : List Int) (h : l.length ≤ 140737488355328) : parse_Accepts.f k l = some ((rawF l).2.2.1 == 0) := by
  unfold parse_Accepts.f
  rw [raw_f k l h]
  rfl
end Go.Proofs.Ytjgaicdieddekaa.PParA
