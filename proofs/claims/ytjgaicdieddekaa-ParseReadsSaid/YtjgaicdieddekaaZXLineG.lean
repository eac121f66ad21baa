import Derived.Test.YtjgaicdieddekaaZXLineE
set_option linter.unusedVariables false
set_option linter.unusedSimpArgs false
namespace Go.Proofs.Ytjgaicdieddekaa.PParA
open Go.RowKit Go.Proofs.YtjgaicdieddekaaW.PrintWords Go.Proofs.YtjgaicdieddekaaW.PrintLast Go.Proofs.YtjgaicdieddekaaW.PrintMore Go.Proofs.YtjgaicdieddekaaX
variable {T : Nat × Array Value}
/-- What the reader's line says of a line's tokens: the fault and its place; the reader behind it. -/
structure LineR where
  code : Int
  at_ : Int
  N : Int
  hd : Bool
  m : Int
  ps : List S40
def lineF (N : Int) (hd : Bool) (m : Int) (ps : List S40) (ls : List S50) : LineR :=
  if hd = false then
    if ls.length ≠ 2 then ⟨20, (rd_T50 ls 0).f1, N, hd, m, ps⟩
    else if (rd_T50 ls 0).f3 > 1048576 then ⟨21, (rd_T50 ls 0).f1, N, hd, m, ps⟩
    else if (rd_T50 ls 1).f3 > 2097152 then ⟨22, (rd_T50 ls 1).f1, N, hd, m, ps⟩
    else ⟨0, 0, (rd_T50 ls 0).f3, true, (rd_T50 ls 1).f3, ps⟩
  else if m ≤ (ps.length : Int) then ⟨26, (rd_T50 ls 0).f1, N, hd, m, ps⟩
  else if ls.length ≠ 2 then ⟨23, (rd_T50 ls 0).f1, N, hd, m, ps⟩
  else if (rd_T50 ls 0).f3 ≥ N then ⟨24, (rd_T50 ls 0).f1, N, hd, m, ps⟩
  else if (rd_T50 ls 1).f3 ≥ N then ⟨24, (rd_T50 ls 1).f1, N, hd, m, ps⟩
  else ⟨0, 0, N, hd, m, ps ++ [⟨(rd_T50 ls 0).f3, (rd_T50 ls 1).f3⟩]⟩
theorem line_c {w W : World} {g : Nat} {N : Int} {hd : Bool} {m : Int} {u : Value} {ps : List S40} {A : Option Addr} {c : Nat} {ls : List S50} (h : Rd T w W g N hd m u ps (.slice A ls.length c) ls) (h0 : 0 < ls.length) (hge0 : w.heap.size ≤ g) (hs : ls.length ≤ 33554433) (hps : ps.length < 8796093022208) :
    Calls Try.prog 13 #[.pointer (some ⟨g, 0, none⟩), .slice A ls.length c] W (LineP T w g (lineF N hd m ps ls).N (lineF N hd m ps ls).hd (lineF N hd m ps ls).m (lineF N hd m ps ls).ps (.slice A ls.length c) ls (lineF N hd m ps ls).code (lineF N hd m ps ls).at_) := by
  cases hd with
  | false =>
    by_cases c1 : ls.length ≠ 2
    · have e : lineF N false m ps ls = ⟨20, (rd_T50 ls 0).f1, N, false, m, ps⟩ := by unfold lineF; rw [if_pos rfl, if_pos c1]
      rw [e]
      dsimp only
      exact line_20 h h0 hs (by omega) c1
    · by_cases c2 : (rd_T50 ls 0).f3 > 1048576
      · have e : lineF N false m ps ls = ⟨21, (rd_T50 ls 0).f1, N, false, m, ps⟩ := by unfold lineF; rw [if_pos rfl, if_neg c1, if_pos c2]
        rw [e]
        dsimp only
        exact line_21 h h0 hs (by omega) (by omega) c2
      · by_cases c3 : (rd_T50 ls 1).f3 > 2097152
        · have e : lineF N false m ps ls = ⟨22, (rd_T50 ls 1).f1, N, false, m, ps⟩ := by unfold lineF; rw [if_pos rfl, if_neg c1, if_neg c2, if_pos c3]
          rw [e]
          dsimp only
          exact line_22 h h0 hs (by omega) (by omega) c2 c3
        · have e : lineF N false m ps ls = ⟨0, 0, (rd_T50 ls 0).f3, true, (rd_T50 ls 1).f3, ps⟩ := by unfold lineF; rw [if_pos rfl, if_neg c1, if_neg c2, if_neg c3]
          rw [e]
          dsimp only
          exact line_head h h0 hge0 hs (by omega) (by omega) c2 c3
  | true =>
    by_cases c1 : m ≤ (ps.length : Int)
    · have e : lineF N true m ps ls = ⟨26, (rd_T50 ls 0).f1, N, true, m, ps⟩ := by unfold lineF; rw [if_neg (by decide), if_pos c1]
      rw [e]
      dsimp only
      exact line_26 h h0 hs (by omega) c1
    · by_cases c2 : ls.length ≠ 2
      · have e : lineF N true m ps ls = ⟨23, (rd_T50 ls 0).f1, N, true, m, ps⟩ := by unfold lineF; rw [if_neg (by decide), if_neg c1, if_pos c2]
        rw [e]
        dsimp only
        exact line_23 h h0 hs (by omega) c1 c2
      · by_cases c3 : (rd_T50 ls 0).f3 ≥ N
        · have e : lineF N true m ps ls = ⟨24, (rd_T50 ls 0).f1, N, true, m, ps⟩ := by unfold lineF; rw [if_neg (by decide), if_neg c1, if_neg c2, if_pos c3]
          rw [e]
          dsimp only
          exact line_24a h h0 hge0 hs (by omega) (by omega) c1 c3
        · by_cases c4 : (rd_T50 ls 1).f3 ≥ N
          · have e : lineF N true m ps ls = ⟨24, (rd_T50 ls 1).f1, N, true, m, ps⟩ := by unfold lineF; rw [if_neg (by decide), if_neg c1, if_neg c2, if_neg c3, if_pos c4]
            rw [e]
            dsimp only
            exact line_24b h h0 hge0 hs (by omega) (by omega) c1 c3 c4
          · have e : lineF N true m ps ls = ⟨0, 0, N, true, m, ps ++ [⟨(rd_T50 ls 0).f3, (rd_T50 ls 1).f3⟩]⟩ := by unfold lineF; rw [if_neg (by decide), if_neg c1, if_neg c2, if_neg c3, if_neg c4]
            rw [e]
            dsimp only
            exact line_put h h0 hge0 hs hps (by omega) c1 c3 c4
end Go.Proofs.Ytjgaicdieddekaa.PParA
