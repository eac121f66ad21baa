-- By hand: nums.Text (over the shelf's strconv.Itoa, which reads a table of the library's), strings.Join off the shelf, in the print's words.
import Derived.Test.YthejafdcdcchbaaDoorZPSimAx0
import Derived.Test.YthejafdcdcchbaaDoorZXShelf
import Derived.Lib.LaidTab
import Derived.Lib.AppendIntMem
set_option linter.unusedVariables false
set_option linter.unusedSimpArgs false
namespace Go.Proofs.YthejafdcdcchbaaDoor.PSimA
open Go.RowKit Go.Sort Go.Proofs.YthejafdcdcchbaaDoorW.PrintWords Go.Proofs.YthejafdcdcchbaaDoorW.PrintLast Go.Proofs.YthejafdcdcchbaaDoorW.PrintMore Go.Proofs.YthejafdcdcchbaaDoorX
/-- The library's table stands as its initialiser lays it. -/
def TabW (w : World) : Prop := Lib.TabIs Tryd.prog w "internal/strconv.uint64pow10" .u64 Lib.pow10Tab
theorem tb {w W : World} (h : Aside0 (TabW w)) (hb : Below w.heap.size w W) : TabW W := by
  have h := h.out
  have hg : Tryd.prog.globalNamed "internal/strconv.uint64pow10" = some 0 := by kernel_rfl
  unfold TabW Lib.TabIs World.var? at h ⊢
  rw [hg] at h ⊢
  simp only [Option.bind_some] at h ⊢
  have hlt : 0 < w.heap.size := by
    rcases Nat.lt_or_ge 0 w.heap.size with h' | h'
    · exact h'
    · rw [Array.getElem?_eq_none h'] at h; cases h
  rw [hb.block 0 hlt]
  exact h
theorem text_c (n : Int) (h0 : -9223372036854775808 ≤ n) (h1 : n ≤ 9223372036854775807) (w : World) (hT : TabW w) :
    Calls Tryd.prog 54 #[.int .i64 n] w fun e w' => e = .returned (.string ⟨(Lib.itoa n).toArray⟩) ∧ Below w.heap.size w w' := by
  have HT := Aside0.mk hT
  clear hT
  go_enter Tryd.func54, Tryd.ntmps54
  go_wp2_with (go_at_call 38; refine (Tryd.strconv_Itoa n h0 h1 _ HT.out).mono ?_; rintro e w' ⟨rfl, k, os, rfl⟩)
  go_ret
  exact ⟨rfl, Lib.below_grow _ _ (Nat.le_refl _) _ _⟩
theorem join_c {w : World} {A : Option Addr} {c : Nat} {xs : List ByteArray} {sep : ByteArray} (hr : Kd.C Kd.string w A xs.length xs) (hc : xs.length ≤ c) (hN : xs.length ≤ 140737488355328)
    (hlen : (Lib.join (xs.map (·.data.toList)) sep.data.toList).length ≤ 140737488355328) :
    Calls Tryd.prog 55 #[.slice A xs.length c, .string sep] w fun e w' => e = .returned (.string ⟨(Lib.join (xs.map (·.data.toList)) sep.data.toList).toArray⟩) ∧ Below w.heap.size w w' := by
  cases xs with
  | nil => exact (Tryd.strings_Join_none A c sep w).mono fun e w' ⟨he, hw⟩ => ⟨he, hw ▸ Below.refl _ _⟩
  | cons x r =>
    obtain ⟨ad, e, hx⟩ := Kd.at_string hr 0 (by omega) (by simp)
    subst e
    obtain ⟨b, o, s⟩ := ad
    obtain rfl : s = none := by simpa [Addr.add] using World.cell?_spot hx
    refine Tryd.strings_Join b o c (x :: r) sep w ?_ ?_ hN hc hlen
    · intro j y hj
      have hj' : j < (x :: r).length := (List.getElem?_eq_some_iff.1 hj).1
      obtain ⟨ad2, e2, hy⟩ := Kd.at_string hr (j : Int) (by omega) (by omega)
      cases e2
      have e3 : rdOf ByteArray.empty (x :: r) (j : Int) = y := by
        have := hj
        simp [rdOf, List.getD_eq_getElem?_getD, hj]
      rw [e3] at hy
      by_cases j0 : j = 0
      · subst j0; simpa [Addr.add] using hy
      · simpa [Addr.add, j0] using hy
    · exact World.block_lt_of_cell? w _ hx
end Go.Proofs.YthejafdcdcchbaaDoor.PSimA
