/- EditOne: Without, With, Divide and Apex of any graph, any number and any edge are the reference's; for every input of the row. -/
import Derived.Test.YtdaeaejmikhmcaaZPEditCx42
import Derived.Test.YtdaeaejmikhmcaaZXEditE
set_option linter.unusedVariables false
set_option linter.unusedSimpArgs false
namespace Go.Proofs.Ytdaeaejmikhmcaa.Pure
open Go.RowKit Go.Proofs.Ytdaeaejmikhmcaa.PEditC Go.Proofs.YtdaeaejmikhmcaaW.PrintWords Go.Proofs.YtdaeaejmikhmcaaW.PrintLast Go.Proofs.YtdaeaejmikhmcaaX

def EditOneP : Prop := ∀ (a0_0 : Int) (l0_1 : List (S46)) (a1 : Int) (a2_0 : Int) (a2_1 : Int), (Lit.int .i64 a0_0).wf = true → l0_1.length ≤ maxLen → l0_1.length * 16 ≤ 140737488351232 → (∀ x ∈ l0_1, (Lit.int .i64 x.f0).wf = true ∧ (Lit.int .i64 x.f1).wf = true) → (Lit.int .i64 a1).wf = true → (Lit.int .i64 a2_0).wf = true → (Lit.int .i64 a2_1).wf = true → ∃ k, tangramlaw14_EditOne.f k a0_0 l0_1 a1 a2_0 a2_1 = some true
theorem fixed_ev1 : Ev (fun k => tangramlaw14_fixed.f k) true := Ev.of (fun k => tangramlaw14_fixed.mono k) (k := 60) (by decide +kernel)
theorem srt_len (l : List S46) : (api_Edge_51.srt l).length = l.length := (api_Edge_51.srt_perm l).length_eq
theorem EditOne : EditOneP := by
  intro n l e a b hn0 _ hl _ _ _ _
  have hc := copy_eq n l (by omega)
  have h1 : (withoutR n l e).2.1.length ≤ 8796093022208 := by
    unfold withoutR
    have := erase_len l e.toNat
    split
    · show (l.eraseIdx e.toNat).length ≤ _
      omega
    · simp
  have h2 : (withR n l a b).2.1.length ≤ 8796093022208 := by
    unfold withR
    split
    · rename_i h
      have := h.2.1
      split
      · split
        · simp
        · split
          · simp
          · show (api_Edge_51.srt (l ++ [⟨a, b⟩])).length ≤ _
            rw [srt_len, List.length_append]
            simp
            omega
      · simp
    · simp
  have h3 : (divR n l e).2.1.length ≤ 8796093022208 := by
    unfold divR
    have := erase_len l e.toNat
    split
    · rename_i c
      have := (edge_ok c).1.2.1
      split
      · simp
      · show (api_Edge_51.srt (l.eraseIdx e.toNat ++ [⟨(rd_T46 l e).f0, n⟩, ⟨(rd_T46 l e).f1, n⟩])).length ≤ _
        rw [srt_len, List.length_append]
        simp
        omega
    · simp
  have h4 : (apexR n l).2.1.length ≤ 8796093022208 := by
    unfold apexR
    split
    · rename_i h
      have := h.1
      have := h.2.1
      split
      · simp
      · show (api_Edge_51.srt (l ++ rays n n.toNat)).length ≤ _
        rw [srt_len, List.length_append, rays_len]
        omega
    · simp
  refine Ev.rounds ?_
  unfold tangramlaw14_EditOne.f
  refine Ev.andThen fixed_ev1 (Ev.tt ?_)
  refine Ev.andThen' hc (Ev.andThen (without_ev n l e) (Ev.andThen (without14_ev n l e) ?_))
  refine Ev.andThen' hc (Ev.andThen (with_ev n l a b) (Ev.andThen (with14_ev n l a b) ?_))
  refine Ev.andThen' hc (Ev.andThen (divide_ev n l e) (Ev.andThen (divide14_ev n l e) ?_))
  refine Ev.andThen' hc (Ev.andThen (apex_ev n l) (Ev.andThen (apex14_ev n l) ?_))
  refine Ev.andThen (told_ev _ _ _ h1) (Ev.tt (Ev.andThen (told_ev _ _ _ h2) (Ev.tt (Ev.andThen (told_ev _ _ _ h3) (Ev.tt (Ev.andThen (told_ev _ _ _ h4) (Ev.val rfl)))))))
end Go.Proofs.Ytdaeaejmikhmcaa.Pure
