/- EditLists: Sub, Relabel, Induced and Bare of any graph and any list are the reference's; for every input of the row. -/
import Derived.Test.YtdaeaejmikhmcaaZPEditCx52
import Derived.Test.YtdaeaejmikhmcaaZXEditG
set_option linter.unusedVariables false
set_option linter.unusedSimpArgs false
namespace Go.Proofs.Ytdaeaejmikhmcaa.Pure
open Go.RowKit Go.Proofs.Ytdaeaejmikhmcaa.PEditC Go.Proofs.YtdaeaejmikhmcaaW.PrintWords Go.Proofs.YtdaeaejmikhmcaaW.PrintLast Go.Proofs.YtdaeaejmikhmcaaX

def EditListsP : Prop := ∀ (a0_0 : Int) (l0_1 : List (S46)) (l1 : List Int), (Lit.int .i64 a0_0).wf = true → l0_1.length ≤ maxLen → l0_1.length * 16 ≤ 140737488351232 → (∀ x ∈ l0_1, (Lit.int .i64 x.f0).wf = true ∧ (Lit.int .i64 x.f1).wf = true) → l1.length ≤ maxLen → l1.length * 8 ≤ 140737488351232 → (∀ x ∈ l1, (Lit.int .i64 x).wf = true) → ∃ k, tangramlaw14_EditLists.f k a0_0 l0_1 l1 = some true
theorem alike2_l0 (t : List Int) (ht : t.length ≤ 4611686018427387904) : ∀ (d i : Nat), i + d = t.length → Ev (fun k => tangramref11_Alike.l0 k t t (i : Int)) true := by
  intro d
  induction d with
  | zero =>
    intro i hi
    refine Ev.succ ?_
    simp only [tangramref11_Alike.l0]
    exact Ev.neg (by omega) (Ev.val rfl)
  | succ d ih =>
    intro i hi
    refine Ev.succ ?_
    simp only [tangramref11_Alike.l0]
    refine Ev.pos (by omega) (Ev.pos (by omega) (Ev.pos (by omega) (Ev.pos (by trivial) ?_)))
    rw [show wrap64 ((i : Int) + 1) = ((i + 1 : Nat) : Int) by rw [w64 (by omega) (by omega)]; omega]
    exact ih (i + 1) (by omega)
theorem alike2_ev (t : List Int) (ht : t.length ≤ 4611686018427387904) : Ev (fun k => tangramref11_Alike.f k t t) true := by
  unfold tangramref11_Alike.f
  refine Ev.pos rfl ?_
  exact alike2_l0 t ht t.length 0 (by omega)
theorem srt_len2 (l : List S46) : (api_Edge_51.srt l).length = l.length := (api_Edge_51.srt_perm l).length_eq
theorem EditLists : EditListsP := by
  intro n l t hn0 _ hl _ _ ht _
  have hc := copy_eq n l (by omega)
  have htl : t.length ≤ 17592186044416 := by omega
  have h1 : (subF n l t).2.1.length ≤ 8796093022208 := by
    unfold subF
    split
    · split
      · show (sel l (inT t) l.length).length ≤ _
        have := sel_len l (inT t) l.length (Nat.le_refl _)
        omega
      · simp
    · simp
  have h2 : (relF n l t).2.1.length ≤ 8796093022208 := by
    unfold relF
    split
    · split
      · show (api_Edge_51.srt ((l.map (rl t)).map norm)).length ≤ _
        rw [srt_len2, List.length_map, List.length_map]
        omega
      · simp
    · simp
  have fm : ∀ q : List Int, ((l.filterMap (ren q)).map norm).length ≤ l.length := fun q => by
    rw [List.length_map]
    exact List.length_filterMap_le _ _
  have h3 : (indF n l t).2.1.length ≤ 8796093022208 := by
    unfold indF
    split
    · split
      · show (api_Edge_51.srt ((l.filterMap (ren t)).map norm)).length ≤ _
        have := fm t
        rw [srt_len2]
        omega
      · simp
    · simp
  have h4 : (bareF n l).2.1.length ≤ 8796093022208 := by
    unfold bareF
    split
    · show (api_Edge_51.srt ((l.filterMap (ren (lstB n l))).map norm)).length ≤ _
      have := fm (lstB n l)
      rw [srt_len2]
      omega
    · simp
  have h5 : (bareF n l).2.2.1.length ≤ 4611686018427387904 := by
    unfold bareF
    split
    · rename_i h
      show (lstB n l).length ≤ _
      have := lstB_len n l
      have := h.1
      omega
    · simp
  refine Ev.rounds ?_
  unfold tangramlaw14_EditLists.f
  refine Ev.andThen fixed_ev (Ev.tt ?_)
  refine Ev.andThen' hc (Ev.andThen' rfl (Ev.pos (by simp; omega) ?_))
  rw [List.nil_append]
  refine Ev.andThen (sub_ev n l t htl) (Ev.andThen (sub14_ev n l t htl) ?_)
  refine Ev.andThen' hc (Ev.andThen' rfl (Ev.pos (by simp; omega) ?_))
  rw [List.nil_append]
  refine Ev.andThen (relabel_ev n l t) (Ev.andThen (relabel14_ev n l t) ?_)
  refine Ev.andThen' hc (Ev.andThen' rfl (Ev.pos (by simp; omega) ?_))
  rw [List.nil_append]
  refine Ev.andThen (inducedG_ev n l t htl) (Ev.andThen (induced14_ev n l t htl) ?_)
  refine Ev.andThen' hc (Ev.andThen (bareG_ev n l) (Ev.andThen (bare14_ev n l) ?_))
  refine Ev.andThen (told_ev _ _ _ h1) (Ev.tt (Ev.andThen (told_ev _ _ _ h2) (Ev.tt (Ev.andThen (told_ev _ _ _ h3) (Ev.tt (Ev.andThen (told_ev _ _ _ h4) (Ev.tt (Ev.andThen (alike2_ev _ h5) (Ev.val rfl)))))))))
end Go.Proofs.Ytdaeaejmikhmcaa.Pure
