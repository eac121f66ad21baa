/- EditBeside: Beside of any two graphs is the reference's, and Induced to its halves gives the two graphs back; for every input of the row. -/
import Derived.Test.YtdaeaejmikhmcaaZPEditCx29
import Derived.Test.YtdaeaejmikhmcaaZXEditB
set_option linter.unusedVariables false
set_option linter.unusedSimpArgs false
namespace Go.Proofs.Ytdaeaejmikhmcaa.Pure
open Go.RowKit Go.Proofs.Ytdaeaejmikhmcaa.PEditC Go.Proofs.YtdaeaejmikhmcaaW.PrintWords Go.Proofs.YtdaeaejmikhmcaaW.PrintLast Go.Proofs.YtdaeaejmikhmcaaX

def EditBesideP : Prop := ∀ (a0_0 : Int) (l0_1 : List (S46)) (a1_0 : Int) (l1_1 : List (S46)), (Lit.int .i64 a0_0).wf = true → l0_1.length ≤ maxLen → l0_1.length * 16 ≤ 140737488351232 → (∀ x ∈ l0_1, (Lit.int .i64 x.f0).wf = true ∧ (Lit.int .i64 x.f1).wf = true) → (Lit.int .i64 a1_0).wf = true → l1_1.length ≤ maxLen → l1_1.length * 16 ≤ 140737488351232 → (∀ x ∈ l1_1, (Lit.int .i64 x.f0).wf = true ∧ (Lit.int .i64 x.f1).wf = true) → ∃ k, tangramlaw14_EditBeside.f k a0_0 l0_1 a1_0 l1_1 = some true
theorem fixed_ev : Ev (fun k => tangramlaw14_fixed.f k) true := Ev.of (fun k => tangramlaw14_fixed.mono k) (k := 60) (by decide +kernel)
theorem fromL_length (a : Int) (n : Nat) : (fromL a n).length = n := by simp [fromL]
theorem fromL_nodup (a : Int) (n : Nat) : (fromL a n).Nodup := by
  unfold fromL List.Nodup
  rw [List.pairwise_map]
  exact (List.nodup_range (n := n)).imp (fun h e => h (by omega))
theorem fromL_mem (a : Int) (n : Nat) (v : Int) : v ∈ fromL a n ↔ a ≤ v ∧ v < a + n := by
  unfold fromL
  rw [List.mem_map]
  constructor
  · rintro ⟨i, hi, rfl⟩
    have := List.mem_range.1 hi
    omega
  · rintro ⟨h1, h2⟩
    exact ⟨(v - a).toNat, List.mem_range.2 (by omega), by omega⟩
theorem plc_from (a : Int) (n : Nat) (v : Int) : plc (fromL a n) v = if a ≤ v ∧ v < a + n then v - a + 1 else 0 := by
  unfold plc
  by_cases h : a ≤ v ∧ v < a + n
  · rw [if_pos ((fromL_mem a n v).2 h), if_pos h]
    have hi : (v - a).toNat < (fromL a n).length := by rw [fromL_length]; omega
    have e : (fromL a n)[(v - a).toNat] = v := by
      simp [fromL]
      omega
    have := List.Nodup.idxOf_getElem (fromL_nodup a n) (v - a).toNat hi
    rw [e] at this
    omega
  · rw [if_neg (fun x => h ((fromL_mem a n v).1 x)), if_neg h]
theorem half0 {n m : Int} {l q : List S46} (h : Ok n l) (h' : Ok m q) : (l ++ q.map (sh n)).filterMap (ren (fromL 0 n.toNat)) = l := by
  have hn := h.1
  rw [List.filterMap_append]
  have e1 : l.filterMap (ren (fromL 0 n.toNat)) = l := by
    have : ∀ t : List S46, (∀ e ∈ t, Ed n e) → t.filterMap (ren (fromL 0 n.toNat)) = t := by
      intro t
      induction t with
      | nil => intro _; rfl
      | cons a t ih =>
        intro ht
        have ha := ht a List.mem_cons_self
        unfold Ed at ha
        have : ren (fromL 0 n.toNat) a = some a := by
          unfold ren
          rw [plc_from, plc_from, if_pos (by omega), if_pos (by omega), if_pos (by omega)]
          cases a
          simp only [Option.some.injEq, S46.mk.injEq]
          simp only at ha ⊢
          omega
        rw [List.filterMap_cons_some this, ih fun e he => ht e (List.mem_cons_of_mem _ he)]
    exact this l fun e he => h.mem he
  have e2 : (q.map (sh n)).filterMap (ren (fromL 0 n.toNat)) = [] := by
    rw [List.filterMap_eq_nil_iff]
    intro e he
    obtain ⟨c, hc, rfl⟩ := List.mem_map.1 he
    have := h'.mem hc
    unfold Ed at this
    unfold ren sh
    rw [plc_from, plc_from, if_neg (by simp only; omega)]
  rw [e1, e2, List.append_nil]
theorem half1 {n m : Int} {l q : List S46} (h : Ok n l) (h' : Ok m q) : (l ++ q.map (sh n)).filterMap (ren (fromL n m.toNat)) = q := by
  have hn := h.1
  have hm := h'.1
  rw [List.filterMap_append]
  have e2 : l.filterMap (ren (fromL n m.toNat)) = [] := by
    rw [List.filterMap_eq_nil_iff]
    intro e he
    have := h.mem he
    unfold Ed at this
    unfold ren
    rw [plc_from, plc_from, if_neg (by omega)]
  have e1 : (q.map (sh n)).filterMap (ren (fromL n m.toNat)) = q := by
    have : ∀ t : List S46, (∀ e ∈ t, Ed m e) → (t.map (sh n)).filterMap (ren (fromL n m.toNat)) = t := by
      intro t
      induction t with
      | nil => intro _; rfl
      | cons a t ih =>
        intro ht
        have ha := ht a List.mem_cons_self
        unfold Ed at ha
        have : ren (fromL n m.toNat) (sh n a) = some a := by
          unfold ren sh
          simp only
          rw [plc_from, plc_from, if_pos (by omega), if_pos (by omega), if_pos (by omega)]
          cases a
          simp only [Option.some.injEq, S46.mk.injEq]
          simp only at ha ⊢
          omega
        rw [List.map_cons, List.filterMap_cons_some this, ih fun e he => ht e (List.mem_cons_of_mem _ he)]
    exact this q fun e he => h'.mem he
  rw [e1, e2, List.nil_append]
theorem back_id {n : Int} {l : List S46} (h : Ok n l) : api_Edge_51.srt (l.map norm) = l := by
  rw [norm_map_id l (fun e he => by have := h.mem he; unfold Ed at this; omega), srt_id l h.sorted]

theorem EditBeside : EditBesideP := by
  intro n l m q hn0 _ hl _ hm0 _ hq _
  refine Ev.rounds ?_
  unfold tangramlaw14_EditBeside.f
  refine Ev.andThen fixed_ev (Ev.tt ?_)
  refine Ev.andThen' (copy_eq n l (by omega)) (Ev.andThen' (copy_eq m q (by omega)) ?_)
  refine Ev.andThen (beside_ev n m l q) (Ev.andThen (beside14_ev n m l q) ?_)
  have hlen : (besideR n l m q).2.1.length ≤ 8796093022208 := by
    unfold besideR
    split
    · rename_i h
      have := h.1.2.1
      have := h.2.2.1
      split <;> simp
      omega
    · simp
  refine Ev.andThen (told_ev _ _ _ hlen) (Ev.tt (Ev.succ ?_))
  simp only [tangramlaw14_EditBeside.j0]
  by_cases h : Ok n l ∧ Ok m q
  · by_cases c : n + m > 1048576 ∨ (l.length : Int) + q.length > 4194304
    · have e : besideR n l m q = (0, [], 141) := by rw [besideR, if_pos h, if_pos c]
      rw [e]
      exact Ev.pos (by decide) (Ev.andThen (told_ev 0 [] 141 (by simp)) (Ev.val rfl))
    · have e : besideR n l m q = (n + m, l ++ q.map (sh n), 0) := by rw [besideR, if_pos h, if_neg c]
      rw [e]
      obtain ⟨h1, h2⟩ := h
      have hn := h1.1
      have hm := h2.1
      have ok := beside_ok h1 h2 (by omega) (by omega)
      refine Ev.neg (by simp) ?_
      have en : ((n.toNat : Nat) : Int) = n := by omega
      have em : ((m.toNat : Nat) : Int) = m := by omega
      have f0 := from_ev 0 n.toNat (by omega) (by omega)
      have f1 := from_ev n m.toNat (by omega) (by omega)
      rw [en] at f0
      rw [em] at f1
      refine Ev.andThen f0 ?_
      have i0 := induced_ev (n + m) (l ++ q.map (sh n)) (fromL 0 n.toNat) ok (fromL_nodup _ _) (fun v hv => by have := (fromL_mem _ _ _).1 hv; omega) (by rw [fromL_length]; omega)
      rw [half0 h1 h2, back_id h1, fromL_length, en] at i0
      refine Ev.andThen i0 (Ev.andThen f1 ?_)
      have i1 := induced_ev (n + m) (l ++ q.map (sh n)) (fromL n m.toNat) ok (fromL_nodup _ _) (fun v hv => by have := (fromL_mem _ _ _).1 hv; omega) (by rw [fromL_length]; omega)
      rw [half1 h1 h2, back_id h2, fromL_length, em] at i1
      refine Ev.andThen i1 (Ev.pos rfl (Ev.pos rfl ?_))
      exact Ev.andThen (same_ev n l (by omega)) (Ev.tt (Ev.andThen (same_ev m q (by omega)) (Ev.val rfl)))
  · have e : besideR n l m q = (0, [], 1) := by rw [besideR, if_neg h]
    rw [e]
    exact Ev.pos (by decide) (Ev.andThen (told_ev 0 [] 1 (by simp)) (Ev.val rfl))
end Go.Proofs.Ytdaeaejmikhmcaa.Pure
