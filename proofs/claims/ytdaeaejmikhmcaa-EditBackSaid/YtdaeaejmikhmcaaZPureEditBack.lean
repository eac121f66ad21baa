/- EditBack: an edge out and in again, in and out again, divided and mended, the apex taken away: the graph again; for every input of the row. -/
import Derived.Test.YtdaeaejmikhmcaaZPEditCx43
import Derived.Test.YtdaeaejmikhmcaaZXEditB
import Derived.Test.YtdaeaejmikhmcaaZXEditE
set_option linter.unusedVariables false
set_option linter.unusedSimpArgs false
namespace Go.Proofs.Ytdaeaejmikhmcaa.Pure
open Go.RowKit Go.Proofs.Ytdaeaejmikhmcaa.PEditC Go.Proofs.YtdaeaejmikhmcaaW.PrintWords Go.Proofs.YtdaeaejmikhmcaaW.PrintLast Go.Proofs.YtdaeaejmikhmcaaX

def EditBackP : Prop := ∀ (a0_0 : Int) (l0_1 : List (S46)) (a1 : Int) (a2_0 : Int) (a2_1 : Int), (Lit.int .i64 a0_0).wf = true → l0_1.length ≤ maxLen → l0_1.length * 16 ≤ 140737488351232 → (∀ x ∈ l0_1, (Lit.int .i64 x.f0).wf = true ∧ (Lit.int .i64 x.f1).wf = true) → (Lit.int .i64 a1).wf = true → (Lit.int .i64 a2_0).wf = true → (Lit.int .i64 a2_1).wf = true → ∃ k, tangramlaw14_EditBack.f k a0_0 l0_1 a1 a2_0 a2_1 = some true
theorem fixed_ev2 : Ev (fun k => tangramlaw14_fixed.f k) true := Ev.of (fun k => tangramlaw14_fixed.mono k) (k := 60) (by decide +kernel)
theorem fl_length (a : Int) (n : Nat) : (fromL a n).length = n := by simp [fromL]
theorem fl_nodup (a : Int) (n : Nat) : (fromL a n).Nodup := by
  unfold fromL List.Nodup
  rw [List.pairwise_map]
  exact (List.nodup_range (n := n)).imp (fun h e => h (by omega))
theorem fl_mem (a : Int) (n : Nat) (v : Int) : v ∈ fromL a n ↔ a ≤ v ∧ v < a + n := by
  unfold fromL
  rw [List.mem_map]
  constructor
  · rintro ⟨i, hi, rfl⟩
    have := List.mem_range.1 hi
    omega
  · rintro ⟨h1, h2⟩
    exact ⟨(v - a).toNat, List.mem_range.2 (by omega), by omega⟩
theorem plc_fl (n : Nat) (v : Int) : plc (fromL 0 n) v = if 0 ≤ v ∧ v < n then v + 1 else 0 := by
  unfold plc
  by_cases h : 0 ≤ v ∧ v < n
  · rw [if_pos ((fl_mem 0 n v).2 (by omega)), if_pos h]
    have hi : v.toNat < (fromL 0 n).length := by rw [fl_length]; omega
    have e : (fromL 0 n)[v.toNat] = v := by
      simp [fromL]
      omega
    have := List.Nodup.idxOf_getElem (fl_nodup 0 n) v.toNat hi
    rw [e] at this
    omega
  · rw [if_neg (fun x => h (by have := (fl_mem 0 n v).1 x; omega)), if_neg h]
theorem ren_keep {n : Int} (hn : 0 ≤ n) : ∀ l : List S46, (∀ e ∈ l, Ed n e) → l.filterMap (ren (fromL 0 n.toNat)) = l
  | [], _ => rfl
  | a :: t, ht => by
    have ha := ht a List.mem_cons_self
    unfold Ed at ha
    have : ren (fromL 0 n.toNat) a = some a := by
      unfold ren
      rw [plc_fl, plc_fl, if_pos (by omega), if_pos (by omega), if_pos (by omega)]
      cases a
      simp only [Option.some.injEq, S46.mk.injEq]
      simp only at ha ⊢
      omega
    rw [List.filterMap_cons_some this, ren_keep hn t fun e he => ht e (List.mem_cons_of_mem _ he)]
theorem ren_drop {n : Int} (hn : 0 ≤ n) (m : List S46) (hm : ∀ e ∈ m, e.f1 = n) : m.filterMap (ren (fromL 0 n.toNat)) = [] := by
  rw [List.filterMap_eq_nil_iff]
  intro e he
  have := hm e he
  unfold ren
  rw [plc_fl, plc_fl, if_neg (c := 0 ≤ e.f1 ∧ _) (by omega), if_neg (by omega)]
/-- the graph's own edges, out of a greater graph's. -/
theorem keep_in {n : Int} {l m q : List S46} (hp : q.Perm (l ++ m)) (hn : 0 ≤ n) (hl : ∀ e ∈ l, Ed n e) (hs : l.Pairwise Lt) (hm : ∀ e ∈ m, e.f1 = n) :
    api_Edge_51.srt ((q.filterMap (ren (fromL 0 n.toNat))).map norm) = l := by
  have h1 : (l ++ m).filterMap (ren (fromL 0 n.toNat)) = l := by rw [List.filterMap_append, ren_keep hn l hl, ren_drop hn m hm, List.append_nil]
  have h2 := hp.filterMap (ren (fromL 0 n.toNat))
  rw [h1] at h2
  have h3 := h2.map norm
  rw [norm_map_id l (fun e he => by have := hl e he; unfold Ed at this; omega)] at h3
  exact srt_eq h3.symm hs
theorem lt_nodup2 {l : List S46} (h : l.Pairwise Lt) : l.Nodup := h.imp (fun {a b} h e => by subst e; unfold Lt at h; omega)
theorem srt_lt {l : List S46} (hn : l.Nodup) : (api_Edge_51.srt l).Pairwise Lt :=
  ((api_Edge_51.srt_sorted l).and (show (api_Edge_51.srt l).Pairwise (· ≠ ·) from (api_Edge_51.srt_perm l).nodup_iff.2 hn)).imp (fun {a b} h => by
    obtain ⟨h1, h2⟩ := h
    unfold api_Edge_51.Le at h1
    unfold Lt
    rcases h1 with h1 | h1
    · exact .inl h1
    · refine .inr ⟨h1.1, ?_⟩
      by_cases c : a.f1 = b.f1
      · exact absurd (by cases a; cases b; simp only [S46.mk.injEq]; exact ⟨h1.1, c⟩) h2
      · omega)
theorem snoc_nodup {l : List S46} {x : S46} (h : l.Nodup) (hx : x ∉ l) : (l ++ [x]).Nodup := (List.perm_append_singleton x l).nodup_iff.2 (List.nodup_cons.2 ⟨hx, h⟩)
theorem erase_perm (l : List S46) (i : Nat) (hi : i < l.length) : l.Perm (l.eraseIdx i ++ [l[i]]) := by
  have e : l = l.take i ++ (l[i] :: l.drop (i + 1)) := by rw [List.getElem_cons_drop, List.take_append_drop]
  have p : (l.take i ++ (l[i] :: l.drop (i + 1))).Perm (l[i] :: (l.take i ++ l.drop (i + 1))) := List.perm_middle
  rw [← e, erase_eq] at p
  exact p.trans (List.perm_append_singleton _ _).symm
theorem erase_not (l : List S46) (i : Nat) (hi : i < l.length) (hs : l.Pairwise Lt) : l[i] ∉ l.eraseIdx i := by
  have h := (erase_perm l i hi).nodup_iff.1 (lt_nodup2 hs)
  have := (List.perm_append_singleton l[i] (l.eraseIdx i)).nodup_iff.1 h
  exact (List.nodup_cons.1 this).1
theorem erase_Ok {n : Int} {l : List S46} (h : Ok n l) (i : Nat) : Ok n (l.eraseIdx i) :=
  Ok.of h.1.1 h.1.2 (by have := erase_len l i; have := h.2.1; omega) (erase_ed h i).1 (erase_ed h i).2
theorem erase_len1 (l : List S46) (i : Nat) (hi : i < l.length) : (l.eraseIdx i).length + 1 = l.length := by
  rw [List.length_eraseIdx, if_pos hi]
  omega
theorem srt_self {l : List S46} (hs : l.Pairwise Lt) : api_Edge_51.srt l = l := srt_eq (List.Perm.refl l) hs
/-- in again -/
theorem with_back {n : Int} {l : List S46} (h : Ok n l) (i : Nat) (hi : i < l.length) : withR n (l.eraseIdx i) (G l i).f0 (G l i).f1 = (n, l, 0) := by
  have ed := h.get i hi
  have hl := h.2.1
  have hx := erase_len1 l i hi
  rw [← G_get l i hi] at ed
  unfold Ed at ed
  have ne : (⟨(G l i).f0, (G l i).f1⟩ : S46) ∉ l.eraseIdx i := by
    have := erase_not l i hi h.sorted
    rwa [← G_get l i hi] at this
  have e : api_Edge_51.srt (l.eraseIdx i ++ [⟨(G l i).f0, (G l i).f1⟩]) = l := by
    have := erase_perm l i hi
    rw [← G_get l i hi] at this
    exact srt_eq this h.sorted
  rw [withR, if_pos (erase_Ok h i), if_pos (by omega), if_neg ne, if_neg (by omega), e]
theorem without_ok {n : Int} {l : List S46} (h : Ok n l) (i : Nat) (hi : i < l.length) : withoutR n l (i : Int) = (n, l.eraseIdx i, 0) := by
  have : edgeR n l (i : Int) = 0 := by
    unfold edgeR
    rw [if_pos h, if_neg (by omega), if_neg (by omega)]
  rw [withoutR, if_pos this]
  rfl
/-- out again -/
theorem out_again {l R : List S46} {x : S46} (hs : l.Pairwise Lt) (hR : R.Pairwise Lt) (hp : R.Perm (l ++ [x])) (p : Nat) (hpl : p < R.length) (hx : R[p] = x) : R.eraseIdx p = l := by
  have h1 := (erase_perm R p hpl).symm.trans hp
  rw [hx] at h1
  have h2 : (x :: R.eraseIdx p).Perm (x :: l) := (List.perm_append_singleton x _).symm.trans (h1.trans (List.perm_append_singleton x l))
  have h3 := (List.perm_cons x).1 h2
  have e1 := srt_eq h3 (hR.sublist (List.eraseIdx_sublist R p))
  rw [← e1, srt_self hs]
theorem back_j5 (n : Int) (l : List S46) (h : Ok n l) : Ev (fun k => tangramlaw14_EditBack.j5 k n l) true := by
  have hn := h.1
  have hl := h.2.1
  refine Ev.succ ?_
  simp only [tangramlaw14_EditBack.j5]
  refine Ev.andThen (apex_ev n l) ?_
  rw [apexR, if_pos h]
  by_cases c : n ≥ 1048576 ∨ (l.length : Int) + n > 4194304
  · rw [if_pos c]
    refine Ev.neg (by simp) (Ev.pos (by simp) (Ev.ite (fun _ => Ev.val rfl) (fun c2 => Ev.val ?_)))
    rw [w64 (by omega) (by omega), decide_eq_true_eq]
    omega
  · rw [if_neg c]
    have hp : (api_Edge_51.srt (l ++ rays n n.toNat)).Perm (l ++ rays n n.toNat) := api_Edge_51.srt_perm _
    have hm : ∀ e ∈ rays n n.toNat, 0 ≤ e.f0 ∧ e.f0 < n ∧ e.f1 = n := fun e he => by have := rays_mem he; omega
    have nd : (l ++ rays n n.toNat).Nodup := by
      refine List.nodup_append.2 ⟨lt_nodup2 h.sorted, ?_, fun a ha b hb e => ?_⟩
      · unfold rays List.Nodup
        rw [List.pairwise_map]
        exact (List.nodup_range (n := n.toNat)).imp (fun h e => h (by
          simp only [S46.mk.injEq] at e
          omega))
      · subst e
        have := h.mem ha
        have := hm a hb
        unfold Ed at *
        omega
    have hlen : (api_Edge_51.srt (l ++ rays n n.toNat)).length = l.length + n.toNat := by rw [hp.length_eq, List.length_append, rays_len]
    have ok : Ok (n + 1) (api_Edge_51.srt (l ++ rays n n.toNat)) := by
      refine Ok.of (by omega) (by omega) (by omega) (fun e he => ?_) (srt_lt nd)
      rcases List.mem_append.1 (hp.mem_iff.1 he) with q | q
      · have := h.mem q
        unfold Ed at *
        omega
      · have := hm e q
        unfold Ed
        omega
    have f0 := from_ev 0 n.toNat (by omega) (by omega)
    have en : ((n.toNat : Nat) : Int) = n := by omega
    rw [en] at f0
    have i0 := induced_ev (n + 1) _ (fromL 0 n.toNat) ok (fl_nodup _ _) (fun v hv => by have := (fl_mem _ _ _).1 hv; omega) (by rw [fl_length]; omega)
    rw [keep_in hp hn.1 (fun e he => h.mem he) h.sorted (fun e he => (hm e he).2.2), fl_length, en] at i0
    refine Ev.pos rfl (Ev.andThen f0 (Ev.andThen i0 (Ev.pos rfl (Ev.pos (by rw [w64 (by omega) (by omega)]) (Ev.pos ?_ (Ev.andThen (same_ev n l (by omega)) (Ev.val rfl)))))))
    show ((api_Edge_51.srt (l ++ rays n n.toNat)).length : Int) = _
    rw [hlen, w64 (by omega) (by omega)]
    omega
theorem back_l0 (n : Int) (l R : List S46) (a b : Int) (h : Ok n l) (ok : Ok n R) (hp : R.Perm (l ++ [(⟨a, b⟩ : S46)])) (p : Nat) (hpl : p < R.length) (hx : R[p] = ⟨a, b⟩) : ∀ (d i : Nat), i + d = R.length →
    Ev (fun k => tangramlaw14_EditBack.l0 k (if p < i then (p : Int) else -1) (R.length : Int) (i : Int) n l a b n R) true := by
  have hl := h.2.1
  have hR := ok.2.1
  have hlen : R.length = l.length + 1 := by rw [hp.length_eq, List.length_append]; rfl
  intro d
  induction d with
  | zero =>
    intro i hi
    refine Ev.succ ?_
    simp only [tangramlaw14_EditBack.l0]
    rw [if_pos (show p < i by omega)]
    have w := without_ev n R (p : Int)
    rw [without_ok ok p hpl, out_again h.sorted ok.sorted hp p hpl hx] at w
    refine Ev.neg (by omega) (Ev.andThen w (Ev.pos rfl (Ev.pos ?_ (Ev.andThen (same_ev n l (by omega)) (Ev.tt (back_j5 n l h))))))
    rw [w64 (by omega) (by omega)]
    omega
  | succ d ih =>
    intro i hi
    refine Ev.succ ?_
    simp only [tangramlaw14_EditBack.l0, rdG]
    rw [wi i R (by omega) (by omega)]
    have ih' := ih (i + 1) (by omega)
    have hi' : i < R.length := by omega
    refine Ev.pos (by omega) (Ev.pos (by omega) (Ev.pos (by omega) (Ev.ite (fun c => ?_) (fun c => ?_))))
    · have e : R[i] = ⟨a, b⟩ := by
        rw [← G_get R i hi']
        have : (G R i).f0 = a ∧ (G R i).f1 = b := by simpa using c
        obtain ⟨rfl, rfl⟩ := this
        rfl
      have ip : i = p := by
        rcases Nat.lt_trichotomy i p with o | o | o
        · have := List.pairwise_iff_getElem.1 ok.sorted i p hi' hpl o
          rw [e, hx] at this
          unfold Lt at this
          omega
        · exact o
        · have := List.pairwise_iff_getElem.1 ok.sorted p i hpl hi' o
          rw [e, hx] at this
          unfold Lt at this
          omega
      rw [if_pos (show p < i + 1 by omega)] at ih'
      rw [ip] at ih' ⊢
      exact ih'
    · have ip : i ≠ p := fun o => by
        subst o
        rw [← G_get R i hi'] at hx
        refine c ?_
        rw [hx]
        simp
      by_cases o : p < i
      · rw [if_pos (show p < i + 1 by omega)] at ih'
        rw [if_pos o]
        exact ih'
      · rw [if_neg (show ¬ p < i + 1 by omega)] at ih'
        rw [if_neg o]
        exact ih'
theorem back_j3 (n : Int) (l : List S46) (a b : Int) (h : Ok n l) : Ev (fun k => tangramlaw14_EditBack.j3 k n l a b) true := by
  have hn := h.1
  have hl := h.2.1
  refine Ev.succ ?_
  simp only [tangramlaw14_EditBack.j3]
  refine Ev.andThen (with_ev n l a b) ?_
  by_cases c : (withR n l a b).2.2 = 0
  · refine Ev.pos c ?_
    have c0 := c
    unfold withR at c0
    rw [if_pos h] at c0
    by_cases c1 : 0 ≤ a ∧ a < b ∧ b < n
    · rw [if_pos c1] at c0
      by_cases c2 : (⟨a, b⟩ : S46) ∈ l
      · rw [if_pos c2] at c0
        simp at c0
      · rw [if_neg c2] at c0
        by_cases c3 : (l.length : Int) ≥ 4194304
        · rw [if_pos c3] at c0
          simp at c0
        · have e : withR n l a b = (n, api_Edge_51.srt (l ++ [⟨a, b⟩]), 0) := by rw [withR, if_pos h, if_pos c1, if_neg c2, if_neg c3]
          rw [e]
          have hp : (api_Edge_51.srt (l ++ [(⟨a, b⟩ : S46)])).Perm (l ++ [(⟨a, b⟩ : S46)]) := api_Edge_51.srt_perm _
          have hlen : (api_Edge_51.srt (l ++ [(⟨a, b⟩ : S46)])).length = l.length + 1 := by rw [hp.length_eq, List.length_append]; rfl
          have ok : Ok n (api_Edge_51.srt (l ++ [(⟨a, b⟩ : S46)])) := by
            refine Ok.of hn.1 hn.2 (by omega) (fun e he => ?_) (srt_lt (snoc_nodup (lt_nodup2 h.sorted) c2))
            rcases List.mem_append.1 (hp.mem_iff.1 he) with q | q
            · exact h.mem q
            · rw [List.mem_singleton.1 q]
              unfold Ed
              exact c1
          have hm : (⟨a, b⟩ : S46) ∈ api_Edge_51.srt (l ++ [(⟨a, b⟩ : S46)]) := hp.mem_iff.2 (by simp)
          obtain ⟨p, hpl, hx⟩ := List.getElem_of_mem hm
          have := back_l0 n l _ a b h ok hp p hpl hx (api_Edge_51.srt (l ++ [(⟨a, b⟩ : S46)])).length 0 (by omega)
          rw [if_neg (by omega)] at this
          exact this
    · rw [if_neg c1] at c0
      simp at c0
  · exact Ev.neg c (back_j5 n l h)
theorem back_j2 (n : Int) (l : List S46) (i : Nat) (a b : Int) (h : Ok n l) (hi : i < l.length) (q : Bool) (hq : q = true → n < 1048576 ∧ l.length < 4194304) :
    Ev (fun k => tangramlaw14_EditBack.j2 k (i : Int) q n l a b n (l.eraseIdx i)) true := by
  have hn := h.1
  have hl := h.2.1
  refine Ev.succ ?_
  simp only [tangramlaw14_EditBack.j2]
  refine Ev.ite (fun c => ?_) (fun c => back_j3 n l a b h)
  obtain ⟨q1, q2⟩ := hq c
  have hx := erase_len1 l i hi
  have he := erase_ed h i
  have ed := h.get i hi
  rw [← G_get l i hi] at ed
  unfold Ed at ed
  have c0 : edgeR n l (i : Int) = 0 := by
    unfold edgeR
    rw [if_pos h, if_neg (by omega), if_neg (by omega)]
  have d0 := divide_ev n l (i : Int)
  rw [divR, if_pos c0, if_neg (by omega), rdG, Int.toNat_natCast] at d0
  have hp : (api_Edge_51.srt (l.eraseIdx i ++ [⟨(G l i).f0, n⟩, ⟨(G l i).f1, n⟩])).Perm (l.eraseIdx i ++ [⟨(G l i).f0, n⟩, ⟨(G l i).f1, n⟩]) := api_Edge_51.srt_perm _
  have hlen : (api_Edge_51.srt (l.eraseIdx i ++ [⟨(G l i).f0, n⟩, ⟨(G l i).f1, n⟩])).length = l.length + 1 := by
    rw [hp.length_eq, List.length_append]
    simp
    omega
  have hm : ∀ e ∈ [(⟨(G l i).f0, n⟩ : S46), ⟨(G l i).f1, n⟩], 0 ≤ e.f0 ∧ e.f0 < n ∧ e.f1 = n := fun e he => by
    simp only [List.mem_cons, List.not_mem_nil, or_false] at he
    rcases he with rfl | rfl
    · exact ⟨by show 0 ≤ (G l i).f0; omega, by show (G l i).f0 < n; omega, rfl⟩
    · exact ⟨by show 0 ≤ (G l i).f1; omega, by show (G l i).f1 < n; omega, rfl⟩
  have nd : (l.eraseIdx i ++ [(⟨(G l i).f0, n⟩ : S46), ⟨(G l i).f1, n⟩]).Nodup := by
    have : l.eraseIdx i ++ [(⟨(G l i).f0, n⟩ : S46), ⟨(G l i).f1, n⟩] = (l.eraseIdx i ++ [(⟨(G l i).f0, n⟩ : S46)]) ++ [⟨(G l i).f1, n⟩] := by simp
    rw [this]
    refine snoc_nodup (snoc_nodup (lt_nodup2 he.2) (out_of he.1 _)) (fun x => ?_)
    rcases List.mem_append.1 x with y | y
    · exact out_of he.1 _ y
    · have := List.mem_singleton.1 y
      simp only [S46.mk.injEq] at this
      omega
  have ok : Ok (n + 1) (api_Edge_51.srt (l.eraseIdx i ++ [⟨(G l i).f0, n⟩, ⟨(G l i).f1, n⟩])) := by
    refine Ok.of (by omega) (by omega) (by omega) (fun e he' => ?_) (srt_lt nd)
    rcases List.mem_append.1 (hp.mem_iff.1 he') with y | y
    · have := he.1 e y
      unfold Ed at *
      omega
    · have := hm e y
      unfold Ed
      omega
  have f0 := from_ev 0 n.toNat (by omega) (by omega)
  have en : ((n.toNat : Nat) : Int) = n := by omega
  rw [en] at f0
  have i0 := induced_ev (n + 1) _ (fromL 0 n.toNat) ok (fl_nodup _ _) (fun v hv => by have := (fl_mem _ _ _).1 hv; omega) (by rw [fl_length]; omega)
  rw [keep_in hp hn.1 he.1 he.2 (fun e he => (hm e he).2.2), fl_length, en] at i0
  have w0 := with_ev n (l.eraseIdx i) (G l i).f0 (G l i).f1
  rw [with_back h i hi] at w0
  simp only [rdG]
  refine Ev.andThen d0 (Ev.andThen f0 (Ev.andThen i0 (Ev.pos (by omega) (Ev.pos (by omega) (Ev.andThen w0 (Ev.pos rfl (Ev.pos rfl (Ev.pos rfl (Ev.pos (by rw [w64 (by omega) (by omega)]) (Ev.pos ?_ (Ev.andThen (same_ev n l (by omega)) (Ev.tt (Ev.andThen (same_ev n (l.eraseIdx i) (by omega)) (Ev.tt (back_j3 n l a b h)))))))))))))))
  show ((api_Edge_51.srt (l.eraseIdx i ++ [⟨(G l i).f0, n⟩, ⟨(G l i).f1, n⟩])).length : Int) = _
  rw [hlen, w64 (by omega) (by omega)]
  omega
theorem back_j1 (n : Int) (l : List S46) (i : Nat) (a b : Int) (h : Ok n l) (hi : i < l.length) : Ev (fun k => tangramlaw14_EditBack.j1 k (i : Int) false n l a b n (l.eraseIdx i)) true := by
  refine Ev.succ ?_
  simp only [tangramlaw14_EditBack.j1]
  refine Ev.neg (by simp) (Ev.ite (fun c => ?_) (fun c => back_j2 n l i a b h hi false (by simp)))
  exact back_j2 n l i a b h hi _ (fun q => ⟨c, by have := of_decide_eq_true q; omega⟩)
theorem back_j0 (n : Int) (l : List S46) (e a b : Int) (h : Ok n l) (q : Bool) (hq : q = true → 0 ≤ e ∧ e < l.length) : Ev (fun k => tangramlaw14_EditBack.j0 k e q n l a b) true := by
  have hl := h.2.1
  refine Ev.succ ?_
  simp only [tangramlaw14_EditBack.j0]
  refine Ev.ite (fun c => ?_) (fun c => back_j3 n l a b h)
  obtain ⟨h0, h1⟩ := hq c
  obtain ⟨i, rfl⟩ := Int.eq_ofNat_of_zero_le h0
  have hi : i < l.length := by omega
  have hx := erase_len1 l i hi
  have w := without_ev n l (i : Int)
  rw [without_ok h i hi] at w
  have w0 := with_ev n (l.eraseIdx i) (G l i).f0 (G l i).f1
  rw [with_back h i hi] at w0
  simp only [rdG]
  refine Ev.andThen w (Ev.pos (by omega) (Ev.pos (by omega) (Ev.andThen w0 (Ev.pos rfl (Ev.pos rfl (Ev.pos ?_ (Ev.andThen (same_ev n l (by omega)) (back_j1 n l i a b h hi))))))))
  show ((l.eraseIdx i).length : Int) = _
  rw [w64 (by omega) (by omega)]
  omega
theorem EditBack : EditBackP := by
  intro n l e a b hn0 _ hl _ _ _ _
  refine Ev.rounds ?_
  unfold tangramlaw14_EditBack.f
  refine Ev.andThen fixed_ev2 (Ev.tt (Ev.andThen (valid3_ev n l) ?_))
  by_cases h : Ok n l
  · rw [decide_eq_true h]
    refine Ev.tt (Ev.ite (fun c => ?_) (fun c => back_j0 n l e a b h false (by simp)))
    exact back_j0 n l e a b h _ (fun q => ⟨c, of_decide_eq_true q⟩)
  · rw [decide_eq_false h]
    have := apex_ev n l
    rw [apexR, if_neg h] at this
    exact Ev.ff (Ev.andThen this (Ev.val rfl))
end Go.Proofs.Ytdaeaejmikhmcaa.Pure
