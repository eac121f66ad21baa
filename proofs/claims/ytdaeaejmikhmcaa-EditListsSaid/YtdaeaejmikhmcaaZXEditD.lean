-- Plain facts on the printed functions of layer 14 (edit): the fixed fact, from, places, Bare.
import Derived.Test.YtdaeaejmikhmcaaZXEditC
import Derived.Test.YtdaeaejmikhmcaaZPEditCx18
set_option linter.unusedVariables false
set_option linter.unusedSimpArgs false
namespace Go.Proofs.Ytdaeaejmikhmcaa.Pure
open Go.RowKit Go.Proofs.Ytdaeaejmikhmcaa.PEditC Go.Proofs.YtdaeaejmikhmcaaW.PrintWords Go.Proofs.YtdaeaejmikhmcaaW.PrintLast Go.Proofs.YtdaeaejmikhmcaaX
theorem fixed_ev : Ev (fun k => tangramlaw14_fixed.f k) true := Ev.of (fun k => tangramlaw14_fixed.mono k) (k := 60) (by decide +kernel)
theorem fromL_length (a : Int) (n : Nat) : (fromL a n).length = n := by simp [fromL]
theorem fromL_nodup (a : Int) (n : Nat) : (fromL a n).Nodup := by
  unfold fromL List.Nodup
  rw [List.pairwise_map]
  exact (List.nodup_range (n := n)).imp (fun h e => h (by omega))
theorem fromL_mem (a : Int) (n : Nat) (v : Int) : v ∈ fromL a n ↔ a ≤ v ∧ v < a + n := by
  unfold fromL
  rw [List.mem_map]
  constructor
  · rintro ⟨i, hi, rfl⟩
    have := List.mem_range.1 hi
    omega
  · rintro ⟨h1, h2⟩
    exact ⟨(v - a).toNat, List.mem_range.2 (by omega), by omega⟩
theorem plc_from (a : Int) (n : Nat) (v : Int) : plc (fromL a n) v = if a ≤ v ∧ v < a + n then v - a + 1 else 0 := by
  unfold plc
  by_cases h : a ≤ v ∧ v < a + n
  · rw [if_pos ((fromL_mem a n v).2 h), if_pos h]
    have hi : (v - a).toNat < (fromL a n).length := by rw [fromL_length]; omega
    have e : (fromL a n)[(v - a).toNat] = v := by
      simp [fromL]
      omega
    have := List.Nodup.idxOf_getElem (fromL_nodup a n) (v - a).toNat hi
    rw [e] at this
    omega
  · rw [if_neg (fun x => h ((fromL_mem a n v).1 x)), if_neg h]
theorem back_id {n : Int} {l : List S46} (h : Ok n l) : api_Edge_51.srt (l.map norm) = l := by
  rw [norm_map_id l (fun e he => by have := h.mem he; unfold Ed at this; omega), srt_id l h.sorted]


theorem ren_id {n : Int} {l : List S46} (h : Ok n l) : l.filterMap (ren (fromL 0 n.toNat)) = l := by
  have hn := h.1
  have : ∀ t : List S46, (∀ e ∈ t, Ed n e) → t.filterMap (ren (fromL 0 n.toNat)) = t := by
    intro t
    induction t with
    | nil => intro _; rfl
    | cons a t ih =>
      intro ht
      have ha := ht a List.mem_cons_self
      unfold Ed at ha
      have : ren (fromL 0 n.toNat) a = some a := by
        unfold ren
        rw [plc_from, plc_from, if_pos (by omega), if_pos (by omega), if_pos (by omega)]
        cases a
        simp only [Option.some.injEq, S46.mk.injEq]
        simp only at ha ⊢
        omega
      rw [List.filterMap_cons_some this, ih fun e he => ht e (List.mem_cons_of_mem _ he)]
  exact this l fun e he => h.mem he
/-! Bare -/
def lstB (n : Int) (l : List S46) : List Int := (fromL 0 n.toNat).filter fun v => decide (inc l v)
theorem fromL_succ (i : Nat) : fromL 0 (i + 1) = fromL 0 i ++ [(i : Int)] := by
  simp [fromL, List.range_succ]
theorem fromL_lt (n : Nat) : (fromL 0 n).Pairwise (· < ·) := by
  unfold fromL
  rw [List.pairwise_map]
  exact (List.pairwise_lt_range (n := n)).imp (fun h => by omega)
theorem lstB_lt (n : Int) (l : List S46) : (lstB n l).Pairwise (· < ·) := (fromL_lt _).filter _
theorem lstB_mem {n : Int} {l : List S46} (h : Ok n l) (v : Int) : v ∈ lstB n l ↔ inc l v := by
  unfold lstB
  rw [List.mem_filter, fromL_mem, decide_eq_true_eq]
  constructor
  · exact fun x => x.2
  · intro x
    refine ⟨?_, x⟩
    obtain ⟨e, he, h1⟩ := x
    have := h.mem he
    unfold Ed at this
    omega
theorem lstB_range (n : Int) (l : List S46) (v : Int) (h : v ∈ lstB n l) : 0 ≤ v ∧ v < 0 + (n.toNat : Int) := (fromL_mem _ _ _).1 (List.mem_filter.1 h).1
theorem lstB_len (n : Int) (l : List S46) : (lstB n l).length ≤ n.toNat := by
  have := List.length_filter_le (fun v => decide (inc l v)) (fromL 0 n.toNat)
  rw [fromL_length] at this
  exact this
theorem lt_nodup {t : List Int} (h : t.Pairwise (· < ·)) : t.Nodup := h.imp (fun h e => by omega)
theorem bare_l0 (n : Int) (l : List S46) (r : List Int) (h : Ok n l) (hr : (r.length : Int) = n) (hx : ∀ v : Nat, (v : Int) < n → (rd r (v : Int) > 0 ↔ inc l v)) : ∀ (d i : Nat), i + d = r.length →
    Ev (fun k => edit_Bare.l0 k ((fromL 0 i).filter fun v => decide (inc l v)) r (r.length : Int) (i : Int) n l) (((lstB n l).length : Int), api_Edge_51.srt ((l.filterMap (ren (lstB n l))).map norm), lstB n l, 0) := by
  have hn := h.1
  intro d
  induction d with
  | zero =>
    intro i hi
    refine Ev.succ ?_
    simp only [edit_Bare.l0]
    refine Ev.neg (by omega) ?_
    have e : ((fromL 0 i).filter fun v => decide (inc l v)) = lstB n l := by
      unfold lstB
      rw [show i = n.toNat by omega]
    rw [e]
    have := induced_ev n l (lstB n l) h (lt_nodup (lstB_lt n l)) (fun v hv => by have := lstB_range n l v hv; omega) (by have := lstB_len n l; omega)
    exact Ev.andThen this (Ev.val rfl)
  | succ d ih =>
    intro i hi
    refine Ev.succ ?_
    simp only [edit_Bare.l0]
    have hlen : ((fromL 0 i).filter fun v => decide (inc l v)).length < 17592186044416 := by
      have := List.length_filter_le (fun v => decide (inc l v)) (fromL 0 i)
      rw [fromL_length] at this
      omega
    have q := ih (i + 1) (by omega)
    rw [fromL_succ, List.filter_append] at q
    rw [show wrap64 ((i : Int) + 1) = ((i + 1 : Nat) : Int) by rw [w64 (by omega) (by omega)]; omega]
    refine Ev.pos (by omega) (Ev.pos (by omega) (Ev.pos (by omega) ?_))
    refine Ev.ite (fun c => Ev.pos hlen ?_) (fun c => ?_)
    · have := (hx i (by omega)).1 c
      rw [List.filter_cons_of_pos (by simpa using this), List.filter_nil] at q
      exact q
    · have : ¬ inc l (i : Int) := fun x => c ((hx i (by omega)).2 x)
      rw [List.filter_cons_of_neg (by simpa using this), List.filter_nil, List.append_nil] at q
      exact q
theorem bare_ev (n : Int) (l : List S46) (h : Ok n l) : Ev (fun k => edit_Bare.f k n l) (((lstB n l).length : Int), api_Edge_51.srt ((l.filterMap (ren (lstB n l))).map norm), lstB n l, 0) := by
  obtain ⟨r, hr, h1, h2⟩ := degrees_ev n l h
  unfold edit_Bare.f
  refine Ev.andThen hr (Ev.pos rfl ?_)
  have := bare_l0 n l r h h1 h2 r.length 0 (by omega)
  exact this
theorem plc_mono {t : List Int} (ht : t.Pairwise (· < ·)) {v w : Int} (hv : v ∈ t) (hw : w ∈ t) (h : v < w) : plc t v < plc t w := by
  unfold plc
  rw [if_pos hv, if_pos hw]
  have iv := List.idxOf_lt_length_of_mem hv
  have iw := List.idxOf_lt_length_of_mem hw
  have gv : t[t.idxOf v] = v := List.getElem_idxOf iv
  have gw : t[t.idxOf w] = w := List.getElem_idxOf iw
  have : t.idxOf v < t.idxOf w := by
    rcases Nat.lt_trichotomy (t.idxOf v) (t.idxOf w) with c | c | c
    · exact c
    · have : t[t.idxOf v] = t[t.idxOf w] := by simp only [c]
      omega
    · have := List.pairwise_iff_getElem.1 ht _ _ iw iv c
      omega
  omega
def rn (t : List Int) (e : S46) : S46 := ⟨plc t e.f0 - 1, plc t e.f1 - 1⟩
theorem plc_pos {t : List Int} {v : Int} (h : v ∈ t) : 0 < plc t v := by
  unfold plc
  rw [if_pos h]
  omega
theorem ren_map {t : List Int} : ∀ {l : List S46}, (∀ e ∈ l, e.f0 ∈ t ∧ e.f1 ∈ t) → l.filterMap (ren t) = l.map (rn t)
  | [], _ => rfl
  | e :: l, h => by
    have he := h e List.mem_cons_self
    have : ren t e = some (rn t e) := by
      rw [ren, if_pos ⟨plc_pos he.1, plc_pos he.2⟩]
      rfl
    rw [List.filterMap_cons_some this, List.map_cons, ren_map fun e he => h e (List.mem_cons_of_mem _ he)]
theorem rn_ok {n : Int} {l : List S46} {t : List Int} (h : Ok n l) (ht : t.Pairwise (· < ·)) (hl : t.length ≤ 1048576) (hm : ∀ e ∈ l, e.f0 ∈ t ∧ e.f1 ∈ t) : Ok (t.length : Int) (l.map (rn t)) := by
  refine Ok.of (by omega) (by omega) (by rw [List.length_map]; exact h.2.1) (fun e he => ?_) ?_
  · obtain ⟨c, hc, rfl⟩ := List.mem_map.1 he
    have h0 := h.mem hc
    have hmc := hm c hc
    unfold Ed at h0
    have m := plc_mono ht hmc.1 hmc.2 (by omega)
    have p := plc_pos hmc.1
    have q := plc_le t c.f1
    unfold Ed rn
    simp only
    omega
  · rw [List.pairwise_map]
    refine List.Pairwise.imp_of_mem (fun {a b} ha hb hab => ?_) h.sorted
    have ma := hm a ha
    have mb := hm b hb
    unfold Lt at hab
    unfold Lt rn
    simp only
    rcases hab with c | ⟨c, c2⟩
    · have := plc_mono ht ma.1 mb.1 c
      omega
    · have := plc_mono ht ma.2 mb.2 c2
      rw [c]
      omega
end Go.Proofs.Ytdaeaejmikhmcaa.Pure
