-- layer 2 within layer 3, pure: what parse.Raw's answer keeps ('rawF').
import Derived.Test.YthejafdcdcchbaaDoorZXRaw
set_option linter.unusedVariables false
set_option linter.unusedSimpArgs false
namespace Go.Proofs.YthejafdcdcchbaaDoor.PSimA
open Go.RowKit Go.Proofs.YthejafdcdcchbaaDoorW.PrintWords Go.Proofs.YthejafdcdcchbaaDoorW.PrintLast Go.Proofs.YthejafdcdcchbaaDoorW.PrintMore Go.Proofs.YthejafdcdcchbaaDoorX
def Nng (ts : List S95) : Prop := ∀ t ∈ ts, 0 ≤ t.f3
theorem scn_nng (l : List Int) : ∀ d i ts, l.length - i ≤ d → i ≤ l.length → scn l i = .ok ts → Nng ts := by
  intro d
  induction d with
  | zero =>
    intro i ts hd hi h
    obtain rfl : i = l.length := by omega
    rw [scn_end] at h
    cases h
    intro t ht
    cases ht with
    | head => exact Int.le_refl 0
    | tail _ h => cases h
  | succ d ih =>
    intro i ts hd hi h
    by_cases c : i < l.length
    · by_cases c1 : digB l (i : Int) = true
      · rw [scn_dig c1] at h
        have p := nd_pos c1
        have q := nd_le (l := l) (i := i) hi
        split at h
        · cases h
        · cases e : scn l (i + nd l i) with
          | error x => rw [e] at h; cases h
          | ok us =>
            rw [e] at h
            cases h
            intro t ht
            cases ht with
            | head => exact (val_bound l i (nd l i) (fun k hk => nd_all hk)).1
            | tail _ h => exact ih _ us (by omega) (by omega) e t h
      · by_cases c2 : rd l (i : Int) = 10
        · rw [scn_line c c2] at h
          cases e : scn l (i + 1) with
          | error x => rw [e] at h; cases h
          | ok us =>
            rw [e] at h
            cases h
            intro t ht
            cases ht with
            | head => exact Int.le_refl 0
            | tail _ h => exact ih _ us (by omega) (by omega) e t h
        · by_cases c3 : blk (rd l (i : Int)) = true
          · rw [scn_blank c c3] at h
            exact ih _ ts (by omega) (by omega) h
          · rw [scn_err c c1 c2 c3] at h
            cases h
    · exact ih i ts (by omega) hi h
theorem rd_nng {ls : List S95} (h : Nng ls) (i : Int) : 0 ≤ (rd_T95 ls i).f3 := by
  unfold rd_T95
  rw [List.getD_eq_getElem?_getD]
  cases e : ls[i.toNat]? with
  | none => exact Int.le_refl 0
  | some t => exact h t (List.mem_of_getElem? e)
/-- what the reader keeps -/
def Rk (N : Int) (hd : Bool) (m : Int) (ps : List S53) : Prop :=
  (hd = false → ps = []) ∧ (hd = true → (0 ≤ N ∧ N ≤ 1048576) ∧ (m ≤ 2097152) ∧ ((ps.length : Int) ≤ m ∨ ps = []) ∧ ∀ p ∈ ps, (0 ≤ p.f0 ∧ p.f0 < N) ∧ (0 ≤ p.f1 ∧ p.f1 < N))
theorem Rk.line {N : Int} {hd : Bool} {m : Int} {ps : List S53} (h : Rk N hd m ps) (ls : List S95) (hn : Nng ls) : Rk (lineF N hd m ps ls).N (lineF N hd m ps ls).hd (lineF N hd m ps ls).m (lineF N hd m ps ls).ps := by
  have n0 := rd_nng hn 0
  have n1 := rd_nng hn 1
  unfold lineF
  split
  · rename_i e
    split
    · exact h
    · split
      · exact h
      · split
        · exact h
        · refine ⟨fun e => (by cases e), fun _ => ⟨⟨n0, by dsimp only; omega⟩, by dsimp only; omega, Or.inr (h.1 e), ?_⟩⟩
          dsimp only
          rw [h.1 e]
          intro p hp
          cases hp
  · rename_i e
    have e' : hd = true := by cases hd <;> simp at e ⊢
    split
    · exact h
    · split
      · exact h
      · split
        · exact h
        · split
          · exact h
          · refine ⟨fun c => (by rw [e'] at c; cases c), fun c => ?_⟩
            obtain ⟨a, b, d, f⟩ := h.2 c
            refine ⟨a, b, Or.inl ?_, ?_⟩
            · dsimp only
              rw [List.length_append, List.length_singleton]
              omega
            · dsimp only
              intro p hp
              rcases List.mem_append.1 hp with hp | hp
              · exact f p hp
              · obtain rfl := List.mem_singleton.1 hp
                exact ⟨⟨n0, by dsimp only; omega⟩, ⟨n1, by dsimp only; omega⟩⟩
/-- what an answer keeps -/
def RawOk (r : RawR) : Prop := (r.2.2.1 = 0 → r.2.2.2 = 0 ∧ (0 ≤ r.1 ∧ r.1 ≤ 1048576) ∧ r.2.1.length ≤ 2097152 ∧ ∀ p ∈ r.2.1, (0 ≤ p.f0 ∧ p.f0 < r.1) ∧ (0 ≤ p.f1 ∧ p.f1 < r.1))
theorem RawOk.err {N a c : Int} {ps : List S53} (h : c ≠ 0) : RawOk (N, ps, c, a) := fun e => absurd e h
theorem fin_ok {n N : Int} {hd : Bool} {m : Int} {ps : List S53} (h : Rk N hd m ps) : RawOk (finF n N hd m ps) := by
  unfold finF
  split
  · exact RawOk.err (by decide)
  · rename_i e
    split
    · exact RawOk.err (by decide)
    · intro _
      have e' : hd = true := by cases hd <;> simp at e ⊢
      obtain ⟨a, b, d, f⟩ := h.2 e'
      refine ⟨rfl, a, ?_, f⟩
      rcases d with d | d
      · dsimp only
        omega
      · dsimp only
        rw [d]
        exact Nat.zero_le _
theorem rawT_ok (n : Int) : ∀ (ts ls : List S95) (N : Int) (hd : Bool) (m : Int) (ps : List S53), Nng ts → Nng ls → Rk N hd m ps → RawOk (rawT n ts ls N hd m ps) := by
  intro ts
  induction ts with
  | nil => intro ls N hd m ps _ _ h; exact fin_ok h
  | cons t ts ih =>
    intro ls N hd m ps ht hl h
    have ht' : Nng ts := fun x hx => ht x (List.mem_cons_of_mem _ hx)
    unfold rawT
    split
    · refine ih _ _ _ _ _ ht' ?_ h
      intro x hx
      rcases List.mem_append.1 hx with hx | hx
      · exact hl x hx
      · obtain rfl := List.mem_singleton.1 hx
        exact ht _ (List.mem_cons_self ..)
    · split
      · split
        · rename_i e
          exact RawOk.err e
        · split
          · exact fin_ok (h.line ls hl)
          · exact ih _ _ _ _ _ ht' (fun x hx => by cases hx) (h.line ls hl)
      · split
        · exact fin_ok h
        · exact ih _ _ _ _ _ ht' hl h
theorem rawF_ok (l : List Int) : RawOk (rawF l) := by
  unfold rawF
  split
  · exact RawOk.err (by decide)
  · rename_i h
    have hs := scanF_eq l (by omega)
    cases hR : scanF l with
    | error ab => exact RawOk.err (scn_code l _ 0 (Nat.le_refl _) (by omega) _ (hs.symm.trans hR))
    | ok ts => exact rawT_ok _ ts [] 0 false 0 [] (scn_nng l _ 0 ts (Nat.le_refl _) (by omega) (hs.symm.trans hR)) (fun x hx => by cases hx) ⟨fun _ => rfl, fun e => by cases e⟩
theorem finF_code {n N : Int} {hd : Bool} {m : Int} {ps : List S53} : (finF n N hd m ps).2.2.1 ≠ 0 → (finF n N hd m ps).1 = 0 ∧ (finF n N hd m ps).2.1 = [] := by
  unfold finF
  split
  · intro _; exact ⟨rfl, rfl⟩
  · split
    · intro _; exact ⟨rfl, rfl⟩
    · intro h; exact absurd rfl h
end Go.Proofs.YthejafdcdcchbaaDoor.PSimA
