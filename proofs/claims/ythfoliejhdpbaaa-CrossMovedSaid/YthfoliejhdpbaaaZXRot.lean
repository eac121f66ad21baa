-- By hand: the sort of a row said by insertion; a row of rows, one lent to round.
import Derived.Test.YthfoliejhdpbaaaZXRound
import Derived.Test.YthfoliejhdpbaaaZPCroAx23
set_option linter.unusedVariables false
set_option linter.unusedSimpArgs false
namespace Go.Proofs.Ythfoliejhdpbaaa.PCroA
open Go.Shelf Go.RowKit Go.Lib Go.Sort Go.Proofs Go.Proofs.YthfoliejhdpbaaaW.PrintWords Go.Proofs.YthfoliejhdpbaaaW.PrintLast Go.Proofs.YthfoliejhdpbaaaW.PrintMore Go.Proofs.YthfoliejhdpbaaaX
def insS (dirs : List S23) (x : Int) : List Int → List Int
  | [] => [x]
  | y :: l => if angF (Dr dirs y) (Dr dirs x) < 0 then y :: insS dirs x l else x :: y :: l
def roundS (dirs : List S23) (l : List Int) : List Int := l.foldr (insS dirs) []
instance (a : S23) : Decidable (Dir a) := inferInstanceAs (Decidable (a.f0 ≠ 0 ∨ a.f1 ≠ 0))
instance (dirs : List S23) (l : List Int) : Decidable (Apart dirs l) := inferInstanceAs (Decidable (
  (∀ x ∈ l, (0 ≤ x ∧ x < dirs.length) ∧ Dir (Dr dirs x) ∧ (-8388608 ≤ (Dr dirs x).f0 ∧ (Dr dirs x).f0 ≤ 8388608) ∧ (-8388608 ≤ (Dr dirs x).f1 ∧ (Dr dirs x).f1 ≤ 8388608)) ∧
  ∀ x ∈ l, ∀ y ∈ l, ¬ angF (Dr dirs x) (Dr dirs y) < 0 → ¬ angF (Dr dirs y) (Dr dirs x) < 0 → x = y))
def RotOk (r : List (List Int)) (dirs : List S23) : Prop := r.length < 4611686018427387904 ∧ ∀ l ∈ r, Apart dirs l ∧ l.length < 4611686018427387904
instance (r : List (List Int)) (dirs : List S23) : Decidable (RotOk r dirs) := inferInstanceAs (Decidable (r.length < 4611686018427387904 ∧ ∀ l ∈ r, Apart dirs l ∧ l.length < 4611686018427387904))
theorem insS_perm (dirs : List S23) (x : Int) : ∀ l, (insS dirs x l).Perm (x :: l)
  | [] => .refl _
  | y :: l => by
    unfold insS
    split
    · exact ((insS_perm dirs x l).cons y).trans (.swap x y l)
    · exact .refl _
theorem roundS_perm (dirs : List S23) : ∀ l, (roundS dirs l).Perm l
  | [] => .refl _
  | x :: l => (insS_perm dirs x _).trans ((roundS_perm dirs l).cons x)
/-- one behind the other -/
def Asc (dirs : List S23) (l : List Int) : Prop := l.Pairwise fun x y => ¬ angF (Dr dirs y) (Dr dirs x) < 0
theorem insS_asc (dirs : List S23) (x : Int) (hx : Dir (Dr dirs x)) : ∀ l, (∀ y ∈ l, Dir (Dr dirs y)) → Asc dirs l → Asc dirs (insS dirs x l)
  | [], _, _ => List.pairwise_singleton ..
  | y :: l, hd, h => by
    obtain ⟨h1, h2⟩ := List.pairwise_cons.1 h
    have hy := hd y (List.mem_cons_self ..)
    unfold insS
    split
    · rename_i c
      refine List.pairwise_cons.2 ⟨fun z hz => ?_, insS_asc dirs x hx l (fun z hz => hd z (List.mem_cons_of_mem _ hz)) h2⟩
      rcases List.mem_cons.1 ((insS_perm dirs x l).mem_iff.1 hz) with rfl | hz
      · intro c2
        exact ang_irrefl _ (ang_trans hy hx hy c c2)
      · exact h1 z hz
    · rename_i c
      refine List.pairwise_cons.2 ⟨fun z hz => ?_, h⟩
      rcases List.mem_cons.1 hz with rfl | hz
      · exact c
      · exact ang_ntrans (hd z (List.mem_cons_of_mem _ hz)) hy hx (h1 z hz) c
theorem roundS_asc (dirs : List S23) : ∀ l, (∀ y ∈ l, Dir (Dr dirs y)) → Asc dirs (roundS dirs l)
  | [], _ => List.Pairwise.nil
  | x :: l, h => insS_asc dirs x (h x (List.mem_cons_self ..)) _ (fun y hy => h y (List.mem_cons_of_mem _ ((roundS_perm dirs l).mem_iff.1 hy))) (roundS_asc dirs l (fun y hy => h y (List.mem_cons_of_mem _ hy)))
theorem asc_uniq {dirs : List S23} {l a b : List Int} (hA : Apart dirs l) (pa : a.Perm l) (pb : b.Perm l) (ha : Asc dirs a) (hb : Asc dirs b) : a = b := by
  refine List.Perm.eq_of_pairwise (le := fun x y => ¬ angF (Dr dirs y) (Dr dirs x) < 0) (fun x y hx hy h1 h2 => ?_) ha hb (pa.trans pb.symm)
  exact hA.2 x (pa.mem_iff.1 hx) y (pb.mem_iff.1 hy) h2 h1
theorem roundF_eq {dirs : List S23} {l : List Int} (hA : Apart dirs l) : roundF dirs l = roundS dirs l := by
  refine asc_uniq hA (List.mergeSort_perm _ _) (roundS_perm _ _) ?_ (roundS_asc dirs l fun y hy => (hA.1 y hy).2.1)
  have hT : ∃ tr : ∀ a b c : Mb l, (!decide (angF (Dr dirs b.v) (Dr dirs a.v) < 0)) = true → (!decide (angF (Dr dirs c.v) (Dr dirs b.v) < 0)) = true → (!decide (angF (Dr dirs c.v) (Dr dirs a.v) < 0)) = true, True := by
    refine ⟨fun a b c h1 h2 => ?_, trivial⟩
    simp only [Bool.not_eq_true', decide_eq_false_iff_not] at h1 h2 ⊢
    exact ang_ntrans (hA.1 _ c.h).2.1 (hA.1 _ b.h).2.1 (hA.1 _ a.h).2.1 h2 h1
  obtain ⟨tr, _⟩ := hT
  have ttl : ∀ a b : Mb l, ((!decide (angF (Dr dirs b.v) (Dr dirs a.v) < 0)) || (!decide (angF (Dr dirs a.v) (Dr dirs b.v) < 0))) = true := by
    intro a b
    by_cases c : angF (Dr dirs b.v) (Dr dirs a.v) < 0
    · have : ¬ angF (Dr dirs a.v) (Dr dirs b.v) < 0 := fun c2 => ang_irrefl _ (ang_trans (hA.1 _ a.h).2.1 (hA.1 _ b.h).2.1 (hA.1 _ a.h).2.1 c2 c)
      simp [this]
    · simp [c]
  obtain ⟨lb, hlb⟩ : ∃ lb : List (Mb l), lb.map Mb.v = l := ⟨l.attach.map fun x => ⟨x.1, x.2⟩, by rw [List.map_map]; exact List.attach_map_subtype_val l⟩
  have h' := List.map_mergeSort (f := Mb.v) (r := fun x y => !decide (angF (Dr dirs y.v) (Dr dirs x.v) < 0)) (s := fun x y => !decide (angF (Dr dirs y) (Dr dirs x) < 0)) (l := lb) (by intro a _ b _; with_reducible rfl)
  rw [hlb] at h'
  unfold roundF
  rw [← h']
  have hs := List.pairwise_mergeSort (le := fun x y : Mb l => !decide (angF (Dr dirs y.v) (Dr dirs x.v) < 0)) tr ttl lb
  refine List.pairwise_map.2 (hs.imp fun {a b} h => ?_)
  simpa using h
/-- cross.round, said by insertion -/
theorem roundS_c (dirs : List S23) (l : List Int) (hA : Apart dirs l) (A : Option Addr) (cp : Nat) (u : Value) (base : Nat) (P0 : Nat → Prop) (w : World)
    (ho : Kd.R (Kd.int .i64) 3 w base P0 u l) (hC : Kd.C k23 w A dirs.length dirs) (hfar : ∀ a, A = some a → some a.block ≠ u.ownBlock) (hl : l.length < 4611686018427387904) :
    Calls Try.prog 49 #[u, .slice A dirs.length cp, .func (.func 50) #[] #[]] w fun e w' => e = .returned (.tuple #[]) ∧ Kd.R (Kd.int .i64) 3 w' base P0 u (roundS dirs l) ∧ w.grownBy w' u.ownBlock := by
  rw [← roundF_eq hA]
  exact round_c dirs l hA A cp u base P0 w ho hC hfar hl
/-- Element i of a row of rows, lent to one event on its own row. -/
theorem S_row {w : World} {base g n cap : Nat} {ok : Nat → Prop} {xs : List (List Int)} (h : Kd.S (Kd.slice 3 (Kd.int .i64)) 49 w base ok (.slice (some ⟨g, 0, none⟩) n cap) xs) (i : Nat) (hi : i < n) :
    ∃ (u : Value) (P0 : Nat → Prop), w.cell? ⟨g, i, none⟩ = some u ∧ Kd.R (Kd.int .i64) 3 w base P0 u (xs.getD i []) ∧
      ∀ {w1 : World} {x' : List Int}, w.grownBy w1 u.ownBlock → Kd.R (Kd.int .i64) 3 w1 base P0 u x' → Kd.S (Kd.slice 3 (Kd.int .i64)) 49 w1 base ok (.slice (some ⟨g, 0, none⟩) n cap) (xs.set i x') := by
  obtain ⟨oki, c, hcl, ⟨u, hc, hR⟩, hcc, hoki, hback⟩ := Kd.S_borrow h [] (i : Int) (by omega) (by omega)
  subst hc
  refine ⟨u, oki, ?_, by simpa using hR, fun hg hR1 => ?_⟩
  · have := hcc 0 u rfl
    rw [add_at, Nat.zero_add] at this
    simpa [Kd.slice] using this
  · have := hback hg (fun k hk => hR1.1 k hk) (Kd.M_row hR1)
    simpa using this
theorem cg_ {W w1 : World} {row : Option Nat} (hg : W.grownBy w1 row) {a : Addr} {v : Value} (h : W.cell? a = some v) (hne : some a.block ≠ row) : w1.cell? a = some v := by
  have hi := World.block_lt_of_cell? W _ h
  rw [← h]
  unfold World.cell?
  rw [hg.block a.block hi hne]
/-- the row of rows after i rounds -/
def rotA (x7 : List (List Int)) (x8 : List S23) (i : Int) : List (List Int) := (x7.take i.toNat).map (roundS x8) ++ x7.drop i.toNat
theorem rotA_0 (x7 : List (List Int)) (x8 : List S23) : rotA x7 x8 0 = x7 := by simp [rotA]
theorem rotA_len (x7 : List (List Int)) (x8 : List S23) (i : Int) : (rotA x7 x8 i).length = x7.length := by simp [rotA]; omega
theorem rotA_end (x7 : List (List Int)) (x8 : List S23) (i : Int) (h : (x7.length : Int) ≤ i) : rotA x7 x8 i = x7.map (roundS x8) := by
  have : x7.length ≤ i.toNat := by omega
  simp [rotA, List.take_of_length_le this, List.drop_eq_nil_of_le this]
theorem rotA_getD (x7 : List (List Int)) (x8 : List S23) (i : Int) (h0 : 0 ≤ i) (h : i < x7.length) (hb : x7.length < 4611686018427387904) : ∃ l, l ∈ x7 ∧ (rotA x7 x8 i).getD i.toNat [] = l ∧ (rotA x7 x8 i).set i.toNat (roundS x8 l) = rotA x7 x8 (wrap64 (i + 1)) := by
  rw [w64 (by omega) (by omega)]
  have hk : i.toNat < x7.length := by omega
  have hlt : ((x7.take i.toNat).map (roundS x8)).length = i.toNat := by simp; omega
  refine ⟨x7[i.toNat], List.getElem_mem hk, ?_, ?_⟩
  · rw [List.getD_eq_getElem?_getD, rotA, List.getElem?_append_right (by omega), hlt]
    simp [hk]
  · unfold rotA
    rw [show (i + 1).toNat = i.toNat + 1 by omega, List.take_add_one, List.getElem?_eq_getElem hk, List.set_append_right _ _ (by omega), hlt, Nat.sub_self, List.drop_eq_getElem_cons hk]
    simp only [List.set_cons_zero, List.map_append, List.append_assoc, Option.toList_some, List.map_cons, List.map_nil, List.cons_append, List.nil_append]
/-- where row i's own row lies -/
theorem rot_cell {w : World} {base cap : Nat} {A : Option Addr} {ok : Nat → Prop} {x7 : List (List Int)} {x8 : List S23} {i : Int} (h0 : 0 ≤ i) (hi : i < x7.length)
    (h : Kd.S (Kd.slice 3 (Kd.int .i64)) 49 w base ok (.slice A x7.length cap) (rotA x7 x8 i)) : ∃ g u, A = some ⟨g, 0, none⟩ ∧ w.cell? ⟨g, i.toNat, none⟩ = some u := by
  obtain ⟨g, cap', e, _⟩ := Kd.S_form h (by rw [rotA_len]; omega)
  injection e with e1 e2 e3
  subst e1
  obtain ⟨u, _, hc, _⟩ := S_row h i.toNat (by omega)
  exact ⟨g, u, rfl, hc⟩
/-- one round of the second loop -/
theorem rot_round {w0 w : World} {base cap cp g gb t : Nat} {A : Option Addr} {cells : Array Value} {u : Value} {ok ok8 : Nat → Prop} {x7 : List (List Int)} {x8 : List S23} {i : Int} (hA : RotOk x7 x8) (h0 : 0 ≤ i) (hi : i < x7.length)
    (h : Kd.S (Kd.slice 3 (Kd.int .i64)) 49 w base ok (.slice (some ⟨g, 0, none⟩) x7.length cap) (rotA x7 x8 i)) (h8 : Kd.R k23 23 w base ok8 (.slice A x8.length cp) x8)
    (hb : w.heap[gb]? = some (.cells cells t (0, 0))) (ht : t ≠ 3) (hB : Below w0.heap.size w0 w) (hbase : w0.heap.size ≤ base) (hu : w.cell? ⟨g, i.toNat, none⟩ = some u) :
    Calls Try.prog 49 #[u, .slice A x8.length cp, .func (.func 50) #[] #[]] w fun e w' => e = .returned (.tuple #[]) ∧ Kd.S (Kd.slice 3 (Kd.int .i64)) 49 w' base ok (.slice (some ⟨g, 0, none⟩) x7.length cap) (rotA x7 x8 (wrap64 (i + 1))) ∧
      Kd.R k23 23 w' base ok8 (.slice A x8.length cp) x8 ∧ w'.heap[gb]? = some (.cells cells t (0, 0)) ∧ Below w0.heap.size w0 w' := by
  obtain ⟨l, hl, e1, e2⟩ := rotA_getD x7 x8 i h0 hi hA.1
  obtain ⟨u', P0, hc, hR, hback⟩ := S_row h i.toNat (by omega)
  obtain rfl : u = u' := by rw [hu] at hc; injection hc
  rw [e1] at hR
  have hC := (Kd.R_reads' h8).2.2
  refine (roundS_c x8 l (hA.2 l hl).1 A cp u base P0 w hR hC (fun a ha e => ?_) (hA.2 l hl).2).mono ?_
  · subst ha
    obtain ⟨cs, hcs⟩ := Kd.R_typed h8 a.block rfl
    obtain ⟨cs', hcs'⟩ := Kd.R_typed hR a.block e.symm
    rw [hcs] at hcs'
    injection hcs' with h'
    injection h' with _ h'
    cases h'
  · rintro e w' ⟨rfl, hR', hg⟩
    refine ⟨rfl, ?_, Kd.R_over' h8 (Kd.R_typed hR) (by decide) hg, blk_grown hb hg (Kd.R_ne hR hb (by omega)), pw_below_grown hB _ hB.size hg ?_⟩
    · rw [← e2]
      exact hback hg hR'
    · intro k hk
      exact Nat.le_trans hbase (Kd.R_base hR k hk)
theorem canon_c (k : Nat) (A0 : Option Addr) (n c0 : Nat) (l0 : List (List Int)) (hn : n = l0.length) (r : List (List Int)) (w : World) (hr0 : Kd.C (Kd.slice 3 (Kd.int .i64)) w A0 l0.length l0) (hc0 : l0.length ≤ c0) (h : rot_Canon.f k l0 = some r) :
  Calls Try.prog 51 #[.slice A0 n c0] w fun e w' => ∃ v0_ : Value, e = .returned (v0_) ∧ Kd.S (Kd.slice 3 (Kd.int .i64)) 49 w' w.heap.size (fun _ => True) v0_ r ∧ Below w.heap.size w w' := by
  subst hn
  exact rot_Canon.calls k A0 c0 l0 r w hr0 hc0 h
end Go.Proofs.Ythfoliejhdpbaaa.PCroA
