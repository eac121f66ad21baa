-- PRINTED by print.py (a twelfth state) out of the translation. Not trusted: Lean checks it.
import Derived.Test.YtdaeaejmikhmcaaZPEditCx0
namespace Go.Proofs.Ytdaeaejmikhmcaa.PEditC
open Go.RowKit Go.Proofs.YtdaeaejmikhmcaaW.PrintWords Go.Proofs.YtdaeaejmikhmcaaW.PrintLast Go.Proofs.YtdaeaejmikhmcaaW.PrintMore
open Go.Proofs.YtdaeaejmikhmcaaX
attribute [local go_sem] max2_int min2_int max_two min_two max_three min_three max_four min_four   -- for this text's walks alone
set_option linter.unusedVariables false
set_option linter.unusedSimpArgs false

/-! ### api_Edge_51: slices.SortFunc over edges, by the shelf's contract -/
def api_Edge_51.enc (x : S46) : List Value := [.int .i64 x.f0, .int .i64 x.f1]
def api_Edge_51.cf (x y : S46) : Int := if Lib.compareInt x.f0 y.f0 ≠ 0 then Lib.compareInt x.f0 y.f0 else Lib.compareInt x.f1 y.f1
instance : Inhabited S46 := ⟨z46⟩
def api_Edge_51.ins (x : S46) : List S46 → List S46
 | [] => [x]
 | y :: ys => if x.f0 < y.f0 ∨ x.f0 = y.f0 ∧ x.f1 ≤ y.f1 then x :: y :: ys else y :: api_Edge_51.ins x ys
def api_Edge_51.srt (l : List S46) : List S46 := l.foldr api_Edge_51.ins []
def api_Edge_51.Le (x y : S46) : Prop := x.f0 < y.f0 ∨ x.f0 = y.f0 ∧ x.f1 ≤ y.f1
theorem api_Edge_51.ins_perm (x : S46) : ∀ l : List S46, (api_Edge_51.ins x l).Perm (x :: l)
 | [] => List.Perm.refl _
 | y :: ys => by
  unfold api_Edge_51.ins
  split
  ·exact List.Perm.refl _
  ·exact ((api_Edge_51.ins_perm x ys).cons y).trans (List.Perm.swap x y ys)
theorem api_Edge_51.srt_perm : ∀ l : List S46, (api_Edge_51.srt l).Perm l
 | [] => List.Perm.refl _
 | x :: xs => (api_Edge_51.ins_perm x (api_Edge_51.srt xs)).trans ((api_Edge_51.srt_perm xs).cons x)
theorem api_Edge_51.ins_sorted (x : S46) : ∀ l : List S46, l.Pairwise api_Edge_51.Le → (api_Edge_51.ins x l).Pairwise api_Edge_51.Le
 | [], _ => by simp [api_Edge_51.ins]
 | y :: ys, h => by
  obtain ⟨h1, h2⟩ := List.pairwise_cons.1 h
  unfold api_Edge_51.ins
  split
  ·rename_i c
   refine List.pairwise_cons.2 ⟨fun z hz => ?_, h⟩
   rcases List.mem_cons.1 hz with rfl | hz
   ·exact c
   ·have := h1 z hz
    unfold api_Edge_51.Le at this ⊢
    omega
  ·rename_i c
   refine List.pairwise_cons.2 ⟨fun z hz => ?_, api_Edge_51.ins_sorted x ys h2⟩
   rcases List.mem_cons.1 ((api_Edge_51.ins_perm x ys).mem_iff.1 hz) with rfl | hz
   ·unfold api_Edge_51.Le
    omega
   ·exact h1 z hz
theorem api_Edge_51.srt_sorted : ∀ l : List S46, (api_Edge_51.srt l).Pairwise api_Edge_51.Le
 | [] => List.Pairwise.nil
 | x :: xs => api_Edge_51.ins_sorted x _ (api_Edge_51.srt_sorted xs)
theorem api_Edge_51.lt_iff (x y : S46) : ltOf api_Edge_51.cf x y = true ↔ x.f0 < y.f0 ∨ x.f0 = y.f0 ∧ x.f1 < y.f1 := by
 unfold ltOf api_Edge_51.cf Lib.compareInt
 simp only [decide_eq_true_eq]
 repeat' split
 all_goals omega
theorem api_Edge_51.swo : Sort.SWO (ltOf api_Edge_51.cf) where
 irrefl x := by
  cases h : ltOf api_Edge_51.cf x x
  ·rfl
  ·rw [api_Edge_51.lt_iff] at h; omega
 trans x y z h1 h2 := by rw [api_Edge_51.lt_iff] at h1 h2 ⊢; omega
 ntrans x y z h1 h2 := by
  cases h : ltOf api_Edge_51.cf x z
  ·rfl
  ·have h1' : ¬ ltOf api_Edge_51.cf x y = true := by rw [h1]; exact Bool.false_ne_true
   have h2' : ¬ ltOf api_Edge_51.cf y z = true := by rw [h2]; exact Bool.false_ne_true
   rw [api_Edge_51.lt_iff] at h h1' h2'; omega
theorem api_Edge_51.total (x y : S46) (h1 : ltOf api_Edge_51.cf x y = false) (h2 : ltOf api_Edge_51.cf y x = false) : x = y := by
 have h1' : ¬ ltOf api_Edge_51.cf x y = true := by rw [h1]; exact Bool.false_ne_true
 have h2' : ¬ ltOf api_Edge_51.cf y x = true := by rw [h2]; exact Bool.false_ne_true
 rw [api_Edge_51.lt_iff] at h1' h2'
 cases x; cases y
 simp only [S46.mk.injEq]; simp only at h1' h2'
 omega
theorem api_Edge_51.merge (l : List S46) : (l.mergeSort fun x y => !(ltOf api_Edge_51.cf) y x) = api_Edge_51.srt l := by
 have hle : ∀ x y : S46, (!(ltOf api_Edge_51.cf) y x) = true ↔ api_Edge_51.Le x y := fun x y => by
  rw [Bool.not_eq_true', ← Bool.not_eq_true, api_Edge_51.lt_iff]
  unfold api_Edge_51.Le
  omega
 have hs : (l.mergeSort fun x y => !(ltOf api_Edge_51.cf) y x).Pairwise api_Edge_51.Le := by
  refine (List.pairwise_mergeSort (le := fun x y => !(ltOf api_Edge_51.cf) y x) (fun a b c h1 h2 => ?_) (fun a b => ?_) l).imp (fun h => (hle _ _).1 h)
  ·rw [hle] at h1 h2 ⊢
   unfold api_Edge_51.Le at *
   omega
  ·rw [Bool.or_eq_true, hle, hle]
   unfold api_Edge_51.Le
   omega
 refine List.Perm.eq_of_pairwise (le := api_Edge_51.Le) (fun a b _ _ h1 h2 => ?_) hs (api_Edge_51.srt_sorted l) ((List.mergeSort_perm l _).trans (api_Edge_51.srt_perm l).symm)
 unfold api_Edge_51.Le at h1 h2
 cases a; cases b
 simp only [S46.mk.injEq]; simp only at h1 h2
 omega
theorem api_Edge_51.agg (w : World) : (isAgg 46).run Try.prog w = .ok true w := Try.isAgg46 w
def api_Edge_51.f (l0 : List (S46)) (a1 : Int) : Option ((List (S46))) := if l0.length < 4611686018427387904 then (some (api_Edge_51.srt l0)) else (none)
set_option maxHeartbeats 8000000 in
set_option maxRecDepth 100000 in
theorem api_Edge_51.calls (P0_ : Nat → Prop) (u9000_ : Value) (l0 : List (S46)) (a1 : Int) (r : List (S46)) (w0 w : World) (hB : Below w0.heap.size w0 w) (ho0 : Kd.R k46 46 w w0.heap.size P0_ u9000_ l0) (h : api_Edge_51.f l0 a1 = some r) :
  Calls Try.prog 51 #[u9000_, .func (Fn.func 52) #[] #[]] w fun e w' => e = .returned (.tuple #[]) ∧ Kd.R k46 46 w' w0.heap.size (fun k_ => (P0_ k_ ∨ w.heap.size ≤ k_)) u9000_ r ∧ Below w0.heap.size w0 w' ∧ Kept w w' (fun k_ => P0_ k_) := by
 have h_ := h
 unfold api_Edge_51.f at h_
 by_cases c : l0.length < 4611686018427387904
 ·rw [if_pos c] at h_; have eg : ∀ args w, (callFunc 52 args).run Try.prog w = .ok (.enter 52 args) w := enters_of Try.func52 (by kernel_rfl) rfl; refine sort_given 46 api_Edge_51.enc 2 (by decide) rfl (fun _ => rfl) (fun _ _ _ _ _ hM => k46_openM hM) (fun _ _ _ _ => k46_mkM _ _ _ _) api_Edge_51.srt (fun l => (api_Edge_51.srt_perm l).length_eq) (.func (Fn.func 52) #[] #[]) ?_ ?_ P0_ u9000_ l0 r w0 w hB ho0 c (Option.some.inj h_)
  ·intro p cap w; exact AnyF.slices_SortFunc_none Try.sortE p cap _ w
  ·intro blk off cap l w hH hblk hl; have hc : CmpLays Try.prog 52 #[] api_Edge_51.enc 2 api_Edge_51.cf blk off l.toArray.size w := fun m os dk hdk x y => closure52 (x.f0, x.f1) (y.f0, y.f1) _
   have := AnyQ.slices_SortFunc_total Try.sortE 2 Try.isAgg46 Try.sizeOf46 api_Edge_51.enc (fun _ => rfl) (fun x v hv => by simp [api_Edge_51.enc] at hv; rcases hv with rfl | rfl <;> rfl) api_Edge_51.cf api_Edge_51.swo 52 #[] blk off cap l.toArray w eg hc hH hblk (by simpa using hl) api_Edge_51.total; rw [show l.toArray.toList = l from rfl, api_Edge_51.merge] at this; exact this
 ·rw [if_neg c] at h_
  cases h_

end Go.Proofs.Ytdaeaejmikhmcaa.PEditC
