-- Plain lemmas of this session's own: rounds ('Ev'), reads of lists, words of 64 bits.
import Derived.Test.YthfoliejhdpbaaaV
set_option linter.unusedVariables false
set_option linter.unusedSimpArgs false
namespace Go.Proofs.YthfoliejhdpbaaaX
open Go.RowKit Go.Proofs.YthfoliejhdpbaaaW.PrintWords

theorem Ev.pos {α : Type} {c : Prop} [Decidable c] {f g : Nat → Option α} {r : α} (h : c) (k : Ev f r) : Ev (fun n => if c then f n else g n) r := by
  simpa only [if_pos h] using k
theorem Ev.neg {α : Type} {c : Prop} [Decidable c] {f g : Nat → Option α} {r : α} (h : ¬ c) (k : Ev g r) : Ev (fun n => if c then f n else g n) r := by
  simpa only [if_neg h] using k
theorem Ev.tt {α : Type} {f g : Nat → Option α} {r : α} (k : Ev f r) : Ev (fun n => if true = true then f n else g n) r := Ev.pos rfl k
theorem Ev.ff {α : Type} {f g : Nat → Option α} {r : α} (k : Ev g r) : Ev (fun n => if false = true then f n else g n) r := Ev.neg (by decide) k
theorem Ev.ite {α : Type} {c : Prop} [Decidable c] {f g : Nat → Option α} {r : α} (h : c → Ev f r) (k : ¬ c → Ev g r) : Ev (fun n => if c then f n else g n) r := by
  by_cases hc : c
  · exact Ev.pos hc (h hc)
  · exact Ev.neg hc (k hc)
theorem Ev.succ {α : Type} {g : Nat → Option α} {r : α} (k : Ev (fun n => g (n + 1)) r) : Ev g r := Ev.step (fun _ => rfl) k
theorem Ev.andThen {α β : Type} {g : Nat → Option α} {f : Nat → α → Option β} {a : α} {r : β} (h : Ev g a) (k : Ev (fun n => f n a) r) : Ev (fun n => (g n).bind (f n)) r := Ev.bind h k
theorem Ev.andThen' {α β : Type} {o : Option α} {f : Nat → α → Option β} {a : α} {r : β} (h : o = some a) (k : Ev (fun n => f n a) r) : Ev (fun n => o.bind (f n)) r := by
  subst h
  simpa only [Option.bind_some] using k
theorem Ev.val {α : Type} {a r : α} (h : a = r) : Ev (fun _ => some a) r := by
  subst h
  exact Ev.now _
theorem Ev.out {α : Type} {g : Nat → Option α} {r : α} (h : Ev g r) : ∃ k, g k = some r := h.rounds

theorem w64 {x : Int} (h0 : -9223372036854775808 ≤ x) (h1 : x ≤ 9223372036854775807) : wrap64 x = x := by unfold wrap64; omega

theorem rd_nat (l : List Int) (i : Nat) (h : i < l.length) : rd l (i : Int) = l[i] := by
  simp [rd, List.getD_eq_getElem?_getD, h]
theorem rd_getD (l : List Int) (i : Nat) : rd l (i : Int) = l.getD i 0 := by simp [rd]
theorem rd_mem (l : List Int) (i : Int) (h0 : 0 ≤ i) (h : i < l.length) : rd l i ∈ l := by
  obtain ⟨n, rfl⟩ := Int.eq_ofNat_of_zero_le h0
  rw [rd_nat l n (by omega)]
  exact List.getElem_mem _
theorem rd_set (l : List Int) (i j : Nat) (v : Int) (h : i < l.length) : rd (l.set i v) (j : Int) = if i = j then v else rd l (j : Int) := by
  simp only [rd, Int.toNat_natCast, List.getD_eq_getElem?_getD, List.getElem?_set]
  by_cases e : i = j
  · subst e; simp [h]
  · simp [e]
theorem rd_replicate (n : Nat) (j : Nat) : rd (List.replicate n 0) (j : Int) = 0 := by
  simp only [rd, Int.toNat_natCast, List.getD_eq_getElem?_getD, List.getElem?_replicate]
  split <;> rfl
theorem rd_append (l m : List Int) (j : Nat) (h : j < l.length) : rd (l ++ m) (j : Int) = rd l (j : Int) := by
  simp [rd, List.getD_eq_getElem?_getD, List.getElem?_append, h]
theorem mx_eq (a b : Int) : mx a b = max a b := by
  unfold mx
  omega
end Go.Proofs.YthfoliejhdpbaaaX
