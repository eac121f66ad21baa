-- layer 3 (simple), pure: the document's Text.
import Derived.Test.YthejafdcdcchbaaDoorZXSimF
import Derived.Test.YthejafdcdcchbaaDoorZXSimT
import Derived.Test.YthejafdcdcchbaaDoorZPSimAx35
set_option linter.unusedVariables false
set_option linter.unusedSimpArgs false
namespace Go.Proofs.YthejafdcdcchbaaDoor.Pure
open Go.RowKit Go.Proofs Go.Proofs.YthejafdcdcchbaaDoor.PSimA Go.Proofs.YthejafdcdcchbaaDoorW.PrintWords Go.Proofs.YthejafdcdcchbaaDoorW.PrintLast Go.Proofs.YthejafdcdcchbaaDoorX
def bt (l : List UInt8) : ByteArray := ⟨l.toArray⟩
theorem bt_app (a b : List UInt8) : bt a ++ bt b = bt (a ++ b) := by
  apply ByteArray.ext
  simp [bt]
theorem bt_size (a : List UInt8) : (bt a).size = a.length := by
  show a.toArray.size = _
  simp
theorem itoa_f (n : Int) (h0 : -9223372036854775808 ≤ n) (h1 : n ≤ 9223372036854775807) : strconv_Itoa.f n = some (bt (Lib.itoa n)) := by
  unfold strconv_Itoa.f
  rw [if_pos ⟨h0, h1⟩]
  rfl
theorem line_bt (a b : Int) : (((bt (Lib.itoa a) ++ (⟨#[32]⟩ : ByteArray)) ++ bt (Lib.itoa b)) ++ (⟨#[10]⟩ : ByteArray)) = bt (lineL a b) := by
  rw [show (⟨#[32]⟩ : ByteArray) = bt [32] from rfl, show (⟨#[10]⟩ : ByteArray) = bt [10] from rfl, bt_app, bt_app, bt_app]
  rfl
theorem line_bt' (x : List UInt8) (a b : Int) : ((((bt x ++ bt (Lib.itoa a)) ++ (⟨#[32]⟩ : ByteArray)) ++ bt (Lib.itoa b)) ++ (⟨#[10]⟩ : ByteArray)) = bt (x ++ lineL a b) := by
  rw [show (⟨#[32]⟩ : ByteArray) = bt [32] from rfl, show (⟨#[10]⟩ : ByteArray) = bt [10] from rfl, bt_app, bt_app, bt_app, bt_app]
  simp [lineL]
theorem G_eta (l : List S42) (i : Nat) : linesL [G l i] = lineL (G l i).f0 (G l i).f1 := by simp [linesL]
theorem text_l0 (n : Int) (l : List S42) (h : Ok n l) (hl : l.length ≤ 2097152) (hd : List UInt8) (hhd : hd.length ≤ 44) : ∀ (d i : Nat), i + d = l.length →
    Ev (fun k => tangramref03_Text.l0 k (bt (hd ++ linesL (l.take i))) (i : Int) n l) (if 16777216 < (hd ++ linesL l).length then ((⟨#[]⟩ : ByteArray), 141) else (bt (hd ++ linesL l), 0)) := by
  intro d
  induction d with
  | zero =>
    intro i hi
    refine Ev.succ ?_
    simp only [tangramref03_Text.l0]
    rw [List.take_of_length_le (by omega), bt_size]
    refine Ev.neg (by omega) (Ev.ite (fun c => Ev.val ?_) (fun c => Ev.val ?_))
    · rw [if_pos (by omega)]
    · rw [if_neg (by omega)]
  | succ d ih =>
    intro i hi
    have hi' : i < l.length := by omega
    have hr := ok_range h (G l i) (by rw [G_get l i hi']; exact List.getElem_mem hi')
    have hll := linesL_len (l.take i) fun x hx => by
      have := ok_range h x (List.mem_of_mem_take hx)
      omega
    have h1 := Lib.itoa_length_le (G l i).f0 (by omega) (by omega)
    have h2 := Lib.itoa_length_le (G l i).f1 (by omega) (by omega)
    rw [List.length_take] at hll
    have hs : (hd ++ linesL (l.take i)).length ≤ 44 + 44 * 2097152 := by rw [List.length_append]; omega
    have r := ih (i + 1) (by omega)
    rw [take_G l i hi', linesL_snoc, ← List.append_assoc] at r
    refine Ev.succ ?_
    simp only [tangramref03_Text.l0, rdG]
    rw [wi i l (by omega) hi']
    refine Ev.pos (by omega) (Ev.pos (by omega) (Ev.andThen' (itoa_f _ (by omega) (by omega)) ?_))
    refine Ev.pos (by rw [bt_size, bt_size]; omega) (Ev.pos (by rw [bt_app, bt_size, List.length_append]; omega) (Ev.andThen' (itoa_f _ (by omega) (by omega)) ?_))
    refine Ev.pos (by rw [show (⟨#[32]⟩ : ByteArray) = bt [32] from rfl, bt_app, bt_app, bt_size, bt_size, List.length_append, List.length_append]; simp only [List.length_cons, List.length_nil]; omega) ?_
    refine Ev.pos (by rw [show (⟨#[32]⟩ : ByteArray) = bt [32] from rfl, bt_app, bt_app, bt_app, bt_size, List.length_append, List.length_append, List.length_append]; simp only [List.length_cons, List.length_nil]; omega) ?_
    rw [line_bt']
    exact r
theorem text3_ev (n : Int) (l : List S42) : Ev (fun k => tangramref03_Text.f k n l) (textF (decide (Ok n l)) n l) := by
  unfold tangramref03_Text.f
  refine Ev.andThen (valid3_ev n l) ?_
  by_cases h : Ok n l
  · rw [decide_eq_true h]
    have hn := h.1
    have hl := h.2.1
    refine Ev.pos (by simp) (Ev.ite (fun c => Ev.val ?_) (fun c => ?_))
    · rw [textF, if_pos rfl, if_pos (by omega)]
    · have h1 := Lib.itoa_length_le n (by omega) (by omega)
      have h2 := Lib.itoa_length_le (l.length : Int) (by omega) (by omega)
      have r := text_l0 n l h (by omega) (lineL n (l.length : Int)) (lineL_len n (l.length : Int) (by omega) (by omega) (by omega) (by omega)) l.length 0 (by omega)
      rw [List.take_zero, linesL, List.flatMap_nil, List.append_nil] at r
      have e : textF true n l = if 16777216 < (lineL n (l.length : Int) ++ linesL l).length then ((⟨#[]⟩ : ByteArray), 141) else (bt (lineL n (l.length : Int) ++ linesL l), 0) := by
        rw [textF, if_pos rfl, if_neg (by omega)]
        rfl
      rw [e]
      refine Ev.andThen' (itoa_f _ (by omega) (by omega)) (Ev.pos (by rw [bt_size]; omega) (Ev.andThen' (itoa_f _ (by omega) (by omega)) ?_))
      refine Ev.pos (by rw [show (⟨#[32]⟩ : ByteArray) = bt [32] from rfl, bt_app, bt_size, bt_size, List.length_append]; simp only [List.length_cons, List.length_nil]; omega) ?_
      refine Ev.pos (by rw [show (⟨#[32]⟩ : ByteArray) = bt [32] from rfl, bt_app, bt_app, bt_size, List.length_append, List.length_append]; simp only [List.length_cons, List.length_nil]; omega) ?_
      rw [line_bt]
      exact r
  · rw [decide_eq_false h]
    exact Ev.neg (by simp) (Ev.val rfl)
end Go.Proofs.YthejafdcdcchbaaDoor.Pure
