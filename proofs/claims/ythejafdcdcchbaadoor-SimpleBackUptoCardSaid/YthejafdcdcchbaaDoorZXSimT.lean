-- simple.Text, walked by hand over the shelf's strings.Builder.
import Derived.Test.YthejafdcdcchbaaDoorZXSimN
import Derived.Test.YthejafdcdcchbaaDoorZXSimP
import Derived.Test.YthejafdcdcchbaaDoorZPSimAx9
import Derived.Deep.LoopGhost
import Derived.Lib.AppendStr
import Derived.Lib.ItoaLen
set_option linter.unusedVariables false
set_option linter.unusedSimpArgs false
namespace Go.Proofs.YthejafdcdcchbaaDoor.PSimA
open Go.RowKit Go.Proofs Go.Proofs.YthejafdcdcchbaaDoor.Pure Go.Proofs.YthejafdcdcchbaaDoorW.PrintWords Go.Proofs.YthejafdcdcchbaaDoorW.PrintLast Go.Proofs.YthejafdcdcchbaaDoorW.PrintMore Go.Proofs.YthejafdcdcchbaaDoorX
def lineL (a b : Int) : List UInt8 := Lib.itoa a ++ [32] ++ Lib.itoa b ++ [10]
def lineA (a b : Int) : ByteArray := ⟨(lineL a b).toArray⟩
theorem lineL_len (a b : Int) (ha0 : -9223372036854775808 ≤ a) (ha : a ≤ 9223372036854775807) (hb0 : -9223372036854775808 ≤ b) (hb : b ≤ 9223372036854775807) : (lineL a b).length ≤ 44 := by
  have h1 := Lib.itoa_length_le a ha0 ha
  have h2 := Lib.itoa_length_le b hb0 hb
  simp [lineL]
  omega
theorem line_f (a b : Int) (ha0 : -9223372036854775808 ≤ a) (ha : a ≤ 9223372036854775807) (hb0 : -9223372036854775808 ≤ b) (hb : b ≤ 9223372036854775807) : nums_Line.f 3 [a, b] = some (lineA a b) := by
  have h1 := Lib.itoa_length_le a ha0 ha
  have h2 := Lib.itoa_length_le b hb0 hb
  have e0 : rd [a, b] 0 = a := rfl
  have e1 : rd [a, b] 1 = b := rfl
  have w1 : wrap64 (0 + 1) = 1 := by kernel_rfl
  have w2 : wrap64 (1 + 1) = 2 := by kernel_rfl
  have ej : Lib.join [Lib.itoa a, Lib.itoa b] [32] = Lib.itoa a ++ [32] ++ Lib.itoa b := by simp [Lib.join]
  simp only [nums_Line.f, nums_Line.l0, List.length_cons, List.length_nil]
  rw [if_pos (by omega), if_pos (by omega), if_pos (by omega), e0]
  have t0 : nums_Text.f a = some (⟨(Lib.itoa a).toArray⟩ : ByteArray) := by unfold nums_Text.f; rw [if_pos ⟨ha0, ha⟩]
  have t1 : nums_Text.f b = some (⟨(Lib.itoa b).toArray⟩ : ByteArray) := by unfold nums_Text.f; rw [if_pos ⟨hb0, hb⟩]
  rw [t0, Option.bind_some, if_pos (by omega), w1, if_pos (by omega), if_pos (by omega), if_pos (by omega), e1, t1, Option.bind_some, if_pos (by simp), w2, if_neg (by omega)]
  have j : strings_Join.f ([] ++ [(⟨(Lib.itoa a).toArray⟩ : ByteArray)] ++ [(⟨(Lib.itoa b).toArray⟩ : ByteArray)]) ⟨#[32]⟩ = some ⟨(Lib.itoa a ++ [32] ++ Lib.itoa b).toArray⟩ := by
    unfold strings_Join.f
    have e : (([] ++ [(⟨(Lib.itoa a).toArray⟩ : ByteArray)] ++ [(⟨(Lib.itoa b).toArray⟩ : ByteArray)]).map (fun y : ByteArray => y.data.toList)) = [Lib.itoa a, Lib.itoa b] := by simp
    rw [e]
    rw [show ((⟨#[32]⟩ : ByteArray).data.toList) = [32] from rfl, ej]
    rw [if_pos ⟨by simp, by simp; omega⟩]
  rw [j, Option.bind_some, if_pos (by show (Lib.itoa a ++ [32] ++ Lib.itoa b).toArray.size + 1 ≤ _; simp; omega)]
  congr 1
theorem C_lit2 (W : World) (a b : Int) (fr : Nat × Nat) : Kd.C (Kd.int .i64) (W.alloc (.cells #[.int .i64 a, .int .i64 b] 3 fr)) (some ⟨W.heap.size, 0, none⟩) 2 [a, b] := by
  refine ⟨rfl, by decide, fun _ => ⟨_, rfl, fun j p hj => ⟨[.int .i64 p], rfl, rfl, fun i u hu => ?_⟩⟩⟩
  have hi : i = 0 := by
    have := (List.getElem?_eq_some_iff.1 hu).1
    simp at this
    omega
  subst hi
  simp at hu
  subst hu
  have e : ((⟨W.heap.size, 0, none⟩ : Addr).add (j * 1 + 0)) = ⟨W.heap.size, j, none⟩ := by
    unfold Addr.add
    split
    · simp_all
    · simp
  show (W.alloc _).cell? ((⟨W.heap.size, 0, none⟩ : Addr).add (j * 1 + 0)) = _
  rw [e]
  match j, hj with
  | 0, hj => cases hj; simp [World.cell?, World.alloc, -World.alloc_eq]
  | 1, hj => cases hj; simp [World.cell?, World.alloc, -World.alloc_eq]
  | j + 2, hj => simp at hj
theorem line2_c (a b : Int) (ha0 : -9223372036854775808 ≤ a) (ha : a ≤ 9223372036854775807) (hb0 : -9223372036854775808 ≤ b) (hb : b ≤ 9223372036854775807) (fr : Nat × Nat) (W : World) (hT : TabW W) :
    Calls Tryd.prog 40 #[.slice (some ⟨W.heap.size, 0, none⟩) 2 2] (W.alloc (.cells #[.int .i64 a, .int .i64 b] 3 fr)) fun e w' => e = .returned (.string (lineA a b)) ∧ Below W.heap.size W w' := by
  have b0 : Below W.heap.size W (W.alloc (.cells #[.int .i64 a, .int .i64 b] 3 fr)) := (Below.refl _ _).alloc (Nat.le_refl _) _
  refine (nums_Line.calls 3 _ 2 [a, b] (lineA a b) _ (tb ⟨hT⟩ b0) (C_lit2 W a b fr) (Nat.le_refl _) (line_f a b ha0 ha hb0 hb)).mono ?_
  rintro e w' ⟨rfl, hb⟩
  exact ⟨rfl, below_then b0 (by simp) hb⟩
theorem isb_below {w w' : World} {B b : Nat} {bs : List Value} (h : Lib.IsBuilder 75 5 B b bs w) (hb : Below w.heap.size w w') : Lib.IsBuilder 75 5 B b bs w' := by
  rcases h with ⟨h1, v, h2, h3, h4⟩ | ⟨h1, v, h2, h3, h4⟩
  · exact .inl ⟨h1, v, (hb.block b (blk_lt h2)).trans h2, pw_own_below h3 hb, h4⟩
  · exact .inr ⟨h1, v, (hb.block b (blk_lt h2)).trans h2, pw_own_below h3 hb, h4⟩
theorem isb_at {w : World} {B b : Nat} {bs : List Value} (h : Lib.IsBuilder 75 5 B b bs w) : b < w.heap.size := by
  rcases h with ⟨h1, v, h2, h3, h4⟩ | ⟨h1, v, h2, h3, h4⟩ <;> exact blk_lt h2
def linesL (l : List S42) : List UInt8 := l.flatMap fun e => lineL e.f0 e.f1
def textL (n : Int) (l : List S42) : List UInt8 := lineL n l.length ++ linesL l
def textF (v : Bool) (n : Int) (l : List S42) : ByteArray × Int :=
  if v then (if 2097152 < l.length then (⟨#[]⟩, 141) else if 16777216 < (textL n l).length then (⟨#[]⟩, 141) else (⟨(textL n l).toArray⟩, 0)) else (⟨#[]⟩, 1)
theorem linesL_len (l : List S42) (h : ∀ x ∈ l, (-9223372036854775808 ≤ x.f0 ∧ x.f0 ≤ 9223372036854775807) ∧ -9223372036854775808 ≤ x.f1 ∧ x.f1 ≤ 9223372036854775807) : (linesL l).length ≤ 44 * l.length := by
  induction l with
  | nil => simp [linesL]
  | cons x l ih =>
    have h1 := h x (List.mem_cons_self ..)
    have h2 := ih fun y hy => h y (List.mem_cons_of_mem _ hy)
    have h3 := lineL_len x.f0 x.f1 h1.1.1 h1.1.2 h1.2.1 h1.2.2
    unfold linesL at h2 ⊢
    rw [List.flatMap_cons, List.length_append, List.length_cons]
    omega
theorem linesL_snoc (l : List S42) (x : S42) : linesL (l ++ [x]) = linesL l ++ lineL x.f0 x.f1 := by simp [linesL]
theorem drop_42 (l : List S42) (i : Nat) (h : i < l.length) : l.take (i + 1) = l.take i ++ [rd_T42 l (i : Int)] := by
  rw [List.take_succ_eq_append_getElem h]
  unfold rd_T42
  rw [Int.toNat_natCast, List.getD_eq_getElem?_getD, List.getElem?_eq_getElem h]
  rfl
theorem ok_range {n : Int} {l : List S42} (h : Ok n l) : ∀ x ∈ l, 0 ≤ x.f0 ∧ x.f0 ≤ 1048576 ∧ 0 ≤ x.f1 ∧ x.f1 ≤ 1048576 := by
  intro x hx
  obtain ⟨j, hj, rfl⟩ := List.getElem_of_mem hx
  have g := h.2.2 j hj
  have hn := h.1
  have g1 := g.1
  unfold Ed G rd_T42 at g1
  rw [Int.toNat_natCast, List.getD_eq_getElem?_getD, List.getElem?_eq_getElem hj] at g1
  simp only [Option.getD_some] at g1
  omega
/-- The graph's box at g, the builder at q. -/
def Tx (w W : World) (g q : Nat) (n : Int) (A : Option Addr) (c : Nat) (l : List S42) (bs : List UInt8) : Prop :=
  W.heap[g]? = some (.cells #[.int .i64 n, .slice A l.length c] 26 (0, 0)) ∧ Lib.IsBuilder 75 5 q q (Lib.byteCells bs) W ∧ Below w.heap.size w W ∧ w.heap.size ≤ q ∧ g < q
theorem Tx.below {w W W1 : World} {g q : Nat} {n : Int} {A : Option Addr} {c : Nat} {l : List S42} {bs : List UInt8} (h : Tx w W g q n A c l bs) (hb : Below W.heap.size W W1) : Tx w W1 g q n A c l bs :=
  ⟨(hb.block g (blk_lt h.1)).trans h.1, isb_below h.2.1 hb, below_then h.2.2.1 h.2.2.1.size hb, h.2.2.2⟩
theorem Tx.write {w W W1 : World} {g q : Nat} {n : Int} {A : Option Addr} {c : Nat} {l : List S42} {bs bs' : List UInt8} (h : Tx w W g q n A c l bs) (hi : Lib.IsBuilder 75 5 q q (Lib.byteCells bs') W1) (hb : Below q W W1) : Tx w W1 g q n A c l bs' :=
  ⟨(hb.block g h.2.2.2.2).trans h.1, hi, h.2.2.1.trans (hb.mono h.2.2.2.1), h.2.2.2⟩
theorem Tx.box {w W W1 : World} {g q : Nat} {n : Int} {A : Option Addr} {c : Nat} {l : List S42} {bs : List UInt8} (h : Tx w W g q n A c l bs) {gb : Nat} (hg : gb = W.heap.size) (hb : Below W.heap.size W W1) (a b : Value) :
    Tx w ((W1.setCell ⟨gb, 0, none⟩ a).setCell ⟨gb, 1, none⟩ b) g q n A c l bs :=
  h.below (below_set (below_set hb (by omega)) (by omega))
theorem write_c {w W : World} {g q : Nat} {n : Int} {A : Option Addr} {c : Nat} {l : List S42} {bs : List UInt8} (h : Tx w W g q n A c l bs) (s : List UInt8) (hl : bs.length + s.length ≤ 140737488355328) :
    Calls Tryd.prog 39 #[.pointer (some ⟨q, 0, none⟩), .string ⟨s.toArray⟩] W fun e w' => ∃ m, e = .returned (.tuple #[.int .i64 m, .nilIface]) ∧ Tx w w' g q n A c l (bs ++ s) := by
  refine (Tryd.Builder_WriteString q q (Lib.byteCells bs) ⟨s.toArray⟩ W h.2.1 (by rw [Lib.byteCells_length]; show bs.length + s.toArray.size ≤ _; simpa using hl) (Nat.le_of_lt (isb_at h.2.1))).mono ?_
  rintro e w' ⟨rfl, h1, b1⟩
  refine ⟨_, rfl, h.write ?_ b1⟩
  rw [Lib.strCells_eq, ← Lib.byteCells_append] at h1
  exact .inr h1
theorem len_c {w W : World} {g q : Nat} {n : Int} {A : Option Addr} {c : Nat} {l : List S42} {bs : List UInt8} (h : Tx w W g q n A c l bs) : Calls Tryd.prog 41 #[.pointer (some ⟨q, 0, none⟩)] W fun e w' => e = .returned (.int .i64 (bs.length : Int)) ∧ w' = W := by
  have := Tryd.Builder_Len q q _ W h.2.1
  rw [Lib.byteCells_length] at this
  exact this
theorem string_c {w W : World} {g q : Nat} {n : Int} {A : Option Addr} {c : Nat} {l : List S42} {bs : List UInt8} (h : Tx w W g q n A c l bs) : Calls Tryd.prog 42 #[.pointer (some ⟨q, 0, none⟩)] W fun e w' => e = .returned (.string ⟨bs.toArray⟩) ∧ Below w.heap.size w w' := by
  refine (Tryd.Builder_String_any q q bs W h.2.1 (Nat.le_of_lt (isb_at h.2.1))).mono ?_
  rintro e w' ⟨rfl, hb⟩
  exact ⟨rfl, h.2.2.1.trans (hb.mono h.2.2.2.1)⟩
set_option maxHeartbeats 8000000 in
set_option maxRecDepth 100000 in
theorem text_no (k : Nat) (n : Int) (A : Option Addr) (c : Nat) (l : List S42) (w : World) (hT : TabW w) (hr : Kd.C k42 w A l.length l) (hc : l.length ≤ c) (hv : simple_Valid.f k n l = some false) :
    Calls Tryd.prog 17 #[.agg #[.int .i64 n, .slice A l.length c]] w fun e w' => e = .returned (.tuple #[.string ⟨#[]⟩, .int .i64 1]) ∧ Below w.heap.size w w' := by
  have hu26 := Tryd.underlying26
  have hu42 := Tryd.underlying42
  have hu75 := Tryd.underlying75
  have HT := Aside0.mk hT
  have HR := Aside0.mk hr
  have HC := Aside0.mk hc
  have HV := Aside0.mk hv
  clear hT hr hc hv
  go_enter Tryd.func17, Tryd.ntmps17
  go_upto_region 1 with (first | ((with_reducible refine gate_dst (N := 1) rfl ?_); refine be_ 1 #[.int .i64 n, .slice A l.length c] 26 ?_; intro g hg w1 hbox hb; have B1 := Aside0.mk hbox; have HB : Aside0 (Below w.heap.size w w1) := ⟨hb⟩; have HG : Aside0 (w.heap.size ≤ g) := ⟨by omega⟩; clear hbox hb hg; have z0 := bc B1 0; have z1 := bc B1 1))
  go_wp2_with (first | (go_at_call 24; refine (simple_Valid.calls k n A c l false _ (Kd.C_below HR.out HB.out) HC.out HV.out).mono ?_; rintro e w2 ⟨rfl, hb⟩; clear z0 z1; replace B1 := kx B1 hb; replace HB : Aside0 (Below w.heap.size w w2) := ⟨below_then HB.out HB.out.size hb⟩; clear hb; have z0 := bc B1 0; have z1 := bc B1 1))
  refine bodyPost_ret (v := .tuple #[.string ⟨#[]⟩, .int .i64 1]) (by simp [results, Tryd.results17, go_sem]) rfl ⟨rfl, HB.out⟩
set_option maxHeartbeats 8000000 in
set_option maxRecDepth 100000 in
theorem text_long (k : Nat) (n : Int) (A : Option Addr) (c : Nat) (l : List S42) (w : World) (hT : TabW w) (hr : Kd.C k42 w A l.length l) (hc : l.length ≤ c) (hv : simple_Valid.f k n l = some true) (hl : 2097152 < l.length) :
    Calls Tryd.prog 17 #[.agg #[.int .i64 n, .slice A l.length c]] w fun e w' => e = .returned (.tuple #[.string ⟨#[]⟩, .int .i64 141]) ∧ Below w.heap.size w w' := by
  have e1 : decide ((2097152 : Int) < (l.length : Int)) = true := decide_eq_true (by omega)
  have hu26 := Tryd.underlying26
  have hu42 := Tryd.underlying42
  have hu75 := Tryd.underlying75
  have HT := Aside0.mk hT
  have HR := Aside0.mk hr
  have HC := Aside0.mk hc
  have HV := Aside0.mk hv
  clear hT hr hc hv
  go_enter Tryd.func17, Tryd.ntmps17
  go_upto_region 1 with (first | ((with_reducible refine gate_dst (N := 1) rfl ?_); refine be_ 1 #[.int .i64 n, .slice A l.length c] 26 ?_; intro g hg w1 hbox hb; have B1 := Aside0.mk hbox; have HB : Aside0 (Below w.heap.size w w1) := ⟨hb⟩; have HG : Aside0 (w.heap.size ≤ g) := ⟨by omega⟩; clear hbox hb hg; have z0 := bc B1 0; have z1 := bc B1 1))
  go_wp2_with (first | (go_at_call 24; refine (simple_Valid.calls k n A c l true _ (Kd.C_below HR.out HB.out) HC.out HV.out).mono ?_; rintro e w2 ⟨rfl, hb⟩; clear z0 z1; replace B1 := kx B1 hb; replace HB : Aside0 (Below w.heap.size w w2) := ⟨below_then HB.out HB.out.size hb⟩; clear hb; have z0 := bc B1 0; have z1 := bc B1 1))
  refine bodyPost_ret (v := .tuple #[.string ⟨#[]⟩, .int .i64 141]) (by simp [results, Tryd.results17, go_sem]) rfl ⟨rfl, HB.out⟩
set_option maxHeartbeats 8000000 in
set_option maxRecDepth 100000 in
theorem text_do (k : Nat) (n : Int) (A : Option Addr) (c : Nat) (l : List S42) (w : World) (hT : TabW w) (hr : Kd.C k42 w A l.length l) (hc : l.length ≤ c) (hv : simple_Valid.f k n l = some true) (hl : l.length ≤ 2097152) (ho : Ok n l) :
    Calls Tryd.prog 17 #[.agg #[.int .i64 n, .slice A l.length c]] w fun e w' => e = .returned (.tuple #[.string (textF true n l).1, .int .i64 (textF true n l).2]) ∧ Below w.heap.size w w' := by
  have e1 : decide ((2097152 : Int) < (l.length : Int)) = false := decide_eq_false (by omega)
  have HO := Aside0.mk ho
  have HL := Aside0.mk hl
  obtain ⟨F, hF⟩ : ∃ F, F = textF true n l := ⟨_, rfl⟩
  rw [← hF]
  have HF := Aside0.mk hF.symm
  clear hl ho hF
  have hu26 := Tryd.underlying26
  have hu42 := Tryd.underlying42
  have hu75 := Tryd.underlying75
  have HT := Aside0.mk hT
  have HR := Aside0.mk hr
  have HC := Aside0.mk hc
  have HV := Aside0.mk hv
  clear hT hr hc hv
  go_enter Tryd.func17, Tryd.ntmps17
  go_upto_region 1 with (first | ((with_reducible refine gate_dst (N := 1) rfl ?_); refine be_ 1 #[.int .i64 n, .slice A l.length c] 26 ?_; intro g hg w1 hbox hb; have B1 := Aside0.mk hbox; have HB : Aside0 (Below w.heap.size w w1) := ⟨hb⟩; have HG : Aside0 (w.heap.size ≤ g) := ⟨by omega⟩; clear hbox hb hg; have z0 := bc B1 0; have z1 := bc B1 1))
  go_upto_region 5 with (first | (go_at_call 24; refine (simple_Valid.calls k n A c l true _ (Kd.C_below HR.out HB.out) HC.out HV.out).mono ?_; rintro e w2 ⟨rfl, hb⟩; clear z0 z1; replace B1 := kx B1 hb; replace HB : Aside0 (Below w.heap.size w w2) := ⟨below_then HB.out HB.out.size hb⟩; clear hb; have z0 := bc B1 0; have z1 := bc B1 1))
  go_upto_region 6 with (first | ((with_reducible refine gate_dst (N := 4) rfl ?_); refine be_ 4 #[.pointer none, .slice none 0 0] 75 ?_; intro q hg w3 hbox hb; have TX : Aside0 (Tx w w3 g q n A c l []) := ⟨(hb.block g (blk_lt B1.out)).trans B1.out, .inl ⟨Nat.le_refl _, .slice none 0 0, hbox, World.ownsRow_nil _ _ _ _, by simp [Value.ownBlock]⟩, below_then HB.out HB.out.size hb, by rw [hg]; exact HB.out.size, by rw [hg]; exact blk_lt B1.out⟩; clear hbox hb hg z0 z1 B1 HB; have B1 := Aside0.mk TX.out.1; have z0 := bc B1 0; have z1 := bc B1 1))
  go_upto_region 7 with (first | (go_at_call 40; refine (line2_c n (l.length : Int) (by have := HO.out.1; omega) (by have := HO.out.1; omega) (by omega) (by have := HL.out; omega) _ _ (tb HT TX.out.2.2.1)).mono ?_; rintro e w4 ⟨rfl, hb⟩; clear z0 z1 B1; replace TX : Aside0 (Tx w w4 g q n A c l []) := ⟨TX.out.below hb⟩; clear hb) | (go_at_call 39; refine (write_c TX.out (lineL n (l.length : Int)) (by have := lineL_len n (l.length : Int) (by have := HO.out.1; omega) (by have := HO.out.1; omega) (by omega) (by have := HL.out; omega); simp; omega)).mono ?_; rintro e w5 ⟨m, rfl, hx⟩; replace TX := Aside0.mk hx; clear hx; rw [List.nil_append] at TX; have B1 := Aside0.mk TX.out.1; have z0 := bc B1 0; have z1 := bc B1 1))
  go_wp2
  go_loopg [25] l.length (fun kq v25 w' => ∃ (i : Nat), v25 = .int .i64 (i : Int) ∧ Aside0 (i + kq = l.length) ∧ Aside0 (Tx w w' g q n A c l (lineL n (l.length : Int) ++ linesL (l.take i))))
  case atStart => exact ⟨0, rfl, ⟨by omega⟩, by rw [List.take_zero, linesL, List.flatMap_nil, List.append_nil]; exact TX⟩
  case round =>
    clear TX z0 z1 B1
    obtain ⟨i, rfl, HK, TX⟩ := hrel
    by_cases hi : i < l.length
    · have hi1 : decide ((i : Int) < (l.length : Int)) = true := decide_eq_true (by omega)
      have hi2 : decide (i < l.length) = true := decide_eq_true hi
      obtain ⟨ad, ea, hx0, hx1⟩ := at_T42 (Kd.C_below HR.out TX.out.2.2.1) (i : Int) (by omega) (by omega)
      cases ea
      rw [Int.toNat_natCast] at hx0 hx1
      have hp := eq_true (show (0 : Int) ≤ (i : Int) by omega)
      have hq := eq_true (show (i : Int) < (l.length : Int) by omega)
      have HM : Aside0 (rd_T42 l (i : Int) ∈ l) := ⟨by unfold rd_T42; rw [Int.toNat_natCast, List.getD_eq_getElem?_getD, List.getElem?_eq_getElem hi]; exact List.getElem_mem hi⟩
      have HRg := Aside0.mk (ok_range HO.out _ HM.out)
      have HD := Aside0.mk (drop_42 l i hi)
      have HLn : Aside0 ((linesL (l.take i)).length ≤ 44 * 2097152) := ⟨by
        have h1 := linesL_len (l.take i) fun x hx => by
          have := ok_range HO.out x (List.mem_of_mem_take hx)
          omega
        have h2 : (l.take i).length ≤ 2097152 := by rw [List.length_take]; have := HL.out; omega
        omega⟩
      have HLT := Aside0.mk hi
      have hib : i < 8796093022208 := by have := HL.out; omega
      clear hi HM
      cases gk with
      | zero => exact absurd HK.out (by have := HLT.out; omega)
      | succ k1 =>
        generalize rd_T42 l (i : Int) = p at HRg HD hx0 hx1
        obtain ⟨a, b⟩ := p
        dsimp only at hx0 hx1 HRg
        go_wp2_with (first | ((with_reducible refine gate_dst (N := 6) rfl ?_); refine be_ 6 #[.int .i64 0, .int .i64 0] 42 ?_; intro gb hg w6 hbox hb; have HG1 := Aside0.mk hg; have HB1 := Aside0.mk hb; have B8 := Aside0.mk hbox; clear hbox hb hg hx0 hx1; have z0 := bc B8 0; have z1 := bc B8 1; have f0 := blk_frozen B8.out 0; have f1 := blk_frozen B8.out 1) | ((with_reducible refine gate_store (t := 42) (p := 6) rfl ?_); refine store_event (t := 42) (p := 6) (v := ?vo1) (w1 := ((w6.setCell ⟨gb, 0, none⟩ (.int .i64 a)).setCell ⟨gb, 1, none⟩ (.int .i64 b))) ?hg ?ho ?hn ?hr ?_; (case ho => rfl); (case hg => rfl); (case hn => rfl); (case hr => first | (go_simp; done) | (go_simp; rfl)); intro w7 hw; clear z0 z1 f0 f1; replace TX : Aside0 (Tx w w7 g q n (some ad) c l (lineL n (l.length : Int) ++ linesL (l.take i))) := ⟨by rw [hw]; exact TX.out.box HG1.out HB1.out _ _⟩; replace B8 : Aside0 (w7.heap[gb]? = some (.cells #[.int .i64 a, .int .i64 b] 42 (0, 0))) := ⟨by rw [hw]; exact blk_put (blk_put B8.out 0 _ rfl) 1 _ rfl⟩; clear hw HG1 HB1; have z0 := bc B8 0; have z1 := bc B8 1) | (go_at_call 40; refine (line2_c a b (by have := HRg.out; omega) (by have := HRg.out; omega) (by have := HRg.out; omega) (by have := HRg.out; omega) _ _ (tb HT TX.out.2.2.1)).mono ?_; rintro e w8 ⟨rfl, hb⟩; clear z0 z1 B8; replace TX : Aside0 (Tx w w8 g q n (some ad) c l (lineL n (l.length : Int) ++ linesL (l.take i))) := ⟨TX.out.below hb⟩; clear hb) | (go_at_call 39; refine (write_c TX.out (lineL a b) (by have h1 := lineL_len n (l.length : Int) (by have := HO.out.1; omega) (by have := HO.out.1; omega) (by omega) (by have := HL.out; omega); have h2 := lineL_len a b (by have := HRg.out; omega) (by have := HRg.out; omega) (by have := HRg.out; omega) (by have := HRg.out; omega); have h3 := HLn.out; rw [List.length_append]; omega)).mono ?_; rintro e w9 ⟨m9, rfl, hx⟩; replace TX := Aside0.mk hx; clear hx))
        go_roundg k1
        case measure => omega
        case rel => exact ⟨i + 1, by go_num, ⟨by have := HK.out; omega⟩, ⟨by rw [HD.out, linesL_snoc, ← List.append_assoc]; exact TX.out⟩⟩
    · have hi1 : decide ((i : Int) < (l.length : Int)) = false := decide_eq_false (by omega)
      have hi2 : decide (i < l.length) = false := decide_eq_false hi
      obtain rfl : i = l.length := by have := HK.out; omega
      rw [List.take_length] at TX
      clear hi
      have HX : Aside0 (Tx w _ g q n A c l (textL n l)) := TX
      clear TX
      have HLL := Aside0.mk HL.out
      by_cases hb : 16777216 < (textL n l).length
      · have d1 : decide ((16777216 : Int) < ((textL n l).length : Int)) = true := decide_eq_true (by omega)
        obtain rfl : F = (⟨#[]⟩, 141) := by rw [← HF.out]; unfold textF; rw [if_pos rfl, if_neg (by have := HL.out; omega), if_pos hb]
        clear hb
        go_wp2_with (first | (go_at_call 41; refine (len_c HX.out).mono ?_; rintro e w10 ⟨rfl, rfl⟩))
        refine bodyPost_ret (v := .tuple #[.string ⟨#[]⟩, .int .i64 141]) (by simp [results, Tryd.results17, go_sem]) rfl ⟨rfl, HX.out.2.2.1⟩
      · have d1 : decide ((16777216 : Int) < ((textL n l).length : Int)) = false := decide_eq_false (by omega)
        obtain rfl : F = (⟨(textL n l).toArray⟩, 0) := by rw [← HF.out]; unfold textF; rw [if_pos rfl, if_neg (by have := HL.out; omega), if_neg hb]
        clear hb
        go_wp2_with (first | (go_at_call 41; refine (len_c HX.out).mono ?_; rintro e w10 ⟨rfl, rfl⟩) | (go_at_call 42; refine (string_c HX.out).mono ?_; rintro e w11 ⟨rfl, hb⟩))
        refine bodyPost_ret (v := .tuple #[.string ⟨(textL n l).toArray⟩, .int .i64 0]) (by simp [results, Tryd.results17, go_sem]) rfl ⟨rfl, hb⟩
theorem simpleText_c (k : Nat) (n : Int) (A : Option Addr) (c : Nat) (l : List S42) (v : Bool) (w : World) (hT : TabW w) (hr : Kd.C k42 w A l.length l) (hc : l.length ≤ c) (hv : simple_Valid.f k n l = some v) :
    Calls Tryd.prog 17 #[.agg #[.int .i64 n, .slice A l.length c]] w fun e w' => e = .returned (.tuple #[.string (textF v n l).1, .int .i64 (textF v n l).2]) ∧ Below w.heap.size w w' := by
  cases v
  · exact text_no k n A c l w hT hr hc hv
  · by_cases hl : 2097152 < l.length
    · have : textF true n l = (⟨#[]⟩, 141) := by unfold textF; rw [if_pos rfl, if_pos hl]
      rw [this]
      exact text_long k n A c l w hT hr hc hv hl
    · have ho : Ok n l := of_decide_eq_true (by
        obtain ⟨k', hk⟩ := Ev.out (valid_ev n l)
        have e1 := at_rounds (g := fun k => simple_Valid.f k n l) (simple_Valid.mono n l) (Nat.le_max_left k k') hv
        have e2 := at_rounds (g := fun k => simple_Valid.f k n l) (simple_Valid.mono n l) (Nat.le_max_right k k') hk
        exact Option.some.inj (e2.symm.trans e1))
      exact text_do k n A c l w hT hr hc hv (by omega) ho
end Go.Proofs.YthejafdcdcchbaaDoor.PSimA
