import Derived.Test.YthfoliejhdpbaaaZPCroAx39
import Derived.Test.YthfoliejhdpbaaaZXCroW
namespace Go.Proofs.Ythfoliejhdpbaaa.Pure
open Go.RowKit Go.Proofs.Ythfoliejhdpbaaa.PCroA Go.Proofs.YthfoliejhdpbaaaW.PrintWords Go.Proofs.YthfoliejhdpbaaaW.PrintLast Go.Proofs.YthfoliejhdpbaaaX

def CrossTurnsP : Prop := ∀ (a0_0 : Int) (a0_1 : Int) (a1_0 : Int) (a1_1 : Int) (a2_0 : Int) (a2_1 : Int) (a3_0 : Int) (a3_1 : Int), (Lit.int .i64 a0_0).wf = true → (Lit.int .i64 a0_1).wf = true → (Lit.int .i64 a1_0).wf = true → (Lit.int .i64 a1_1).wf = true → (Lit.int .i64 a2_0).wf = true → (Lit.int .i64 a2_1).wf = true → (Lit.int .i64 a3_0).wf = true → (Lit.int .i64 a3_1).wf = true → ∃ k, tangramlaw26_CrossTurns.f k a0_0 a0_1 a1_0 a1_1 a2_0 a2_1 a3_0 a3_1 = some true
theorem turnV_cyc (a b c : S23) : turnV b c a = turnV a b c := by
  unfold turnV
  rw [prod_cyc]
  by_cases h : In a ∧ In b ∧ In c
  · rw [if_pos h, if_pos ⟨h.2.1, h.2.2, h.1⟩]
  · rw [if_neg h, if_neg fun k => h ⟨k.2.2, k.1, k.2.1⟩]
theorem turnV_swap (a b c : S23) : turnV b a c = -turnV a b c := by
  unfold turnV
  rw [prod_swap, sg_opp]
  by_cases h : In a ∧ In b ∧ In c
  · rw [if_pos h, if_pos ⟨h.2.1, h.1, h.2.2⟩]
  · rw [if_neg h, if_neg fun k => h ⟨k.2.1, k.1, k.2.2⟩]; rfl
theorem turnV_bd (a b c : S23) : -1 ≤ turnV a b c ∧ turnV a b c ≤ 1 := by
  unfold turnV
  split
  · exact sg_bd _
  · omega
theorem onV_swap (a b c : S23) : decide (OnV b a c) = decide (OnV a b c) := by
  rw [decide_eq_decide]
  exact ⟨fun h => ⟨⟨h.1.2.1, h.1.1, h.1.2.2⟩, h.2.swap⟩, fun h => ⟨⟨h.1.2.1, h.1.1, h.1.2.2⟩, h.2.swap⟩⟩
theorem MeetV.swap {a b c d : S23} (h : MeetV a b c d) : MeetV b a c d := ⟨⟨h.1.2.1, h.1.1, h.1.2.2⟩, h.2.swap⟩
theorem MeetV.symm {a b c d : S23} (h : MeetV a b c d) : MeetV c d a b := ⟨⟨h.1.2.2.1, h.1.2.2.2, h.1.1, h.1.2.1⟩, h.2.symm⟩
theorem meetV_swap (a b c d : S23) : decide (MeetV b a c d) = decide (MeetV a b c d) := by
  rw [decide_eq_decide]
  exact ⟨MeetV.swap, MeetV.swap⟩
theorem meetV_symm (a b c d : S23) : decide (MeetV c d a b) = decide (MeetV a b c d) := by
  rw [decide_eq_decide]
  exact ⟨MeetV.symm, MeetV.symm⟩
theorem meetV_turn (a b c d : S23) : decide (MeetV a b d c) = decide (MeetV a b c d) := by
  rw [meetV_symm d c a b, meetV_swap, meetV_symm]
theorem turns_j3 (a b c d : S23) (t : Bool) (ht : t = true → OnV a b c ∨ OnV a b d ∨ OnV c d a ∨ OnV c d b) :
    Ev (fun k => tangramlaw26_CrossTurns.j3 k (decide (MeetV a b c d)) t a.f0 a.f1 b.f0 b.f1 c.f0 c.f1 d.f0 d.f1) true := by
  refine Ev.succ ?_
  simp only [tangramlaw26_CrossTurns.j3]
  refine Ev.ite (fun h => ?_) (fun _ => Ev.now _)
  refine Ev.ite (fun _ => Ev.now _) (fun hm => ?_)
  by_cases ha : In a
  case neg => exact Ev.andThen' (out_yes ha) (Ev.tt (Ev.now _))
  refine Ev.andThen' (out_no ha) (Ev.ff ?_)
  by_cases hb : In b
  case neg => exact Ev.andThen' (out_yes hb) (Ev.tt (Ev.now _))
  refine Ev.andThen' (out_no hb) (Ev.ff ?_)
  by_cases hc : In c
  case neg => exact Ev.andThen' (out_yes hc) (Ev.tt (Ev.now _))
  refine Ev.andThen' (out_no hc) (Ev.ff ?_)
  by_cases hd : In d
  case neg => exact Ev.andThen' (out_yes hd) (Ev.tt (Ev.now _))
  refine absurd (decide_eq_true ?_) hm
  refine ⟨⟨ha, hb, hc, hd⟩, (meet_iff a b c d).2 (Or.inl ?_)⟩
  exact (ht h).imp (fun q => q.2) (fun q => q.imp (fun q => q.2) (fun q => q.imp (fun q => q.2) (fun q => q.2)))
theorem turns (a b c d : S23) : Ev (fun k => tangramlaw26_CrossTurns.f k a.f0 a.f1 b.f0 b.f1 c.f0 c.f1 d.f0 d.f1) true := by
  unfold tangramlaw26_CrossTurns.f
  have hb := turnV_bd a b c
  refine Ev.andThen awake_ev (Ev.pos rfl (Ev.andThen (Turn_ev a b c) (Ev.andThen (Turn_ev b c a) (Ev.pos (turnV_cyc a b c).symm (Ev.andThen (Turn_ev c a b) (Ev.pos (by first | exact turnV_cyc b c a | exact (turnV_cyc b c a).symm | exact turnV_cyc c a b | exact (turnV_cyc c a b).symm | exact (turnV_cyc a b c).trans (turnV_cyc c a b) | (have q1 := turnV_cyc a b c; have q2 := turnV_cyc b c a; have q3 := turnV_cyc c a b; omega)) (Ev.andThen (Turn_ev b a c) (Ev.pos ?_ (Ev.neg (by omega) ?_)))))))))
  · have hb2 := turnV_bd b a c; have hs := turnV_swap a b c; rw [w64 (by omega) (by omega)]; omega
  rw [decide_eq_false (show ¬ turnV a b c > 1 by omega)]
  refine Ev.succ ?_
  simp only [tangramlaw26_CrossTurns.j0]
  refine Ev.ff (Ev.andThen (On_ev a b c) (Ev.andThen (On_ev b a c) ?_))
  rw [onV_swap, bne_self_eq_false]
  refine Ev.ff (Ev.andThen (On_ev a b c) ?_)
  have go : Ev (fun k => tangramlaw26_CrossTurns.j1 k false a.f0 a.f1 b.f0 b.f1 c.f0 c.f1 d.f0 d.f1) true := by
    refine Ev.succ ?_
    simp only [tangramlaw26_CrossTurns.j1]
    refine Ev.ff (Ev.andThen (Meet_ev a b c d) (Ev.andThen (Meet_ev b a c d) ?_))
    rw [meetV_swap a b c d, bne_self_eq_false]
    refine Ev.ff (Ev.andThen (Meet_ev a b d c) ?_)
    rw [meetV_turn a b c d, bne_self_eq_false]
    refine Ev.ff (Ev.andThen (Meet_ev c d a b) ?_)
    rw [meetV_symm a b c d, bne_self_eq_false]
    refine Ev.succ ?_
    simp only [tangramlaw26_CrossTurns.j2]
    refine Ev.ff (Ev.andThen (On_ev a b c) ?_)
    refine Ev.ite (fun h => turns_j3 a b c d true fun _ => Or.inl (of_decide_eq_true h)) (fun _ => Ev.andThen (On_ev a b d) ?_)
    refine Ev.ite (fun h => turns_j3 a b c d true fun _ => Or.inr (Or.inl (of_decide_eq_true h))) (fun _ => Ev.andThen (On_ev c d a) ?_)
    refine Ev.ite (fun h => turns_j3 a b c d true fun _ => Or.inr (Or.inr (Or.inl (of_decide_eq_true h)))) (fun _ => Ev.andThen (On_ev c d b) ?_)
    exact turns_j3 a b c d _ fun h => Or.inr (Or.inr (Or.inr (of_decide_eq_true h)))
  refine Ev.ite (fun h => ?_) (fun _ => go)
  have ho : OnV a b c := of_decide_eq_true h
  have h0 : turnV a b c = 0 := by unfold turnV; rw [if_pos ho.1, ho.2.1]; rfl
  rw [h0]
  exact go
theorem CrossTurns : CrossTurnsP := by
  intro a0 a1 b0 b1 c0 c1 d0 d1 _ _ _ _ _ _ _ _
  exact Ev.out (turns ⟨a0, a1⟩ ⟨b0, b1⟩ ⟨c0, c1⟩ ⟨d0, d1⟩)
end Go.Proofs.Ythfoliejhdpbaaa.Pure
