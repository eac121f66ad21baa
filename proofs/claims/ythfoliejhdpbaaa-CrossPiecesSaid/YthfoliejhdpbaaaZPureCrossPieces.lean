import Derived.Test.YthfoliejhdpbaaaZPCroAx38
import Derived.Test.YthfoliejhdpbaaaZXCroW
namespace Go.Proofs.Ythfoliejhdpbaaa.Pure
open Go.RowKit Go.Proofs.Ythfoliejhdpbaaa.PCroA Go.Proofs.YthfoliejhdpbaaaW.PrintWords Go.Proofs.YthfoliejhdpbaaaW.PrintLast Go.Proofs.YthfoliejhdpbaaaX

def CrossPiecesP : Prop := ∀ (a0_0 : Int) (a0_1 : Int) (a1_0 : Int) (a1_1 : Int) (a2_0 : Int) (a2_1 : Int) (a3_0 : Int) (a3_1 : Int), (Lit.int .i64 a0_0).wf = true → (Lit.int .i64 a0_1).wf = true → (Lit.int .i64 a1_0).wf = true → (Lit.int .i64 a1_1).wf = true → (Lit.int .i64 a2_0).wf = true → (Lit.int .i64 a2_1).wf = true → (Lit.int .i64 a3_0).wf = true → (Lit.int .i64 a3_1).wf = true → ∃ k, tangramlaw26_CrossPieces.f k a0_0 a0_1 a1_0 a1_1 a2_0 a2_1 a3_0 a3_1 = some true
theorem pieces (a b c d : S23) : Ev (fun k => tangramlaw26_CrossPieces.f k a.f0 a.f1 b.f0 b.f1 c.f0 c.f1 d.f0 d.f1) true := by
  unfold tangramlaw26_CrossPieces.f
  refine Ev.andThen awake_ev (Ev.pos rfl (Ev.andThen (Turn_ev a b c) (Ev.andThen (Turn2_ev a b c) (Ev.pos rfl (Ev.andThen (Turn_ev b d a) (Ev.andThen (Turn2_ev b d a) ?_))))))
  rw [bne_self_eq_false]
  refine Ev.succ ?_
  simp only [tangramlaw26_CrossPieces.j0]
  refine Ev.ff (Ev.andThen (On_ev a b c) (Ev.andThen (On2_ev a b c) ?_))
  rw [bne_self_eq_false]
  refine Ev.ff (Ev.andThen (On_ev c a d) (Ev.andThen (On2_ev c a d) ?_))
  rw [bne_self_eq_false]
  refine Ev.ff (Ev.andThen (On_ev a a b) (Ev.andThen (On2_ev a a b) ?_))
  rw [bne_self_eq_false]
  refine Ev.succ ?_
  simp only [tangramlaw26_CrossPieces.j1]
  refine Ev.ff (Ev.andThen (Meet_ev a b c d) (Ev.andThen (Meet2_ev a b c d) ?_))
  rw [beq_self_eq_true]
  refine Ev.tt (Ev.andThen (Meet_ev a b a c) (Ev.andThen (Meet2_ev a b a c) ?_))
  rw [beq_self_eq_true]
  refine Ev.tt (Ev.andThen (Meet_ev a a c d) (Ev.andThen (Meet2_ev a a c d) (Ev.val ?_)))
  rw [beq_self_eq_true]
theorem CrossPieces : CrossPiecesP := by
  intro a0 a1 b0 b1 c0 c1 d0 d1 _ _ _ _ _ _ _ _
  exact Ev.out (pieces ⟨a0, a1⟩ ⟨b0, b1⟩ ⟨c0, c1⟩ ⟨d0, d1⟩)
end Go.Proofs.Ythfoliejhdpbaaa.Pure
