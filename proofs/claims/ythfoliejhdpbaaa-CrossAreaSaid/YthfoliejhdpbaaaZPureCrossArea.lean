import Derived.Test.YthfoliejhdpbaaaZPCroAx43
import Derived.Test.YthfoliejhdpbaaaZXCroW
import Derived.Test.YthfoliejhdpbaaaZXCroC
namespace Go.Proofs.Ythfoliejhdpbaaa.Pure
open Go.RowKit Go.Proofs.Ythfoliejhdpbaaa.PCroA Go.Proofs.YthfoliejhdpbaaaW.PrintWords Go.Proofs.YthfoliejhdpbaaaW.PrintLast Go.Proofs.YthfoliejhdpbaaaX

def CrossAreaP : Prop := ∀ (l0 : List (S23)), l0.length ≤ maxLen → l0.length * 16 ≤ 140737488351232 → (∀ x ∈ l0, (Lit.int .i64 x.f0).wf = true ∧ (Lit.int .i64 x.f1).wf = true) → ∃ k, tangramlaw26_CrossArea.f k l0 = some true
theorem CrossArea : CrossAreaP := by
  intro l _ hl _
  refine Ev.out (?_ : Ev (fun k => tangramlaw26_CrossArea.f k l) true)
  unfold tangramlaw26_CrossArea.f
  refine Ev.andThen awake_ev (Ev.pos rfl (Ev.andThen' (points_eq l (by omega)) (Ev.andThen (area_ev l (by omega)) (Ev.andThen (area2_ev l (by omega)) (Ev.pos rfl (Ev.val ?_))))))
  rw [beq_self_eq_true]
end Go.Proofs.Ythfoliejhdpbaaa.Pure
