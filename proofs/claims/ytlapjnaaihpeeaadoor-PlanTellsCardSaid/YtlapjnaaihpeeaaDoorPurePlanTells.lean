/- The plain law of PlanTells: the program's plan is the document's, at every input. -/
import Derived.Test.YtlapjnaaihpeeaaDoorXPl14
import Derived.Test.YtlapjnaaihpeeaaDoorGp_plan
import Derived.Test.YtlapjnaaihpeeaaDoorGp_plan22
import Derived.KernelRfl
namespace Go.Proofs.YtlapjnaaihpeeaaDoor.Pure
open Go.RowKit Go.Proofs.YtlapjnaaihpeeaaDoor.XPl Go.Proofs.YtlapjnaaihpeeaaDoorW.PrintWords Go.Proofs.YtlapjnaaihpeeaaDoorW.PrintLast Go.Proofs.YtlapjnaaihpeeaaDoorW.PrintMore
def gambrellaw22_PlanTells.Pure : Prop := ∀ (a0 : ByteArray) (a1_0 : Int) (a1_1 : Int) (a1_2 : Int) (a1_3 : Int) (a1_4 : Int) (a1_5 : Int) (l2 : List Int), a0.size ≤ 140737488351232 → (Lit.int .i64 a1_0).wf = true → (Lit.int .i64 a1_1).wf = true → (Lit.int .i64 a1_2).wf = true → (Lit.int .i64 a1_3).wf = true → (Lit.int .i64 a1_4).wf = true → (Lit.int .i64 a1_5).wf = true → l2.length ≤ maxLen → l2.length * 8 ≤ 140737488351232 → (∀ x ∈ l2, (Lit.int .i64 x).wf = true) → ∃ k, gambrellaw22_PlanTells.f k a0 a1_0 a1_1 a1_2 a1_3 a1_4 a1_5 l2 = some true
theorem awake : gambrellaw22_awake.f 199 = some true := by kernel_rfl
theorem awake' : gambrellaw22_awake.f 200 = some true := gambrellaw22_awake.mono 199 _ awake
theorem PlanTells : gambrellaw22_PlanTells.Pure := by
  intro a0 p K M p' K' M' l2 _ _ _ _ _ _ _ _ _ _
  refine ⟨200, ?_⟩
  have hj : gambrellaw22_PlanTells.j0 200 a0 l2 true false p K M p' K' M' = some true := by
    simp only [gambrellaw22_PlanTells.j0, Bool.false_eq_true, if_false]
    rw [progPlan _ _ _ _ _ _ _ _ _ (by omega), refPlan _ _ _ _ _ _ _ _ _ (by omega)]
    simp only [Option.bind_some, if_true]
    obtain ⟨h1, h2⟩ := planOf_len a0 p K M l2 p' K' M'
    rw [same_plan _ _ h1 h2 (by omega)]
    simp
  have hj' : gambrellaw22_PlanTells.j0 200 a0 l2 true true p K M p' K' M' = some true := by
    simp only [gambrellaw22_PlanTells.j0, if_true]
  unfold gambrellaw22_PlanTells.f
  rw [awake']
  simp only [Option.bind_some]
  by_cases h : (a0.size : Int) > 60
  · rw [if_pos h, hj']
  · rw [if_neg h]
    by_cases h2 : (l2.length : Int) > 30
    · rw [decide_eq_true h2, hj']
    · rw [decide_eq_false h2, hj]
end Go.Proofs.YtlapjnaaihpeeaaDoor.Pure
