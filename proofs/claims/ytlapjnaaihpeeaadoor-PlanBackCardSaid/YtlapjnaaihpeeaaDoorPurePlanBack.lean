/- The plain law of PlanBack: forth and back, of fine shards, what was written is dropped, and what was dropped is written. -/
import Derived.Test.YtlapjnaaihpeeaaDoorXPl18
import Derived.Test.YtlapjnaaihpeeaaDoorGp_plan
import Derived.Test.YtlapjnaaihpeeaaDoorGp_plan2
import Derived.Test.YtlapjnaaihpeeaaDoorGp_plan3
namespace Go.Proofs.YtlapjnaaihpeeaaDoor.Pure
open Go.RowKit Go.Proofs.YtlapjnaaihpeeaaDoor.XPl Go.Proofs.YtlapjnaaihpeeaaDoorW.PrintWords Go.Proofs.YtlapjnaaihpeeaaDoorW.PrintLast Go.Proofs.YtlapjnaaihpeeaaDoorW.PrintMore
def gambrellaw22_PlanBack.Pure : Prop := ∀ (a0_0 : Int) (a0_1 : Int) (a0_2 : Int) (a1_0 : Int) (a1_1 : Int) (a1_2 : Int), (Lit.int .u8 a0_0).wf = true → (Lit.int .u8 a0_1).wf = true → (Lit.int .u8 a0_2).wf = true → (Lit.int .u8 a1_0).wf = true → (Lit.int .u8 a1_1).wf = true → (Lit.int .u8 a1_2).wf = true → ∃ k, gambrellaw22_PlanBack.f k a0_0 a0_1 a0_2 a1_0 a1_1 a1_2 = some true
theorem PlanBack : gambrellaw22_PlanBack.Pure := by
  intro a b c a' b' c' ha hb hc ha' hb' hc'
  refine ⟨199, ?_⟩
  obtain ⟨p, K, M, hx, hp⟩ := some_tells a b c ha hb hc
  obtain ⟨p', K', M', hy, hq⟩ := some_tells a' b' c' ha' hb' hc'
  obtain ⟨-, -, K1, K8, M1, M4, -⟩ := (pmayB_iff p K M).1 hp
  obtain ⟨-, -, K1', K8', M1', M4', -⟩ := (pmayB_iff p' K' M').1 hq
  obtain ⟨l, hl, hl1, hl0⟩ := states_tells p K M 15 0 199 hp (by omega)
  obtain ⟨m, hm, hm1, hm0⟩ := states_tells p' K' M' 15 0 199 hq (by omega)
  unfold gambrellaw22_PlanBack.f
  rw [gambrellaw22_awake.at199, hx, hy]
  simp only [Option.bind_some]
  rw [hl]
  simp only [Option.bind_some]
  rw [progPlan _ _ _ _ _ _ _ _ _ (by omega), hm]
  simp only [Option.bind_some]
  rw [progPlan _ _ _ _ _ _ _ _ _ (by omega)]
  simp only [Option.bind_some]
  rw [planOf_fine _ p K M l p' K' M' abc_may hp hq hl1 (hl0 rfl), planOf_fine _ p' K' M' m p K M abc_may hq hp hm1 (hm0 rfl)]
  simp only [if_true]
  rw [strings_same _ 199 (Nat.le_trans (List.length_filter_le _ _) (by rw [setN_len]; omega)) (Nat.lt_of_le_of_lt (List.length_filter_le _ _) (by rw [setN_len]; omega)),
    strings_same _ 199 (Nat.le_trans (List.length_filter_le _ _) (by rw [setN_len]; omega)) (Nat.lt_of_le_of_lt (List.length_filter_le _ _) (by rw [setN_len]; omega))]
  simp only [Option.bind_some, if_true]
  have e1 : (decide (K = K') && decide (lay p = lay p')) = (decide (K' = K) && decide (lay p' = lay p)) := by rw [decide_eq_decide.2 (eq_comm (a := K)), decide_eq_decide.2 (eq_comm (a := lay p))]
  have e2 : (decide (p = p') && (decide (K = K') && decide (M = M'))) = (decide (p' = p) && (decide (K' = K) && decide (M' = M))) := by rw [decide_eq_decide.2 (eq_comm (a := K)), decide_eq_decide.2 (eq_comm (a := p)), decide_eq_decide.2 (eq_comm (a := M))]
  rw [e1, e2]
  simp
end Go.Proofs.YtlapjnaaihpeeaaDoor.Pure
