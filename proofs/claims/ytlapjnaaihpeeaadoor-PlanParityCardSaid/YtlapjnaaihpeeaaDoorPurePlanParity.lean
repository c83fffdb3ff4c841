/- The plain law of PlanParity: if data shards stay, of fine ones parity shards alone are written, and dropped; to the same params nothing is. -/
import Derived.Test.YtlapjnaaihpeeaaDoorXPl17
import Derived.Test.YtlapjnaaihpeeaaDoorGp_plan
import Derived.Test.YtlapjnaaihpeeaaDoorGp_plan2
import Derived.Test.YtlapjnaaihpeeaaDoorGp_plan3
namespace Go.Proofs.YtlapjnaaihpeeaaDoor.Pure
open Go.RowKit Go.Proofs.YtlapjnaaihpeeaaDoor.XPl Go.Proofs.YtlapjnaaihpeeaaDoorW.PrintWords Go.Proofs.YtlapjnaaihpeeaaDoorW.PrintLast Go.Proofs.YtlapjnaaihpeeaaDoorW.PrintMore
def gambrellaw22_PlanParity.Pure : Prop := ∀ (a0_0 : Int) (a0_1 : Int) (a0_2 : Int) (a1_0 : Int) (a1_1 : Int) (a1_2 : Int), (Lit.int .u8 a0_0).wf = true → (Lit.int .u8 a0_1).wf = true → (Lit.int .u8 a0_2).wf = true → (Lit.int .u8 a1_0).wf = true → (Lit.int .u8 a1_1).wf = true → (Lit.int .u8 a1_2).wf = true → ∃ k, gambrellaw22_PlanParity.f k a0_0 a0_1 a0_2 a1_0 a1_1 a1_2 = some true
theorem PlanParity : gambrellaw22_PlanParity.Pure := by
  intro a b c a' b' c' ha hb hc ha' hb' hc'
  refine ⟨199, ?_⟩
  obtain ⟨p, K, M, hx, hp⟩ := some_tells a b c ha hb hc
  obtain ⟨p', K', M', hy, hq'⟩ := some_tells a' b' c' ha' hb' hc'
  obtain ⟨p1, p6, K1, K8, M1, M4, -⟩ := (pmayB_iff p K M).1 hp
  obtain ⟨p1', p6', K1', K8', M1', M4', M3'⟩ := (pmayB_iff p' K' M').1 hq'
  have hq : pmayB p' K M' = true := (pmayB_iff p' K M').2 ⟨p1', p6', K1, K8, M1', M4', M3'⟩
  obtain ⟨l, hl, hl1, hl0⟩ := states_tells p K M 15 0 199 hp (by omega)
  have w1 : wrap64 (K + M) = K + M := by unfold wrap64; omega
  unfold gambrellaw22_PlanParity.f
  rw [gambrellaw22_awake.at199, hx, hy]
  simp only [Option.bind_some]
  rw [hl]
  simp only [Option.bind_some]
  rw [progPlan _ _ _ _ _ _ _ _ _ (by omega), progPlan _ _ _ _ _ _ _ _ _ (by omega)]
  simp only [Option.bind_some]
  rw [refSet _ p' K M' 199 abc_may hq (by omega)]
  simp only [Option.bind_some]
  rw [planOf_fine _ p K M l p' K M' abc_may hp hq hl1 (hl0 rfl), planOf_fine _ p K M l p K M abc_may hp hp hl1 (hl0 rfl), drop_self _ p K M hp]
  simp only [List.length_nil, decide_true, Bool.and_self, Bool.true_and, Bool.not_true, if_true, Int.ofNat_zero]
  simp only [gambrellaw22_PlanParity.j0, Bool.false_eq_true, if_false, if_true]
  have strs : ∀ l : List ByteArray, l.length ≤ 100 → gambrelref15_Strings.f 198 l l = some true := fun l hl => strings_same l 198 (by omega) (by omega)
  by_cases hlay : lay p = lay p'
  · rw [decide_eq_true hlay, if_pos rfl]
    by_cases hsame : p = p' ∧ M = M'
    · obtain ⟨rfl, rfl⟩ := hsame
      rw [drop_self _ p K M hp]
      simp [eqT23]
    · have hd : (decide (p = p') && decide (M = M')) = false := by
        cases e : (decide (p = p') && decide (M = M')) with
        | false => rfl
        | true => exact absurd (by simpa using e) hsame
      rw [hd, drop_parity _ p K M p' M' hp hq hlay hsame, drop_parity _ p' K M' p M hq hp hlay.symm (fun h => hsame ⟨h.1.symm, h.2.symm⟩), setN_len, setN_drop _ p' K M' hq]
      rw [if_neg (by simp), if_pos (by omega), if_pos (by omega), strs _ (by rw [parN_len]; omega)]
      simp only [Option.bind_some, if_true, parN_len]
      rw [show ((M.toNat : Nat) : Int) = M by omega]
      simp
  · rw [decide_eq_false hlay, if_neg (by simp), drop_apart _ p K M p' K M' hp hq hlay, drop_apart _ p' K M' p K M hq hp (fun h => hlay h.symm), strs _ (by rw [setN_len]; omega)]
    simp only [Option.bind_some, if_true, setN_len, w1]
    rw [show (((K + M).toNat : Nat) : Int) = K + M by omega]
    simp
end Go.Proofs.YtlapjnaaihpeeaaDoor.Pure
