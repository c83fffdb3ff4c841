/- The plain law of PlanAll: to write is each new name that is not an old one with a fine shard; to drop is each old name that is no new one. -/
import Derived.Test.YtlapjnaaihpeeaaDoorXPl16
import Derived.Test.YtlapjnaaihpeeaaDoorGp_plan
import Derived.Test.YtlapjnaaihpeeaaDoorGp_plan2
import Derived.Test.YtlapjnaaihpeeaaDoorGp_plan3
import Derived.Test.YtlapjnaaihpeeaaDoorGp_planall
namespace Go.Proofs.YtlapjnaaihpeeaaDoor.Pure
open Go.RowKit Go.Proofs.YtlapjnaaihpeeaaDoor.XPl Go.Proofs.YtlapjnaaihpeeaaDoorW.PrintWords Go.Proofs.YtlapjnaaihpeeaaDoorW.PrintLast Go.Proofs.YtlapjnaaihpeeaaDoorW.PrintMore
def gambrellaw22_PlanAll.Pure : Prop := ∀ (a0_0 : Int) (a0_1 : Int) (a0_2 : Int) (a1_0 : Int) (a1_1 : Int) (a1_2 : Int) (a2_0 : Int) (a2_1 : Int), (Lit.int .u8 a0_0).wf = true → (Lit.int .u8 a0_1).wf = true → (Lit.int .u8 a0_2).wf = true → (Lit.int .u8 a1_0).wf = true → (Lit.int .u8 a1_1).wf = true → (Lit.int .u8 a1_2).wf = true → (Lit.int .u8 a2_0).wf = true → (Lit.int .u8 a2_1).wf = true → ∃ k, gambrellaw22_PlanAll.f k a0_0 a0_1 a0_2 a1_0 a1_1 a1_2 a2_0 a2_1 = some true
theorem awake_more (n : Nat) : gambrellaw22_awake.f (199 + n) = some true := by
  induction n with
  | zero => exact gambrellaw22_awake.at199
  | succ n ih => exact gambrellaw22_awake.mono _ _ ih
theorem write_iff {a : List ByteArray} {st : List Int} {s : ByteArray} (hn : a.Nodup) (hl : st.length = a.length) : toWrite a st s = true ↔ ¬ ∃ q : Nat, a[q]? = some s ∧ st[q]? = some 0 := by
  unfold toWrite
  cases e : ix a s with
  | none =>
    have hm := (ix_tells _ s rfl).1 e
    refine ⟨fun _ ⟨q, h1, _⟩ => hm (List.mem_of_getElem? h1), fun _ => rfl⟩
  | some j =>
    have hj := (ix_tells _ s rfl).2 j e
    have hlt : j < a.length := (List.getElem?_eq_some_iff.1 hj).1
    have hj2 : j < st.length := by omega
    have hrd : rd st (j : Int) = st[j] := by simp [rd, List.getD_eq_getElem?_getD, hj2]
    constructor
    · rintro h ⟨q, h1, h2⟩
      have hq : ix a s = some q := ix_of_at hn h1
      rw [e] at hq
      cases hq
      rw [List.getElem?_eq_getElem hj2] at h2
      simp [hrd, Option.some.inj h2] at h
    · intro h
      have : ¬ st[j] = 0 := fun h0 => h ⟨j, hj, by rw [List.getElem?_eq_getElem hj2, h0]⟩
      simp [hrd, this]
theorem PlanAll : gambrellaw22_PlanAll.Pure := by
  intro a b c a' b' c' o0 o1 ha hb hc ha' hb' hc' _ _
  obtain ⟨k, hk, aw⟩ : ∃ k, 399 ≤ k ∧ gambrellaw22_awake.f k = some true := ⟨199 + 200, by omega, awake_more 200⟩
  refine ⟨k, ?_⟩
  obtain ⟨p, K, M, hx, hp⟩ := some_tells a b c ha hb hc
  obtain ⟨p', K', M', hy, hq⟩ := some_tells a' b' c' ha' hb' hc'
  obtain ⟨p1, p6, K1, K8, M1, M4, -⟩ := (pmayB_iff p K M).1 hp
  obtain ⟨p1', p6', K1', K8', M1', M4', -⟩ := (pmayB_iff p' K' M').1 hq
  obtain ⟨l, hl, hl1, -⟩ := states_tells p K M o0 o1 k hp (by omega)
  unfold gambrellaw22_PlanAll.f
  rw [aw, hx, hy]
  simp only [Option.bind_some]
  rw [hl]
  simp only [Option.bind_some]
  rw [progPlan _ _ _ _ _ _ _ _ _ (by omega)]
  simp only [Option.bind_some]
  have e1 := refSet _ p K M k abc_may hp (by omega)
  have e2 := refSet _ p' K' M' k abc_may hq (by omega)
  have e3 := planOf_yes _ p K M l p' K' M' abc_may hp hq hl1
  rw [e1, e2, e3]
  clear e1 e2 e3 hx hy hl
  simp only [Option.bind_some]
  have nA := setN_nodup (⟨#[97, 98, 99]⟩ : ByteArray) p K M hp
  have nB := setN_nodup (⟨#[97, 98, 99]⟩ : ByteArray) p' K' M' hq
  have eA := setN_len (⟨#[97, 98, 99]⟩ : ByteArray) p K M (K + M).toNat
  have eB := setN_len (⟨#[97, 98, 99]⟩ : ByteArray) p' K' M' (K' + M').toNat
  generalize setN (⟨#[97, 98, 99]⟩ : ByteArray) p K M (K + M).toNat = A at *
  generalize setN (⟨#[97, 98, 99]⟩ : ByteArray) p' K' M' (K' + M').toNat = B at *
  have lW := List.length_filter_le (toWrite A l) B
  have lD := List.length_filter_le (toDrop B) A
  refine all_loop l 0 A B _ _ _ _ (by omega) (by omega) (by omega) (by omega) rfl lW lD ?_ ?_ B.length k 0 (by omega) (by omega) (by omega)
  · intro i hi
    have hm : A[i] ∈ A := List.getElem_mem hi
    by_cases h : A[i] ∈ B
    · have : ¬ toDrop B A[i] = true := fun e => (toDrop_iff nB).1 e h
      rw [decide_eq_true h, decide_eq_false (fun e => this (List.mem_filter.1 e).2)]
      decide
    · rw [decide_eq_false h, decide_eq_true (List.mem_filter.2 ⟨hm, (toDrop_iff nB).2 h⟩)]
      decide
  · intro i hi
    have hm : B[i] ∈ B := List.getElem_mem hi
    rw [← write_iff nA (by omega)]
    exact ⟨fun h => (List.mem_filter.1 h).2, fun h => List.mem_filter.2 ⟨hm, h⟩⟩
end Go.Proofs.YtlapjnaaihpeeaaDoor.Pure
