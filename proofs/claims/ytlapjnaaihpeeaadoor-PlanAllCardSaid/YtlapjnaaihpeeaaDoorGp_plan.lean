-- WRITTEN BY this work's own program (wip/tools/xprint.py). Not trusted: Lean checks it.
import Derived.Test.YtlapjnaaihpeeaaDoorXPl0
import Derived.Test.YtlapjnaaihpeeaaDoorXPl13
import Derived.Test.YtlapjnaaihpeeaaDoorGix
import Derived.Test.YtlapjnaaihpeeaaDoorGp_names
import Derived.Test.YtlapjnaaihpeeaaDoorGp_sets
import Derived.Test.YtlapjnaaihpeeaaDoorGplan_Of
import Derived.Test.YtlapjnaaihpeeaaDoorGplan_Ofc
namespace Go.Proofs.YtlapjnaaihpeeaaDoor.XPl
open Go.RowKit Go.Proofs.YtlapjnaaihpeeaaDoorW.PrintWords Go.Proofs.YtlapjnaaihpeeaaDoorW.PrintLast Go.Proofs.YtlapjnaaihpeeaaDoorW.PrintMore
attribute [local go_sem] max2_int min2_int max_two min_two max_three min_three max_four min_four   -- for this text's walks alone
set_option linter.unusedVariables false
set_option linter.unusedSimpArgs false

/-! The plain law of plan: the program's plan is the document's. -/
theorem bytes_eq_iff {a b : ByteArray} : a.toList = b.toList ↔ a = b := by
  rw [ByteArray.toList_eq, ByteArray.toList_eq]
  exact ⟨fun h => bytes_ext h, fun h => by rw [h]⟩
instance decBytes : DecidableEq ByteArray := fun a b => decidable_of_iff (a.data.toList = b.data.toList) ⟨bytes_ext, fun h => by rw [h]⟩
instance decMem (s : ByteArray) (l : List ByteArray) : Decidable (s ∈ l) := @List.instDecidableMemOfLawfulBEq ByteArray (@instBEqOfDecidableEq ByteArray decBytes) inferInstance s l
theorem rdOf_at (l : List ByteArray) (i : Nat) (h : i < l.length) : rdOf ByteArray.empty l (i : Int) = l[i] := by
  simp [rdOf, List.getD_eq_getElem?_getD, h]
theorem ix_tells : ∀ (n : Nat) {l : List ByteArray} (s : ByteArray), l.length = n → (ix l s = none → s ∉ l) ∧ (∀ i, ix l s = some i → l[i]? = some s)
  | 0, l, s, hl => by
    obtain rfl := List.eq_nil_of_length_eq_zero hl
    exact ⟨fun _ => by simp, fun i h => by simp [ix_nil] at h⟩
  | n + 1, l, s, hl => by
    rcases List.eq_nil_or_concat l with rfl | ⟨l', x, rfl⟩
    · simp at hl
    · rw [List.concat_eq_append] at hl ⊢
      have hl' : l'.length = n := by simpa using hl
      obtain ⟨h1, h2⟩ := ix_tells n s hl'
      rw [ix_snoc]
      by_cases hx : x = s
      · rw [if_pos hx]
        refine ⟨fun h => by simp at h, fun i h => ?_⟩
        obtain rfl := Option.some.inj h
        rw [List.getElem?_append_right (Nat.le_refl _)]
        simp [hx]
      · rw [if_neg hx]
        refine ⟨fun h => ?_, fun i h => ?_⟩
        · simp only [List.mem_append, List.mem_singleton, not_or]
          exact ⟨h1 h, fun e => hx e.symm⟩
        · have := h2 i h
          rw [List.getElem?_append_left (List.getElem?_eq_some_iff.1 this).1]
          exact this
theorem ix_of_at {l : List ByteArray} (hn : l.Nodup) {s : ByteArray} {i : Nat} (h : l[i]? = some s) : ix l s = some i := by
  cases e : ix l s with
  | none => exact absurd (List.mem_of_getElem? h) ((ix_tells _ s rfl).1 e)
  | some j =>
    have hj := (ix_tells _ s rfl).2 j e
    obtain ⟨hi1, hi2⟩ := List.getElem?_eq_some_iff.1 h
    obtain ⟨hj1, hj2⟩ := List.getElem?_eq_some_iff.1 hj
    have hp := List.pairwise_iff_getElem.1 (List.nodup_iff_pairwise_ne.1 hn)
    rcases Nat.lt_trichotomy i j with h3 | h3 | h3
    · exact absurd (hi2.trans hj2.symm) (hp i j hi1 hj1 h3)
    · rw [h3]
    · exact absurd (hj2.trans hi2.symm) (hp j i hj1 hi1 h3)
theorem ix_of_not {l : List ByteArray} {s : ByteArray} (h : s ∉ l) : ix l s = none := by
  cases e : ix l s with
  | none => rfl
  | some j => exact absurd (List.mem_of_getElem? ((ix_tells _ s rfl).2 j e)) h
/-- A plan, told. -/
def planOf (s : ByteArray) (p K M : Int) (st : List Int) (p' K' M' : Int) : Bool × Bool × List ByteArray × List ByteArray × Int :=
  if mayB s && pmayB p K M && pmayB p' K' M' && decide ((st.length : Int) = K + M) then
    (decide (p = p') && (decide (K = K') && decide (M = M')), decide (K = K') && decide (lay p = lay p'), (setN s p' K' M' (K' + M').toNat).filter (toWrite (setN s p K M (K + M).toNat) st), (setN s p K M (K + M).toNat).filter (toDrop (setN s p' K' M' (K' + M').toNat)), 0)
  else (false, false, [], [], 1)
theorem progPlan (s : ByteArray) (p K M : Int) (st : List Int) (p' K' M' : Int) (k : Nat) (hk : 60 ≤ k) : plan_Of.f k s p K M st p' K' M' = some (planOf s p K M st p' K' M') := by
  unfold plan_Of.f planOf
  cases h : mayB s && pmayB p K M with
  | false =>
    rw [progSet_not s p K M k h (by omega)]
    simp
  | true =>
    obtain ⟨hs, hp⟩ := Bool.and_eq_true_iff.1 h
    obtain ⟨p1, p6, K1, K8, M1, M4, -⟩ := (pmayB_iff p K M).1 hp
    rw [progSet s p K M k hs hp (by omega)]
    simp only [Option.bind_some, if_true, setN_len, Bool.true_and]
    by_cases hl : (st.length : Int) = ((K + M).toNat : Int)
    · have hl' : (st.length : Int) = K + M := by omega
      rw [if_pos hl, decide_eq_true hl']
      cases hq : pmayB p' K' M' with
      | false =>
        rw [progSet_not s p' K' M' k (by simp [hq]) (by omega)]
        simp
      | true =>
        obtain ⟨p1', p6', -⟩ := (pmayB_iff p' K' M').1 hq
        rw [progSet s p' K' M' k hs hq (by omega)]
        simp only [Option.bind_some, if_true]
        rw [if_pos (setN_small s p K M hs hp), if_pos (setN_small s p' K' M' hs hq), layoutOf_eq p p1 p6, layoutOf_eq p' p1' p6']
        simp
    · have hl' : ¬ (st.length : Int) = K + M := by omega
      rw [if_neg hl, decide_eq_false hl']
      simp
theorem same_loop (l : List ByteArray) (hl : l.length ≤ 1000) (d : Nat) : ∀ (k i : Nat), i ≤ l.length → l.length - i = d → d < k → gambrelref15_Strings.l0 k l l (i : Int) = some true := by
  induction d with
  | zero =>
    intro k i hi hd hk
    obtain ⟨k, rfl⟩ : ∃ m, k = m + 1 := ⟨k - 1, by omega⟩
    simp only [gambrelref15_Strings.l0]
    rw [if_neg (by omega)]
  | succ d ih =>
    intro k i hi hd hk
    obtain ⟨k, rfl⟩ : ∃ m, k = m + 1 := ⟨k - 1, by omega⟩
    simp only [gambrelref15_Strings.l0]
    rw [if_pos (by omega), if_pos (by omega), if_pos (by omega), if_pos trivial, show wrap64 ((i : Int) + 1) = ((i + 1 : Nat) : Int) by unfold wrap64; omega]
    exact ih k (i + 1) (by omega) (by omega) (by omega)
theorem strings_same (l : List ByteArray) (k : Nat) (hl : l.length ≤ 1000) (hk : l.length < k) : gambrelref15_Strings.f k l l = some true := by
  unfold gambrelref15_Strings.f
  rw [if_pos rfl]
  exact same_loop l hl l.length k 0 (by omega) (by omega) hk
theorem planOf_len (s : ByteArray) (p K M : Int) (st : List Int) (p' K' M' : Int) : (planOf s p K M st p' K' M').2.2.1.length ≤ 12 ∧ (planOf s p K M st p' K' M').2.2.2.1.length ≤ 12 := by
  unfold planOf
  split
  · rename_i h
    simp only [Bool.and_eq_true, decide_eq_true_eq] at h
    obtain ⟨⟨⟨-, hp⟩, hq⟩, -⟩ := h
    obtain ⟨-, -, K1, K8, M1, M4, -⟩ := (pmayB_iff p K M).1 hp
    obtain ⟨-, -, K1', K8', M1', M4', -⟩ := (pmayB_iff p' K' M').1 hq
    refine ⟨Nat.le_trans (List.length_filter_le _ _) (by rw [setN_len]; omega), Nat.le_trans (List.length_filter_le _ _) (by rw [setN_len]; omega)⟩
  · simp

end Go.Proofs.YtlapjnaaihpeeaaDoor.XPl
