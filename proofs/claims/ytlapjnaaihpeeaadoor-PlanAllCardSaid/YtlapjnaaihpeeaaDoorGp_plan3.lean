-- WRITTEN BY this work's own program (wip/tools/xprint.py). Not trusted: Lean checks it.
import Derived.Test.YtlapjnaaihpeeaaDoorXPl0
import Derived.Test.YtlapjnaaihpeeaaDoorGp_names
import Derived.Test.YtlapjnaaihpeeaaDoorGp_plan
import Derived.Test.YtlapjnaaihpeeaaDoorGp_plan2
import Derived.Test.YtlapjnaaihpeeaaDoorGp_sets
import Derived.Test.YtlapjnaaihpeeaaDoorGplan_Ofc
namespace Go.Proofs.YtlapjnaaihpeeaaDoor.XPl
open Go.RowKit Go.Proofs.YtlapjnaaihpeeaaDoorW.PrintWords Go.Proofs.YtlapjnaaihpeeaaDoorW.PrintLast Go.Proofs.YtlapjnaaihpeeaaDoorW.PrintMore
attribute [local go_sem] max2_int min2_int max_two min_two max_three min_three max_four min_four   -- for this text's walks alone
set_option linter.unusedVariables false
set_option linter.unusedSimpArgs false

/-! The plain law of plan: which names two sets share. -/
theorem tagL_inj (p p' : Int) (h1 : 1 ≤ p) (h6 : p ≤ 6) (h1' : 1 ≤ p') (h6' : p' ≤ 6) (h : tagL p = tagL p') : p = p' := by
  have a : p = 1 ∨ p = 2 ∨ p = 3 ∨ p = 4 ∨ p = 5 ∨ p = 6 := by omega
  have b : p' = 1 ∨ p' = 2 ∨ p' = 3 ∨ p' = 4 ∨ p' = 5 ∨ p' = 6 := by omega
  rcases a with rfl | rfl | rfl | rfl | rfl | rfl <;> rcases b with rfl | rfl | rfl | rfl | rfl | rfl <;> first | rfl | (exfalso; revert h; decide)
theorem suf_meet (p K M i p' K' M' j : Int) (hp : pmayB p K M = true) (hq : pmayB p' K' M' = true) (h : suf p K M i = suf p' K' M' j) :
    (i < K ∧ j < K' ∧ lay p = lay p' ∧ K = K' ∧ i = j) ∨ (¬ i < K ∧ ¬ j < K' ∧ p = p' ∧ K = K' ∧ M = M' ∧ i = j) := by
  obtain ⟨p1, p6, K1, K8, M1, M4, -⟩ := (pmayB_iff p K M).1 hp
  obtain ⟨p1', p6', K1', K8', M1', M4', -⟩ := (pmayB_iff p' K' M').1 hq
  unfold suf at h
  by_cases a : i < K
  · rw [if_pos a] at h
    by_cases b : j < K'
    · rw [if_pos b] at h
      simp only [List.cons.injEq, and_true, true_and] at h
      exact .inl ⟨a, b, h.1, by omega, by omega⟩
    · rw [if_neg b] at h
      simp at h
  · rw [if_neg a] at h
    by_cases b : j < K'
    · rw [if_pos b] at h
      simp at h
    · rw [if_neg b] at h
      simp only [List.append_assoc] at h
      have h2 := List.append_cancel_left h
      obtain ⟨h3, h4⟩ := List.append_inj h2 (by rw [tagL_len, tagL_len])
      simp only [List.cons.injEq, and_true] at h4
      exact .inr ⟨a, b, tagL_inj p p' p1 p6 p1' p6' h3, by omega, by omega, by omega⟩
theorem shardN_meet (s : ByteArray) (p K M i p' K' M' j : Int) (hp : pmayB p K M = true) (hq : pmayB p' K' M' = true) (hi : 0 ≤ i) (hi1 : i < K + M) (hj : 0 ≤ j) (hj1 : j < K' + M') (h : shardN s p K M i = shardN s p' K' M' j) :
    (i < K ∧ j < K' ∧ lay p = lay p' ∧ K = K' ∧ i = j) ∨ (¬ i < K ∧ ¬ j < K' ∧ p = p' ∧ K = K' ∧ M = M' ∧ i = j) := by
  obtain ⟨p1, p6, K1, K8, M1, M4, -⟩ := (pmayB_iff p K M).1 hp
  obtain ⟨p1', p6', K1', K8', M1', M4', -⟩ := (pmayB_iff p' K' M').1 hq
  unfold shardN at h
  exact suf_meet p K M i p' K' M' j hp hq (strOfNums_inj (suf_range p K M i K1 K8 M1 M4 hi hi1) (suf_range p' K' M' j K1' K8' M1' M4' hj hj1) ((ByteArray.append_right_inj s).1 h))
theorem mem_setN {s : ByteArray} {p K M : Int} {x : ByteArray} (hp : pmayB p K M = true) : x ∈ setN s p K M (K + M).toNat ↔ ∃ i : Int, 0 ≤ i ∧ i < K + M ∧ x = shardN s p K M i := by
  obtain ⟨-, -, K1, K8, M1, M4, -⟩ := (pmayB_iff p K M).1 hp
  unfold setN
  rw [List.mem_map]
  constructor
  · rintro ⟨i, hi, rfl⟩
    simp at hi
    exact ⟨(i : Int), by omega, by omega, rfl⟩
  · rintro ⟨i, h0, h1, rfl⟩
    exact ⟨i.toNat, by simp; omega, by rw [Int.toNat_of_nonneg h0]⟩
def dataN (s : ByteArray) (p K M : Int) : List ByteArray := (List.range K.toNat).map fun (i : Nat) => shardN s p K M (i : Int)
def parN (s : ByteArray) (p K M : Int) : List ByteArray := (List.range M.toNat).map fun (i : Nat) => shardN s p K M (K + (i : Int))
theorem setN_parts (s : ByteArray) (p K M : Int) (hp : pmayB p K M = true) : setN s p K M (K + M).toNat = dataN s p K M ++ parN s p K M := by
  obtain ⟨-, -, K1, K8, M1, M4, -⟩ := (pmayB_iff p K M).1 hp
  unfold setN dataN parN
  rw [show (K + M).toNat = K.toNat + M.toNat by omega, List.range_add, List.map_append, List.map_map]
  congr 1
  apply List.map_congr_left
  intro i _
  simp only [Function.comp]
  rw [show ((K.toNat + i : Nat) : Int) = K + (i : Int) by omega]
theorem dataN_same (s : ByteArray) (p K M p' M' : Int) (h : lay p = lay p') : dataN s p K M = dataN s p' K M' := by
  unfold dataN
  apply List.map_congr_left
  intro i hi
  simp at hi
  unfold shardN suf
  rw [if_pos (by omega), if_pos (by omega), h]
theorem toDrop_of {a : List ByteArray} {x : ByteArray} (hn : a.Nodup) : toDrop a x = decide (x ∉ a) := by
  by_cases h : x ∈ a
  · have : ¬ toDrop a x = true := fun e => (toDrop_iff hn).1 e h
    simp [this, h]
  · rw [(toDrop_iff hn).2 h]
    simp [h]
theorem filter_all {l : List ByteArray} {f : ByteArray → Bool} (h : ∀ x ∈ l, f x = true) : l.filter f = l := List.filter_eq_self.2 h
theorem filter_none {l : List ByteArray} {f : ByteArray → Bool} (h : ∀ x ∈ l, f x = false) : l.filter f = [] := List.filter_eq_nil_iff.2 (fun x hx => by rw [h x hx]; simp)
/-- Of other layouts no name is shared. -/
theorem drop_apart (s : ByteArray) (p K M p' K' M' : Int) (hp : pmayB p K M = true) (hq : pmayB p' K' M' = true) (h : ¬ lay p = lay p') : (setN s p K M (K + M).toNat).filter (toDrop (setN s p' K' M' (K' + M').toNat)) = setN s p K M (K + M).toNat := by
  refine filter_all fun x hx => (toDrop_iff (setN_nodup s p' K' M' hq)).2 fun hm => ?_
  obtain ⟨i, h0, h1, rfl⟩ := (mem_setN hp).1 hx
  obtain ⟨j, h2, h3, h4⟩ := (mem_setN hq).1 hm
  rcases shardN_meet s p K M i p' K' M' j hp hq h0 h1 h2 h3 h4 with ⟨-, -, e, -⟩ | ⟨-, -, e, -⟩
  · exact h e
  · exact h (by rw [e])
/-- Of one layout, and one K, but not the same, parity alone isn't there. -/
theorem drop_parity (s : ByteArray) (p K M p' M' : Int) (hp : pmayB p K M = true) (hq : pmayB p' K M' = true) (h : lay p = lay p') (hne : ¬ (p = p' ∧ M = M')) : (setN s p K M (K + M).toNat).filter (toDrop (setN s p' K M' (K + M').toNat)) = parN s p K M := by
  obtain ⟨-, -, K1, K8, M1, M4, -⟩ := (pmayB_iff p K M).1 hp
  have hn := setN_nodup s p' K M' hq
  conv => lhs; rw [setN_parts s p K M hp]
  rw [List.filter_append]
  have e1 : (dataN s p K M).filter (toDrop (setN s p' K M' (K + M').toNat)) = [] := by
    refine filter_none fun x hx => ?_
    rw [toDrop_of hn]
    have : x ∈ setN s p' K M' (K + M').toNat := by
      rw [setN_parts s p' K M' hq, ← dataN_same s p K M p' M' h]
      exact List.mem_append_left _ hx
    simp [this]
  have e2 : (parN s p K M).filter (toDrop (setN s p' K M' (K + M').toNat)) = parN s p K M := by
    refine filter_all fun x hx => (toDrop_iff hn).2 fun hm => ?_
    obtain ⟨i, hi, rfl⟩ := List.mem_map.1 hx
    simp at hi
    obtain ⟨j, h2, h3, h4⟩ := (mem_setN hq).1 hm
    rcases shardN_meet s p K M (K + (i : Int)) p' K M' j hp hq (by omega) (by omega) h2 h3 h4 with ⟨e, -⟩ | ⟨-, -, e, -, e', -⟩
    · omega
    · exact hne ⟨e, e'⟩
  rw [e1, e2]
  rfl
theorem drop_self (s : ByteArray) (p K M : Int) (hp : pmayB p K M = true) : (setN s p K M (K + M).toNat).filter (toDrop (setN s p K M (K + M).toNat)) = [] := by
  refine filter_none fun x hx => ?_
  rw [toDrop_of (setN_nodup s p K M hp)]
  simp [hx]
theorem parN_len (s : ByteArray) (p K M : Int) : (parN s p K M).length = M.toNat := by simp [parN]
theorem setN_drop (s : ByteArray) (p K M : Int) (hp : pmayB p K M = true) : (setN s p K M (K + M).toNat).drop K.toNat = parN s p K M := by
  rw [setN_parts s p K M hp, List.drop_left' (by simp [dataN])]
/-- The plan where all is fine. -/
theorem planOf_fine (s : ByteArray) (p K M : Int) (st : List Int) (p' K' M' : Int) (hs : mayB s = true) (hp : pmayB p K M = true) (hq : pmayB p' K' M' = true) (hl : st.length = (K + M).toNat) (h0 : ∀ x ∈ st, x = 0) :
    planOf s p K M st p' K' M' = (decide (p = p') && (decide (K = K') && decide (M = M')), decide (K = K') && decide (lay p = lay p'), (setN s p' K' M' (K' + M').toNat).filter (toDrop (setN s p K M (K + M).toNat)), (setN s p K M (K + M).toNat).filter (toDrop (setN s p' K' M' (K' + M').toNat)), 0) := by
  rw [planOf_yes s p K M st p' K' M' hs hp hq hl]
  rw [List.filter_congr (fun x _ => write_fine _ st h0 x)]

end Go.Proofs.YtlapjnaaihpeeaaDoor.XPl
