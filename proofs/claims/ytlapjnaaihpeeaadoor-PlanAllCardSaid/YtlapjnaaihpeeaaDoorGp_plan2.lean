-- WRITTEN BY this work's own program (wip/tools/xprint.py). Not trusted: Lean checks it.
import Derived.Test.YtlapjnaaihpeeaaDoorXPl0
import Derived.Test.YtlapjnaaihpeeaaDoorXPl15
import Derived.Test.YtlapjnaaihpeeaaDoorGix
import Derived.Test.YtlapjnaaihpeeaaDoorGp_names
import Derived.Test.YtlapjnaaihpeeaaDoorGp_plan
import Derived.Test.YtlapjnaaihpeeaaDoorGp_sets
import Derived.Test.YtlapjnaaihpeeaaDoorGplan_Ofc
import Derived.OpenShut
namespace Go.Proofs.YtlapjnaaihpeeaaDoor.XPl
open Go.RowKit Go.Proofs.YtlapjnaaihpeeaaDoorW.PrintWords Go.Proofs.YtlapjnaaihpeeaaDoorW.PrintLast Go.Proofs.YtlapjnaaihpeeaaDoorW.PrintMore
attribute [local go_sem] max2_int min2_int max_two min_two max_three min_three max_four min_four   -- for this text's walks alone
set_option linter.unusedVariables false
set_option linter.unusedSimpArgs false

/-! The plain law of plan: what the stage's theorems speak of. -/
theorem some_tells (a b c : Int) (ha : (Lit.int .u8 a).wf = true) (hb : (Lit.int .u8 b).wf = true) (hc : (Lit.int .u8 c).wf = true) : ∃ p K M, gambrelref09_Some.f a b c = some (p, K, M) ∧ pmayB p K M = true := by
  have ha' : 0 ≤ a ∧ a ≤ 255 := bounds_u8 ha
  have hb' : 0 ≤ b ∧ b ≤ 255 := bounds_u8 hb
  have hc' : 0 ≤ c ∧ c ≤ 255 := bounds_u8 hc
  have wa : wrap64 a = a := by unfold wrap64; omega
  have wb : wrap64 b = b := by unfold wrap64; omega
  have wc : wrap64 c = c := by unfold wrap64; omega
  have ta : Int.tmod a 6 = a % 6 := Int.tmod_eq_emod_of_nonneg ha'.1
  have tb : Int.tmod b 8 = b % 8 := Int.tmod_eq_emod_of_nonneg hb'.1
  have wp : wrap64 (1 + a % 6) = 1 + a % 6 := by unfold wrap64; omega
  have wk : wrap64 (1 + b % 8) = 1 + b % 8 := by unfold wrap64; omega
  unfold gambrelref09_Some.f
  rw [wa, wb, wc, ta, tb, wp, wk, of_valid (1 + a % 6) (by omega) (by omega)]
  simp only [Option.bind_some]
  by_cases h3 : 1 + a % 6 = 3
  · rw [if_pos h3, if_neg (by omega), Int.tmod_eq_emod_of_nonneg hc'.1, show wrap64 (1 + c % 3) = 1 + c % 3 by unfold wrap64; omega]
    exact ⟨_, _, _, rfl, (pmayB_iff _ _ _).2 ⟨by omega, by omega, by omega, by omega, by omega, by omega, fun _ => by omega⟩⟩
  · rw [if_neg h3, if_neg (by omega), Int.tmod_eq_emod_of_nonneg hc'.1, show wrap64 (1 + c % 4) = 1 + c % 4 by unfold wrap64; omega]
    exact ⟨_, _, _, rfl, (pmayB_iff _ _ _).2 ⟨by omega, by omega, by omega, by omega, by omega, by omega, fun h => absurd h h3⟩⟩
theorem states_loop (odd st p K M : Int) (hk1 : 1 ≤ K) (hk8 : K ≤ 8) (hm1 : 1 ≤ M) (hm4 : M ≤ 4) (d : Nat) : ∀ (k i : Nat) (acc : List Int), (i : Int) ≤ K + M → (K + M).toNat - i = d → d < k → acc.length = i →
    ∃ l, gambrellaw22_states.l0 k odd st acc (i : Int) p K M = some l ∧ l.length = (K + M).toNat ∧ (odd = 15 → (∀ x ∈ acc, x = 0) → ∀ x ∈ l, x = 0) := by
  have w1 : wrap64 (K + M) = K + M := by unfold wrap64; omega
  induction d with
  | zero =>
    intro k i acc hi hd hk ha
    obtain ⟨k, rfl⟩ : ∃ m, k = m + 1 := ⟨k - 1, by omega⟩
    refine ⟨acc, ?_, by omega, fun _ h => h⟩
    simp only [gambrellaw22_states.l0]
    rw [w1, if_neg (by omega)]
  | succ d ih =>
    intro k i acc hi hd hk ha
    obtain ⟨k, rfl⟩ : ∃ m, k = m + 1 := ⟨k - 1, by omega⟩
    have hw : wrap64 ((i : Int) + 1) = ((i + 1 : Nat) : Int) := by unfold wrap64; omega
    simp only [gambrellaw22_states.l0]
    rw [w1, if_pos (by omega), hw]
    by_cases ho : (i : Int) = Int.tmod (wrap64 odd) 16
    · rw [if_pos ho, if_pos (by omega)]
      obtain ⟨l, h1, h2, -⟩ := ih k (i + 1) (acc ++ [Int.tmod (wrap64 st) 3]) (by omega) (by omega) (by omega) (by simp; omega)
      refine ⟨l, h1, h2, fun h15 => ?_⟩
      subst h15
      have : Int.tmod (wrap64 15) 16 = 15 := by rw [show wrap64 15 = 15 by unfold wrap64; omega]; rfl
      omega
    · rw [if_neg ho, if_pos (by omega)]
      obtain ⟨l, h1, h2, h3⟩ := ih k (i + 1) (acc ++ [0]) (by omega) (by omega) (by omega) (by simp; omega)
      refine ⟨l, h1, h2, fun h15 h0 => h3 h15 (fun x hx => ?_)⟩
      simp only [List.mem_append, List.mem_singleton] at hx
      rcases hx with hx | hx
      · exact h0 x hx
      · exact hx
theorem states_tells (p K M odd st : Int) (k : Nat) (hp : pmayB p K M = true) (hk : 20 ≤ k) : ∃ l, gambrellaw22_states.f k p K M odd st = some l ∧ l.length = (K + M).toNat ∧ (odd = 15 → ∀ x ∈ l, x = 0) := by
  obtain ⟨-, -, K1, K8, M1, M4, -⟩ := (pmayB_iff p K M).1 hp
  obtain ⟨l, h1, h2, h3⟩ := states_loop odd st p K M K1 K8 M1 M4 (K + M).toNat k 0 [] (by omega) (by omega) (by omega) rfl
  exact ⟨l, h1, h2, fun h => h3 h (by simp)⟩
theorem in_loop (l : List ByteArray) (s : ByteArray) (hl : l.length ≤ 1000) (d : Nat) : ∀ (k i : Nat), i ≤ l.length → l.length - i = d → d < k → gambrellaw22_in.l0 k l s (i : Int) = some (decide (s ∈ l.drop i)) := by
  induction d with
  | zero =>
    intro k i hi hd hk
    obtain ⟨k, rfl⟩ : ∃ m, k = m + 1 := ⟨k - 1, by omega⟩
    simp only [gambrellaw22_in.l0]
    rw [if_neg (by omega), List.drop_of_length_le (by omega)]
    simp
  | succ d ih =>
    intro k i hi hd hk
    obtain ⟨k, rfl⟩ : ∃ m, k = m + 1 := ⟨k - 1, by omega⟩
    have hlt : i < l.length := by omega
    simp only [gambrellaw22_in.l0]
    rw [if_pos (by omega), if_pos (by omega), rdOf_at l i hlt, List.drop_eq_getElem_cons hlt]
    by_cases h : l[i] = s
    · rw [if_pos (bytes_eq_iff.2 h), decide_eq_true (by rw [h]; simp)]
    · rw [if_neg (fun e => h (bytes_eq_iff.1 e)), show wrap64 ((i : Int) + 1) = ((i + 1 : Nat) : Int) by unfold wrap64; omega, ih k (i + 1) (by omega) (by omega) (by omega)]
      have : s ≠ l[i] := fun e => h e.symm
      have e : (s ∈ l[i] :: l.drop (i + 1)) ↔ s ∈ l.drop (i + 1) := by rw [List.mem_cons]; exact ⟨fun h => h.resolve_left this, .inr⟩
      exact congrArg some (decide_eq_decide.2 e.symm)
theorem in_tells (l : List ByteArray) (s : ByteArray) (k : Nat) (hl : l.length ≤ 1000) (hk : l.length < k) : gambrellaw22_in.f k l s = some (decide (s ∈ l)) := by
  have := in_loop l s hl l.length k 0 (by omega) (by omega) hk
  unfold gambrellaw22_in.f
  rw [List.drop_zero] at this
  exact this
theorem abc_may : mayB (⟨#[97, 98, 99]⟩ : ByteArray) = true := by decide +kernel
/-- With all fine, what isn't there is written. -/
theorem write_fine (a : List ByteArray) (st : List Int) (h : ∀ x ∈ st, x = 0) (s : ByteArray) : toWrite a st s = toDrop a s := by
  unfold toWrite toDrop
  cases e : ix a s with
  | none => rfl
  | some j =>
    have : rd st (j : Int) = 0 := by
      unfold rd
      rw [List.getD_eq_getElem?_getD]
      cases e2 : st[(j : Int).toNat]? with
      | none => rfl
      | some x => exact h x (List.mem_of_getElem? e2)
    simp [this]
theorem toDrop_iff {a : List ByteArray} {s : ByteArray} (hn : a.Nodup) : toDrop a s = true ↔ s ∉ a := by
  unfold toDrop
  constructor
  · intro h hm
    obtain ⟨j, hj⟩ := List.getElem?_of_mem hm
    rw [ix_of_at hn hj] at h
    simp at h
  · intro h
    rw [ix_of_not h]
    rfl
theorem planOf_yes (s : ByteArray) (p K M : Int) (st : List Int) (p' K' M' : Int) (hs : mayB s = true) (hp : pmayB p K M = true) (hq : pmayB p' K' M' = true) (hl : st.length = (K + M).toNat) :
    planOf s p K M st p' K' M' = (decide (p = p') && (decide (K = K') && decide (M = M')), decide (K = K') && decide (lay p = lay p'), (setN s p' K' M' (K' + M').toNat).filter (toWrite (setN s p K M (K + M).toNat) st), (setN s p K M (K + M).toNat).filter (toDrop (setN s p' K' M' (K' + M').toNat)), 0) := by
  obtain ⟨-, -, K1, K8, M1, M4, -⟩ := (pmayB_iff p K M).1 hp
  have hl' : (st.length : Int) = K + M := by omega
  unfold planOf
  rw [hs, hp, hq, decide_eq_true hl']
  rfl

end Go.Proofs.YtlapjnaaihpeeaaDoor.XPl
