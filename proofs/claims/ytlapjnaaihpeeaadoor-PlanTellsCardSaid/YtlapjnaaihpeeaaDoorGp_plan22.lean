-- WRITTEN BY this work's own program (wip/tools/xprint.py). Not trusted: Lean checks it.
import Derived.Test.YtlapjnaaihpeeaaDoorXPl0
import Derived.Test.YtlapjnaaihpeeaaDoorXPl1
import Derived.Test.YtlapjnaaihpeeaaDoorXPl8
import Derived.Test.YtlapjnaaihpeeaaDoorXPl9
import Derived.Test.YtlapjnaaihpeeaaDoorXPl13
import Derived.Test.YtlapjnaaihpeeaaDoorGp_names
import Derived.Test.YtlapjnaaihpeeaaDoorGp_plan
import Derived.Test.YtlapjnaaihpeeaaDoorGp_sets
import Derived.Test.YtlapjnaaihpeeaaDoorGplan_Ofc
namespace Go.Proofs.YtlapjnaaihpeeaaDoor.XPl
open Go.RowKit Go.Proofs.YtlapjnaaihpeeaaDoorW.PrintWords Go.Proofs.YtlapjnaaihpeeaaDoorW.PrintLast Go.Proofs.YtlapjnaaihpeeaaDoorW.PrintMore
attribute [local go_sem] max2_int min2_int max_two min_two max_three min_three max_four min_four   -- for this text's walks alone
set_option linter.unusedVariables false
set_option linter.unusedSimpArgs false

/-! The plain law of plan: the document's plan. -/
/-- The document's 'at': the first place. -/
theorem at_loop (l : List ByteArray) (s : ByteArray) (hl : l.length ≤ 1000) (d : Nat) : ∀ (k i : Nat), i ≤ l.length → l.length - i = d → d < k → (∀ j, j < i → l[j]? ≠ some s) →
    ∃ t : Int, gambrelref22_at.l0 k l s (i : Int) = some t ∧ ((t = -1 ∧ s ∉ l) ∨ ∃ j : Nat, t = (j : Int) ∧ l[j]? = some s) := by
  induction d with
  | zero =>
    intro k i hi hd hk hb
    obtain ⟨k, rfl⟩ : ∃ m, k = m + 1 := ⟨k - 1, by omega⟩
    refine ⟨-1, by simp only [gambrelref22_at.l0]; rw [if_neg (by omega)], .inl ⟨rfl, fun hm => ?_⟩⟩
    obtain ⟨j, hj⟩ := List.getElem?_of_mem hm
    exact hb j (by have := (List.getElem?_eq_some_iff.1 hj).1; omega) hj
  | succ d ih =>
    intro k i hi hd hk hb
    obtain ⟨k, rfl⟩ : ∃ m, k = m + 1 := ⟨k - 1, by omega⟩
    have hlt : i < l.length := by omega
    simp only [gambrelref22_at.l0]
    rw [if_pos (by omega), if_pos (by omega), rdOf_at l i hlt]
    by_cases hx : l[i] = s
    · rw [if_pos (bytes_eq_iff.2 hx)]
      exact ⟨_, rfl, .inr ⟨i, rfl, by rw [List.getElem?_eq_getElem hlt, hx]⟩⟩
    · rw [if_neg (fun e => hx (bytes_eq_iff.1 e)), show wrap64 ((i : Int) + 1) = ((i + 1 : Nat) : Int) by unfold wrap64; omega]
      refine ih k (i + 1) (by omega) (by omega) (by omega) (fun j hj => ?_)
      by_cases e : j = i
      · subst e
        rw [List.getElem?_eq_getElem hlt]
        exact fun e => hx (Option.some.inj e)
      · exact hb j (by omega)
theorem at_tells (l : List ByteArray) (s : ByteArray) (k : Nat) (hl : l.length ≤ 1000) (hk : l.length < k) : ∃ t : Int, gambrelref22_at.f k l s = some t ∧ ((t = -1 ∧ s ∉ l) ∨ ∃ j : Nat, t = (j : Int) ∧ l[j]? = some s) :=
  at_loop l s hl l.length k 0 (by omega) (by omega) hk (fun j hj => by omega)
theorem drop_loop (a b : List ByteArray) (S P : Bool) (W : List ByteArray) (hb : b.Nodup) (ha1 : a.length ≤ 500) (hb1 : b.length ≤ 500) (d : Nat) : ∀ (k i : Nat) (acc : List ByteArray), i ≤ a.length → a.length - i = d → d + b.length + 1 < k → acc.length ≤ i →
    gambrelref22_Of.l1 k a b (i : Int) S P W acc = some (S, P, W, acc ++ (a.drop i).filter (toDrop b), 0) := by
  induction d with
  | zero =>
    intro k i acc hi hd hk hacc
    obtain ⟨k, rfl⟩ : ∃ m, k = m + 1 := ⟨k - 1, by omega⟩
    simp only [gambrelref22_Of.l1]
    rw [if_neg (by omega), List.drop_of_length_le (by omega)]
    simp
  | succ d ih =>
    intro k i acc hi hd hk hacc
    obtain ⟨k, rfl⟩ : ∃ m, k = m + 1 := ⟨k - 1, by omega⟩
    have hlt : i < a.length := by omega
    simp only [gambrelref22_Of.l1]
    rw [if_pos (by omega), if_pos (by omega), rdOf_at a i hlt]
    obtain ⟨t, ht, hc⟩ := at_tells b a[i] k (by omega) (by omega)
    rw [ht]
    simp only [Option.bind_some]
    rw [show wrap64 ((i : Int) + 1) = ((i + 1 : Nat) : Int) by unfold wrap64; omega, List.drop_eq_getElem_cons hlt, List.filter_cons]
    rcases hc with ⟨rfl, hn⟩ | ⟨j, rfl, hj⟩
    · have hd1 : toDrop b a[i] = true := by unfold toDrop; rw [ix_of_not hn]; rfl
      rw [if_pos (by omega), if_pos (by omega), if_pos hd1, ih k (i + 1) _ (by omega) (by omega) (by omega) (by simp; omega)]
      simp
    · have hd1 : ¬ toDrop b a[i] = true := by unfold toDrop; rw [ix_of_at hb hj]; simp
      rw [if_neg (by omega), if_neg hd1, ih k (i + 1) _ (by omega) (by omega) (by omega) (by omega)]
theorem write_loop (a b : List ByteArray) (st : List Int) (S P : Bool) (ha : a.Nodup) (hb : b.Nodup) (hst : st.length = a.length) (ha1 : a.length ≤ 500) (hb1 : b.length ≤ 500) (d : Nat) : ∀ (k i : Nat) (acc : List ByteArray), i ≤ b.length → b.length - i = d → d + a.length + b.length + 2 < k → acc.length ≤ i →
    gambrelref22_Of.l0 k st a b (i : Int) S P acc = some (S, P, acc ++ (b.drop i).filter (toWrite a st), a.filter (toDrop b), 0) := by
  induction d with
  | zero =>
    intro k i acc hi hd hk hacc
    obtain ⟨k, rfl⟩ : ∃ m, k = m + 1 := ⟨k - 1, by omega⟩
    simp only [gambrelref22_Of.l0]
    rw [if_neg (by omega), List.drop_of_length_le (by omega)]
    have := drop_loop a b S P acc hb ha1 hb1 a.length k 0 [] (by omega) (by omega) (by omega) (by simp)
    simpa using this
  | succ d ih =>
    intro k i acc hi hd hk hacc
    obtain ⟨k, rfl⟩ : ∃ m, k = m + 1 := ⟨k - 1, by omega⟩
    have hlt : i < b.length := by omega
    simp only [gambrelref22_Of.l0]
    rw [if_pos (by omega), if_pos (by omega), rdOf_at b i hlt]
    obtain ⟨t, ht, hc⟩ := at_tells a b[i] k (by omega) (by omega)
    rw [ht]
    simp only [Option.bind_some]
    rw [show wrap64 ((i : Int) + 1) = ((i + 1 : Nat) : Int) by unfold wrap64; omega, List.drop_eq_getElem_cons hlt, List.filter_cons]
    rcases hc with ⟨rfl, hn⟩ | ⟨j, rfl, hj⟩
    · have hd1 : toWrite a st b[i] = true := by unfold toWrite; rw [ix_of_not hn]
      rw [if_pos (by omega), if_pos (by omega), if_pos hd1, ih k (i + 1) _ (by omega) (by omega) (by omega) (by simp; omega)]
      simp
    · have hj1 := (List.getElem?_eq_some_iff.1 hj).1
      have hd0 : toWrite a st b[i] = (rd st (j : Int) != 0) := by unfold toWrite; rw [ix_of_at ha hj]
      rw [if_neg (by omega), if_pos (by omega), if_pos (by omega)]
      by_cases hz : rd st (j : Int) = 0
      · rw [if_pos hz, if_neg (by rw [hd0]; simp [hz]), ih k (i + 1) _ (by omega) (by omega) (by omega) (by omega)]
      · rw [if_neg hz, if_pos (by omega), if_pos (by rw [hd0]; simpa using hz), ih k (i + 1) _ (by omega) (by omega) (by omega) (by simp; omega)]
        simp
theorem refPlan (s : ByteArray) (p K M : Int) (st : List Int) (p' K' M' : Int) (k : Nat) (hk : 100 ≤ k) : gambrelref22_Of.f k s p K M st p' K' M' = some (planOf s p K M st p' K' M') := by
  obtain ⟨k, rfl⟩ : ∃ m, k = m + 1 := ⟨k - 1, by omega⟩
  unfold gambrelref22_Of.f planOf
  rw [refMayName s _ (by omega), refMay_eq, refMay_eq]
  simp only [Option.bind_some]
  cases hs : mayB s with
  | false => simp [gambrelref22_Of.j0]
  | true =>
    cases hp : pmayB p K M with
    | false => simp [gambrelref22_Of.j0]
    | true =>
      cases hq : pmayB p' K' M' with
      | false => simp [gambrelref22_Of.j0]
      | true =>
        obtain ⟨p1, p6, K1, K8, M1, M4, -⟩ := (pmayB_iff p K M).1 hp
        obtain ⟨p1', p6', K1', K8', M1', M4', -⟩ := (pmayB_iff p' K' M').1 hq
        have w1 : wrap64 (K + M) = K + M := by unfold wrap64; omega
        simp only [if_true, gambrelref22_Of.j0, w1, Bool.true_and]
        by_cases hl : (st.length : Int) = K + M
        · have e1 : ((st.length : Int) != K + M) = false := bne_eq_false_iff_eq.mpr hl
          rw [e1, decide_eq_true hl, of_valid p p1 p6, of_valid p' p1' p6', refSet s p K M k hs hp (by omega), refSet s p' K' M' k hs hq (by omega)]
          simp only [Option.bind_some, Bool.false_eq_true, if_false, if_true]
          have hw := fun P => write_loop (setN s p K M (K + M).toNat) (setN s p' K' M' (K' + M').toNat) st (eqT23 p p' K K' M M') P (setN_nodup s p K M hp) (setN_nodup s p' K' M' hq) (by rw [setN_len]; omega) (by rw [setN_len]; omega) (by rw [setN_len]; omega) (K' + M').toNat k 0 [] (by omega) (by rw [setN_len]; omega) (by rw [setN_len, setN_len]; omega) (by simp)
          have he : eqT23 p p' K K' M M' = (decide (p = p') && (decide (K = K') && decide (M = M'))) := by
            unfold eqT23
            by_cases a : p = p' <;> by_cases b : K = K' <;> by_cases c : M = M' <;> simp [a, b, c]
          simp only [List.drop_zero, List.nil_append] at hw
          by_cases hK : K = K'
          · rw [if_pos hK]
            have := hw (lay p == lay p')
            rw [show ((0 : Int)) = ((0 : Nat) : Int) from rfl, this, he]
            have e2 : (lay p == lay p') = decide (lay p = lay p') := by by_cases a : lay p = lay p' <;> simp [a]
            simp [hK, e2]
          · rw [if_neg hK]
            have := hw false
            rw [show ((0 : Int)) = ((0 : Nat) : Int) from rfl, this, he]
            simp [hK]
        · have e1 : ((st.length : Int) != K + M) = true := bne_iff_ne.mpr hl
          rw [e1, decide_eq_false hl]
          simp
theorem same_plan (x : Bool × Bool × List ByteArray × List ByteArray × Int) (k : Nat) (h1 : x.2.2.1.length ≤ 12) (h2 : x.2.2.2.1.length ≤ 12) (hk : 20 ≤ k) : gambrellaw22_same.f k x.1 x.2.1 x.2.2.1 x.2.2.2.1 x.1 x.2.1 x.2.2.1 x.2.2.2.1 = some true := by
  unfold gambrellaw22_same.f
  rw [if_pos (by simp), if_pos (by simp), strings_same _ k (by omega) (by omega), strings_same _ k (by omega) (by omega)]
  rfl

end Go.Proofs.YtlapjnaaihpeeaaDoor.XPl
