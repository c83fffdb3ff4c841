-- WRITTEN BY this work's own program (wip/tools/xprint.py). Not trusted: Lean checks it.
import Derived.Test.YtlapjnaaihpeeaaDoorXPl0
import Derived.Test.YtlapjnaaihpeeaaDoorXPl16
import Derived.Test.YtlapjnaaihpeeaaDoorGp_plan
import Derived.Test.YtlapjnaaihpeeaaDoorGp_plan2
namespace Go.Proofs.YtlapjnaaihpeeaaDoor.XPl
open Go.RowKit Go.Proofs.YtlapjnaaihpeeaaDoorW.PrintWords Go.Proofs.YtlapjnaaihpeeaaDoorW.PrintLast Go.Proofs.YtlapjnaaihpeeaaDoorW.PrintMore
attribute [local go_sem] max2_int min2_int max_two min_two max_three min_three max_four min_four   -- for this text's walks alone
set_option linter.unusedVariables false
set_option linter.unusedSimpArgs false

/-! The plain law of PlanAll's loops. -/
/-! ### PlanAll -/
theorem fine_loop (t : Bool) (st : List Int) (c : Int) (a b : List ByteArray) (S P : Bool) (W D : List ByteArray) (ha : a.length ≤ 12) (hb : b.length ≤ 12) (hst : st.length = a.length) (i : Nat) (hi : i < b.length)
    (next : Nat → Option Bool) (R : Bool) (hW : W.length ≤ 12) (k0 : Nat) (hk0 : 20 ≤ k0)
    (hnext : ∀ k, k0 ≤ k → gambrellaw22_PlanAll.l0 k t st c a b (wrap64 ((i : Int) + 1)) S P W D = some R) (d : Nat) : ∀ (k j : Nat) (x : Bool), j ≤ a.length → a.length - j = d → d + k0 < k →
    (∃ x', ((x' = true ↔ x = true ∨ ∃ q, j ≤ q ∧ a[q]? = some b[i] ∧ st[q]? = some 0)) ∧ gambrellaw22_PlanAll.l1 k t st c a b (i : Int) x (j : Int) S P W D = if (decide (b[i] ∈ W) == x') = true then some false else some R) := by
  induction d with
  | zero =>
    intro k j x hj hd hk
    obtain ⟨k, rfl⟩ : ∃ m, k = m + 1 := ⟨k - 1, by omega⟩
    refine ⟨x, ⟨fun h => .inl h, fun h => ?_⟩, ?_⟩
    · rcases h with h | ⟨q, h1, h2, -⟩
      · exact h
      · have := (List.getElem?_eq_some_iff.1 h2).1; omega
    · simp only [gambrellaw22_PlanAll.l1]
      rw [if_neg (by omega), if_pos (by omega), if_pos (by omega), rdOf_at b i hi, in_tells W _ k (by omega) (by omega)]
      simp only [Option.bind_some]
      rw [hnext k (by omega)]
  | succ d ih =>
    intro k j x hj hd hk
    obtain ⟨k, rfl⟩ : ∃ m, k = m + 1 := ⟨k - 1, by omega⟩
    have hlt : j < a.length := by omega
    have hl : ((j : Nat) : Int) < (a.length : Int) := by omega
    have hl2 : ((i : Nat) : Int) < (b.length : Int) := by omega
    have h0j : (0 : Int) ≤ ((j : Nat) : Int) := by omega
    have h0i : (0 : Int) ≤ ((i : Nat) : Int) := by omega
    have hl3 : ((j : Nat) : Int) < (st.length : Int) := by omega
    have hk2 : d + k0 < k := by omega
    have hj2 : a.length - (j + 1) = d := by omega
    have hw : wrap64 ((j : Int) + 1) = ((j + 1 : Nat) : Int) := by unfold wrap64; omega
    rw [gambrellaw22_PlanAll.l1]
    simp only [hl, hl2, h0j, h0i, if_true, hw]
    clear hw
    cases x with
    | true =>
      obtain ⟨x', h1, h2⟩ := ih k (j + 1) true hlt hj2 hk2
      refine ⟨x', by rw [h1]; simp, ?_⟩
      rw [if_pos rfl]
      exact h2
    | false =>
      rw [if_neg (by simp), rdOf_at a j hlt, rdOf_at b i hi]
      by_cases he : a[j] = b[i]
      · rw [if_pos (bytes_eq_iff.2 he), if_pos hl3]
        obtain ⟨x', h1, h2⟩ := ih k (j + 1) (rd st (j : Int) == 0) hlt hj2 hk2
        refine ⟨x', ?_, h2⟩
        rw [h1]
        have hj3 : j < st.length := by omega
        have hrd : rd st (j : Int) = st[j] := by simp [rd, List.getD_eq_getElem?_getD, hj3]
        rw [hrd]
        constructor
        · rintro (h | ⟨q, h3, h4⟩)
          · exact .inr ⟨j, Nat.le_refl _, by rw [List.getElem?_eq_getElem hlt, he], by rw [List.getElem?_eq_getElem hj3]; simpa using h⟩
          · exact .inr ⟨q, by omega, h4⟩
        · rintro (h | ⟨q, h3, h4, h5⟩)
          · simp at h
          · by_cases e : q = j
            · subst e
              rw [List.getElem?_eq_getElem hj3] at h5
              exact .inl (by simpa using h5)
            · exact .inr ⟨q, by omega, h4, h5⟩
      · rw [if_neg (fun e => he (bytes_eq_iff.1 e))]
        obtain ⟨x', h1, h2⟩ := ih k (j + 1) false hlt hj2 hk2
        refine ⟨x', ?_, h2⟩
        rw [h1]
        constructor
        · rintro (h | ⟨q, h3, h4⟩)
          · simp at h
          · exact .inr ⟨q, by omega, h4⟩
        · rintro (h | ⟨q, h3, h4, h5⟩)
          · simp at h
          · by_cases e : q = j
            · subst e
              rw [List.getElem?_eq_getElem hlt] at h4
              exact absurd (Option.some.inj h4) he
            · exact .inr ⟨q, by omega, h4, h5⟩
theorem all_drop (c : Int) (a b : List ByteArray) (S P : Bool) (W D : List ByteArray) (ha : a.length ≤ 12) (hb : b.length ≤ 12) (hD : D.length ≤ 12) (hc : c = 0) (hW : W.length ≤ b.length) (hD2 : D.length ≤ a.length)
    (hall : ∀ (i : Nat) (h : i < a.length), decide (a[i] ∈ D) ≠ decide (a[i] ∈ b)) (d : Nat) : ∀ (k i : Nat), i ≤ a.length → a.length - i = d → d + 15 < k → gambrellaw22_PlanAll.l2 k true c a b (i : Int) S P W D = some true := by
  induction d with
  | zero =>
    intro k i hi hd hk
    obtain ⟨k, rfl⟩ : ∃ m, k = m + 1 := ⟨k - 1, by omega⟩
    simp only [gambrellaw22_PlanAll.l2]
    rw [if_neg (by omega), if_pos trivial, if_pos hc, if_pos (by omega), decide_eq_true (by omega)]
  | succ d ih =>
    intro k i hi hd hk
    obtain ⟨k, rfl⟩ : ∃ m, k = m + 1 := ⟨k - 1, by omega⟩
    have hlt : i < a.length := by omega
    simp only [gambrellaw22_PlanAll.l2]
    rw [if_pos (by omega), if_pos (by omega), rdOf_at a i hlt, in_tells D _ k (by omega) (by omega), in_tells b _ k (by omega) (by omega)]
    simp only [Option.bind_some]
    rw [if_neg (by simpa using hall i hlt), show wrap64 ((i : Int) + 1) = ((i + 1 : Nat) : Int) by unfold wrap64; omega]
    exact ih k (i + 1) (by omega) (by omega) (by omega)
theorem all_loop (st : List Int) (c : Int) (a b : List ByteArray) (S P : Bool) (W D : List ByteArray) (ha : a.length ≤ 12) (hb : b.length ≤ 12) (hst : st.length = a.length) (hD : D.length ≤ 12) (hc : c = 0) (hW : W.length ≤ b.length) (hD2 : D.length ≤ a.length)
    (hall : ∀ (i : Nat) (h : i < a.length), decide (a[i] ∈ D) ≠ decide (a[i] ∈ b))
    (hfine : ∀ (i : Nat) (h : i < b.length), b[i] ∈ W ↔ ¬ ∃ q : Nat, a[q]? = some b[i] ∧ st[q]? = some 0) (d : Nat) : ∀ (k i : Nat), i ≤ b.length → b.length - i = d → d * 20 + 50 < k →
    gambrellaw22_PlanAll.l0 k true st c a b (i : Int) S P W D = some true := by
  induction d with
  | zero =>
    intro k i hi hd hk
    obtain ⟨k, rfl⟩ : ∃ m, k = m + 1 := ⟨k - 1, by omega⟩
    simp only [gambrellaw22_PlanAll.l0]
    rw [if_neg (by omega)]
    exact all_drop c a b S P W D (by omega) (by omega) hD hc hW hD2 hall a.length k 0 (by omega) (by omega) (by omega)
  | succ d ih =>
    intro k i hi hd hk
    obtain ⟨k, rfl⟩ : ∃ m, k = m + 1 := ⟨k - 1, by omega⟩
    have hlt : i < b.length := by omega
    simp only [gambrellaw22_PlanAll.l0]
    rw [if_pos (by omega)]
    obtain ⟨x', h1, h2⟩ := fine_loop true st c a b S P W D (by omega) (by omega) hst i hlt (fun _ => none) true (by omega) (d * 20 + 51) (by omega)
      (fun k hk => by rw [show wrap64 ((i : Int) + 1) = ((i + 1 : Nat) : Int) by unfold wrap64; omega]; exact ih k (i + 1) (by omega) (by omega) (by omega)) a.length k 0 false (by omega) (by omega) (by omega)
    rw [show ((0 : Int)) = ((0 : Nat) : Int) from rfl, h2, if_neg]
    have hf := hfine i hlt
    intro he
    have he' : decide (b[i] ∈ W) = x' := by simpa using he
    by_cases hm : b[i] ∈ W
    · have hx : x' = true := by rw [← he']; exact decide_eq_true hm
      rcases h1.1 hx with h | ⟨q, -, h3, h4⟩
      · simp at h
      · exact hf.1 hm ⟨q, h3, h4⟩
    · have hx : ¬ x' = true := by rw [← he']; simpa using hm
      exact hm (hf.2 fun ⟨q, h3, h4⟩ => hx (h1.2 (.inr ⟨q, by omega, h3, h4⟩)))

end Go.Proofs.YtlapjnaaihpeeaaDoor.XPl
