-- WRITTEN BY this work's own program (wip/tools/xprint.py). Not trusted: Lean checks it.
import Derived.Test.YtlapjnaaihpeeaaDoorXPl0
import Derived.Test.YtlapjnaaihpeeaaDoorXPl2
import Derived.Test.YtlapjnaaihpeeaaDoorXPl4
import Derived.Test.YtlapjnaaihpeeaaDoorXPl6
import Derived.Test.YtlapjnaaihpeeaaDoorGnames_May
import Derived.Test.YtlapjnaaihpeeaaDoorGprofile_Of
namespace Go.Proofs.YtlapjnaaihpeeaaDoor.XPl
open Go.RowKit Go.Proofs.YtlapjnaaihpeeaaDoorW.PrintWords Go.Proofs.YtlapjnaaihpeeaaDoorW.PrintLast Go.Proofs.YtlapjnaaihpeeaaDoorW.PrintMore
attribute [local go_sem] max2_int min2_int max_two min_two max_three min_three max_four min_four   -- for this text's walks alone
set_option linter.unusedVariables false
set_option linter.unusedSimpArgs false

/-! The plain law of names: what both texts tell of a set's names. -/
def mayB (s : ByteArray) : Bool := decide (1 ≤ s.size) && (decide (s.size ≤ 8) && s.data.toList.all fun c => decide (97 ≤ c.toNat) && decide (c.toNat ≤ 122))
def pmayB (p K M : Int) : Bool := decide (1 ≤ p) && (decide (p ≤ 6) && (decide (1 ≤ K) && (decide (K ≤ 8) && (decide (1 ≤ M) && decide (M ≤ if p = 3 then 3 else 4)))))
theorem pmayB_iff (p K M : Int) : pmayB p K M = true ↔ 1 ≤ p ∧ p ≤ 6 ∧ 1 ≤ K ∧ K ≤ 8 ∧ 1 ≤ M ∧ M ≤ 4 ∧ (p = 3 → M ≤ 3) := by
  unfold pmayB
  simp only [Bool.and_eq_true, decide_eq_true_eq]
  constructor
  · rintro ⟨a, b, c, d, e, f⟩
    split at f
    · exact ⟨a, b, c, d, e, by omega, fun _ => f⟩
    · exact ⟨a, b, c, d, e, f, fun h => absurd h ‹_›⟩
  · rintro ⟨a, b, c, d, e, f, g⟩
    refine ⟨a, b, c, d, e, ?_⟩
    split
    · exact g ‹_›
    · exact f
theorem profile_Of_eq (p : Int) : profile_Of.f p = gambrelref09_Of.f p := rfl
/-- The table, as one tuple. -/
def lay (p : Int) : Int := if p = 1 then 106 else if p = 2 then 106 else if p = 3 then 105 else if p = 4 then 105 else if p = 5 then 98 else 112
def tagL (p : Int) : List Int := if p = 1 then [106, 118] else if p = 2 then [106, 99] else if p = 3 then [105, 114] else if p = 4 then [105, 99] else if p = 5 then [98, 98] else [107, 112]
def bitsOf (p : Int) : Int := if p = 2 then 16 else 8
def polyOf (p : Int) : Int := if p = 2 then 69643 else 285
theorem of_valid (p : Int) (h1 : 1 ≤ p) (h2 : p ≤ 6) : gambrelref09_Of.f p = some (strOfNums (tagL p), bitsOf p, polyOf p, lay p, if p = 3 then 3 else 4, true) := by
  have : p = 1 ∨ p = 2 ∨ p = 3 ∨ p = 4 ∨ p = 5 ∨ p = 6 := by omega
  rcases this with rfl | rfl | rfl | rfl | rfl | rfl <;> rfl
theorem of_invalid (p : Int) (h : ¬ (1 ≤ p ∧ p ≤ 6)) : gambrelref09_Of.f p = some (⟨#[]⟩, 0, 0, 0, 0, false) := by
  unfold gambrelref09_Of.f
  rw [if_neg (by omega), if_neg (by omega), if_neg (by omega), if_neg (by omega), if_neg (by omega), if_neg (by omega)]
theorem refMay_eq (p K M : Int) : gambrelref09_May.f p K M = some (pmayB p K M) := by
  unfold gambrelref09_May.f pmayB
  by_cases h : 1 ≤ p ∧ p ≤ 6
  · rw [of_valid p h.1 h.2]
    simp only [Option.bind_some, h.1, h.2, decide_true, Bool.true_and, if_true]
    by_cases a : 1 ≤ K <;> by_cases b : K ≤ 8 <;> by_cases c : 1 ≤ M <;> simp [a, b, c]
  · rw [of_invalid p h]
    simp only [Option.bind_some]
    by_cases a : 1 ≤ p
    · have b : ¬ p ≤ 6 := fun b => h ⟨a, b⟩
      simp [a, b]
    · simp [a]
theorem progMay_eq (p K M : Int) : profile_May.f p K M = some (pmayB p K M) := refMay_eq p K M
theorem layoutOf_eq (p : Int) (h1 : 1 ≤ p) (h2 : p ≤ 6) : plan_layoutOf.f p = some (lay p) := by
  unfold plan_layoutOf.f
  rw [profile_Of_eq, of_valid p h1 h2]
  rfl
/-! ### May -/
theorem trim_empty (l cs : List UInt8) : (Lib.trimS l cs).isEmpty = l.all (fun c => cs.contains c) := by
  have key : ∀ l : List UInt8, (Lib.trimLeftS l cs).isEmpty = l.all (fun c => cs.contains c) := by
    intro l
    unfold Lib.trimLeftS
    induction l with
    | nil => rfl
    | cons a l ih =>
      rw [List.dropWhile_cons, List.all_cons]
      by_cases h : cs.contains a = true
      · rw [if_pos h, h, Bool.true_and, ih]
      · rw [if_neg h]
        simp only [Bool.not_eq_true] at h
        rw [h]
        rfl
  have keyR : ∀ l : List UInt8, (Lib.trimRightS l cs).all (fun c => cs.contains c) = l.all (fun c => cs.contains c) := by
    intro l
    unfold Lib.trimRightS
    have : ∀ m : List UInt8, (m.dropWhile (fun c => cs.contains c)).all (fun c => cs.contains c) = m.all (fun c => cs.contains c) := by
      intro m
      induction m with
      | nil => rfl
      | cons a m ih =>
        rw [List.dropWhile_cons, List.all_cons]
        by_cases h : cs.contains a = true
        · rw [if_pos h, h, Bool.true_and, ih]
        · rw [if_neg h, List.all_cons]
    rw [List.all_reverse, this, List.all_reverse]
  unfold Lib.trimS
  rw [key, keyR]
theorem letters (c : UInt8) : ([97, 98, 99, 100, 101, 102, 103, 104, 105, 106, 107, 108, 109, 110, 111, 112, 113, 114, 115, 116, 117, 118, 119, 120, 121, 122] : List UInt8).contains c = (decide (97 ≤ c.toNat) && decide (c.toNat ≤ 122)) := by
  obtain ⟨n, hn⟩ : ∃ n : Fin 256, c = UInt8.ofNat n.val := ⟨⟨c.toNat, c.toNat_lt⟩, by simp⟩
  subst hn
  revert n
  decide +kernel
theorem progMayName (s : ByteArray) : names_May.f s = some (mayB s) := by
  unfold names_May.f mayB
  by_cases a : (s.size : Int) < 1
  · rw [if_pos a]
    have : ¬ 1 ≤ s.size := by omega
    simp [this]
  · rw [if_neg a]
    have a' : 1 ≤ s.size := by omega
    by_cases b : 8 < (s.size : Int)
    · rw [if_pos b]
      have : ¬ s.size ≤ 8 := by omega
      simp [this]
    · rw [if_neg b, trim_empty]
      have b' : s.size ≤ 8 := by omega
      simp only [letters, a', b', decide_true, Bool.true_and]
theorem refMay_loop (s : ByteArray) (hs : s.size ≤ 8) (d : Nat) : ∀ (k i : Nat), i ≤ s.size → s.size - i = d → d < k →
    gambrelref15_May.l0 k s (i : Int) = some ((s.data.toList.drop i).all fun c => decide (97 ≤ c.toNat) && decide (c.toNat ≤ 122)) := by
  induction d with
  | zero =>
    intro k i hi hd hk
    obtain ⟨k, rfl⟩ : ∃ m, k = m + 1 := ⟨k - 1, by omega⟩
    simp only [gambrelref15_May.l0]
    rw [if_neg (by omega), List.drop_of_length_le (by simp; omega)]
    rfl
  | succ d ih =>
    intro k i hi hd hk
    obtain ⟨k, rfl⟩ : ∃ m, k = m + 1 := ⟨k - 1, by omega⟩
    have hlt : i < s.size := by omega
    simp only [gambrelref15_May.l0]
    rw [if_pos (by omega), if_pos (by omega)]
    have hb : bt s (i : Int) = ((s.data.toList[i]'(by simpa using hlt)).toNat : Int) := by
      unfold bt
      rw [dif_pos (by simpa using hlt)]
      simp
      rfl
    rw [List.drop_eq_getElem_cons (by simpa using hlt), List.all_cons, hb]
    generalize (s.data.toList[i]'(by simpa using hlt)) = c
    have hw : wrap64 ((i : Int) + 1) = ((i + 1 : Nat) : Int) := by unfold wrap64; omega
    by_cases x : ((c.toNat : Int)) < 97
    · rw [if_pos x]
      have : ¬ 97 ≤ c.toNat := by omega
      simp [this]
    · rw [if_neg x]
      have x' : 97 ≤ c.toNat := by omega
      by_cases y : ((c.toNat : Int)) > 122
      · rw [if_pos y]
        have : ¬ c.toNat ≤ 122 := by omega
        simp [this]
      · rw [if_neg y]
        have y' : c.toNat ≤ 122 := by omega
        rw [hw, ih k (i + 1) (by omega) (by omega) (by omega)]
        simp [x', y']
theorem refMayName (s : ByteArray) (k : Nat) (hk : 10 ≤ k) : gambrelref15_May.f k s = some (mayB s) := by
  obtain ⟨k, rfl⟩ : ∃ m, k = m + 1 := ⟨k - 1, by omega⟩
  unfold gambrelref15_May.f mayB
  by_cases a : (s.size : Int) < 1
  · rw [if_pos a]
    have : ¬ 1 ≤ s.size := by omega
    simp [this, gambrelref15_May.j0]
  · rw [if_neg a]
    have a' : 1 ≤ s.size := by omega
    simp only [gambrelref15_May.j0]
    by_cases b : (s.size : Int) > 8
    · have : ¬ s.size ≤ 8 := by omega
      simp [this, b]
    · have b' : s.size ≤ 8 := by omega
      have hd : decide ((s.size : Int) > 8) = false := decide_eq_false b
      rw [hd]
      have := refMay_loop s b' s.size k 0 (by omega) (by omega) (by omega)
      simp only [Bool.false_eq_true, if_false]
      rw [show ((0 : Int)) = ((0 : Nat) : Int) from rfl, this]
      simp [a', b']

end Go.Proofs.YtlapjnaaihpeeaaDoor.XPl
