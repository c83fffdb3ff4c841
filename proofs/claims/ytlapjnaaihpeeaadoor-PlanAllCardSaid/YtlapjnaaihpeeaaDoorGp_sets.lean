-- WRITTEN BY this work's own program (wip/tools/xprint.py). Not trusted: Lean checks it.
import Derived.Test.YtlapjnaaihpeeaaDoorXPl0
import Derived.Test.YtlapjnaaihpeeaaDoorXPl2
import Derived.Test.YtlapjnaaihpeeaaDoorXPl3
import Derived.Test.YtlapjnaaihpeeaaDoorXPl4
import Derived.Test.YtlapjnaaihpeeaaDoorXPl6
import Derived.Test.YtlapjnaaihpeeaaDoorXPl7
import Derived.Test.YtlapjnaaihpeeaaDoorXPl8
import Derived.Test.YtlapjnaaihpeeaaDoorGp_names
import Derived.Test.YtlapjnaaihpeeaaDoorGplan_Of
namespace Go.Proofs.YtlapjnaaihpeeaaDoor.XPl
open Go.RowKit Go.Proofs.YtlapjnaaihpeeaaDoorW.PrintWords Go.Proofs.YtlapjnaaihpeeaaDoorW.PrintLast Go.Proofs.YtlapjnaaihpeeaaDoorW.PrintMore
attribute [local go_sem] max2_int min2_int max_two min_two max_three min_three max_four min_four   -- for this text's walks alone
set_option linter.unusedVariables false
set_option linter.unusedSimpArgs false

/-! The plain law of names: the set of an object's shards. -/
def suf (p K M i : Int) : List Int := if i < K then [46, 100, lay p, 48 + K, 48 + i] else [46, 112] ++ tagL p ++ [48 + K, 48 + M, 48 + (i - K)]
def shardN (s : ByteArray) (p K M i : Int) : ByteArray := s ++ strOfNums (suf p K M i)
def setN (s : ByteArray) (p K M : Int) (n : Nat) : List ByteArray := (List.range n).map fun (i : Nat) => shardN s p K M (i : Int)
theorem strOfNums_append (a b : List Int) : strOfNums a ++ strOfNums b = strOfNums (a ++ b) := by
  apply ByteArray.ext
  rw [ByteArray.data_append]
  simp [strOfNums]
theorem strOfNums_size (a : List Int) : (strOfNums a).size = a.length := by
  show (strOfNums a).data.size = _
  simp [strOfNums]
theorem const_str (a : List Int) (l : List UInt8) (h : a.map (fun n => UInt8.ofNat n.toNat) = l) : (⟨l.toArray⟩ : ByteArray) = strOfNums a := by
  unfold strOfNums
  rw [h]
theorem c46 : (⟨#[46]⟩ : ByteArray) = strOfNums [46] := rfl
theorem c100 : (⟨#[100]⟩ : ByteArray) = strOfNums [100] := rfl
theorem c112 : (⟨#[112]⟩ : ByteArray) = strOfNums [112] := rfl
theorem c46100 : (⟨#[46, 100]⟩ : ByteArray) = strOfNums [46, 100] := rfl
theorem c46112 : (⟨#[46, 112]⟩ : ByteArray) = strOfNums [46, 112] := rfl
theorem tagL_len (p : Int) : (tagL p).length = 2 := by
  unfold tagL
  repeat (first | rfl | split)
theorem digit (n : Int) (h0 : 0 ≤ n) (h1 : n ≤ 12) : (wrap64 (48 + n)) % 256 = 48 + n := by unfold wrap64; omega
theorem figures2 (k : Nat) (a b : Int) (ha : 0 ≤ a) (ha' : a ≤ 12) (hb : 0 ≤ b) (hb' : b ≤ 12) (hk : 3 ≤ k) : names_figures.f k [a, b] = some (strOfNums [48 + a, 48 + b]) := by
  obtain ⟨k, rfl⟩ : ∃ m, k = m + 3 := ⟨k - 3, by omega⟩
  have e1 : wrap64 1 = 1 := by unfold wrap64; omega
  have e2 : wrap64 2 = 2 := by unfold wrap64; omega
  simp [names_figures.f, names_figures.l0, e1, e2, rd, digit a ha ha', digit b hb hb']
theorem figures3 (k : Nat) (a b c : Int) (ha : 0 ≤ a) (ha' : a ≤ 12) (hb : 0 ≤ b) (hb' : b ≤ 12) (hc : 0 ≤ c) (hc' : c ≤ 12) (hk : 4 ≤ k) : names_figures.f k [a, b, c] = some (strOfNums [48 + a, 48 + b, 48 + c]) := by
  obtain ⟨k, rfl⟩ : ∃ m, k = m + 4 := ⟨k - 4, by omega⟩
  have e1 : wrap64 1 = 1 := by unfold wrap64; omega
  have e2 : wrap64 2 = 2 := by unfold wrap64; omega
  have e3 : wrap64 3 = 3 := by unfold wrap64; omega
  simp [names_figures.f, names_figures.l0, e1, e2, e3, rd, digit a ha ha', digit b hb hb', digit c hc hc']
theorem figure1 (a : Int) (ha : 0 ≤ a) (ha' : a ≤ 12) : gambrelref15_figure.f a = some (strOfNums [48 + a]) := by
  unfold gambrelref15_figure.f
  rw [digit a ha ha']
theorem may_size {s : ByteArray} (h : mayB s = true) : 1 ≤ s.size ∧ s.size ≤ 8 := by
  unfold mayB at h
  simp only [Bool.and_eq_true, decide_eq_true_eq] at h
  exact ⟨h.1, h.2.1⟩
theorem progShard (s : ByteArray) (p K M i : Int) (k : Nat) (hs : mayB s = true) (hp : pmayB p K M = true) (h0 : 0 ≤ i) (h1 : i < K + M) (hk : 6 ≤ k) : names_Shard.f k s p K M i = some (shardN s p K M i, 0) := by
  obtain ⟨k, rfl⟩ : ∃ m, k = m + 1 := ⟨k - 1, by omega⟩
  obtain ⟨p1, p6, K1, K8, M1, M4, -⟩ := (pmayB_iff p K M).1 hp
  have hz := may_size hs
  have w1 : wrap64 (K + M) = K + M := by unfold wrap64; omega
  unfold names_Shard.f
  rw [progMayName, hs, progMay_eq, hp]
  simp only [Option.bind_some, if_true]
  rw [if_neg (by omega), w1, decide_eq_false (by omega)]
  simp only [names_Shard.j0, Bool.false_eq_true, if_false]
  rw [profile_Of_eq, of_valid p p1 p6]
  simp only [Option.bind_some]
  unfold shardN suf
  by_cases hi : i < K
  · rw [if_pos hi, if_pos hi, figures2 k K i (by omega) (by omega) (by omega) (by omega) (by omega)]
    simp only [Option.bind_some, c46, c100, ByteArray.size_append, strOfNums_size, List.length_cons, List.length_nil]
    rw [if_pos (by omega), if_pos (by omega), if_pos (by omega), if_pos (by omega)]
    simp only [ByteArray.append_assoc, strOfNums_append]
    rfl
  · have w2 : wrap64 (i - K) = i - K := by unfold wrap64; omega
    rw [if_neg hi, if_neg hi, w2, figures3 k K M (i - K) (by omega) (by omega) (by omega) (by omega) (by omega) (by omega) (by omega)]
    simp only [Option.bind_some, c46, c112, ByteArray.size_append, strOfNums_size, List.length_cons, List.length_nil, tagL_len]
    rw [if_pos (by omega), if_pos (by omega), if_pos (by omega), if_pos (by omega)]
    simp only [ByteArray.append_assoc, strOfNums_append]
    simp
theorem refShard (s : ByteArray) (p K M i : Int) (k : Nat) (hs : mayB s = true) (hp : pmayB p K M = true) (h0 : 0 ≤ i) (h1 : i < K + M) (hk : 12 ≤ k) : gambrelref15_Shard.f k s p K M i = some (shardN s p K M i, 0) := by
  obtain ⟨k, rfl⟩ : ∃ m, k = m + 1 := ⟨k - 1, by omega⟩
  obtain ⟨p1, p6, K1, K8, M1, M4, -⟩ := (pmayB_iff p K M).1 hp
  have hz := may_size hs
  have w1 : wrap64 (K + M) = K + M := by unfold wrap64; omega
  unfold gambrelref15_Shard.f
  rw [refMayName s _ (by omega), hs, refMay_eq, hp]
  simp only [Option.bind_some, if_true]
  rw [if_neg (by omega), w1, decide_eq_false (by omega)]
  simp only [gambrelref15_Shard.j0, Bool.false_eq_true, if_false]
  rw [of_valid p p1 p6]
  simp only [Option.bind_some]
  unfold shardN suf
  by_cases hi : i < K
  · rw [if_pos hi, if_pos hi, figure1 K (by omega) (by omega), figure1 i (by omega) (by omega)]
    simp only [Option.bind_some, c46100, ByteArray.size_append, strOfNums_size, List.length_cons, List.length_nil]
    rw [if_pos (by omega), if_pos (by omega), if_pos (by omega), if_pos (by omega)]
    simp only [ByteArray.append_assoc, strOfNums_append]
    rfl
  · have w2 : wrap64 (i - K) = i - K := by unfold wrap64; omega
    rw [if_neg hi, if_neg hi, w2, figure1 K (by omega) (by omega), figure1 M (by omega) (by omega), figure1 (i - K) (by omega) (by omega)]
    simp only [Option.bind_some, c46112, ByteArray.size_append, strOfNums_size, List.length_cons, List.length_nil, tagL_len]
    rw [if_pos (by omega), if_pos (by omega), if_pos (by omega), if_pos (by omega), if_pos (by omega)]
    simp only [ByteArray.append_assoc, strOfNums_append]
    simp
theorem setN_succ (s : ByteArray) (p K M : Int) (n : Nat) : setN s p K M (n + 1) = setN s p K M n ++ [shardN s p K M (n : Int)] := by
  unfold setN
  rw [List.range_succ, List.map_append]
  rfl
theorem setN_len (s : ByteArray) (p K M : Int) (n : Nat) : (setN s p K M n).length = n := by simp [setN]
theorem progSet_loop (s : ByteArray) (p K M : Int) (hs : mayB s = true) (hp : pmayB p K M = true) (d : Nat) : ∀ (k i : Nat), (i : Int) ≤ K + M → (K + M).toNat - i = d → d + 6 < k →
    names_Set.l0 k s (setN s p K M i) (K + M) (i : Int) p K M = some (setN s p K M (K + M).toNat, 0) := by
  obtain ⟨p1, p6, K1, K8, M1, M4, -⟩ := (pmayB_iff p K M).1 hp
  induction d with
  | zero =>
    intro k i hi hd hk
    obtain ⟨k, rfl⟩ : ∃ m, k = m + 1 := ⟨k - 1, by omega⟩
    simp only [names_Set.l0]
    have : i = (K + M).toNat := by omega
    rw [if_neg (by omega), this]
  | succ d ih =>
    intro k i hi hd hk
    obtain ⟨k, rfl⟩ : ∃ m, k = m + 1 := ⟨k - 1, by omega⟩
    simp only [names_Set.l0]
    have hw : wrap64 ((i : Int) + 1) = ((i + 1 : Nat) : Int) := by unfold wrap64; omega
    rw [if_pos (by omega), progShard s p K M i k hs hp (by omega) (by omega) (by omega)]
    simp only [Option.bind_some]
    rw [if_pos (by rw [setN_len]; omega), hw, ← setN_succ]
    exact ih k (i + 1) (by omega) (by omega) (by omega)
theorem progSet (s : ByteArray) (p K M : Int) (k : Nat) (hs : mayB s = true) (hp : pmayB p K M = true) (hk : 30 ≤ k) : names_Set.f k s p K M = some (setN s p K M (K + M).toNat, 0) := by
  obtain ⟨k, rfl⟩ : ∃ m, k = m + 1 := ⟨k - 1, by omega⟩
  obtain ⟨p1, p6, K1, K8, M1, M4, -⟩ := (pmayB_iff p K M).1 hp
  have w1 : wrap64 (K + M) = K + M := by unfold wrap64; omega
  unfold names_Set.f
  rw [progMayName, hs, progMay_eq, hp]
  simp only [Option.bind_some, if_true, names_Set.j0, Bool.not_true, Bool.false_eq_true, if_false]
  rw [w1]
  exact progSet_loop s p K M hs hp (K + M).toNat k 0 (by omega) (by omega) (by omega)
theorem progSet_not (s : ByteArray) (p K M : Int) (k : Nat) (h : (mayB s && pmayB p K M) = false) (hk : 1 ≤ k) : names_Set.f k s p K M = some ([], 1) := by
  obtain ⟨k, rfl⟩ : ∃ m, k = m + 1 := ⟨k - 1, by omega⟩
  unfold names_Set.f
  rw [progMayName, progMay_eq]
  cases hs : mayB s with
  | false => simp [names_Set.j0]
  | true =>
    have : pmayB p K M = false := by simpa [hs] using h
    simp [names_Set.j0, this]
theorem refSet_loop (s : ByteArray) (p K M : Int) (hs : mayB s = true) (hp : pmayB p K M = true) (d : Nat) : ∀ (k i : Nat), (i : Int) ≤ K + M → (K + M).toNat - i = d → d + 12 < k →
    gambrelref15_Set.l0 k s (setN s p K M i) (i : Int) p K M = some (setN s p K M (K + M).toNat, 0) := by
  obtain ⟨p1, p6, K1, K8, M1, M4, -⟩ := (pmayB_iff p K M).1 hp
  have w1 : wrap64 (K + M) = K + M := by unfold wrap64; omega
  induction d with
  | zero =>
    intro k i hi hd hk
    obtain ⟨k, rfl⟩ : ∃ m, k = m + 1 := ⟨k - 1, by omega⟩
    simp only [gambrelref15_Set.l0]
    have : i = (K + M).toNat := by omega
    rw [w1, if_neg (by omega), this]
  | succ d ih =>
    intro k i hi hd hk
    obtain ⟨k, rfl⟩ : ∃ m, k = m + 1 := ⟨k - 1, by omega⟩
    simp only [gambrelref15_Set.l0]
    have hw : wrap64 ((i : Int) + 1) = ((i + 1 : Nat) : Int) := by unfold wrap64; omega
    rw [w1, if_pos (by omega), refShard s p K M i k hs hp (by omega) (by omega) (by omega)]
    simp only [Option.bind_some]
    rw [if_pos (by rw [setN_len]; omega), hw, ← setN_succ]
    exact ih k (i + 1) (by omega) (by omega) (by omega)
theorem refSet (s : ByteArray) (p K M : Int) (k : Nat) (hs : mayB s = true) (hp : pmayB p K M = true) (hk : 40 ≤ k) : gambrelref15_Set.f k s p K M = some (setN s p K M (K + M).toNat, 0) := by
  obtain ⟨k, rfl⟩ : ∃ m, k = m + 1 := ⟨k - 1, by omega⟩
  obtain ⟨p1, p6, K1, K8, M1, M4, -⟩ := (pmayB_iff p K M).1 hp
  unfold gambrelref15_Set.f
  rw [refMayName s _ (by omega), hs, refMay_eq, hp]
  simp only [Option.bind_some, if_true, gambrelref15_Set.j0, Bool.not_true, Bool.false_eq_true, if_false]
  exact refSet_loop s p K M hs hp (K + M).toNat k 0 (by omega) (by omega) (by omega)
theorem refSet_not (s : ByteArray) (p K M : Int) (k : Nat) (h : (mayB s && pmayB p K M) = false) (hk : 12 ≤ k) : gambrelref15_Set.f k s p K M = some ([], 1) := by
  obtain ⟨k, rfl⟩ : ∃ m, k = m + 1 := ⟨k - 1, by omega⟩
  unfold gambrelref15_Set.f
  rw [refMayName s _ (by omega), refMay_eq]
  cases hs : mayB s with
  | false => simp [gambrelref15_Set.j0]
  | true =>
    have : pmayB p K M = false := by simpa [hs] using h
    simp [gambrelref15_Set.j0, this]
/-! ### the names are apart -/
theorem strOfNums_inj {a b : List Int} (ha : ∀ x ∈ a, 0 ≤ x ∧ x < 256) (hb : ∀ x ∈ b, 0 ≤ x ∧ x < 256) (h : strOfNums a = strOfNums b) : a = b := by
  unfold strOfNums at h
  injection h with h
  have h' : a.map (fun n => UInt8.ofNat n.toNat) = b.map (fun n => UInt8.ofNat n.toNat) := by
    have := congrArg Array.toList h
    simpa using this
  clear h
  induction a generalizing b with
  | nil => cases b with
    | nil => rfl
    | cons y b => simp at h'
  | cons x a ih => cases b with
    | nil => simp at h'
    | cons y b =>
      simp only [List.map_cons, List.cons.injEq] at h'
      have e1 := congrArg UInt8.toNat h'.1
      have hx := ha x (by simp)
      have hy := hb y (by simp)
      simp only [UInt8.toNat_ofNat'] at e1
      have : x = y := by omega
      rw [this, ih (fun z hz => ha z (by simp [hz])) (fun z hz => hb z (by simp [hz])) h'.2]
theorem lay_range (p : Int) : 0 ≤ lay p ∧ lay p < 256 := by
  unfold lay
  repeat' split
  all_goals omega
theorem tagL_range (p : Int) : ∀ x ∈ tagL p, 0 ≤ x ∧ x < 256 := by
  unfold tagL
  repeat' split
  all_goals (intro x hx; simp at hx; omega)
theorem suf_range (p K M i : Int) (hK : 1 ≤ K) (hK8 : K ≤ 8) (hM : 1 ≤ M) (hM4 : M ≤ 4) (h0 : 0 ≤ i) (h1 : i < K + M) : ∀ x ∈ suf p K M i, 0 ≤ x ∧ x < 256 := by
  have := lay_range p
  have ht := tagL_range p
  unfold suf
  split
  · intro x hx
    simp at hx
    omega
  · intro x hx
    simp only [List.mem_append, List.mem_cons, List.mem_nil_iff, or_false] at hx
    rcases hx with ((h | h) | h) | h | h | h
    · omega
    · omega
    · exact ht x h
    all_goals omega
theorem suf_inj (p K M i j : Int) (h : suf p K M i = suf p K M j) : i = j := by
  unfold suf at h
  split at h
  · split at h
    · simp at h; omega
    · simp at h
  · split at h
    · simp at h
    · have h2 := List.append_cancel_left h
      simp only [List.cons.injEq, and_true, true_and] at h2
      omega
theorem shardN_inj (s : ByteArray) (p K M i j : Int) (hp : pmayB p K M = true) (hi : 0 ≤ i) (hi1 : i < K + M) (hj : 0 ≤ j) (hj1 : j < K + M) (h : shardN s p K M i = shardN s p K M j) : i = j := by
  obtain ⟨p1, p6, K1, K8, M1, M4, -⟩ := (pmayB_iff p K M).1 hp
  unfold shardN at h
  have h2 := (ByteArray.append_right_inj s).1 h
  exact suf_inj p K M i j (strOfNums_inj (suf_range p K M i K1 K8 M1 M4 hi hi1) (suf_range p K M j K1 K8 M1 M4 hj hj1) h2)
theorem setN_nodup (s : ByteArray) (p K M : Int) (hp : pmayB p K M = true) : (setN s p K M (K + M).toNat).Nodup := by
  unfold setN
  rw [List.nodup_iff_pairwise_ne, List.pairwise_map]
  refine List.Pairwise.imp_of_mem ?_ (List.nodup_iff_pairwise_ne.1 List.nodup_range)
  intro a b ha hb hne he
  simp at ha hb
  exact hne (by have := shardN_inj s p K M a b hp (by omega) (by omega) (by omega) (by omega) he; omega)
theorem shardN_size (s : ByteArray) (p K M i : Int) : (shardN s p K M i).size ≤ s.size + 7 := by
  unfold shardN suf
  rw [ByteArray.size_append, strOfNums_size]
  split
  · simp
  · simp [tagL_len]
theorem setN_small (s : ByteArray) (p K M : Int) (hs : mayB s = true) (hp : pmayB p K M = true) : plan_Of.small (setN s p K M (K + M).toNat) = true := by
  obtain ⟨p1, p6, K1, K8, M1, M4, -⟩ := (pmayB_iff p K M).1 hp
  unfold plan_Of.small
  rw [setN_len]
  simp only [Bool.and_eq_true, decide_eq_true_eq, List.all_eq_true]
  refine ⟨by omega, fun x hx => ?_⟩
  unfold setN at hx
  obtain ⟨i, _, rfl⟩ := List.mem_map.1 hx
  have := shardN_size s p K M i
  have := may_size hs
  omega

end Go.Proofs.YtlapjnaaihpeeaaDoor.XPl
