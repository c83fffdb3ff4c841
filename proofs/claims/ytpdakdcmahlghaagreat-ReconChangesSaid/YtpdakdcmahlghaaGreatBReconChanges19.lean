-- Joined by this work's own program (wip/tools/bundle.py) out of its texts: what this claim uses of them. Not trusted: Lean checks it.
import Derived.Test.YtpdakdcmahlghaaGreatBReconChanges18
section
namespace Go.Proofs.YtpdakdcmahlghaaGreat.XCo
open Go.RowKit Go.Proofs.YtpdakdcmahlghaaGreatW.PrintWords Go.Proofs.YtpdakdcmahlghaaGreatW.PrintLast Go.Proofs.YtpdakdcmahlghaaGreatW.PrintMore
attribute [local go_sem] azz aAz aGz aHz asz atz aBz aCz
set_option linter.unusedVariables false
set_option linter.unusedSimpArgs false
def unitN (p : Int) : Nat := if p ≤ 2 then 8 else if p ≤ 4 then 16 else 1
def aheadN (p : Int) : Nat := if p = 5 then 4 else 0
theorem rule_eq {p : Int} (h1 : 1 ≤ p) (h2 : p ≤ 6) (k m : Int) : bIz.f p k m = some ((unitN p : Int), (aheadN p : Int)) := by
 have : p = 1 ∨ p = 2 ∨ p = 3 ∨ p = 4 ∨ p = 5 ∨ p = 6 := by omega
 rcases this with rfl | rfl | rfl | rfl | rfl | rfl <;> rfl
theorem w64 {x : Int} (h0 : -1 ≤ x) (h1 : x < 1000000000) : wrap64 x = x := by unfold wrap64; omega
theorem d1z (p : Int) : 1 ≤ unitN p ∧ unitN p ≤ 16 := by unfold unitN; split <;> (try split) <;> omega
theorem dEz (p : Int) : aheadN p ≤ 4 := by unfold aheadN; split <;> omega
def sizeN (p : Int) (K n : Nat) : Nat := unitN p * max ((n + aheadN p + unitN p * K - 1) / (unitN p * K)) 1
theorem sizeN_room (p : Int) (K n : Nat) (hK : 1 ≤ K) : n + aheadN p ≤ sizeN p K n * K := by
 have hu := (d1z p).1
 unfold sizeN
 generalize n + aheadN p = t
 obtain ⟨s, hs⟩ : ∃ s, unitN p * K = s := ⟨_, rfl⟩
 have hs1 : 1 ≤ s := by rw [← hs]; exact Nat.mul_pos hu hK
 rw [hs]
 have h1 := Nat.div_add_mod (t + s - 1) s
 have h2 := Nat.mod_lt (t + s - 1) (show 0 < s from hs1)
 have h3 : s * ((t + s - 1) / s) ≤ s * max ((t + s - 1) / s) 1 := Nat.mul_le_mul_left _ (Nat.le_max_left _ _)
 have h4 : unitN p * max ((t + s - 1) / s) 1 * K = s * max ((t + s - 1) / s) 1 := by rw [← hs, Nat.mul_assoc, Nat.mul_comm (max _ _) K, ← Nat.mul_assoc]
 rw [h4]
 omega
theorem sizeN_pos (p : Int) (K n : Nat) : 1 ≤ sizeN p K n := by
 unfold sizeN
 exact Nat.mul_pos (d1z p).1 (Nat.lt_of_lt_of_le Nat.one_pos (Nat.le_max_right _ _))
theorem d2z (p : Int) (K n : Nat) (hK : 1 ≤ K) (hK2 : K ≤ 8) (hn : n ≤ 4096) : sizeN p K n ≤ 80000 := by
 have hu := d1z p
 have ha := dEz p
 have h1 : (n + aheadN p + unitN p * K - 1) / (unitN p * K) ≤ 4300 := by
  have h2 : unitN p * K ≤ 16 * 8 := Nat.mul_le_mul hu.2 hK2
  exact Nat.le_trans (Nat.div_le_self _ _) (by omega)
 unfold sizeN
 exact Nat.le_trans (Nat.mul_le_mul hu.2 (show max ((n + aheadN p + unitN p * K - 1) / (unitN p * K)) 1 ≤ 4300 by omega)) (by omega)
theorem sizeN_even (p : Int) (K n : Nat) : sizeN p K n % wN (pbits p) = 0 := by
 unfold pbits
 by_cases h : p = 2
 ·subst h
  rw [if_pos rfl]
  show (8 * _) % 2 = 0
  omega
 ·rw [if_neg h]
  show _ % 1 = 0
  omega
theorem size_ev (p : Int) (K M n : Nat) (hmay : ahz.f p (K : Int) (M : Int) = some true) (hn : n ≤ 4096) : Ev (fun k => aFz.f k p (K : Int) (M : Int) (n : Int)) ((sizeN p K n : Int), 0) := by
 obtain ⟨p1, p2, k1, k2, m1, m2⟩ := bhz hmay
 have hu := d1z p
 have ha := dEz p
 have hup : unitN p * K ≤ 16 * 8 := Nat.mul_le_mul hu.2 (by omega)
 have hu1 : 1 ≤ unitN p * K := Nat.mul_pos hu.1 (by omega)
 refine Ev.of (fun k => aFz.mono _ _ _ _ k) (k := 1) ?_
 unfold aFz.f
 rw [hmay, Option.bind_some, if_pos rfl, show decide ((n : Int) < 0) = false by simp]
 rw [aFz.j0]
 rw [if_neg (by decide), if_neg (by omega), rule_eq p1 p2, Option.bind_some]
 have w1 : wrap64 ((unitN p : Int) * (K : Int)) = ((unitN p * K : Nat) : Int) := by
  rw [← Int.natCast_mul]; unfold wrap64; omega
 dsimp only
 rw [w1, if_neg (by omega)]
 have w2 : wrap64 (wrap64 (wrap64 ((n : Int) + (aheadN p : Int)) + ((unitN p * K : Nat) : Int)) - 1) = ((n + aheadN p + unitN p * K - 1 : Nat) : Int) := by
  generalize unitN p * K = s at hup hu1 ⊢
  generalize aheadN p = a at ha ⊢
  rw [w64 (x := (n : Int) + (a : Int)) (by omega) (by omega), w64 (x := (n : Int) + (a : Int) + (s : Int)) (by omega) (by omega), w64 (x := (n : Int) + (a : Int) + (s : Int) - 1) (by omega) (by omega)]
  omega
 rw [w2, show Int.tdiv ((n + aheadN p + unitN p * K - 1 : Nat) : Int) ((unitN p * K : Nat) : Int) = (((n + aheadN p + unitN p * K - 1) / (unitN p * K) : Nat) : Int) from (Int.ofNat_tdiv _ _).symm]
 have hle := d2z p K n (by omega) (by omega) hn
 unfold sizeN at hle ⊢
 have hq : (n + aheadN p + unitN p * K - 1) / (unitN p * K) ≤ 4300 := Nat.le_trans (Nat.div_le_self _ _) (by omega)
 generalize (n + aheadN p + unitN p * K - 1) / (unitN p * K) = q at hle hq ⊢
 have w3 : mx (wrap64 (q : Int)) 1 = ((max q 1 : Nat) : Int) := by
  rw [show wrap64 (q : Int) = (q : Int) by unfold wrap64; omega]
  unfold mx
  split <;> omega
 rw [w3, ← Int.natCast_mul]
 rw [show wrap64 ((unitN p * max q 1 : Nat) : Int) = ((unitN p * max q 1 : Nat) : Int) by unfold wrap64; omega]
theorem fill_some (size K : Nat) (hs : 1 ≤ size) : ∀ (cs : List Int) (i : Nat) (rows : List (List Int)), rows.length = K → (∀ r, r ∈ rows → r.length = size) → i + cs.length ≤ size * K →
  ∃ r, aKz.fill size cs i rows = some r ∧ r.length = K ∧ (∀ x, x ∈ r → x.length = size) ∧ (∀ P : Int → Prop, (∀ c, c ∈ cs → P c) → (∀ x, x ∈ rows → ∀ c, c ∈ x → P c) → ∀ x, x ∈ r → ∀ c, c ∈ x → P c)
 | [], i, rows, h1, h2, h3 => ⟨rows, rfl, h1, h2, fun P _ h => h⟩
 | c :: cs, i, rows, h1, h2, h3 => by
  have hlt : i / size < rows.length := by
   rw [h1]
   exact (Nat.div_lt_iff_lt_mul hs).2 (by rw [Nat.mul_comm]; simp at h3; omega)
  obtain ⟨row, hrow⟩ : ∃ r, rows[i / size]? = some r := ⟨_, List.getElem?_eq_getElem hlt⟩
  have hm := List.mem_of_getElem? hrow
  have hd : rows.getD (i / size) [] = row := by rw [List.getD_eq_getElem?_getD, hrow]; rfl
  obtain ⟨r, q1, q2, q3, q4⟩ := fill_some size K hs cs (i + 1) (rows.set (i / size) (row.set (i % size) c)) (by rw [List.length_set]; exact h1) (fun x hx => by
   rcases List.mem_or_eq_of_mem_set hx with hx | rfl
   ·exact h2 x hx
   ·rw [List.length_set]; exact h2 row hm) (by simp at h3; omega)
  refine ⟨r, ?_, q2, q3, fun P hc hr => q4 P (fun c hh => hc c (List.mem_cons_of_mem _ hh)) (fun x hx => ?_)⟩
  ·simp only [aKz.fill]
   rw [if_pos hlt, hd]
   exact q1
  ·rcases List.mem_or_eq_of_mem_set hx with hx | rfl
   ·exact hr x hx
   ·intro y hy
    rcases List.mem_or_eq_of_mem_set hy with hy | rfl
    ·exact hr row hm y hy
    ·exact hc _ (List.mem_cons_self ..)
theorem laidL_len (p : Int) (b : List Int) : (laidL (aheadN p) b).length = b.length + aheadN p := by
 unfold laidL four4
 have := dEz p
 simp; omega
theorem laidL_byte (a : Nat) (b : List Int) (hb : ∀ x, x ∈ b → 0 ≤ x ∧ x ≤ 255) : ∀ x, x ∈ laidL a b → 0 ≤ x ∧ x ≤ 255 := by
 intro x hx
 unfold laidL at hx
 rcases List.mem_append.1 hx with h | h
 ·have h := List.mem_of_mem_drop h
  simp only [four4, List.mem_cons, List.mem_nil_iff, or_false] at h
  rcases h with rfl | rfl | rfl | rfl <;> omega
 ·exact hb x h
theorem split_ev (p : Int) (K M : Nat) (b : List Int) (hmay : ahz.f p (K : Int) (M : Int) = some true) (hn : b.length ≤ 4096) :
  ∃ data, data.length = K ∧ (∀ r, r ∈ data → r.length = sizeN p K b.length) ∧ ((∀ x, x ∈ b → 0 ≤ x ∧ x ≤ 255) → ∀ r, r ∈ data → ∀ x, x ∈ r → 0 ≤ x ∧ x ≤ 255) ∧ aKz.fill (sizeN p K b.length) (laidL (aheadN p) b) 0 (List.replicate K (List.replicate (sizeN p K b.length) 0)) = some data ∧ Ev (fun k => aKz.f k p (K : Int) (M : Int) b) (data, 0) := by
 obtain ⟨p1, p2, k1, k2, m1, m2⟩ := bhz hmay
 have hz1 := sizeN_pos p K b.length
 have hz2 := d2z p K b.length (by omega) (by omega) hn
 have hz3 := sizeN_room p K b.length (by omega)
 obtain ⟨data, q1, q2, q3, q4⟩ := fill_some (sizeN p K b.length) K hz1 (laidL (aheadN p) b) 0 (List.replicate K (List.replicate (sizeN p K b.length) 0)) (by simp) (fun r hr => by rw [List.eq_of_mem_replicate hr]; simp) (by rw [laidL_len]; omega)
 refine ⟨data, q2, q3, fun hb => q4 _ (laidL_byte _ b hb) (fun x hx c hc => by
  rw [List.eq_of_mem_replicate hx] at hc
  rw [List.eq_of_mem_replicate hc]
  omega), q1, ?_⟩
 obtain ⟨k0, hk0⟩ := size_ev p K M b.length hmay hn
 refine ⟨k0, fun k hk => ?_⟩
 have h1 : aFz.f k p (K : Int) (M : Int) (b.length : Int) = some ((sizeN p K b.length : Int), 0) := hk0 k hk
 show aKz.f k p (K : Int) (M : Int) b = some (data, 0)
 unfold aKz.f
 rw [h1, Option.bind_some, if_pos rfl, if_pos (by omega), if_pos (by omega), if_pos (by show (1 : Int) ≤ _; omega), if_pos (by show _ ≤ (100000 : Int); omega), if_pos (by omega), rule_eq p1 p2, Option.bind_some, if_pos (by have := dEz p; dsimp only; unfold aheadN; split <;> omega), Int.toNat_natCast, Int.toNat_natCast, Int.toNat_natCast, q1]
 rfl
theorem cPz (L : Nat) (p : Int) (K M : Nat) (data : List (List Int)) (hmay : ahz.f p (K : Int) (M : Int) = some true) : (parV L p K M data).length = M := by
 obtain ⟨p1, p2, k1, k2, m1, m2⟩ := bhz hmay
 unfold parV
 rw [List.length_map, (ccz p K M (by omega) (by omega) (by omega) (by omega)).2]
theorem some_ev (a b c : Int) (ha : 0 ≤ a ∧ a ≤ 255) (hb : 0 ≤ b ∧ b ≤ 255) (hc : 0 ≤ c ∧ c ≤ 255) : ∃ (p : Int) (K M : Nat), boz.f a b c = some (p, (K : Int), (M : Int)) ∧ ahz.f p (K : Int) (M : Int) = some true ∧ (ahz.f 1 (K : Int) (M : Int) = some true) ∧ ahz.f 3 (K : Int) (mn (M : Int) 3) = some true := by
 have e1 : wrap64 (1 + Int.tmod (wrap64 a) 6) = 1 + a % 6 := by
  rw [show wrap64 a = a by unfold wrap64; omega, Int.tmod_eq_emod_of_nonneg (by omega)]; unfold wrap64; omega
 have e2 : wrap64 (1 + Int.tmod (wrap64 b) 8) = 1 + b % 8 := by
  rw [show wrap64 b = b by unfold wrap64; omega, Int.tmod_eq_emod_of_nonneg (by omega)]; unfold wrap64; omega
 have e3 : ∀ m : Int, 1 ≤ m → m ≤ 4 → wrap64 (1 + Int.tmod (wrap64 c) m) = 1 + c % m := fun m h1 h2 => by
  rw [show wrap64 c = c by unfold wrap64; omega, Int.tmod_eq_emod_of_nonneg (by omega)]
  have := Int.emod_nonneg c (show m ≠ 0 by omega)
  have := Int.emod_lt_of_pos c (show 0 < m by omega)
  unfold wrap64; omega
 unfold boz.f
 rw [e1, e2]
 obtain ⟨p, hp⟩ : ∃ p, 1 + a % 6 = p := ⟨_, rfl⟩
 obtain ⟨K, hK⟩ : ∃ K : Nat, 1 + b % 8 = (K : Int) := ⟨(1 + b % 8).toNat, by omega⟩
 have hK1 : 1 ≤ (K : Int) ∧ (K : Int) ≤ 8 := by omega
 rw [hp, hK]
 have case4 : ∀ (s : ByteArray) (x y z : Int) (m : Int), (m = 3 ∨ m = 4) → bBz.f p = some (s, x, y, z, m, true) → (∀ k M : Int, 1 ≤ k → k ≤ 8 → 1 ≤ M → M ≤ m → ahz.f p k M = some true) → ∃ (p' : Int) (K' M : Nat), ((bBz.f p).bind fun bt620 => (if bt620.2.2.2.2.1 = 0 then none else some (p, (K : Int), wrap64 (1 + Int.tmod (wrap64 c) bt620.2.2.2.2.1)))) = some (p', (K' : Int), (M : Int)) ∧ ahz.f p' (K' : Int) (M : Int) = some true ∧ (ahz.f 1 (K' : Int) (M : Int) = some true) ∧ ahz.f 3 (K' : Int) (mn (M : Int) 3) = some true := by
  intro s x y z m hm hof hmy
  have hcm : 0 ≤ c % m ∧ c % m < m := ⟨Int.emod_nonneg c (by omega), Int.emod_lt_of_pos c (by omega)⟩
  obtain ⟨M, hM⟩ : ∃ M : Nat, 1 + c % m = (M : Int) := ⟨(1 + c % m).toNat, by omega⟩
  have hM1 : 1 ≤ (M : Int) ∧ (M : Int) ≤ m := by omega
  refine ⟨p, K, M, ?_, hmy _ _ hK1.1 hK1.2 hM1.1 hM1.2, ?_, ?_⟩
  ·rw [hof, Option.bind_some]
   dsimp only
   rw [if_neg (by omega), e3 m (by omega) (by omega), hM]
  ·show (if (K : Int) ≥ 1 then (if (K : Int) ≤ 8 then (if (M : Int) ≥ 1 then some (decide ((M : Int) ≤ 4)) else some false) else some false) else some false) = some true
   rw [if_pos hK1.1, if_pos hK1.2, if_pos hM1.1]
   simp; omega
  ·show (if (K : Int) ≥ 1 then (if (K : Int) ≤ 8 then (if mn (M : Int) 3 ≥ 1 then some (decide (mn (M : Int) 3 ≤ 3)) else some false) else some false) else some false) = some true
   have hmn : 1 ≤ mn (M : Int) 3 ∧ mn (M : Int) 3 ≤ 3 := by unfold mn; split <;> omega
   rw [if_pos hK1.1, if_pos hK1.2, if_pos hmn.1]
   simp; omega
 have hmy : ∀ m : Int, (∀ k M : Int, ahz.f p k M = (if k ≥ 1 then (if k ≤ 8 then (if M ≥ 1 then some (decide (M ≤ m)) else some false) else some false) else some false)) → ∀ k M : Int, 1 ≤ k → k ≤ 8 → 1 ≤ M → M ≤ m → ahz.f p k M = some true := fun m h k M h1 h2 h3 h4 => by
  rw [h, if_pos h1, if_pos h2, if_pos h3]
  simpa using h4
 have hpc : p = 1 ∨ p = 2 ∨ p = 3 ∨ p = 4 ∨ p = 5 ∨ p = 6 := by omega
 clear hp e1 e2
 rcases hpc with rfl | rfl | rfl | rfl | rfl | rfl
 ·exact case4 _ _ _ _ 4 (.inr rfl) rfl (hmy 4 (fun _ _ => rfl))
 ·exact case4 _ _ _ _ 4 (.inr rfl) rfl (hmy 4 (fun _ _ => rfl))
 ·exact case4 _ _ _ _ 3 (.inl rfl) rfl (hmy 3 (fun _ _ => rfl))
 ·exact case4 _ _ _ _ 4 (.inr rfl) rfl (hmy 4 (fun _ _ => rfl))
 ·exact case4 _ _ _ _ 4 (.inr rfl) rfl (hmy 4 (fun _ _ => rfl))
 ·exact case4 _ _ _ _ 4 (.inr rfl) rfl (hmy 4 (fun _ _ => rfl))
theorem fine_true (p : Int) (K M : Nat) (L : List (List Int)) (hmay : ahz.f p (K : Int) (M : Int) = some true) (hb : K + M ≤ 1000) (hL : L.length = K + M) : aYz.f p (K : Int) (M : Int) L = some true := by
 unfold aYz.f
 rw [hmay, Option.bind_some, if_pos rfl, hL, w64 (by omega) (by omega), show (((K + M : Nat) : Int) == (K : Int) + (M : Int)) = true by simp]
theorem u8_xor (a b : Nat) (ha : a < 256) (hb : b < 256) : Go.bits .xor .u8 (a : Int) (b : Int) = ((a ^^^ b : Nat) : Int) := by
 have h : a ^^^ b < 2 ^ 8 := Nat.xor_lt_two_pow ha hb
 have e : ∀ x : Nat, x < 256 → (BitVec.ofInt 8 (x : Int)).toNat = x := fun x hx => by rw [BitVec.toNat_ofInt]; omega
 show IntKind.u8.wrap ((BitVec.ofInt 8 (a : Int) ^^^ BitVec.ofInt 8 (b : Int)).toNat : Int) = _
 rw [BitVec.toNat_xor, e a ha, e b hb]
 show ((a ^^^ b : Nat) : Int) % 256 = _
 omega
def xorN (a b : List Nat) : List Nat := List.zipWith (fun x y => x ^^^ y) a b
theorem d3z : ∀ (a b : List Nat), (∀ x, x ∈ a → x < 256) → (∀ x, x ∈ b → x < 256) → xorB (a.map fun x : Nat => (x : Int)) (b.map fun x : Nat => (x : Int)) = (xorN a b).map fun x : Nat => (x : Int)
 | [], _, _, _ => by simp [xorB, xorN]
 | _ :: _, [], _, _ => by simp [xorB, xorN]
 | x :: a, y :: b, ha, hb => by
  have h := d3z a b (fun q hq => ha q (List.mem_cons_of_mem _ hq)) (fun q hq => hb q (List.mem_cons_of_mem _ hq))
  unfold xorB xorN at *
  simp only [List.map_cons, List.zipWith_cons_cons]
  rw [h, u8_xor x y (ha x (List.mem_cons_self ..)) (hb y (List.mem_cons_self ..))]
theorem xorN_lt {w : Nat} : ∀ (a b : List Nat), (∀ x, x ∈ a → x < 2 ^ w) → (∀ x, x ∈ b → x < 2 ^ w) → ∀ x, x ∈ xorN a b → x < 2 ^ w := by
 intro a b ha hb x hx
 unfold xorN at hx
 obtain ⟨i, hi, rfl⟩ := List.mem_iff_getElem.1 hx
 rw [List.getElem_zipWith]
 exact Nat.xor_lt_two_pow (ha _ (List.getElem_mem ..)) (hb _ (List.getElem_mem ..))
def pairN : List Nat → List Nat
 | x :: y :: r => (x + 256 * y) :: pairN r
 | _ => []
theorem pair_xor (x y u v : Nat) (hx : x < 256) (hu : u < 256) : (x + 256 * y) ^^^ (u + 256 * v) = (x ^^^ u) + 256 * (y ^^^ v) := by
 have hxu : x ^^^ u < 2 ^ 8 := Nat.xor_lt_two_pow hx hu
 apply Nat.eq_of_testBit_eq
 intro i
 have e : ∀ a b : Nat, b + 256 * a = 2 ^ 8 * a + b := fun a b => by omega
 rw [e, e, e, Nat.testBit_xor, Nat.testBit_two_pow_mul_add _ hx, Nat.testBit_two_pow_mul_add _ hu, Nat.testBit_two_pow_mul_add _ hxu]
 split <;> rw [Nat.testBit_xor]
theorem pairN_xor : ∀ (a b : List Nat), a.length = b.length → (∀ x, x ∈ a → x < 256) → (∀ x, x ∈ b → x < 256) → pairN (xorN a b) = xorN (pairN a) (pairN b)
 | [], [], _, _, _ => rfl
 | [_], [_], _, _, _ => rfl
 | x :: y :: a, u :: v :: b, hl, ha, hb => by
  have h := pairN_xor a b (by simpa using hl) (fun q hq => ha q (by simp [hq])) (fun q hq => hb q (by simp [hq]))
  show ((x ^^^ u) + 256 * (y ^^^ v)) :: pairN (xorN a b) = ((x + 256 * y) ^^^ (u + 256 * v)) :: xorN (pairN a) (pairN b)
  rw [h, pair_xor x y u v (ha x (by simp)) (hb u (by simp))]
 | [], _ :: _, hl, _, _ => by simp at hl
 | _ :: _, [], hl, _, _ => by simp at hl
 | [_], _ :: _ :: _, hl, _, _ => by simp at hl
 | _ :: _ :: _, [_], hl, _, _ => by simp at hl
theorem pairN_lt : ∀ (a : List Nat), (∀ x, x ∈ a → x < 256) → ∀ x, x ∈ pairN a → x < 65536
 | [], _, _, h => by simp [pairN] at h
 | [_], _, _, h => by simp [pairN] at h
 | u :: v :: a, ha, x, h => by
  have h1 := ha u (by simp)
  have h2 := ha v (by simp)
  rcases List.mem_cons.1 (show x ∈ (u + 256 * v) :: pairN a from h) with rfl | h
  ·omega
  ·exact pairN_lt a (fun q hq => ha q (by simp [hq])) x h
def castN (l : List Nat) : List Int := l.map fun x : Nat => (x : Int)
theorem pairN_snoc (x y : Nat) : ∀ (l : List Nat), l.length % 2 = 0 → pairN (l ++ [x, y]) = pairN l ++ [x + 256 * y]
 | [], _ => rfl
 | [_], h => by simp at h
 | u :: v :: l, h => by
  have ih := pairN_snoc x y l (by simp at h; omega)
  show (u + 256 * v) :: pairN (l ++ [x, y]) = (u + 256 * v) :: pairN l ++ [x + 256 * y]
  rw [ih]; rfl
theorem dFz : ∀ (l : List Nat), (pairN l).length = l.length / 2
 | [] => rfl
 | [_] => by simp [pairN]
 | u :: v :: l => by
  have ih := dFz l
  show (pairN l).length + 1 = (l.length + 2) / 2
  omega
theorem wTo_two (n : List Nat) (hb : ∀ x, x ∈ n → x < 256) : ∀ j, 2 * j ≤ n.length → wTo 2 (castN n) (2 * j) = castN (pairN (n.take (2 * j))) ++ List.replicate (n.length / 2 - j) 0
 | 0, _ => by
  show wTo 2 (castN n) 0 = _
  unfold wTo castN
  simp [pairN]
 | j + 1, hj => by
  have ih := wTo_two n hb j (by omega)
  obtain ⟨x, hx⟩ : ∃ x, n[2 * j]? = some x := ⟨_, List.getElem?_eq_getElem (by omega)⟩
  obtain ⟨y, hy⟩ : ∃ y, n[2 * j + 1]? = some y := ⟨_, List.getElem?_eq_getElem (by omega)⟩
  have hx8 := hb x (List.mem_of_getElem? hx)
  have hy8 := hb y (List.mem_of_getElem? hy)
  have gx : (castN n).getD (2 * j) 0 = (x : Int) := by unfold castN; rw [List.getD_eq_getElem?_getD, List.getElem?_map, hx]; rfl
  have gy : (castN n).getD (2 * j + 1) 0 = (y : Int) := by unfold castN; rw [List.getD_eq_getElem?_getD, List.getElem?_map, hy]; rfl
  have hpl : (castN (pairN (n.take (2 * j)))).length = j := by
   unfold castN
   rw [List.length_map, dFz, List.length_take]; omega
  have e1 : wTo 2 (castN n) (2 * j + 1) = castN (pairN (n.take (2 * j))) ++ (x : Int) :: List.replicate (n.length / 2 - (j + 1)) 0 := by
   have e : wTo 2 (castN n) (2 * j + 1) = if (2 * j) % 2 = 0 then (wTo 2 (castN n) (2 * j)).set ((2 * j) / 2) (wrap64 ((castN n).getD (2 * j) 0)) else (wTo 2 (castN n) (2 * j)).set ((2 * j) / 2) (wrap64 ((wTo 2 (castN n) (2 * j)).getD ((2 * j) / 2) 0 + wrap64 (256 * wrap64 ((castN n).getD (2 * j) 0)))) := rfl
   rw [e, if_pos (by omega), ih, gx, show 2 * j / 2 = j by omega, w64 (by omega) (by omega), List.set_append_right _ _ (by omega), hpl, Nat.sub_self, show n.length / 2 - j = (n.length / 2 - (j + 1)) + 1 by omega, List.replicate_succ, List.set_cons_zero]
  have e2 : wTo 2 (castN n) (2 * j + 1 + 1) = if (2 * j + 1) % 2 = 0 then (wTo 2 (castN n) (2 * j + 1)).set ((2 * j + 1) / 2) (wrap64 ((castN n).getD (2 * j + 1) 0)) else (wTo 2 (castN n) (2 * j + 1)).set ((2 * j + 1) / 2) (wrap64 ((wTo 2 (castN n) (2 * j + 1)).getD ((2 * j + 1) / 2) 0 + wrap64 (256 * wrap64 ((castN n).getD (2 * j + 1) 0)))) := rfl
  have hgd : (castN (pairN (n.take (2 * j))) ++ (x : Int) :: List.replicate (n.length / 2 - (j + 1)) 0).getD j 0 = (x : Int) := by
   rw [List.getD_eq_getElem?_getD, List.getElem?_append_right (by omega), hpl, Nat.sub_self]; rfl
  rw [show 2 * (j + 1) = 2 * j + 1 + 1 by omega, e2, if_neg (by omega), e1, gy, show (2 * j + 1) / 2 = j by omega, hgd, w64 (x := (y : Int)) (by omega) (by omega), w64 (x := 256 * (y : Int)) (by omega) (by omega), w64 (x := (x : Int) + 256 * (y : Int)) (by omega) (by omega), List.set_append_right _ _ (by omega), hpl, Nat.sub_self, List.set_cons_zero]
  have e3 : n.take (2 * j + 1 + 1) = n.take (2 * j) ++ [x, y] := by
   rw [List.take_add_one, List.take_add_one, hx, hy]; simp
  rw [e3, pairN_snoc x y _ (by rw [List.length_take]; omega)]
  unfold castN
  simp
theorem words16 (n : List Nat) (hb : ∀ x, x ∈ n → x < 256) (he : n.length % 2 = 0) : wordsF 16 (castN n) = castN (pairN n) := by
 unfold wordsF
 have h := wTo_two n hb (n.length / 2) (by omega)
 rw [show wN 16 = 2 from rfl, show (castN n).length = 2 * (n.length / 2) by unfold castN; rw [List.length_map]; omega, h, Nat.sub_self, List.take_of_length_le (by omega)]
 simp
theorem wTo_one (b : List Int) (hb : ∀ x, x ∈ b → 0 ≤ x ∧ x ≤ 255) : ∀ i, i ≤ b.length → wTo 1 b i = b.take i ++ List.replicate (b.length - i) 0
 | 0, _ => by unfold wTo; simp
 | i + 1, hi => by
  have ih := wTo_one b hb i (by omega)
  obtain ⟨x, hx⟩ : ∃ x, b[i]? = some x := ⟨_, List.getElem?_eq_getElem (by omega)⟩
  have hxb := hb x (List.mem_of_getElem? hx)
  have hg : b.getD i 0 = x := by rw [List.getD_eq_getElem?_getD, hx]; rfl
  have e : wTo 1 b (i + 1) = if i % 1 = 0 then (wTo 1 b i).set (i / 1) (wrap64 (b.getD i 0)) else (wTo 1 b i).set (i / 1) (wrap64 ((wTo 1 b i).getD (i / 1) 0 + wrap64 (256 * wrap64 (b.getD i 0)))) := rfl
  rw [e, if_pos (Nat.mod_one i), ih, hg, Nat.div_one, w64 (by omega) (by omega), List.set_append_right _ _ (by simp; omega), List.take_add_one, hx]
  rw [show i - (b.take i).length = 0 by simp; omega, show b.length - i = (b.length - (i + 1)) + 1 by omega, List.replicate_succ]
  simp
def mapN (f : Nat → Nat) (l : List Nat) : List Nat := l.map f
theorem mapN_xor (f : Nat → Nat) (w : Nat) (hf : ∀ a b, a < 2 ^ w → b < 2 ^ w → f (a ^^^ b) = f a ^^^ f b) : ∀ (a b : List Nat), (∀ x, x ∈ a → x < 2 ^ w) → (∀ x, x ∈ b → x < 2 ^ w) → mapN f (xorN a b) = xorN (mapN f a) (mapN f b)
 | [], _, _, _ => by simp [mapN, xorN]
 | _ :: _, [], _, _ => by simp [mapN, xorN]
 | x :: a, y :: b, ha, hb => by
  have h := mapN_xor f w hf a b (fun q hq => ha q (List.mem_cons_of_mem _ hq)) (fun q hq => hb q (List.mem_cons_of_mem _ hq))
  show f (x ^^^ y) :: mapN f (xorN a b) = (f x ^^^ f y) :: xorN (mapN f a) (mapN f b)
  rw [h, hf x y (ha x (List.mem_cons_self ..)) (hb y (List.mem_cons_self ..))]
def mN (wb c : Int) (x : Nat) : Nat := (gmul wb c (x : Int)).toNat
theorem mN_cast {wb : Int} (hw : wb = 8 ∨ wb = 16) (c : Int) (l : List Nat) : (castN l).map (gmul wb c) = castN (mapN (mN wb c) l) := by
 unfold castN mapN
 rw [List.map_map, List.map_map]
 refine List.map_congr_left (fun x _ => ?_)
 have := (buz hw c (x : Int)).1
 show gmul wb c (x : Int) = ((gmul wb c (x : Int)).toNat : Int)
 omega
theorem fsize8 : fsize 8 = 256 := rfl
theorem fsize16 : fsize 16 = 65536 := rfl
theorem mN_lt8 (c : Int) (x : Nat) : mN 8 c x < 256 := by
 have := buz (.inl rfl : (8 : Int) = 8 ∨ (8 : Int) = 16) c (x : Int)
 rw [fsize8] at this
 unfold mN; omega
theorem mN_xor8 (c : Int) (a b : Nat) (ha : a < 2 ^ 8) (hb : b < 2 ^ 8) : mN 8 c (a ^^^ b) = mN 8 c a ^^^ mN 8 c b := by
 have hx : a ^^^ b < 2 ^ 8 := Nat.xor_lt_two_pow ha hb
 by_cases hc : 0 ≤ c ∧ c < 256
 ·have e : ∀ x : Nat, x < 2 ^ 8 → mN 8 c x = gm 7 285 c.toNat x := fun x hx => by
   unfold mN
   rw [gmul_in hc.1 (by rw [fsize8]; exact hc.2) (by omega) (by rw [fsize8]; omega)]
   simp [gmN]
  rw [e _ hx, e _ ha, e _ hb]
  exact Gf.cWz _ _ _
 ·have e : ∀ x : Nat, mN 8 c x = 0 := fun x => by
   unfold mN
   rw [gmul_out]; rfl
   unfold inF
   rw [fsize8]
   simp
   intro h1 h2
   exact absurd ⟨h1, h2⟩ hc
  rw [e, e, e]; rfl
theorem mN_xor16 (c : Int) (a b : Nat) (ha : a < 2 ^ 16) (hb : b < 2 ^ 16) : mN 16 c (a ^^^ b) = mN 16 c a ^^^ mN 16 c b := by
 have hx : a ^^^ b < 2 ^ 16 := Nat.xor_lt_two_pow ha hb
 by_cases hc : 0 ≤ c ∧ c < 65536
 ·have e : ∀ x : Nat, x < 2 ^ 16 → mN 16 c x = gm 15 69643 c.toNat x := fun x hx => by
   unfold mN
   rw [gmul_in hc.1 (by rw [fsize16]; exact hc.2) (by omega) (by rw [fsize16]; omega)]
   simp [gmN]
  rw [e _ hx, e _ ha, e _ hb]
  exact Gf.cWz _ _ _
 ·have e : ∀ x : Nat, mN 16 c x = 0 := fun x => by
   unfold mN
   rw [gmul_out]; rfl
   unfold inF
   rw [fsize16]
   simp
   intro h1 h2
   exact absurd ⟨h1, h2⟩ hc
  rw [e, e, e]; rfl
def flatN : List Nat → List Nat
 | [] => []
 | x :: r => (x % 256) :: (x / 256 % 256) :: flatN r
theorem bytes16 : ∀ (l : List Nat), bytesF 16 (castN l) = castN (flatN l)
 | [] => rfl
 | x :: r => by
  have h3 : bytesF 16 ((x : Int) :: castN r) = byteF 16 (x : Int) ++ bytesF 16 (castN r) := by unfold bytesF; rw [List.flatMap_cons]
  show bytesF 16 ((x : Int) :: castN r) = ((x % 256 : Nat) : Int) :: ((x / 256 % 256 : Nat) : Int) :: castN (flatN r)
  rw [h3, bytes16 r]
  show [(x : Int) % 256, (x : Int) / 256 % 256] ++ _ = _
  simp
theorem bytes8 : ∀ (l : List Nat), (∀ x, x ∈ l → x < 256) → bytesF 8 (castN l) = castN l
 | [], _ => rfl
 | x :: r, h => by
  have h3 : bytesF 8 ((x : Int) :: castN r) = byteF 8 (x : Int) ++ bytesF 8 (castN r) := by unfold bytesF; rw [List.flatMap_cons]
  have hx := h x (List.mem_cons_self ..)
  show bytesF 8 ((x : Int) :: castN r) = (x : Int) :: castN r
  rw [h3, bytes8 r (fun q hq => h q (List.mem_cons_of_mem _ hq))]
  show [(x : Int) % 256] ++ _ = _
  rw [show (x : Int) % 256 = (x : Int) by omega]; rfl
theorem flatN_xor : ∀ (a b : List Nat), a.length = b.length → flatN (xorN a b) = xorN (flatN a) (flatN b)
 | [], [], _ => rfl
 | [], _ :: _, h => by simp at h
 | _ :: _, [], h => by simp at h
 | x :: a, y :: b, h => by
  have ih := flatN_xor a b (by simpa using h)
  show ((x ^^^ y) % 256) :: ((x ^^^ y) / 256 % 256) :: flatN (xorN a b) = ((x % 256) ^^^ (y % 256)) :: ((x / 256 % 256) ^^^ (y / 256 % 256)) :: xorN (flatN a) (flatN b)
  have e1 : ∀ u v : Nat, (u ^^^ v) % 256 = (u % 256) ^^^ (v % 256) := fun u v => Nat.xor_mod_two_pow (n := 8)
  have e2 : (x ^^^ y) / 256 = (x / 256) ^^^ (y / 256) := Nat.xor_div_two_pow (n := 8)
  rw [ih, e1, e2, e1]
theorem flatN_lt : ∀ (a : List Nat) (x : Nat), x ∈ flatN a → x < 256
 | [], _, h => by simp [flatN] at h
 | u :: a, x, h => by
  rcases List.mem_cons.1 (show x ∈ (u % 256) :: (u / 256 % 256) :: flatN a from h) with rfl | h
  ·omega
  ·rcases List.mem_cons.1 h with rfl | h
   ·omega
   ·exact flatN_lt a x h
def mulN (wb c : Int) (n : List Nat) : List Nat := if wb = 8 then mapN (mN 8 c) n else flatN (mapN (mN 16 c) (pairN n))
theorem mapN_lt8 (c : Int) (n : List Nat) : ∀ x, x ∈ mapN (mN 8 c) n → x < 256 := by
 intro x hx
 obtain ⟨y, -, rfl⟩ := List.mem_map.1 hx
 exact mN_lt8 c y
theorem mulN_lt (wb c : Int) (n : List Nat) : ∀ x, x ∈ mulN wb c n → x < 256 := by
 unfold mulN
 split
 ·exact mapN_lt8 c n
 ·exact flatN_lt _
theorem words8 (n : List Nat) (hb : ∀ x, x ∈ n → x < 256) : wordsF 8 (castN n) = castN n := by
 unfold wordsF
 rw [show wN 8 = 1 from rfl, wTo_one (castN n) (fun x hx => by
  obtain ⟨y, hy, rfl⟩ := List.mem_map.1 hx
  have := hb y hy
  omega) _ (Nat.le_refl _), Nat.sub_self, List.take_length]
 simp
theorem mulB_nat {wb : Int} (hw : wb = 8 ∨ wb = 16) (c : Int) (n : List Nat) (hb : ∀ x, x ∈ n → x < 256) (he : n.length % wN wb = 0) : mulB wb c (castN n) = castN (mulN wb c n) := by
 unfold mulB mulN
 rcases hw with rfl | rfl
 ·rw [words8 n hb, mN_cast (.inl rfl), bytes8 _ (mapN_lt8 c n), if_pos rfl]
 ·rw [words16 n hb he, mN_cast (.inr rfl), bytes16, if_neg (by decide)]
theorem mulN_xor {wb : Int} (c : Int) (a b : List Nat) (hl : a.length = b.length) (ha : ∀ x, x ∈ a → x < 256) (hb : ∀ x, x ∈ b → x < 256) : mulN wb c (xorN a b) = xorN (mulN wb c a) (mulN wb c b) := by
 unfold mulN
 split
 ·exact mapN_xor _ 8 (mN_xor8 c) a b ha hb
 ·rw [pairN_xor a b hl ha hb, mapN_xor _ 16 (mN_xor16 c) _ _ (pairN_lt a ha) (pairN_lt b hb), flatN_xor]
  unfold mapN
  rw [List.length_map, List.length_map, dFz, dFz, hl]
theorem foldB_nat : ∀ (A : List (List Nat)) (a : List Nat), (∀ x, x ∈ a → x < 256) → (∀ r, r ∈ A → ∀ x, x ∈ r → x < 256) → (A.map castN).foldl xorB (castN a) = castN (A.foldl xorN a)
 | [], _, _, _ => rfl
 | r :: A, a, ha, hA => by
  have hr := hA r (List.mem_cons_self ..)
  have ih := foldB_nat A (xorN a r) (xorN_lt (w := 8) a r ha hr) (fun q hq => hA q (List.mem_cons_of_mem _ hq))
  show (A.map castN).foldl xorB (xorB (castN a) (castN r)) = _
  rw [show xorB (castN a) (castN r) = castN (xorN a r) from d3z a r ha hr, ih]; rfl
def dotN (S : Nat) (wb : Int) (c : List Int) (P : List (List Nat)) : List Nat := (List.zipWith (mulN wb) c P).foldl xorN (List.replicate S 0)
theorem zipM_nat {wb : Int} (hw : wb = 8 ∨ wb = 16) : ∀ (c : List Int) (P : List (List Nat)), (∀ r, r ∈ P → (∀ x, x ∈ r → x < 256) ∧ r.length % wN wb = 0) → List.zipWith (mulB wb) c (P.map castN) = (List.zipWith (mulN wb) c P).map castN
 | [], _, _ => by simp
 | _ :: _, [], _ => by simp
 | x :: c, r :: P, h => by
  have hr := h r (List.mem_cons_self ..)
  simp only [List.map_cons, List.zipWith_cons_cons]
  rw [mulB_nat hw x r hr.1 hr.2, zipM_nat hw c P (fun q hq => h q (List.mem_cons_of_mem _ hq))]
theorem d4z {wb : Int} (hw : wb = 8 ∨ wb = 16) (S : Nat) (c : List Int) (P : List (List Nat)) (h : ∀ r, r ∈ P → (∀ x, x ∈ r → x < 256) ∧ r.length % wN wb = 0) : dotV S wb c (P.map castN) = castN (dotN S wb c P) := by
 unfold dotV sumB dotN
 rw [zipM_nat hw c P h, show (List.replicate S (0 : Int)) = castN (List.replicate S 0) by unfold castN; simp]
 refine foldB_nat _ _ (fun x hx => by rw [List.eq_of_mem_replicate hx]; omega) (fun r hr x hx => ?_)
 obtain ⟨i, hi, rfl⟩ := List.mem_iff_getElem.1 hr
 rw [List.getElem_zipWith] at hx
 exact mulN_lt _ _ _ x hx
theorem xorN_len2 {S : Nat} {a b : List Nat} (ha : a.length = S) (hb : b.length = S) : (xorN a b).length = S := by simp [xorN, ha, hb]
theorem xorN_comm : ∀ (a b : List Nat), xorN a b = xorN b a := by
 intro a b
 unfold xorN
 rw [List.zipWith_comm]
 congr 1
 funext x y
 exact Nat.xor_comm _ _
theorem zip_set (f : Int → List Nat → List Nat) : ∀ (c : List Int) (P : List (List Nat)) (i : Nat) (x : Int) (r : List Nat), c[i]? = some x → List.zipWith f c (P.set i r) = (List.zipWith f c P).set i (f x r)
 | [], _, _, _, _, h => by simp at h
 | y :: c, [], i, x, r, _ => by simp
 | y :: c, q :: P, 0, x, r, h => by
  obtain rfl : y = x := by simpa using h
  rfl
 | y :: c, q :: P, i + 1, x, r, h => by
  have ih := zip_set f c P i x r (by simpa using h)
  show f y q :: List.zipWith f c (P.set i r) = f y q :: (List.zipWith f c P).set i (f x r)
  rw [ih]
theorem mulN_len {wb : Int} (hw : wb = 8 ∨ wb = 16) (c : Int) (n : List Nat) (hb : ∀ x, x ∈ n → x < 256) (he : n.length % wN wb = 0) : (mulN wb c n).length = n.length := by
 have h := mulB_len wb c (castN n) (by simpa [castN] using he)
 rw [mulB_nat hw c n hb he] at h
 simpa [castN] using h
theorem eqb_loop (x y : List Int) (n : Nat) (hx : x.length = n) (hy : y.length = n) (hn : n ≤ 100000000) : ∀ (m i : Nat), i + m = n → Ev (fun k => aqz.l0 k x y (n : Int) (i : Int)) (decide (x.drop i = y.drop i)) := by
 intro m
 induction m with
 | zero =>
  intro i hi
  refine Ev.step (f := fun _ => some true) (fun k => ?_) ?_
  ·rw [aqz.l0, if_neg (by omega)]
  ·rw [List.drop_of_length_le (by omega), List.drop_of_length_le (by omega)]
   exact Ev.now _
 | succ m ih =>
  intro i hi
  have hix : i < x.length := by omega
  have hiy : i < y.length := by omega
  have e1 : rd x (i : Int) = x[i] := by unfold rd; rw [Int.toNat_natCast, List.getD_eq_getElem?_getD, List.getElem?_eq_getElem hix]; rfl
  have e2 : rd y (i : Int) = y[i] := by unfold rd; rw [Int.toNat_natCast, List.getD_eq_getElem?_getD, List.getElem?_eq_getElem hiy]; rfl
  have d1 := List.drop_eq_getElem_cons hix
  have d2 := List.drop_eq_getElem_cons hiy
  by_cases h : x[i] = y[i]
  ·refine Ev.step (f := fun k => aqz.l0 k x y (n : Int) ((i + 1 : Nat) : Int)) (fun k => ?_) ?_
   ·rw [aqz.l0, if_pos (by omega), if_pos (by omega), if_pos (by omega), if_pos (by omega), e1, e2, if_pos h, cFz (by omega)]
   ·have := ih (i + 1) (by omega)
    rw [d1, d2]
    rw [show decide (x[i] :: x.drop (i + 1) = y[i] :: y.drop (i + 1)) = decide (x.drop (i + 1) = y.drop (i + 1)) by rw [h]; simp only [List.cons.injEq, true_and]]
    exact this
  ·refine Ev.step (f := fun _ => some false) (fun k => ?_) ?_
   ·rw [aqz.l0, if_pos (by omega), if_pos (by omega), if_pos (by omega), if_pos (by omega), e1, e2, if_neg h]
   ·rw [d1, d2, decide_eq_false (by intro hh; injection hh with h1 _; exact h h1)]
    exact Ev.now _
theorem eqb_ev (x y : List Int) (hx : x.length ≤ 100000000) : Ev (fun k => aqz.f k x y) (decide (x = y)) := by
 by_cases hl : x.length = y.length
 ·have h := eqb_loop x y x.length rfl hl.symm hx x.length 0 (by omega)
  refine Ev.congr (fun k => ?_) (by simpa using h)
  unfold aqz.f
  rw [if_pos (by omega)]
 ·refine Ev.congr (f := fun _ => some false) (fun k => ?_) ?_
  ·unfold aqz.f
   rw [if_neg (by omega)]
  ·rw [decide_eq_false (by rintro rfl; exact hl rfl)]
   exact Ev.now _
theorem eqRows_dec : ∀ (p q : List (List Int)), (∀ x, x ∈ p → x.length ≤ 100000000) → Ev (fun k => eqRows k p q) (decide (p = q))
 | [], [], _ => by simp only [eqRows]; exact Ev.now _
 | [], _ :: _, _ => by simp only [eqRows]; exact Ev.now _
 | _ :: _, [], _ => by simp only [eqRows]; exact Ev.now _
 | x :: xs, y :: ys, h => by
  simp only [eqRows]
  refine Ev.bind (eqb_ev x y (h x (List.mem_cons_self ..))) ?_
  by_cases hxy : x = y
  ·refine Ev.congr (f := fun k => eqRows k xs ys) (fun k => by rw [if_pos (decide_eq_true hxy)]) ?_
   have := eqRows_dec xs ys (fun z hz => h z (List.mem_cons_of_mem _ hz))
   simpa [hxy] using this
  ·refine Ev.congr (f := fun _ => some false) (fun k => by rw [decide_eq_false hxy, if_neg (by decide)]) ?_
   rw [decide_eq_false (by intro hh; injection hh with h1 _; exact hxy h1)]
   exact Ev.now _
theorem eqFunc_dec (p q : List (List Int)) (hl : p.length ≤ 1000000) (h : ∀ x, x ∈ p → x.length ≤ 100000000) : Ev (fun k => eqFunc k p q) (decide (p = q)) := by
 by_cases hpq : p.length = q.length
 ·refine Ev.congr (fun k => ?_) (eqRows_dec p q h)
  unfold eqFunc
  rw [if_pos hpq, if_pos hl]
 ·refine Ev.congr (f := fun _ => some false) (fun k => ?_) ?_
  ·unfold eqFunc
   rw [if_neg hpq]
  ·rw [decide_eq_false (by rintro rfl; exact hpq rfl)]
   exact Ev.now _
theorem ver_dec (p : Int) (K M L : Nat) (data Q : List (List Int)) (hmay : ahz.f p (K : Int) (M : Int) = some true) (hK : data.length = K) (hL : L ≤ 1000000) (hd : L % wN (pbits p) = 0) (hr : ∀ r, r ∈ data → r.length = L) (hQ : Q.length = M) :
  Ev (fun k => a9z.f k p (K : Int) (M : Int) (data ++ Q)) (decide (parV L p K M data = Q)) := by
 have h1 := par_ev p K M L data hmay hK hL hd hr
 have hl := cPz L p K M data hmay
 obtain ⟨p1, p2, k1, k2, m1, m2⟩ := bhz hmay
 have h2 := eqFunc_dec (parV L p K M data) Q (by omega) (fun x hx => by
  unfold parV at hx
  obtain ⟨c, -, rfl⟩ := List.mem_map.1 hx
  rw [dotV_len hd hr]; omega)
 have ht : (data ++ Q).take K = data := by rw [← hK, List.take_left']; rfl
 have hdr : (data ++ Q).drop K = Q := by rw [← hK, List.drop_left']; rfl
 refine Ev.congr (f := fun k => (akz.f k p (K : Int) (M : Int) data).bind fun t => if t.2 = 0 then eqFunc k t.1 Q else some false) (fun k => ?_) ?_
 ·unfold a9z.f
  rw [hmay, Option.bind_some, if_pos rfl, if_pos (by rw [List.length_append, hK, hQ]; omega), Int.toNat_natCast, ht, hdr]
 ·refine Ev.bind h1 ?_
  refine Ev.congr (fun k => ?_) h2
  rw [if_pos rfl]
theorem xor_zero : ∀ b, b < 13 → Go.bits .xor .i64 0 ((b : Nat) : Int) = (b : Int) := by decide +kernel
def nOf (r : List Int) : List Nat := r.map Int.toNat
theorem c2z : ∀ (r : List Int), (∀ x, x ∈ r → 0 ≤ x ∧ x ≤ 255) → castN (nOf r) = r
 | [], _ => rfl
 | x :: r, h => by
  have hx := h x (List.mem_cons_self ..)
  have ih := c2z r (fun y hy => h y (List.mem_cons_of_mem _ hy))
  show ((x.toNat : Nat) : Int) :: castN (nOf r) = x :: r
  rw [ih, Int.toNat_of_nonneg hx.1]
theorem nOf_lt (r : List Int) (h : ∀ x, x ∈ r → 0 ≤ x ∧ x ≤ 255) : ∀ x, x ∈ nOf r → x < 256 := by
 intro x hx
 obtain ⟨y, hy, rfl⟩ := List.mem_map.1 hx
 have := h y hy
 omega
theorem nOf_len (r : List Int) : (nOf r).length = r.length := by simp [nOf]
def isBL (l : List (List Int)) (S : Nat) : Prop := ∀ r, r ∈ l → r.length = S ∧ ∀ x, x ∈ r → 0 ≤ x ∧ x ≤ 255
theorem rows_nOf {l : List (List Int)} {S : Nat} (h : isBL l S) : (l.map nOf).map castN = l ∧ ∀ r, r ∈ l.map nOf → r.length = S ∧ ∀ x, x ∈ r → x < 256 := by
 constructor
 ·rw [List.map_map]
  conv => rhs; rw [← List.map_id l]
  exact List.map_congr_left (fun r hr => c2z r (h r hr).2)
 ·intro r hr
  obtain ⟨q, hq, rfl⟩ := List.mem_map.1 hr
  exact ⟨by rw [nOf_len]; exact (h q hq).1, nOf_lt q (h q hq).2⟩
theorem foldN_lt : ∀ (A : List (List Nat)) (a : List Nat), (∀ x, x ∈ a → x < 256) → (∀ r, r ∈ A → ∀ x, x ∈ r → x < 256) → ∀ x, x ∈ A.foldl xorN a → x < 256
 | [], _, h, _ => h
 | r :: rs, a, h, hr => foldN_lt rs (xorN a r) (xorN_lt (w := 8) a r h (hr r (List.mem_cons_self ..))) (fun q hq => hr q (List.mem_cons_of_mem _ hq))
theorem dotN_lt (S : Nat) (wb : Int) (c : List Int) (P : List (List Nat)) : ∀ x, x ∈ dotN S wb c P → x < 256 := by
 unfold dotN
 refine foldN_lt _ _ (fun x hx => ?_) (fun r hr => ?_)
 ·have := List.eq_of_mem_replicate hx
  omega
 ·obtain ⟨i, hi, rfl⟩ := List.mem_iff_getElem.1 hr
  rw [List.getElem_zipWith]
  exact mulN_lt _ _ _
theorem dGz (p : Int) : pbits p = 8 ∨ pbits p = 16 := by unfold pbits; split <;> simp
theorem parV_bytes (p : Int) (K M S : Nat) (data : List (List Int)) (hS : S % wN (pbits p) = 0) (h : isBL data S) : isBL (parV S p K M data) S := by
 obtain ⟨e, hb⟩ := rows_nOf h
 intro r hr
 unfold parV at hr
 obtain ⟨c, -, rfl⟩ := List.mem_map.1 hr
 refine ⟨dotV_len hS (fun r hr => (h r hr).1), ?_⟩
 rw [← e, d4z (dGz p) S c _ (fun r hr => ⟨(hb r hr).2, by rw [(hb r hr).1]; exact hS⟩)]
 intro x hx
 obtain ⟨y, hy, rfl⟩ := List.mem_map.1 hx
 have := dotN_lt _ _ _ _ y hy
 omega
theorem enc_of (p : Int) (K M : Nat) (b : List Int) (hmay : ahz.f p (K : Int) (M : Int) = some true) (hn : b.length ≤ 4096) (data : List (List Int)) (q1 : data.length = K) (q2 : ∀ r, r ∈ data → r.length = sizeN p K b.length) (q4 : Ev (fun k => aKz.f k p (K : Int) (M : Int) b) (data, 0)) :
  Ev (fun k => bVz.f k p (K : Int) (M : Int) b) (data ++ parV (sizeN p K b.length) p K M data, 0) := by
 obtain ⟨p1, p2, k1, k2, m1, m2⟩ := bhz hmay
 have h2 := par_ev p K M (sizeN p K b.length) data hmay q1 (by have := d2z p K b.length (by omega) (by omega) hn; omega) (sizeN_even p K b.length) q2
 have hl := cPz (sizeN p K b.length) p K M data hmay
 refine Ev.bind q4 ?_
 refine Ev.congr (f := fun k => (akz.f k p (K : Int) (M : Int) data).bind fun t => if data.length + t.1.length < 5864062014805 then some (data ++ t.1, t.2) else none) (fun k => by dsimp only; rw [if_pos rfl]) ?_
 refine Ev.bind h2 ?_
 refine Ev.congr (fun k => ?_) (Ev.now _)
 dsimp only
 rw [if_pos (by omega)]
theorem dbz : ∀ (a b c : List Nat), xorN (xorN a b) c = xorN a (xorN b c)
 | x :: a, y :: b, z :: c => by
  have ih := dbz a b c
  show ((x ^^^ y) ^^^ z) :: xorN (xorN a b) c = (x ^^^ (y ^^^ z)) :: xorN a (xorN b c)
  rw [ih, Nat.xor_assoc]
 | [], _, _ => by simp [xorN]
 | _ :: _, [], _ => by simp [xorN]
 | _ :: _, _ :: _, [] => by simp [xorN]
theorem xorN_back : ∀ (z y : List Nat), z.length = y.length → xorN z (xorN z y) = y
 | [], [], _ => rfl
 | x :: a, y :: b, h => by
  have ih := xorN_back a b (by simpa using h)
  show (x ^^^ (x ^^^ y)) :: xorN a (xorN a b) = y :: b
  rw [ih, ← Nat.xor_assoc, Nat.xor_self, Nat.zero_xor]
 | [], _ :: _, h => by simp at h
 | _ :: _, [], h => by simp at h
theorem dtz : ∀ (S : Nat) (a : List Nat), a.length = S → xorN (List.replicate S 0) a = a
 | 0, [], _ => rfl
 | 0, _ :: _, h => by simp at h
 | S + 1, [], h => by simp at h
 | S + 1, x :: a, h => by
  have ih := dtz S a (by simpa using h)
  show (0 ^^^ x) :: xorN (List.replicate S 0) a = x :: a
  rw [ih, Nat.zero_xor]
theorem fold_push : ∀ (Z : List (List Nat)) (a b : List Nat), xorN (Z.foldl xorN a) b = Z.foldl xorN (xorN a b)
 | [], _, _ => rfl
 | z :: Z, a, b => by
  show xorN (Z.foldl xorN (xorN a z)) b = Z.foldl xorN (xorN (xorN a b) z)
  rw [fold_push Z (xorN a z) b, dbz a z b, xorN_comm z b, ← dbz]
theorem fold_turn : ∀ (Z : List (List Nat)) (i : Nat) (a z y : List Nat), Z[i]? = some z → z.length = y.length → xorN (Z.foldl xorN a) (xorN z y) = (Z.set i y).foldl xorN a
 | [], _, _, _, _, h, _ => by simp at h
 | r :: Z, 0, a, z, y, h, hl => by
  obtain rfl : r = z := by simpa using h
  show xorN (Z.foldl xorN (xorN a r)) (xorN r y) = Z.foldl xorN (xorN a y)
  rw [fold_push, dbz, xorN_back r y hl]
 | r :: Z, i + 1, a, z, y, h, hl => fold_turn Z i (xorN a r) z y (by simpa using h) hl
theorem dotN_turn {wb : Int} (hw : wb = 8 ∨ wb = 16) (S : Nat) (hS : S % wN wb = 0) (c : List Int) (P : List (List Nat)) (i : Nat) (x : Int) (r y : List Nat) (hx : c[i]? = some x) (hr : P[i]? = some r) (hr1 : r.length = S ∧ ∀ z, z ∈ r → z < 256) (hy : y.length = S ∧ ∀ z, z ∈ y → z < 256) :
  xorN (dotN S wb c P) (mulN wb x (xorN r y)) = dotN S wb c (P.set i y) := by
 unfold dotN
 rw [zip_set _ _ _ _ _ _ hx, mulN_xor x r y (by omega) hr1.2 hy.2]
 exact fold_turn _ i _ (mulN wb x r) (mulN wb x y) (by rw [List.getElem?_zipWith, hx, hr]) (by rw [mulN_len hw _ _ hr1.2 (by rw [hr1.1]; exact hS), mulN_len hw _ _ hy.2 (by rw [hy.1]; exact hS)]; omega)
theorem add_nat (S : Nat) (hS : S ≤ 1000000) (a b : List Nat) (ha : a.length = S ∧ ∀ x, x ∈ a → x < 256) (hb : b.length = S ∧ ∀ x, x ∈ b → x < 256) : Ev (fun k => bCz.f k (castN a) (castN b)) (castN (xorN a b), 0) := by
 have hla : (castN a).length = S := by simp [castN, ha.1]
 have hlb : (castN b).length = S := by simp [castN, hb.1]
 have h := sum_ev [castN a, castN b] S (by omega) (by simp) (by simp) (fun r hr => by
  rcases List.mem_cons.1 hr with rfl | hr
  ·exact hla
  ·rcases List.mem_cons.1 hr with rfl | hr
   ·exact hlb
   ·simp at hr)
 have e : sumB S [castN a, castN b] = castN (xorN a b) := by
  show xorB (xorB (List.replicate S 0) (castN a)) (castN b) = _
  have e0 : List.replicate S (0 : Int) = castN (List.replicate S 0) := by simp [castN]
  have h1 : xorB (castN (List.replicate S 0)) (castN a) = castN (xorN (List.replicate S 0) a) := d3z _ _ (fun x hx => by have := List.eq_of_mem_replicate hx; omega) ha.2
  have h2 : xorB (castN a) (castN b) = castN (xorN a b) := d3z _ _ ha.2 hb.2
  rw [e0, h1, dtz S a ha.1, h2]
 rw [e] at h
 exact Ev.congr (fun k => rfl) (Ev.bind h (Ev.now _))
theorem upd_data (k : Nat) (wb : Int) (n i : Nat) (M : List (List Int)) (d : List Int) (rest : List (List Int)) : ∀ (D : List (List Int)) (j : Nat) (acc : List (List Int)), j + D.length = n → (∀ r, r ∈ D → r.length ≤ 1000000) → alz.l k wb n i M d j (D ++ rest) acc = alz.l k wb n i M d n rest (acc ++ D)
 | [], j, acc, h, _ => by
  obtain rfl : j = n := by simpa using h
  simp
 | r :: D, j, acc, h, hr => by
  have hl : j < n := by simp at h; omega
  rw [List.cons_append, alz.l, if_pos hl, if_pos (hr r (List.mem_cons_self ..)), upd_data k wb n i M d rest D (j + 1) (acc ++ [r]) (by simp at h; omega) (fun q hq => hr q (List.mem_cons_of_mem _ hq)), List.append_assoc]
  rfl
theorem upd_par {wb : Int} (hw : wb = 8 ∨ wb = 16) (S n i : Nat) (hS : S % wN wb = 0) (hS2 : S ≤ 1000000) (M : List (List Int)) (P : List (List Nat)) (r y : List Nat) (hi : i < n) (hM : ∀ c, c ∈ M → c.length = n) (hr : P[i]? = some r) (hP : ∀ q, q ∈ P → q.length = S ∧ ∀ z, z ∈ q → z < 256) (hy : y.length = S ∧ ∀ z, z ∈ y → z < 256) :
  ∀ (C : List (List Int)) (t : Nat) (acc : List (List Int)), M.drop t = C → Ev (fun k => alz.l k wb n i M (castN (xorN r y)) (n + t) (C.map fun c => castN (dotN S wb c P)) acc) (acc ++ C.map fun c => castN (dotN S wb c (P.set i y)))
 | [], t, acc, _ => by
  refine Ev.congr (fun k => ?_) (Ev.now _)
  simp [alz.l]
 | c :: C, t, acc, h => by
  have hc : M[t]? = some c := by
   have : (M.drop t)[0]? = some c := by rw [h]; rfl
   rwa [List.getElem?_drop] at this
  have hcl := hM c (List.mem_of_getElem? hc)
  obtain ⟨x, hx⟩ : ∃ x, c[i]? = some x := ⟨_, List.getElem?_eq_getElem (by omega)⟩
  have hcd : M.getD t [] = c := by rw [List.getD_eq_getElem?_getD, hc]; rfl
  have hxd : c.getD i 0 = x := by rw [List.getD_eq_getElem?_getD, hx]; rfl
  have hr1 := hP r (List.mem_of_getElem? hr)
  have hrest : M.drop (t + 1) = C := by rw [← List.drop_drop, h]; rfl
  have hxy : (xorN r y).length = S ∧ ∀ z, z ∈ xorN r y → z < 256 := ⟨xorN_len2 hr1.1 hy.1, xorN_lt (w := 8) r y hr1.2 hy.2⟩
  have hdl : ∀ Q : List (List Nat), (∀ q, q ∈ Q → q.length = S ∧ ∀ z, z ∈ q → z < 256) → (dotN S wb c Q).length = S := fun Q hQ => by
   have h1 := dotV_len (wb := wb) (L := S) hS (c := c) (rows := Q.map castN) (fun q hq => by
    obtain ⟨q', hq', rfl⟩ := List.mem_map.1 hq
    simp [castN, (hQ q' hq').1])
   rw [d4z hw S c Q (fun q hq => ⟨(hQ q hq).2, by rw [(hQ q hq).1]; exact hS⟩)] at h1
   simpa [castN] using h1
  have hml : (mulN wb x (xorN r y)).length = S := by rw [mulN_len hw _ _ hxy.2 (by rw [hxy.1]; exact hS)]; exact hxy.1
  have hadd := add_nat S hS2 (dotN S wb c P) (mulN wb x (xorN r y)) ⟨hdl P hP, dotN_lt S wb c P⟩ ⟨hml, mulN_lt _ _ _⟩
  rw [dotN_turn hw S hS c P i x r y hx hr hr1 hy] at hadd
  have ih := upd_par hw S n i hS hS2 M P r y hi hM hr hP hy C (t + 1) (acc ++ [castN (dotN S wb c (P.set i y))]) hrest
  refine Ev.congr (f := fun k => (bCz.f k (castN (dotN S wb c P)) (castN (mulN wb x (xorN r y)))).bind fun t' => if t'.1.length ≤ 1000000 then alz.l k wb n i M (castN (xorN r y)) (n + t + 1) (C.map fun c => castN (dotN S wb c P)) (acc ++ [t'.1]) else none) (fun k => ?_) ?_
  ·rw [List.map_cons, alz.l, if_neg (by omega), Nat.add_sub_cancel_left, hcd, hxd, mulB_nat hw x (xorN r y) hxy.2 (by rw [hxy.1]; exact hS)]
  ·refine Ev.bind hadd ?_
   have hol : (castN (dotN S wb c (P.set i y))).length ≤ 1000000 := by
    have := hdl (P.set i y) (fun q hq => by
     rcases List.mem_or_eq_of_mem_set hq with hq | rfl
     ·exact hP q hq
     ·exact hy)
    simp [castN, this]; omega
   refine Ev.congr (fun k => by rw [if_pos hol]) ?_
   rw [List.map_cons, List.append_cons acc (castN (dotN S wb c (P.set i y))) (C.map fun c => castN (dotN S wb c (P.set i y)))]
   exact ih
theorem upd_ev (p : Int) (K M S : Nat) (hmay : ahz.f p (K : Int) (M : Int) = some true) (hS : S % wN (pbits p) = 0) (hS2 : S ≤ 1000000) (data : List (List Int)) (hK : data.length = K) (hD : isBL data S) (i : Nat) (hi : i < K) (y : List Int) (hy : y.length = S ∧ ∀ x, x ∈ y → 0 ≤ x ∧ x ≤ 255) :
  Ev (fun k => alz.f k p (K : Int) (M : Int) (data ++ parV S p K M data) (i : Int) y) (data.set i y ++ parV S p K M (data.set i y), 0) := by
 obtain ⟨p1, p2, k1, k2, m1, m2⟩ := bhz hmay
 obtain ⟨e, hb⟩ := rows_nOf hD
 have hpl := cPz S p K M data hmay
 have hpb := parV_bytes p K M S data hS hD
 have hLl : (data ++ parV S p K M data).length = K + M := by rw [List.length_append, hK, hpl]
 have hlen : ∀ r, r ∈ data ++ parV S p K M data → r.length = S := fun r hr => by
  rcases List.mem_append.1 hr with hr | hr
  ·exact (hD r hr).1
  ·exact (hpb r hr).1
 obtain ⟨r, hr⟩ : ∃ r, data[i]? = some r := ⟨_, List.getElem?_eq_getElem (by omega)⟩
 have hrb := hD r (List.mem_of_getElem? hr)
 have hgd := ccz p K M (by omega) (by omega) (by omega) (by omega)
 have hyn : (nOf y).length = S ∧ ∀ x, x ∈ nOf y → x < 256 := ⟨by rw [nOf_len]; exact hy.1, nOf_lt y hy.2⟩
 have hrn : (nOf r).length = S ∧ ∀ x, x ∈ nOf r → x < 256 := ⟨by rw [nOf_len]; exact hrb.1, nOf_lt r hrb.2⟩
 have hadd := add_nat S hS2 (nOf r) (nOf y) hrn hyn
 rw [c2z r hrb.2, c2z y hy.2] at hadd
 have hP : (data.map nOf)[i]? = some (nOf r) := by rw [List.getElem?_map, hr]; rfl
 have hpar := upd_par (dGz p) S K i hS hS2 (parM p K M) (data.map nOf) (nOf r) (nOf y) hi (fun c hc => (hgd.1 c hc).1) hP hb hyn (parM p K M) 0 ([] ++ data) rfl
 have hb2 : ∀ q, q ∈ (data.map nOf).set i (nOf y) → q.length = S ∧ ∀ x, x ∈ q → x < 256 := fun q hq => by
  rcases List.mem_or_eq_of_mem_set hq with hq | rfl
  ·exact hb q hq
  ·exact hyn
 have e2 : data.set i y = ((data.map nOf).set i (nOf y)).map castN := by
  rw [List.map_set, e, c2z y hy.2]
 have c1 : ((parM p K M).map fun c => castN (dotN S (pbits p) c (data.map nOf))) = parV S p K M data := by
  unfold parV
  refine List.map_congr_left (fun c _ => ?_)
  rw [← d4z (dGz p) S c _ (fun q hq => ⟨(hb q hq).2, by rw [(hb q hq).1]; exact hS⟩), e]
 have c2 : ((parM p K M).map fun c => castN (dotN S (pbits p) c ((data.map nOf).set i (nOf y)))) = parV S p K M (data.set i y) := by
  unfold parV
  refine List.map_congr_left (fun c _ => ?_)
  rw [← d4z (dGz p) S c _ (fun q hq => ⟨(hb2 q hq).2, by rw [(hb2 q hq).1]; exact hS⟩), e2]
 rw [c1, c2] at hpar
 have hdl : (castN (xorN (nOf r) (nOf y))).length = S := by
  have := xorN_len2 hrn.1 hyn.1
  simp [castN, this]
 have hany : ((data ++ parV S p K M data).any fun s => (s.length : Int) != (y.length : Int)) = false := by
  rw [List.any_eq_false]
  intro s hs
  rw [hlen s hs, hy.1]
  simp
 have hev : evB (pbits p) y = true := by
  unfold evB
  rw [hy.1, hS]; rfl
 have hgd2 : (data ++ parV S p K M data).getD i [] = r := by
  rw [List.getD_eq_getElem?_getD, List.getElem?_append_left (by omega), hr]; rfl
 have hg : Ev (fun k => alz.g k p (K : Int) (M : Int) (data ++ parV S p K M data) i y) (data.set i y ++ parV S p K M (data.set i y), 0) := by
  refine Ev.congr (f := fun k => (bCz.f k r y).bind fun d => if d.1.length % wN (pbits p) = 0 ∧ d.1.length ≤ 1000000 then ((alz.l k (pbits p) K i (parM p K M) d.1 0 (data ++ parV S p K M data) []).bind fun o => some (o.set i y, 0)) else none) (fun k => ?_) (Ev.bind hadd ?_)
  ·rw [alz.g, hgd2, Int.toNat_natCast, Int.toNat_natCast]
  ·refine Ev.congr (f := fun k => (alz.l k (pbits p) K i (parM p K M) (castN (xorN (nOf r) (nOf y))) (K + 0) (parV S p K M data) ([] ++ data)).bind fun o => some (o.set i y, 0)) (fun k => ?_) (Ev.bind hpar ?_)
   ·dsimp only
    rw [if_pos ⟨by rw [hdl]; exact hS, by omega⟩, upd_data k (pbits p) K i (parM p K M) _ (parV S p K M data) data 0 [] (by omega) (fun q hq => by rw [(hD q hq).1]; exact hS2)]
    rfl
   ·refine Ev.congr (fun k => ?_) (Ev.now _)
    rw [List.nil_append, List.set_append_left _ _ (by omega)]
 refine Ev.congr (fun k => ?_) hg
 rw [alz.f, fine_true p K M _ hmay (by omega) hLl, Option.bind_some, if_pos rfl, if_pos ⟨by omega, by omega⟩, even_ev p p1 p2, Option.bind_some, hev, if_pos rfl, hany, if_neg (by decide), if_pos (by omega), Int.toNat_natCast]
theorem same_ev (l : List (List Int)) (hl : l.length ≤ 1000000) : Ev (fun k => aDz.f k l l) true := by
 have key : ∀ (m i : Nat), i + m = l.length → Ev (fun k => aDz.l0 k l l (i : Int)) true := by
  intro m
  induction m with
  | zero =>
   intro i hi
   refine Ev.step (f := fun _ => some true) (fun k => ?_) (Ev.now _)
   rw [aDz.l0, if_neg (by omega)]
  | succ m ih =>
   intro i hi
   refine Ev.step (f := fun k => aDz.l0 k l l ((i + 1 : Nat) : Int)) (fun k => ?_) (ih (i + 1) (by omega))
   rw [aDz.l0, if_pos (by omega), if_pos (by omega), if_pos (by omega), if_pos rfl, cFz (by omega)]
 exact Ev.congr (fun k => by rw [aDz.f, if_pos rfl]; rfl) (key l.length 0 (by omega))
theorem u8_wf {x : Int} (h : (Lit.int .u8 x).wf = true) : 0 ≤ x ∧ x ≤ 255 := by
 simp [Lit.wf, IntKind.has] at h
 have h1 : IntKind.min .u8 = 0 := rfl
 have h2 : IntKind.max .u8 = 255 := rfl
 omega
end Go.Proofs.YtpdakdcmahlghaaGreat.XCo
end
