-- Joined by this work's own program (wip/tools/bundle.py) out of its texts: what this claim uses of them. Not trusted: Lean checks it.
import Derived.Test.YtelcllhibpnneaaGreatBCodecXor19
section
namespace Go.Proofs.YtelcllhibpnneaaGreat.XCo
open Go.RowKit Go.Proofs.YtelcllhibpnneaaGreatW.PrintWords Go.Proofs.YtelcllhibpnneaaGreatW.PrintLast Go.Proofs.YtelcllhibpnneaaGreatW.PrintMore
attribute [local go_sem] max2_int min2_int max_two min_two max_three min_three max_four min_four
set_option linter.unusedVariables false
set_option linter.unusedSimpArgs false
theorem byteF_len (wb a : Int) : (byteF wb a).length = wN wb := by unfold byteF wN; split <;> rfl
theorem bytesF_len (wb : Int) : ∀ l : List Int, (bytesF wb l).length = l.length * wN wb
 | [] => by simp [bytesF]
 | a :: l => by
  have h1 := bytesF_len wb l
  have h3 : bytesF wb (a :: l) = byteF wb a ++ bytesF wb l := by unfold bytesF; rw [List.flatMap_cons]
  rw [h3, List.length_append, byteF_len, h1, List.length_cons, Nat.add_mul]
  omega
theorem mulB_len (wb c : Int) (b : List Int) (h : b.length % wN wb = 0) : (mulB wb c b).length = b.length := by
 unfold mulB
 rw [bytesF_len, List.length_map, wordsF_length]
 exact Nat.div_mul_cancel (Nat.dvd_of_mod_eq_zero h)
def dotV (L : Nat) (wb : Int) (c : List Int) (rows : List (List Int)) : List Int := sumB L (List.zipWith (mulB wb) c rows)
theorem zip_len {wb : Int} {L : Nat} (hd : L % wN wb = 0) {c : List Int} {rows : List (List Int)} (hr : ∀ r, r ∈ rows → r.length = L) : ∀ r, r ∈ List.zipWith (mulB wb) c rows → r.length = L := by
 intro r h
 obtain ⟨i, hi, rfl⟩ := List.mem_iff_getElem.1 h
 rw [List.getElem_zipWith]
 rw [mulB_len _ _ _ (by rw [hr _ (List.getElem_mem ..)]; exact hd)]
 exact hr _ (List.getElem_mem ..)
theorem dot_ev (wb : Int) (L : Nat) (hL : L ≤ 1000000) (hd : L % wN wb = 0) (c : List Int) (rows : List (List Int)) (h0 : 0 < rows.length) (hc : c.length = rows.length) (hn : rows.length ≤ 1000) (hr : ∀ r, r ∈ rows → r.length = L) : Ev (fun k => dotB k wb c rows) (dotV L wb c rows, 0) := by
 have hall : rows.all (evB wb) = true := by
  rw [List.all_eq_true]
  intro r h
  unfold evB
  rw [hr r h, hd]; rfl
 refine Ev.congr (f := fun k => region_sum.f k (List.zipWith (mulB wb) c rows)) (fun k => by unfold dotB; rw [if_pos hall]) ?_
 exact sum_ev _ L (by omega) (by simp; omega) (by simp; omega) (zip_len hd hr)
theorem parl_ev (wb : Int) (L : Nat) (hL : L ≤ 1000000) (hd : L % wN wb = 0) (data : List (List Int)) (h0 : 0 < data.length) (hn : data.length ≤ 1000) (hr : ∀ r, r ∈ data → r.length = L) :
  ∀ (rs acc : List (List Int)), (∀ r, r ∈ rs → r.length = data.length) → Ev (fun k => codec_Parity.l k wb data rs acc) (acc ++ rs.map (fun c => dotV L wb c data), 0)
 | [], acc, _ => by
  simp only [codec_Parity.l, List.map_nil, List.append_nil]
  exact Ev.now _
 | row :: rs, acc, hc => by
  have h1 := dot_ev wb L hL hd row data h0 (hc row (List.mem_cons_self ..)) hn hr
  have h2 := parl_ev wb L hL hd data h0 hn hr rs (acc ++ [dotV L wb row data]) (fun r h => hc r (List.mem_cons_of_mem _ h))
  simp only [codec_Parity.l]
  refine Ev.bind h1 ?_
  rw [List.append_assoc] at h2
  simpa using h2
def parV (L : Nat) (p : Int) (K M : Nat) (data : List (List Int)) : List (List Int) := (parM p K M).map fun c => dotV L (pbits p) c data
theorem par_ev (p : Int) (K M L : Nat) (data : List (List Int)) (hmay : profile_May.f p (K : Int) (M : Int) = some true) (hK : data.length = K) (hL : L ≤ 1000000) (hd : L % wN (pbits p) = 0) (hr : ∀ r, r ∈ data → r.length = L) :
  Ev (fun k => codec_Parity.f k p (K : Int) (M : Int) data) (parV L p K M data, 0) := by
 obtain ⟨p1, p2, k1, k2, m1, m2⟩ := may_true hmay
 have hgd := parM_good p K M (by omega) (by omega) (by omega) (by omega)
 have hs : codec_Parity.small data = true := by
  simp only [codec_Parity.small, Bool.and_eq_true, decide_eq_true_eq, List.all_eq_true]
  exact ⟨by omega, fun r h => by rw [hr r h]; exact hL⟩
 have h1 := parl_ev (pbits p) L hL hd data (by omega) (by omega) hr (parM p K M) [] (fun r h => by rw [(hgd.1 r h).1, hK])
 refine Ev.congr (fun k => ?_) h1
 unfold codec_Parity.f
 rw [hmay, Option.bind_some, if_pos rfl, if_pos (by omega), if_pos hs, Int.toNat_natCast, Int.toNat_natCast]
end Go.Proofs.YtelcllhibpnneaaGreat.XCo
end
section
namespace Go.Proofs.YtelcllhibpnneaaGreat.XCo
open Go.RowKit Go.Proofs.YtelcllhibpnneaaGreatW.PrintWords Go.Proofs.YtelcllhibpnneaaGreatW.PrintLast Go.Proofs.YtelcllhibpnneaaGreatW.PrintMore
attribute [local go_sem] max2_int min2_int max_two min_two max_three min_three max_four min_four
set_option linter.unusedVariables false
set_option linter.unusedSimpArgs false
def unitN (p : Int) : Nat := if p ≤ 2 then 8 else if p ≤ 4 then 16 else 1
def aheadN (p : Int) : Nat := if p = 5 then 4 else 0
theorem rule_eq {p : Int} (h1 : 1 ≤ p) (h2 : p ≤ 6) (k m : Int) : layout_rule.f p k m = some ((unitN p : Int), (aheadN p : Int)) := by
 have : p = 1 ∨ p = 2 ∨ p = 3 ∨ p = 4 ∨ p = 5 ∨ p = 6 := by omega
 rcases this with rfl | rfl | rfl | rfl | rfl | rfl <;> rfl
theorem w64 {x : Int} (h0 : -1 ≤ x) (h1 : x < 1000000000) : wrap64 x = x := by unfold wrap64; omega
theorem unitN_bd (p : Int) : 1 ≤ unitN p ∧ unitN p ≤ 16 := by unfold unitN; split <;> (try split) <;> omega
theorem aheadN_bd (p : Int) : aheadN p ≤ 4 := by unfold aheadN; split <;> omega
def sizeN (p : Int) (K n : Nat) : Nat := unitN p * max ((n + aheadN p + unitN p * K - 1) / (unitN p * K)) 1
theorem sizeN_room (p : Int) (K n : Nat) (hK : 1 ≤ K) : n + aheadN p ≤ sizeN p K n * K := by
 have hu := (unitN_bd p).1
 unfold sizeN
 generalize n + aheadN p = t
 obtain ⟨s, hs⟩ : ∃ s, unitN p * K = s := ⟨_, rfl⟩
 have hs1 : 1 ≤ s := by rw [← hs]; exact Nat.mul_pos hu hK
 rw [hs]
 have h1 := Nat.div_add_mod (t + s - 1) s
 have h2 := Nat.mod_lt (t + s - 1) (show 0 < s from hs1)
 have h3 : s * ((t + s - 1) / s) ≤ s * max ((t + s - 1) / s) 1 := Nat.mul_le_mul_left _ (Nat.le_max_left _ _)
 have h4 : unitN p * max ((t + s - 1) / s) 1 * K = s * max ((t + s - 1) / s) 1 := by rw [← hs, Nat.mul_assoc, Nat.mul_comm (max _ _) K, ← Nat.mul_assoc]
 rw [h4]
 omega
theorem sizeN_pos (p : Int) (K n : Nat) : 1 ≤ sizeN p K n := by
 unfold sizeN
 exact Nat.mul_pos (unitN_bd p).1 (Nat.lt_of_lt_of_le Nat.one_pos (Nat.le_max_right _ _))
theorem sizeN_le (p : Int) (K n : Nat) (hK : 1 ≤ K) (hK2 : K ≤ 8) (hn : n ≤ 4096) : sizeN p K n ≤ 80000 := by
 have hu := unitN_bd p
 have ha := aheadN_bd p
 have h1 : (n + aheadN p + unitN p * K - 1) / (unitN p * K) ≤ 4300 := by
  have h2 : unitN p * K ≤ 16 * 8 := Nat.mul_le_mul hu.2 hK2
  exact Nat.le_trans (Nat.div_le_self _ _) (by omega)
 unfold sizeN
 exact Nat.le_trans (Nat.mul_le_mul hu.2 (show max ((n + aheadN p + unitN p * K - 1) / (unitN p * K)) 1 ≤ 4300 by omega)) (by omega)
theorem sizeN_even (p : Int) (K n : Nat) : sizeN p K n % wN (pbits p) = 0 := by
 unfold pbits
 by_cases h : p = 2
 ·subst h
  rw [if_pos rfl]
  show (8 * _) % 2 = 0
  omega
 ·rw [if_neg h]
  show _ % 1 = 0
  omega
theorem size_ev (p : Int) (K M n : Nat) (hmay : profile_May.f p (K : Int) (M : Int) = some true) (hn : n ≤ 4096) : Ev (fun k => layout_Size.f k p (K : Int) (M : Int) (n : Int)) ((sizeN p K n : Int), 0) := by
 obtain ⟨p1, p2, k1, k2, m1, m2⟩ := may_true hmay
 have hu := unitN_bd p
 have ha := aheadN_bd p
 have hup : unitN p * K ≤ 16 * 8 := Nat.mul_le_mul hu.2 (by omega)
 have hu1 : 1 ≤ unitN p * K := Nat.mul_pos hu.1 (by omega)
 refine Ev.of (fun k => layout_Size.mono _ _ _ _ k) (k := 1) ?_
 unfold layout_Size.f
 rw [hmay, Option.bind_some, if_pos rfl, show decide ((n : Int) < 0) = false by simp]
 rw [layout_Size.j0]
 rw [if_neg (by decide), if_neg (by omega), rule_eq p1 p2, Option.bind_some]
 have w1 : wrap64 ((unitN p : Int) * (K : Int)) = ((unitN p * K : Nat) : Int) := by
  rw [← Int.natCast_mul]; unfold wrap64; omega
 dsimp only
 rw [w1, if_neg (by omega)]
 have w2 : wrap64 (wrap64 (wrap64 ((n : Int) + (aheadN p : Int)) + ((unitN p * K : Nat) : Int)) - 1) = ((n + aheadN p + unitN p * K - 1 : Nat) : Int) := by
  generalize unitN p * K = s at hup hu1 ⊢
  generalize aheadN p = a at ha ⊢
  rw [w64 (x := (n : Int) + (a : Int)) (by omega) (by omega), w64 (x := (n : Int) + (a : Int) + (s : Int)) (by omega) (by omega), w64 (x := (n : Int) + (a : Int) + (s : Int) - 1) (by omega) (by omega)]
  omega
 rw [w2, show Int.tdiv ((n + aheadN p + unitN p * K - 1 : Nat) : Int) ((unitN p * K : Nat) : Int) = (((n + aheadN p + unitN p * K - 1) / (unitN p * K) : Nat) : Int) from (Int.ofNat_tdiv _ _).symm]
 have hle := sizeN_le p K n (by omega) (by omega) hn
 unfold sizeN at hle ⊢
 have hq : (n + aheadN p + unitN p * K - 1) / (unitN p * K) ≤ 4300 := Nat.le_trans (Nat.div_le_self _ _) (by omega)
 generalize (n + aheadN p + unitN p * K - 1) / (unitN p * K) = q at hle hq ⊢
 have w3 : mx (wrap64 (q : Int)) 1 = ((max q 1 : Nat) : Int) := by
  rw [show wrap64 (q : Int) = (q : Int) by unfold wrap64; omega]
  unfold mx
  split <;> omega
 rw [w3, ← Int.natCast_mul]
 rw [show wrap64 ((unitN p * max q 1 : Nat) : Int) = ((unitN p * max q 1 : Nat) : Int) by unfold wrap64; omega]
theorem fill_some (size K : Nat) (hs : 1 ≤ size) : ∀ (cs : List Int) (i : Nat) (rows : List (List Int)), rows.length = K → (∀ r, r ∈ rows → r.length = size) → i + cs.length ≤ size * K →
  ∃ r, layout_Split.fill size cs i rows = some r ∧ r.length = K ∧ (∀ x, x ∈ r → x.length = size) ∧ (∀ P : Int → Prop, (∀ c, c ∈ cs → P c) → (∀ x, x ∈ rows → ∀ c, c ∈ x → P c) → ∀ x, x ∈ r → ∀ c, c ∈ x → P c)
 | [], i, rows, h1, h2, h3 => ⟨rows, rfl, h1, h2, fun P _ h => h⟩
 | c :: cs, i, rows, h1, h2, h3 => by
  have hlt : i / size < rows.length := by
   rw [h1]
   exact (Nat.div_lt_iff_lt_mul hs).2 (by rw [Nat.mul_comm]; simp at h3; omega)
  obtain ⟨row, hrow⟩ : ∃ r, rows[i / size]? = some r := ⟨_, List.getElem?_eq_getElem hlt⟩
  have hm := List.mem_of_getElem? hrow
  have hd : rows.getD (i / size) [] = row := by rw [List.getD_eq_getElem?_getD, hrow]; rfl
  obtain ⟨r, q1, q2, q3, q4⟩ := fill_some size K hs cs (i + 1) (rows.set (i / size) (row.set (i % size) c)) (by rw [List.length_set]; exact h1) (fun x hx => by
   rcases List.mem_or_eq_of_mem_set hx with hx | rfl
   ·exact h2 x hx
   ·rw [List.length_set]; exact h2 row hm) (by simp at h3; omega)
  refine ⟨r, ?_, q2, q3, fun P hc hr => q4 P (fun c hh => hc c (List.mem_cons_of_mem _ hh)) (fun x hx => ?_)⟩
  ·simp only [layout_Split.fill]
   rw [if_pos hlt, hd]
   exact q1
  ·rcases List.mem_or_eq_of_mem_set hx with hx | rfl
   ·exact hr x hx
   ·intro y hy
    rcases List.mem_or_eq_of_mem_set hy with hy | rfl
    ·exact hr row hm y hy
    ·exact hc _ (List.mem_cons_self ..)
theorem laidL_len (p : Int) (b : List Int) : (laidL (aheadN p) b).length = b.length + aheadN p := by
 unfold laidL four4
 have := aheadN_bd p
 simp; omega
theorem laidL_byte (a : Nat) (b : List Int) (hb : ∀ x, x ∈ b → 0 ≤ x ∧ x ≤ 255) : ∀ x, x ∈ laidL a b → 0 ≤ x ∧ x ≤ 255 := by
 intro x hx
 unfold laidL at hx
 rcases List.mem_append.1 hx with h | h
 ·have h := List.mem_of_mem_drop h
  simp only [four4, List.mem_cons, List.mem_nil_iff, or_false] at h
  rcases h with rfl | rfl | rfl | rfl <;> omega
 ·exact hb x h
theorem split_ev (p : Int) (K M : Nat) (b : List Int) (hmay : profile_May.f p (K : Int) (M : Int) = some true) (hn : b.length ≤ 4096) :
  ∃ data, data.length = K ∧ (∀ r, r ∈ data → r.length = sizeN p K b.length) ∧ ((∀ x, x ∈ b → 0 ≤ x ∧ x ≤ 255) → ∀ r, r ∈ data → ∀ x, x ∈ r → 0 ≤ x ∧ x ≤ 255) ∧ layout_Split.fill (sizeN p K b.length) (laidL (aheadN p) b) 0 (List.replicate K (List.replicate (sizeN p K b.length) 0)) = some data ∧ Ev (fun k => layout_Split.f k p (K : Int) (M : Int) b) (data, 0) := by
 obtain ⟨p1, p2, k1, k2, m1, m2⟩ := may_true hmay
 have hz1 := sizeN_pos p K b.length
 have hz2 := sizeN_le p K b.length (by omega) (by omega) hn
 have hz3 := sizeN_room p K b.length (by omega)
 obtain ⟨data, q1, q2, q3, q4⟩ := fill_some (sizeN p K b.length) K hz1 (laidL (aheadN p) b) 0 (List.replicate K (List.replicate (sizeN p K b.length) 0)) (by simp) (fun r hr => by rw [List.eq_of_mem_replicate hr]; simp) (by rw [laidL_len]; omega)
 refine ⟨data, q2, q3, fun hb => q4 _ (laidL_byte _ b hb) (fun x hx c hc => by
  rw [List.eq_of_mem_replicate hx] at hc
  rw [List.eq_of_mem_replicate hc]
  omega), q1, ?_⟩
 obtain ⟨k0, hk0⟩ := size_ev p K M b.length hmay hn
 refine ⟨k0, fun k hk => ?_⟩
 have h1 : layout_Size.f k p (K : Int) (M : Int) (b.length : Int) = some ((sizeN p K b.length : Int), 0) := hk0 k hk
 show layout_Split.f k p (K : Int) (M : Int) b = some (data, 0)
 unfold layout_Split.f
 rw [h1, Option.bind_some, if_pos rfl, if_pos (by omega), if_pos (by omega), if_pos (by show (1 : Int) ≤ _; omega), if_pos (by show _ ≤ (100000 : Int); omega), if_pos (by omega), rule_eq p1 p2, Option.bind_some, if_pos (by have := aheadN_bd p; dsimp only; unfold aheadN; split <;> omega), Int.toNat_natCast, Int.toNat_natCast, Int.toNat_natCast, q1]
 rfl
theorem parV_len (L : Nat) (p : Int) (K M : Nat) (data : List (List Int)) (hmay : profile_May.f p (K : Int) (M : Int) = some true) : (parV L p K M data).length = M := by
 obtain ⟨p1, p2, k1, k2, m1, m2⟩ := may_true hmay
 unfold parV
 rw [List.length_map, (parM_good p K M (by omega) (by omega) (by omega) (by omega)).2]
theorem enc_ev (p : Int) (K M : Nat) (b : List Int) (hmay : profile_May.f p (K : Int) (M : Int) = some true) (hn : b.length ≤ 4096) :
  ∃ data, data.length = K ∧ (∀ r, r ∈ data → r.length = sizeN p K b.length) ∧ ((∀ x, x ∈ b → 0 ≤ x ∧ x ≤ 255) → ∀ r, r ∈ data → ∀ x, x ∈ r → 0 ≤ x ∧ x ≤ 255) ∧ Ev (fun k => codec_Encode.f k p (K : Int) (M : Int) b) (data ++ parV (sizeN p K b.length) p K M data, 0) := by
 obtain ⟨p1, p2, k1, k2, m1, m2⟩ := may_true hmay
 obtain ⟨data, q1, q2, q3, -, q4⟩ := split_ev p K M b hmay hn
 refine ⟨data, q1, q2, q3, ?_⟩
 have h2 := par_ev p K M (sizeN p K b.length) data hmay q1 (by have := sizeN_le p K b.length (by omega) (by omega) hn; omega) (sizeN_even p K b.length) q2
 have hl := parV_len (sizeN p K b.length) p K M data hmay
 refine Ev.bind q4 ?_
 refine Ev.congr (f := fun k => (codec_Parity.f k p (K : Int) (M : Int) data).bind fun t => if data.length + t.1.length < 5864062014805 then some (data ++ t.1, t.2) else none) (fun k => by dsimp only; rw [if_pos rfl]) ?_
 refine Ev.bind h2 ?_
 refine Ev.congr (fun k => ?_) (Ev.now _)
 dsimp only
 rw [if_pos (by omega)]
theorem some_ev (a b c : Int) (ha : 0 ≤ a ∧ a ≤ 255) (hb : 0 ≤ b ∧ b ≤ 255) (hc : 0 ≤ c ∧ c ≤ 255) : ∃ (p : Int) (K M : Nat), gambrelref09_Some.f a b c = some (p, (K : Int), (M : Int)) ∧ profile_May.f p (K : Int) (M : Int) = some true ∧ (profile_May.f 1 (K : Int) (M : Int) = some true) ∧ profile_May.f 3 (K : Int) (mn (M : Int) 3) = some true := by
 have e1 : wrap64 (1 + Int.tmod (wrap64 a) 6) = 1 + a % 6 := by
  rw [show wrap64 a = a by unfold wrap64; omega, Int.tmod_eq_emod_of_nonneg (by omega)]; unfold wrap64; omega
 have e2 : wrap64 (1 + Int.tmod (wrap64 b) 8) = 1 + b % 8 := by
  rw [show wrap64 b = b by unfold wrap64; omega, Int.tmod_eq_emod_of_nonneg (by omega)]; unfold wrap64; omega
 have e3 : ∀ m : Int, 1 ≤ m → m ≤ 4 → wrap64 (1 + Int.tmod (wrap64 c) m) = 1 + c % m := fun m h1 h2 => by
  rw [show wrap64 c = c by unfold wrap64; omega, Int.tmod_eq_emod_of_nonneg (by omega)]
  have := Int.emod_nonneg c (show m ≠ 0 by omega)
  have := Int.emod_lt_of_pos c (show 0 < m by omega)
  unfold wrap64; omega
 unfold gambrelref09_Some.f
 rw [e1, e2]
 obtain ⟨p, hp⟩ : ∃ p, 1 + a % 6 = p := ⟨_, rfl⟩
 obtain ⟨K, hK⟩ : ∃ K : Nat, 1 + b % 8 = (K : Int) := ⟨(1 + b % 8).toNat, by omega⟩
 have hK1 : 1 ≤ (K : Int) ∧ (K : Int) ≤ 8 := by omega
 rw [hp, hK]
 have case4 : ∀ (s : ByteArray) (x y z : Int) (m : Int), (m = 3 ∨ m = 4) → gambrelref09_Of.f p = some (s, x, y, z, m, true) → (∀ k M : Int, 1 ≤ k → k ≤ 8 → 1 ≤ M → M ≤ m → profile_May.f p k M = some true) → ∃ (p' : Int) (K' M : Nat), ((gambrelref09_Of.f p).bind fun bt620 => (if bt620.2.2.2.2.1 = 0 then none else some (p, (K : Int), wrap64 (1 + Int.tmod (wrap64 c) bt620.2.2.2.2.1)))) = some (p', (K' : Int), (M : Int)) ∧ profile_May.f p' (K' : Int) (M : Int) = some true ∧ (profile_May.f 1 (K' : Int) (M : Int) = some true) ∧ profile_May.f 3 (K' : Int) (mn (M : Int) 3) = some true := by
  intro s x y z m hm hof hmy
  have hcm : 0 ≤ c % m ∧ c % m < m := ⟨Int.emod_nonneg c (by omega), Int.emod_lt_of_pos c (by omega)⟩
  obtain ⟨M, hM⟩ : ∃ M : Nat, 1 + c % m = (M : Int) := ⟨(1 + c % m).toNat, by omega⟩
  have hM1 : 1 ≤ (M : Int) ∧ (M : Int) ≤ m := by omega
  refine ⟨p, K, M, ?_, hmy _ _ hK1.1 hK1.2 hM1.1 hM1.2, ?_, ?_⟩
  ·rw [hof, Option.bind_some]
   dsimp only
   rw [if_neg (by omega), e3 m (by omega) (by omega), hM]
  ·show (if (K : Int) ≥ 1 then (if (K : Int) ≤ 8 then (if (M : Int) ≥ 1 then some (decide ((M : Int) ≤ 4)) else some false) else some false) else some false) = some true
   rw [if_pos hK1.1, if_pos hK1.2, if_pos hM1.1]
   simp; omega
  ·show (if (K : Int) ≥ 1 then (if (K : Int) ≤ 8 then (if mn (M : Int) 3 ≥ 1 then some (decide (mn (M : Int) 3 ≤ 3)) else some false) else some false) else some false) = some true
   have hmn : 1 ≤ mn (M : Int) 3 ∧ mn (M : Int) 3 ≤ 3 := by unfold mn; split <;> omega
   rw [if_pos hK1.1, if_pos hK1.2, if_pos hmn.1]
   simp; omega
 have hmy : ∀ m : Int, (∀ k M : Int, profile_May.f p k M = (if k ≥ 1 then (if k ≤ 8 then (if M ≥ 1 then some (decide (M ≤ m)) else some false) else some false) else some false)) → ∀ k M : Int, 1 ≤ k → k ≤ 8 → 1 ≤ M → M ≤ m → profile_May.f p k M = some true := fun m h k M h1 h2 h3 h4 => by
  rw [h, if_pos h1, if_pos h2, if_pos h3]
  simpa using h4
 have hpc : p = 1 ∨ p = 2 ∨ p = 3 ∨ p = 4 ∨ p = 5 ∨ p = 6 := by omega
 clear hp e1 e2
 rcases hpc with rfl | rfl | rfl | rfl | rfl | rfl
 ·exact case4 _ _ _ _ 4 (.inr rfl) rfl (hmy 4 (fun _ _ => rfl))
 ·exact case4 _ _ _ _ 4 (.inr rfl) rfl (hmy 4 (fun _ _ => rfl))
 ·exact case4 _ _ _ _ 3 (.inl rfl) rfl (hmy 3 (fun _ _ => rfl))
 ·exact case4 _ _ _ _ 4 (.inr rfl) rfl (hmy 4 (fun _ _ => rfl))
 ·exact case4 _ _ _ _ 4 (.inr rfl) rfl (hmy 4 (fun _ _ => rfl))
 ·exact case4 _ _ _ _ 4 (.inr rfl) rfl (hmy 4 (fun _ _ => rfl))
end Go.Proofs.YtelcllhibpnneaaGreat.XCo
end
section
namespace Go.Proofs.YtelcllhibpnneaaGreat.XCo
open Go.RowKit Go.Proofs.YtelcllhibpnneaaGreatW.PrintWords Go.Proofs.YtelcllhibpnneaaGreatW.PrintLast Go.Proofs.YtelcllhibpnneaaGreatW.PrintMore
attribute [local go_sem] max2_int min2_int max_two min_two max_three min_three max_four min_four
set_option linter.unusedVariables false
set_option linter.unusedSimpArgs false
theorem u8_wf {x : Int} (h : (Lit.int .u8 x).wf = true) : 0 ≤ x ∧ x ≤ 255 := by
 simp [Lit.wf, IntKind.has] at h
 have h1 : IntKind.min .u8 = 0 := rfl
 have h2 : IntKind.max .u8 = 255 := rfl
 omega
end Go.Proofs.YtelcllhibpnneaaGreat.XCo
end
section
namespace Go.Proofs.YtelcllhibpnneaaGreat.XCo
open Go.RowKit Go.Proofs.YtelcllhibpnneaaGreatW.PrintWords Go.Proofs.YtelcllhibpnneaaGreatW.PrintLast Go.Proofs.YtelcllhibpnneaaGreatW.PrintMore
attribute [local go_sem] max2_int min2_int max_two min_two max_three min_three max_four min_four
set_option linter.unusedVariables false
set_option linter.unusedSimpArgs false
theorem gmul_ones : ∀ i, i < 256 → gmul 8 1 ((i : Nat) : Int) = (i : Int) := by decide +kernel
theorem gmul_one {x : Int} (h : 0 ≤ x ∧ x ≤ 255) : gmul 8 1 x = x := by
 obtain ⟨n, rfl⟩ : ∃ n : Nat, x = (n : Int) := ⟨x.toNat, by omega⟩
 exact gmul_ones n (by omega)
theorem wTo_one (b : List Int) (hb : ∀ x, x ∈ b → 0 ≤ x ∧ x ≤ 255) : ∀ i, i ≤ b.length → wTo 1 b i = b.take i ++ List.replicate (b.length - i) 0
 | 0, _ => by unfold wTo; simp
 | i + 1, hi => by
  have ih := wTo_one b hb i (by omega)
  obtain ⟨x, hx⟩ : ∃ x, b[i]? = some x := ⟨_, List.getElem?_eq_getElem (by omega)⟩
  have hxb := hb x (List.mem_of_getElem? hx)
  have hg : b.getD i 0 = x := by rw [List.getD_eq_getElem?_getD, hx]; rfl
  have e : wTo 1 b (i + 1) = if i % 1 = 0 then (wTo 1 b i).set (i / 1) (wrap64 (b.getD i 0)) else (wTo 1 b i).set (i / 1) (wrap64 ((wTo 1 b i).getD (i / 1) 0 + wrap64 (256 * wrap64 (b.getD i 0)))) := rfl
  rw [e, if_pos (Nat.mod_one i), ih, hg, Nat.div_one, w64 (by omega) (by omega), List.set_append_right _ _ (by simp; omega), List.take_add_one, hx]
  rw [show i - (b.take i).length = 0 by simp; omega, show b.length - i = (b.length - (i + 1)) + 1 by omega, List.replicate_succ]
  simp
theorem mulB_one (b : List Int) (hb : ∀ x, x ∈ b → 0 ≤ x ∧ x ≤ 255) : mulB 8 1 b = b := by
 unfold mulB wordsF
 rw [show wN 8 = 1 from rfl, wTo_one b hb _ (Nat.le_refl _), Nat.sub_self, List.take_length]
 simp only [List.replicate_zero, List.append_nil]
 have e1 : b.map (gmul 8 1) = b := by
  conv => rhs; rw [← List.map_id b]
  exact List.map_congr_left (fun x hx => gmul_one (hb x hx))
 rw [e1]
 clear e1
 induction b with
 | nil => rfl
 | cons x xs ih =>
  have hx := hb x (List.mem_cons_self ..)
  have h3 : bytesF 8 (x :: xs) = byteF 8 x ++ bytesF 8 xs := by unfold bytesF; rw [List.flatMap_cons]
  rw [h3, ih (fun y hy => hb y (List.mem_cons_of_mem _ hy))]
  show [x % 256] ++ xs = _
  rw [show x % 256 = x by omega]; rfl
theorem ones_zip : ∀ (data : List (List Int)), (∀ r, r ∈ data → ∀ x, x ∈ r → 0 ≤ x ∧ x ≤ 255) → List.zipWith (mulB 8) (List.replicate data.length 1) data = data
 | [], _ => rfl
 | r :: rs, h => by
  rw [List.length_cons, List.replicate_succ, List.zipWith_cons_cons, mulB_one r (h r (List.mem_cons_self ..)), ones_zip rs (fun q hq => h q (List.mem_cons_of_mem _ hq))]
def onesOk (l : List (List Int)) (k : Nat) : Bool := decide (l[0]? = some (List.replicate k 1))
theorem o1_1_1 : onesOk (jvM 8 1 1) 1 = true := by kernel_rfl
theorem o1_1_2 : onesOk (jvM 8 1 2) 1 = true := by kernel_rfl
theorem o1_1_3 : onesOk (jvM 8 1 3) 1 = true := by kernel_rfl
theorem o1_1_4 : onesOk (jvM 8 1 4) 1 = true := by kernel_rfl
theorem o1_2_1 : onesOk (jvM 8 2 1) 2 = true := by kernel_rfl
theorem o1_2_2 : onesOk (jvM 8 2 2) 2 = true := by kernel_rfl
theorem o1_2_3 : onesOk (jvM 8 2 3) 2 = true := by kernel_rfl
theorem o1_2_4 : onesOk (jvM 8 2 4) 2 = true := by kernel_rfl
theorem o1_3_1 : onesOk (jvM 8 3 1) 3 = true := by kernel_rfl
theorem o1_3_2 : onesOk (jvM 8 3 2) 3 = true := by kernel_rfl
theorem o1_3_3 : onesOk (jvM 8 3 3) 3 = true := by kernel_rfl
theorem o1_3_4 : onesOk (jvM 8 3 4) 3 = true := by kernel_rfl
theorem o1_4_1 : onesOk (jvM 8 4 1) 4 = true := by kernel_rfl
theorem o1_4_2 : onesOk (jvM 8 4 2) 4 = true := by kernel_rfl
theorem o1_4_3 : onesOk (jvM 8 4 3) 4 = true := by kernel_rfl
theorem o1_4_4 : onesOk (jvM 8 4 4) 4 = true := by kernel_rfl
theorem s5_1 : stepsF 8 5 (extM 8 5 1) = [[1, 0, 0, 0, 0], [0, 1, 0, 0, 0], [0, 0, 1, 0, 0], [0, 0, 0, 1, 0], [0, 0, 0, 0, 1], [144, 75, 224, 192, 251]] := by kernel_rfl
def gpi (m q a x : Nat) : Nat → Nat
 | 0 => x
 | k + 1 => gm m q (gpi m q a x k) a
theorem gp_more (m q a n : Nat) : ∀ k, gp m q a (n + k) = gpi m q a (gp m q a n) k
 | 0 => rfl
 | k + 1 => by
  show gm m q (gp m q a (n + k)) a = _
  rw [gp_more m q a n k]; rfl
theorem g192_64 : gp 7 285 192 64 = 14 := by kernel_rfl
theorem g192_128 : gp 7 285 192 (64 + 64) = 84 := by
 rw [gp_more, g192_64]
 kernel_rfl
theorem g192_192 : gp 7 285 192 (64 + 64 + 64) = 127 := by
 rw [gp_more, g192_128]
 kernel_rfl
theorem g192 : ginv 8 192 = 18 := by
 have e : gp 7 285 192 254 = 18 := by
  rw [show 254 = 64 + 64 + 64 + 62 from rfl, gp_more, g192_192]
  kernel_rfl
 have e2 : ginv 8 192 = ((gp 7 285 192 254 : Nat) : Int) := by
  unfold ginv gpow gpwN
  rw [if_pos (by decide), if_pos (by decide), if_pos rfl]
  rfl
 rw [e2, e]
 rfl
theorem c5_1 : colsF 8 5 1 [[1, 0, 0, 0, 0], [0, 1, 0, 0, 0], [0, 0, 1, 0, 0], [0, 0, 0, 1, 0], [0, 0, 0, 0, 1], [144, 75, 224, 192, 251]] = [[1, 0, 0, 0, 0], [0, 1, 0, 0, 0], [0, 0, 1, 0, 0], [0, 0, 0, 1, 0], [0, 0, 0, 0, 1], [1, 75, 224, 192, 251]] := by kernel_rfl
theorem c5_2 : colsF 8 5 2 [[1, 0, 0, 0, 0], [0, 1, 0, 0, 0], [0, 0, 1, 0, 0], [0, 0, 0, 1, 0], [0, 0, 0, 0, 1], [144, 75, 224, 192, 251]] = [[1, 0, 0, 0, 0], [0, 1, 0, 0, 0], [0, 0, 1, 0, 0], [0, 0, 0, 1, 0], [0, 0, 0, 0, 1], [1, 1, 224, 192, 251]] := by
 rw [colsF, c5_1]
 kernel_rfl
theorem c5_3 : colsF 8 5 3 [[1, 0, 0, 0, 0], [0, 1, 0, 0, 0], [0, 0, 1, 0, 0], [0, 0, 0, 1, 0], [0, 0, 0, 0, 1], [144, 75, 224, 192, 251]] = [[1, 0, 0, 0, 0], [0, 1, 0, 0, 0], [0, 0, 1, 0, 0], [0, 0, 0, 1, 0], [0, 0, 0, 0, 1], [1, 1, 1, 192, 251]] := by
 rw [colsF, c5_2]
 kernel_rfl
theorem c5_4 : colsF 8 5 4 [[1, 0, 0, 0, 0], [0, 1, 0, 0, 0], [0, 0, 1, 0, 0], [0, 0, 0, 1, 0], [0, 0, 0, 0, 1], [144, 75, 224, 192, 251]] = [[1, 0, 0, 0, 0], [0, 1, 0, 0, 0], [0, 0, 1, 0, 0], [0, 0, 0, 1, 0], [0, 0, 0, 0, 1], [1, 1, 1, 1, 251]] := by
 rw [colsF, c5_3]
 rw [show ((([[1, 0, 0, 0, 0], [0, 1, 0, 0, 0], [0, 0, 1, 0, 0], [0, 0, 0, 1, 0], [0, 0, 0, 0, 1], [1, 1, 1, 192, 251]] : List (List Int)).getD 5 []).getD 3 0) = 192 from rfl, g192]
 kernel_rfl
theorem c5_5 : colsF 8 5 5 [[1, 0, 0, 0, 0], [0, 1, 0, 0, 0], [0, 0, 1, 0, 0], [0, 0, 0, 1, 0], [0, 0, 0, 0, 1], [144, 75, 224, 192, 251]] = [[1, 0, 0, 0, 0], [0, 1, 0, 0, 0], [0, 0, 1, 0, 0], [0, 0, 0, 1, 0], [0, 0, 0, 0, 1], [1, 1, 1, 1, 1]] := by
 rw [colsF, c5_4]
 kernel_rfl
theorem o1_5_1 : onesOk (jvM 8 5 1) 5 = true := by
 unfold jvM
 rw [s5_1, c5_5]
 kernel_rfl
theorem o1_5_2 : onesOk (jvM 8 5 2) 5 = true := by kernel_rfl
theorem o1_5_3 : onesOk (jvM 8 5 3) 5 = true := by kernel_rfl
theorem o1_5_4 : onesOk (jvM 8 5 4) 5 = true := by kernel_rfl
theorem o1_6_1 : onesOk (jvM 8 6 1) 6 = true := by kernel_rfl
theorem o1_6_2 : onesOk (jvM 8 6 2) 6 = true := by kernel_rfl
theorem o1_6_3 : onesOk (jvM 8 6 3) 6 = true := by kernel_rfl
theorem o1_6_4 : onesOk (jvM 8 6 4) 6 = true := by kernel_rfl
theorem o1_7_1 : onesOk (jvM 8 7 1) 7 = true := by kernel_rfl
theorem o1_7_2 : onesOk (jvM 8 7 2) 7 = true := by kernel_rfl
theorem o1_7_3 : onesOk (jvM 8 7 3) 7 = true := by kernel_rfl
theorem o1_7_4 : onesOk (jvM 8 7 4) 7 = true := by kernel_rfl
theorem o1_8_1 : onesOk (jvM 8 8 1) 8 = true := by kernel_rfl
theorem o1_8_2 : onesOk (jvM 8 8 2) 8 = true := by kernel_rfl
theorem o1_8_3 : onesOk (jvM 8 8 3) 8 = true := by kernel_rfl
theorem o1_8_4 : onesOk (jvM 8 8 4) 8 = true := by kernel_rfl
theorem o3_1_1 : onesOk (isalM 8 1 1) 1 = true := by kernel_rfl
theorem o3_1_2 : onesOk (isalM 8 2 1) 1 = true := by kernel_rfl
theorem o3_1_3 : onesOk (isalM 8 3 1) 1 = true := by kernel_rfl
theorem o3_2_1 : onesOk (isalM 8 1 2) 2 = true := by kernel_rfl
theorem o3_2_2 : onesOk (isalM 8 2 2) 2 = true := by kernel_rfl
theorem o3_2_3 : onesOk (isalM 8 3 2) 2 = true := by kernel_rfl
theorem o3_3_1 : onesOk (isalM 8 1 3) 3 = true := by kernel_rfl
theorem o3_3_2 : onesOk (isalM 8 2 3) 3 = true := by kernel_rfl
theorem o3_3_3 : onesOk (isalM 8 3 3) 3 = true := by kernel_rfl
theorem o3_4_1 : onesOk (isalM 8 1 4) 4 = true := by kernel_rfl
theorem o3_4_2 : onesOk (isalM 8 2 4) 4 = true := by kernel_rfl
theorem o3_4_3 : onesOk (isalM 8 3 4) 4 = true := by kernel_rfl
theorem o3_5_1 : onesOk (isalM 8 1 5) 5 = true := by kernel_rfl
theorem o3_5_2 : onesOk (isalM 8 2 5) 5 = true := by kernel_rfl
theorem o3_5_3 : onesOk (isalM 8 3 5) 5 = true := by kernel_rfl
theorem o3_6_1 : onesOk (isalM 8 1 6) 6 = true := by kernel_rfl
theorem o3_6_2 : onesOk (isalM 8 2 6) 6 = true := by kernel_rfl
theorem o3_6_3 : onesOk (isalM 8 3 6) 6 = true := by kernel_rfl
theorem o3_7_1 : onesOk (isalM 8 1 7) 7 = true := by kernel_rfl
theorem o3_7_2 : onesOk (isalM 8 2 7) 7 = true := by kernel_rfl
theorem o3_7_3 : onesOk (isalM 8 3 7) 7 = true := by kernel_rfl
theorem o3_8_1 : onesOk (isalM 8 1 8) 8 = true := by kernel_rfl
theorem o3_8_2 : onesOk (isalM 8 2 8) 8 = true := by kernel_rfl
theorem o3_8_3 : onesOk (isalM 8 3 8) 8 = true := by kernel_rfl
theorem ones1 (K M : Nat) (h1 : 1 ≤ K) (h2 : K ≤ 8) (h3 : 1 ≤ M) (h4 : M ≤ 4) : (parM 1 K M)[0]? = some (List.replicate K 1) := by
 have key : onesOk (jvM 8 K M) K = true := by
  match K, M, h1, h2, h3, h4 with
  | 1, 1, _, _, _, _ => exact o1_1_1
  | 1, 2, _, _, _, _ => exact o1_1_2
  | 1, 3, _, _, _, _ => exact o1_1_3
  | 1, 4, _, _, _, _ => exact o1_1_4
  | 2, 1, _, _, _, _ => exact o1_2_1
  | 2, 2, _, _, _, _ => exact o1_2_2
  | 2, 3, _, _, _, _ => exact o1_2_3
  | 2, 4, _, _, _, _ => exact o1_2_4
  | 3, 1, _, _, _, _ => exact o1_3_1
  | 3, 2, _, _, _, _ => exact o1_3_2
  | 3, 3, _, _, _, _ => exact o1_3_3
  | 3, 4, _, _, _, _ => exact o1_3_4
  | 4, 1, _, _, _, _ => exact o1_4_1
  | 4, 2, _, _, _, _ => exact o1_4_2
  | 4, 3, _, _, _, _ => exact o1_4_3
  | 4, 4, _, _, _, _ => exact o1_4_4
  | 5, 1, _, _, _, _ => exact o1_5_1
  | 5, 2, _, _, _, _ => exact o1_5_2
  | 5, 3, _, _, _, _ => exact o1_5_3
  | 5, 4, _, _, _, _ => exact o1_5_4
  | 6, 1, _, _, _, _ => exact o1_6_1
  | 6, 2, _, _, _, _ => exact o1_6_2
  | 6, 3, _, _, _, _ => exact o1_6_3
  | 6, 4, _, _, _, _ => exact o1_6_4
  | 7, 1, _, _, _, _ => exact o1_7_1
  | 7, 2, _, _, _, _ => exact o1_7_2
  | 7, 3, _, _, _, _ => exact o1_7_3
  | 7, 4, _, _, _, _ => exact o1_7_4
  | 8, 1, _, _, _, _ => exact o1_8_1
  | 8, 2, _, _, _, _ => exact o1_8_2
  | 8, 3, _, _, _, _ => exact o1_8_3
  | 8, 4, _, _, _, _ => exact o1_8_4
  | 0, _, h, _, _, _ => omega
  | _ + 9, _, _, h, _, _ => omega
  | _, 0, _, _, h, _ => omega
  | _, _ + 5, _, _, _, h => omega
 exact of_decide_eq_true key
theorem ones3 (K M : Nat) (h1 : 1 ≤ K) (h2 : K ≤ 8) (h3 : 1 ≤ M) (h4 : M ≤ 3) : (parM 3 K M)[0]? = some (List.replicate K 1) := by
 have key : onesOk (isalM 8 M K) K = true := by
  match K, M, h1, h2, h3, h4 with
  | 1, 1, _, _, _, _ => exact o3_1_1
  | 1, 2, _, _, _, _ => exact o3_1_2
  | 1, 3, _, _, _, _ => exact o3_1_3
  | 2, 1, _, _, _, _ => exact o3_2_1
  | 2, 2, _, _, _, _ => exact o3_2_2
  | 2, 3, _, _, _, _ => exact o3_2_3
  | 3, 1, _, _, _, _ => exact o3_3_1
  | 3, 2, _, _, _, _ => exact o3_3_2
  | 3, 3, _, _, _, _ => exact o3_3_3
  | 4, 1, _, _, _, _ => exact o3_4_1
  | 4, 2, _, _, _, _ => exact o3_4_2
  | 4, 3, _, _, _, _ => exact o3_4_3
  | 5, 1, _, _, _, _ => exact o3_5_1
  | 5, 2, _, _, _, _ => exact o3_5_2
  | 5, 3, _, _, _, _ => exact o3_5_3
  | 6, 1, _, _, _, _ => exact o3_6_1
  | 6, 2, _, _, _, _ => exact o3_6_2
  | 6, 3, _, _, _, _ => exact o3_6_3
  | 7, 1, _, _, _, _ => exact o3_7_1
  | 7, 2, _, _, _, _ => exact o3_7_2
  | 7, 3, _, _, _, _ => exact o3_7_3
  | 8, 1, _, _, _, _ => exact o3_8_1
  | 8, 2, _, _, _, _ => exact o3_8_2
  | 8, 3, _, _, _, _ => exact o3_8_3
  | 0, _, h, _, _, _ => omega
  | _ + 9, _, _, h, _, _ => omega
  | _, 0, _, _, h, _ => omega
  | _, _ + 4, _, _, _, h => omega
 exact of_decide_eq_true key
theorem foldB_snoc (S : Nat) (data : List (List Int)) (i : Nat) (r : List Int) (h : data[i]? = some r) : (data.take (i + 1)).foldl xorB (List.replicate S 0) = xorB ((data.take i).foldl xorB (List.replicate S 0)) r := by
 rw [List.take_add_one, h, List.foldl_append]; rfl
theorem xorB_get (a b : List Int) (t : Nat) (ha : t < a.length) (hb : t < b.length) : (xorB a b).getD t 0 = Go.bits .xor .u8 (a.getD t 0) (b.getD t 0) := by
 unfold xorB
 rw [List.getD_eq_getElem?_getD, List.getElem?_zipWith, List.getElem?_eq_getElem ha, List.getElem?_eq_getElem hb, List.getD_eq_getElem?_getD, List.getD_eq_getElem?_getD, List.getElem?_eq_getElem ha, List.getElem?_eq_getElem hb]
 rfl
end Go.Proofs.YtelcllhibpnneaaGreat.XCo
end
