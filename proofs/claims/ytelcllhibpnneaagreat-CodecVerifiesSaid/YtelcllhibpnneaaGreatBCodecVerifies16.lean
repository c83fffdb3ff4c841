-- Joined by this work's own program (wip/tools/bundle.py) out of its texts: what this claim uses of them. Not trusted: Lean checks it.
import Derived.Test.YtelcllhibpnneaaGreatBCodecVerifies15
section
namespace Go.Proofs.YtelcllhibpnneaaGreat.XCo
open Go.RowKit Go.Proofs.YtelcllhibpnneaaGreatW.PrintWords Go.Proofs.YtelcllhibpnneaaGreatW.PrintLast Go.Proofs.YtelcllhibpnneaaGreatW.PrintMore
attribute [local go_sem] aGz aHz aMz aNz aCz aDz aIz aJz
set_option linter.unusedVariables false
set_option linter.unusedSimpArgs false
def xorB (a b : List Int) : List Int := List.zipWith (fun x y => Go.bits .xor .u8 x y) a b
def sumB (L : Nat) (rows : List (List Int)) : List Int := rows.foldl xorB (List.replicate L 0)
theorem cDz (a b : List Int) (h : a.length = b.length) : (xorB a b).length = b.length := by simp [xorB]; omega
theorem dVz {L : Nat} : ∀ (rows : List (List Int)) (acc : List Int), acc.length = L → (∀ r, r ∈ rows → r.length = L) → (rows.foldl xorB acc).length = L
 | [], acc, h, _ => h
 | r :: rs, acc, h, hr => by
  have h1 := hr r (List.mem_cons_self ..)
  exact dVz rs (xorB acc r) (by rw [cDz _ _ (h.trans h1.symm)]; exact h1) (fun q hq => hr q (List.mem_cons_of_mem _ hq))
theorem sumB_length {L : Nat} (rows : List (List Int)) (h : ∀ r, r ∈ rows → r.length = L) : (sumB L rows).length = L := dVz rows _ (by simp) h
theorem coz {j : Nat} (h : j ≤ 1000000000) : wrap64 ((j : Int) + 1) = ((j + 1 : Nat) : Int) := by unfold wrap64; omega
theorem sum_l1 (rows : List (List Int)) (n : Int) (i : Nat) (acc row : List Int) (r : List Int × Int) (K : Nat) (hl : acc.length = row.length) (hL : row.length ≤ 100000000) (hi : i ≤ 100000000)
  (h : aoz.l0 K (xorB acc row) rows n ((i + 1 : Nat) : Int) = some r) :
  ∀ (d j : Nat), j + d = row.length → aoz.l1 (K + d + 1) ((xorB acc row).take j ++ acc.drop j) rows n (i : Int) row (row.length : Int) (j : Int) = some r
 | 0, j, hj => by
  obtain rfl : j = row.length := by omega
  unfold aoz.l1
  rw [if_neg (by omega), coz (by omega), List.take_of_length_le (by rw [cDz _ _ hl]; exact Nat.le_refl _), List.drop_of_length_le (by omega), List.append_nil]
  exact h
 | d + 1, j, hj => by
  have hlx := cDz _ _ hl
  have hjl : j < row.length := by omega
  have hlen : ((xorB acc row).take j ++ acc.drop j).length = row.length := by simp [hlx]; omega
  unfold aoz.l1
  rw [if_pos (by omega), if_pos (by omega), if_pos (by omega), if_pos (by omega), coz (by omega)]
  have hset : ((xorB acc row).take j ++ acc.drop j).set (j : Int).toNat (Go.bits .xor .u8 (rd ((xorB acc row).take j ++ acc.drop j) (j : Int)) (rd row (j : Int))) = (xorB acc row).take (j + 1) ++ acc.drop (j + 1) := by
   have e1 : rd ((xorB acc row).take j ++ acc.drop j) (j : Int) = acc.getD j 0 := by
    unfold rd
    rw [Int.toNat_natCast, List.getD_eq_getElem?_getD, List.getElem?_append_right (by simp [hlx]; omega), List.getElem?_drop]
    simp [hlx, Nat.min_eq_left (Nat.le_of_lt hjl)]
   have e2 : rd row (j : Int) = row.getD j 0 := by unfold rd; rw [Int.toNat_natCast]
   rw [e1, e2, Int.toNat_natCast]
   apply List.ext_getElem?
   intro q
   have hja : j < acc.length := by omega
   have hx : (xorB acc row)[j]? = some (Go.bits .xor .u8 (acc.getD j 0) (row.getD j 0)) := by
    unfold xorB
    rw [List.getElem?_zipWith, List.getElem?_eq_getElem hja, List.getElem?_eq_getElem hjl]
    simp [List.getD_eq_getElem?_getD, List.getElem?_eq_getElem hja, List.getElem?_eq_getElem hjl]
   rw [List.getElem?_set]
   by_cases hq : j = q
   ·subst hq
    rw [if_pos rfl, if_pos (by omega), List.getElem?_append_left (by simp [hlx]; omega), List.getElem?_take, if_pos (by omega), hx]
   ·rw [if_neg hq]
    by_cases hlt : q < j
    ·rw [List.getElem?_append_left (by simp [hlx]; omega), List.getElem?_append_left (by simp [hlx]; omega), List.getElem?_take, List.getElem?_take, if_pos hlt, if_pos (by omega)]
    ·rw [List.getElem?_append_right (by simp [hlx]; omega), List.getElem?_append_right (by simp [hlx]; omega), List.getElem?_drop, List.getElem?_drop]
     congr 1
     simp [hlx, Nat.min_eq_left (Nat.le_of_lt hjl), Nat.min_eq_left (show j + 1 ≤ row.length from hjl)]
     omega
  rw [hset]
  have := sum_l1 rows n i acc row r K hl hL hi h d (j + 1) (by omega)
  rw [show K + (d + 1) = K + d + 1 by omega]
  exact this
theorem sum_l0 (rows : List (List Int)) (L : Nat) (hL : L ≤ 100000000) (hn : rows.length ≤ 1000) (hr : ∀ r, r ∈ rows → r.length = L) :
  ∀ (m i : Nat) (acc : List Int), i + m = rows.length → acc.length = L → ∃ K, aoz.l0 K acc rows (rows.length : Int) (i : Int) = some ((rows.drop i).foldl xorB acc, 0)
 | 0, i, acc, hi, ha => by
  refine ⟨1, ?_⟩
  unfold aoz.l0
  rw [if_neg (by omega), List.drop_of_length_le (by omega)]; rfl
 | m + 1, i, acc, hi, ha => by
  obtain ⟨row, hrow⟩ : ∃ r, rows[i]? = some r := ⟨_, List.getElem?_eq_getElem (by omega)⟩
  have hrl := hr row (List.mem_of_getElem? hrow)
  have hd : rows.drop i = row :: rows.drop (i + 1) := by
   obtain ⟨h1, h2⟩ := List.getElem?_eq_some_iff.1 hrow
   rw [List.drop_eq_getElem_cons h1, h2]
  obtain ⟨K, hK⟩ := sum_l0 rows L hL hn hr m (i + 1) (xorB acc row) (by omega) (by rw [cDz _ _ (by omega)]; exact hrl)
  have h1 := sum_l1 rows (rows.length : Int) i acc row _ K (by omega) (by omega) (by omega) hK row.length 0 (by omega)
  refine ⟨K + row.length + 1 + 1, ?_⟩
  have hrd : rd_L1 rows (i : Int) = row := by unfold rd_L1; rw [Int.toNat_natCast, List.getD_eq_getElem?_getD, hrow]; rfl
  unfold aoz.l0
  rw [if_pos (by omega), if_pos (by omega), if_pos (by omega), hrd, if_pos (by omega), hd]
  simpa using h1
theorem sum_ev (rows : List (List Int)) (L : Nat) (hL : L ≤ 100000000) (hn : rows.length ≤ 1000) (h0 : 0 < rows.length) (hr : ∀ r, r ∈ rows → r.length = L) : Ev (fun k => aoz.f k rows) (sumB L rows, 0) := by
 obtain ⟨row, hrow⟩ : ∃ r, rows[0]? = some r := ⟨_, List.getElem?_eq_getElem h0⟩
 have hrl := hr row (List.mem_of_getElem? hrow)
 have hrd : rd_L1 rows 0 = row := by unfold rd_L1; rw [show (0 : Int).toNat = 0 from rfl, List.getD_eq_getElem?_getD, hrow]; rfl
 obtain ⟨K, hK⟩ := sum_l0 rows L hL hn hr rows.length 0 (List.replicate L 0) (by omega) (by simp)
 refine Ev.of (fun k => aoz.mono _ k) (k := K) ?_
 unfold aoz.f
 rw [if_pos (by omega), hrd, if_pos (by omega), if_pos (by omega), hrl, Int.toNat_natCast]
 simpa [sumB] using hK
theorem byteF_len (wb a : Int) : (byteF wb a).length = wN wb := by unfold byteF wN; split <;> rfl
theorem bytesF_len (wb : Int) : ∀ l : List Int, (bytesF wb l).length = l.length * wN wb
 | [] => by simp [bytesF]
 | a :: l => by
  have h1 := bytesF_len wb l
  have h3 : bytesF wb (a :: l) = byteF wb a ++ bytesF wb l := by unfold bytesF; rw [List.flatMap_cons]
  rw [h3, List.length_append, byteF_len, h1, List.length_cons, Nat.add_mul]
  omega
theorem mulB_len (wb c : Int) (b : List Int) (h : b.length % wN wb = 0) : (mulB wb c b).length = b.length := by
 unfold mulB
 rw [bytesF_len, List.length_map, dNz]
 exact Nat.div_mul_cancel (Nat.dvd_of_mod_eq_zero h)
def dotV (L : Nat) (wb : Int) (c : List Int) (rows : List (List Int)) : List Int := sumB L (List.zipWith (mulB wb) c rows)
theorem zip_len {wb : Int} {L : Nat} (hd : L % wN wb = 0) {c : List Int} {rows : List (List Int)} (hr : ∀ r, r ∈ rows → r.length = L) : ∀ r, r ∈ List.zipWith (mulB wb) c rows → r.length = L := by
 intro r h
 obtain ⟨i, hi, rfl⟩ := List.mem_iff_getElem.1 h
 rw [List.getElem_zipWith]
 rw [mulB_len _ _ _ (by rw [hr _ (List.getElem_mem ..)]; exact hd)]
 exact hr _ (List.getElem_mem ..)
theorem dotV_len {wb : Int} {L : Nat} (hd : L % wN wb = 0) {c : List Int} {rows : List (List Int)} (hr : ∀ r, r ∈ rows → r.length = L) : (dotV L wb c rows).length = L := sumB_length _ (zip_len hd hr)
theorem dot_ev (wb : Int) (L : Nat) (hL : L ≤ 1000000) (hd : L % wN wb = 0) (c : List Int) (rows : List (List Int)) (h0 : 0 < rows.length) (hc : c.length = rows.length) (hn : rows.length ≤ 1000) (hr : ∀ r, r ∈ rows → r.length = L) : Ev (fun k => dotB k wb c rows) (dotV L wb c rows, 0) := by
 have hall : rows.all (evB wb) = true := by
  rw [List.all_eq_true]
  intro r h
  unfold evB
  rw [hr r h, hd]; rfl
 refine Ev.congr (f := fun k => aoz.f k (List.zipWith (mulB wb) c rows)) (fun k => by unfold dotB; rw [if_pos hall]) ?_
 exact sum_ev _ L (by omega) (by simp; omega) (by simp; omega) (zip_len hd hr)
theorem parl_ev (wb : Int) (L : Nat) (hL : L ≤ 1000000) (hd : L % wN wb = 0) (data : List (List Int)) (h0 : 0 < data.length) (hn : data.length ≤ 1000) (hr : ∀ r, r ∈ data → r.length = L) :
  ∀ (rs acc : List (List Int)), (∀ r, r ∈ rs → r.length = data.length) → Ev (fun k => amz.l k wb data rs acc) (acc ++ rs.map (fun c => dotV L wb c data), 0)
 | [], acc, _ => by
  simp only [amz.l, List.map_nil, List.append_nil]
  exact Ev.now _
 | row :: rs, acc, hc => by
  have h1 := dot_ev wb L hL hd row data h0 (hc row (List.mem_cons_self ..)) hn hr
  have h2 := parl_ev wb L hL hd data h0 hn hr rs (acc ++ [dotV L wb row data]) (fun r h => hc r (List.mem_cons_of_mem _ h))
  simp only [amz.l]
  refine Ev.bind h1 ?_
  rw [List.append_assoc] at h2
  simpa using h2
def parV (L : Nat) (p : Int) (K M : Nat) (data : List (List Int)) : List (List Int) := (parM p K M).map fun c => dotV L (pbits p) c data
theorem par_ev (p : Int) (K M L : Nat) (data : List (List Int)) (hmay : agz.f p (K : Int) (M : Int) = some true) (hK : data.length = K) (hL : L ≤ 1000000) (hd : L % wN (pbits p) = 0) (hr : ∀ r, r ∈ data → r.length = L) :
  Ev (fun k => amz.f k p (K : Int) (M : Int) data) (parV L p K M data, 0) := by
 obtain ⟨p1, p2, k1, k2, m1, m2⟩ := bfz hmay
 have hgd := dpz p K M (by omega) (by omega) (by omega) (by omega)
 have hs : amz.small data = true := by
  simp only [amz.small, Bool.and_eq_true, decide_eq_true_eq, List.all_eq_true]
  exact ⟨by omega, fun r h => by rw [hr r h]; exact hL⟩
 have h1 := parl_ev (pbits p) L hL hd data (by omega) (by omega) hr (parM p K M) [] (fun r h => by rw [(hgd.1 r h).1, hK])
 refine Ev.congr (fun k => ?_) h1
 unfold amz.f
 rw [hmay, Option.bind_some, if_pos rfl, if_pos (by omega), if_pos hs, Int.toNat_natCast, Int.toNat_natCast]
def unitN (p : Int) : Nat := if p ≤ 2 then 8 else if p ≤ 4 then 16 else 1
def aheadN (p : Int) : Nat := if p = 5 then 4 else 0
theorem rule_eq {p : Int} (h1 : 1 ≤ p) (h2 : p ≤ 6) (k m : Int) : aUz.f p k m = some ((unitN p : Int), (aheadN p : Int)) := by
 have : p = 1 ∨ p = 2 ∨ p = 3 ∨ p = 4 ∨ p = 5 ∨ p = 6 := by omega
 rcases this with rfl | rfl | rfl | rfl | rfl | rfl <;> rfl
theorem w64 {x : Int} (h0 : -1 ≤ x) (h1 : x < 1000000000) : wrap64 x = x := by unfold wrap64; omega
theorem dbz (p : Int) : 1 ≤ unitN p ∧ unitN p ≤ 16 := by unfold unitN; split <;> (try split) <;> omega
theorem cKz (p : Int) : aheadN p ≤ 4 := by unfold aheadN; split <;> omega
def sizeN (p : Int) (K n : Nat) : Nat := unitN p * max ((n + aheadN p + unitN p * K - 1) / (unitN p * K)) 1
theorem sizeN_room (p : Int) (K n : Nat) (hK : 1 ≤ K) : n + aheadN p ≤ sizeN p K n * K := by
 have hu := (dbz p).1
 unfold sizeN
 generalize n + aheadN p = t
 obtain ⟨s, hs⟩ : ∃ s, unitN p * K = s := ⟨_, rfl⟩
 have hs1 : 1 ≤ s := by rw [← hs]; exact Nat.mul_pos hu hK
 rw [hs]
 have h1 := Nat.div_add_mod (t + s - 1) s
 have h2 := Nat.mod_lt (t + s - 1) (show 0 < s from hs1)
 have h3 : s * ((t + s - 1) / s) ≤ s * max ((t + s - 1) / s) 1 := Nat.mul_le_mul_left _ (Nat.le_max_left _ _)
 have h4 : unitN p * max ((t + s - 1) / s) 1 * K = s * max ((t + s - 1) / s) 1 := by rw [← hs, Nat.mul_assoc, Nat.mul_comm (max _ _) K, ← Nat.mul_assoc]
 rw [h4]
 omega
theorem sizeN_pos (p : Int) (K n : Nat) : 1 ≤ sizeN p K n := by
 unfold sizeN
 exact Nat.mul_pos (dbz p).1 (Nat.lt_of_lt_of_le Nat.one_pos (Nat.le_max_right _ _))
theorem dcz (p : Int) (K n : Nat) (hK : 1 ≤ K) (hK2 : K ≤ 8) (hn : n ≤ 4096) : sizeN p K n ≤ 80000 := by
 have hu := dbz p
 have ha := cKz p
 have h1 : (n + aheadN p + unitN p * K - 1) / (unitN p * K) ≤ 4300 := by
  have h2 : unitN p * K ≤ 16 * 8 := Nat.mul_le_mul hu.2 hK2
  exact Nat.le_trans (Nat.div_le_self _ _) (by omega)
 unfold sizeN
 exact Nat.le_trans (Nat.mul_le_mul hu.2 (show max ((n + aheadN p + unitN p * K - 1) / (unitN p * K)) 1 ≤ 4300 by omega)) (by omega)
theorem sizeN_even (p : Int) (K n : Nat) : sizeN p K n % wN (pbits p) = 0 := by
 unfold pbits
 by_cases h : p = 2
 ·subst h
  rw [if_pos rfl]
  show (8 * _) % 2 = 0
  omega
 ·rw [if_neg h]
  show _ % 1 = 0
  omega
theorem size_ev (p : Int) (K M n : Nat) (hmay : agz.f p (K : Int) (M : Int) = some true) (hn : n ≤ 4096) : Ev (fun k => azz.f k p (K : Int) (M : Int) (n : Int)) ((sizeN p K n : Int), 0) := by
 obtain ⟨p1, p2, k1, k2, m1, m2⟩ := bfz hmay
 have hu := dbz p
 have ha := cKz p
 have hup : unitN p * K ≤ 16 * 8 := Nat.mul_le_mul hu.2 (by omega)
 have hu1 : 1 ≤ unitN p * K := Nat.mul_pos hu.1 (by omega)
 refine Ev.of (fun k => azz.mono _ _ _ _ k) (k := 1) ?_
 unfold azz.f
 rw [hmay, Option.bind_some, if_pos rfl, show decide ((n : Int) < 0) = false by simp]
 rw [azz.j0]
 rw [if_neg (by decide), if_neg (by omega), rule_eq p1 p2, Option.bind_some]
 have w1 : wrap64 ((unitN p : Int) * (K : Int)) = ((unitN p * K : Nat) : Int) := by
  rw [← Int.natCast_mul]; unfold wrap64; omega
 dsimp only
 rw [w1, if_neg (by omega)]
 have w2 : wrap64 (wrap64 (wrap64 ((n : Int) + (aheadN p : Int)) + ((unitN p * K : Nat) : Int)) - 1) = ((n + aheadN p + unitN p * K - 1 : Nat) : Int) := by
  generalize unitN p * K = s at hup hu1 ⊢
  generalize aheadN p = a at ha ⊢
  rw [w64 (x := (n : Int) + (a : Int)) (by omega) (by omega), w64 (x := (n : Int) + (a : Int) + (s : Int)) (by omega) (by omega), w64 (x := (n : Int) + (a : Int) + (s : Int) - 1) (by omega) (by omega)]
  omega
 rw [w2, show Int.tdiv ((n + aheadN p + unitN p * K - 1 : Nat) : Int) ((unitN p * K : Nat) : Int) = (((n + aheadN p + unitN p * K - 1) / (unitN p * K) : Nat) : Int) from (Int.ofNat_tdiv _ _).symm]
 have hle := dcz p K n (by omega) (by omega) hn
 unfold sizeN at hle ⊢
 have hq : (n + aheadN p + unitN p * K - 1) / (unitN p * K) ≤ 4300 := Nat.le_trans (Nat.div_le_self _ _) (by omega)
 generalize (n + aheadN p + unitN p * K - 1) / (unitN p * K) = q at hle hq ⊢
 have w3 : mx (wrap64 (q : Int)) 1 = ((max q 1 : Nat) : Int) := by
  rw [show wrap64 (q : Int) = (q : Int) by unfold wrap64; omega]
  unfold mx
  split <;> omega
 rw [w3, ← Int.natCast_mul]
 rw [show wrap64 ((unitN p * max q 1 : Nat) : Int) = ((unitN p * max q 1 : Nat) : Int) by unfold wrap64; omega]
theorem fill_some (size K : Nat) (hs : 1 ≤ size) : ∀ (cs : List Int) (i : Nat) (rows : List (List Int)), rows.length = K → (∀ r, r ∈ rows → r.length = size) → i + cs.length ≤ size * K →
  ∃ r, arz.fill size cs i rows = some r ∧ r.length = K ∧ (∀ x, x ∈ r → x.length = size) ∧ (∀ P : Int → Prop, (∀ c, c ∈ cs → P c) → (∀ x, x ∈ rows → ∀ c, c ∈ x → P c) → ∀ x, x ∈ r → ∀ c, c ∈ x → P c)
 | [], i, rows, h1, h2, h3 => ⟨rows, rfl, h1, h2, fun P _ h => h⟩
 | c :: cs, i, rows, h1, h2, h3 => by
  have hlt : i / size < rows.length := by
   rw [h1]
   exact (Nat.div_lt_iff_lt_mul hs).2 (by rw [Nat.mul_comm]; simp at h3; omega)
  obtain ⟨row, hrow⟩ : ∃ r, rows[i / size]? = some r := ⟨_, List.getElem?_eq_getElem hlt⟩
  have hm := List.mem_of_getElem? hrow
  have hd : rows.getD (i / size) [] = row := by rw [List.getD_eq_getElem?_getD, hrow]; rfl
  obtain ⟨r, q1, q2, q3, q4⟩ := fill_some size K hs cs (i + 1) (rows.set (i / size) (row.set (i % size) c)) (by rw [List.length_set]; exact h1) (fun x hx => by
   rcases List.mem_or_eq_of_mem_set hx with hx | rfl
   ·exact h2 x hx
   ·rw [List.length_set]; exact h2 row hm) (by simp at h3; omega)
  refine ⟨r, ?_, q2, q3, fun P hc hr => q4 P (fun c hh => hc c (List.mem_cons_of_mem _ hh)) (fun x hx => ?_)⟩
  ·simp only [arz.fill]
   rw [if_pos hlt, hd]
   exact q1
  ·rcases List.mem_or_eq_of_mem_set hx with hx | rfl
   ·exact hr x hx
   ·intro y hy
    rcases List.mem_or_eq_of_mem_set hy with hy | rfl
    ·exact hr row hm y hy
    ·exact hc _ (List.mem_cons_self ..)
theorem laidL_len (p : Int) (b : List Int) : (laidL (aheadN p) b).length = b.length + aheadN p := by
 unfold laidL four4
 have := cKz p
 simp; omega
theorem laidL_byte (a : Nat) (b : List Int) (hb : ∀ x, x ∈ b → 0 ≤ x ∧ x ≤ 255) : ∀ x, x ∈ laidL a b → 0 ≤ x ∧ x ≤ 255 := by
 intro x hx
 unfold laidL at hx
 rcases List.mem_append.1 hx with h | h
 ·have h := List.mem_of_mem_drop h
  simp only [four4, List.mem_cons, List.mem_nil_iff, or_false] at h
  rcases h with rfl | rfl | rfl | rfl <;> omega
 ·exact hb x h
theorem split_ev (p : Int) (K M : Nat) (b : List Int) (hmay : agz.f p (K : Int) (M : Int) = some true) (hn : b.length ≤ 4096) :
  ∃ data, data.length = K ∧ (∀ r, r ∈ data → r.length = sizeN p K b.length) ∧ ((∀ x, x ∈ b → 0 ≤ x ∧ x ≤ 255) → ∀ r, r ∈ data → ∀ x, x ∈ r → 0 ≤ x ∧ x ≤ 255) ∧ arz.fill (sizeN p K b.length) (laidL (aheadN p) b) 0 (List.replicate K (List.replicate (sizeN p K b.length) 0)) = some data ∧ Ev (fun k => arz.f k p (K : Int) (M : Int) b) (data, 0) := by
 obtain ⟨p1, p2, k1, k2, m1, m2⟩ := bfz hmay
 have hz1 := sizeN_pos p K b.length
 have hz2 := dcz p K b.length (by omega) (by omega) hn
 have hz3 := sizeN_room p K b.length (by omega)
 obtain ⟨data, q1, q2, q3, q4⟩ := fill_some (sizeN p K b.length) K hz1 (laidL (aheadN p) b) 0 (List.replicate K (List.replicate (sizeN p K b.length) 0)) (by simp) (fun r hr => by rw [List.eq_of_mem_replicate hr]; simp) (by rw [laidL_len]; omega)
 refine ⟨data, q2, q3, fun hb => q4 _ (laidL_byte _ b hb) (fun x hx c hc => by
  rw [List.eq_of_mem_replicate hx] at hc
  rw [List.eq_of_mem_replicate hc]
  omega), q1, ?_⟩
 obtain ⟨k0, hk0⟩ := size_ev p K M b.length hmay hn
 refine ⟨k0, fun k hk => ?_⟩
 have h1 : azz.f k p (K : Int) (M : Int) (b.length : Int) = some ((sizeN p K b.length : Int), 0) := hk0 k hk
 show arz.f k p (K : Int) (M : Int) b = some (data, 0)
 unfold arz.f
 rw [h1, Option.bind_some, if_pos rfl, if_pos (by omega), if_pos (by omega), if_pos (by show (1 : Int) ≤ _; omega), if_pos (by show _ ≤ (100000 : Int); omega), if_pos (by omega), rule_eq p1 p2, Option.bind_some, if_pos (by have := cKz p; dsimp only; unfold aheadN; split <;> omega), Int.toNat_natCast, Int.toNat_natCast, Int.toNat_natCast, q1]
 rfl
theorem ddz (L : Nat) (p : Int) (K M : Nat) (data : List (List Int)) (hmay : agz.f p (K : Int) (M : Int) = some true) : (parV L p K M data).length = M := by
 obtain ⟨p1, p2, k1, k2, m1, m2⟩ := bfz hmay
 unfold parV
 rw [List.length_map, (dpz p K M (by omega) (by omega) (by omega) (by omega)).2]
theorem some_ev (a b c : Int) (ha : 0 ≤ a ∧ a ≤ 255) (hb : 0 ≤ b ∧ b ≤ 255) (hc : 0 ≤ c ∧ c ≤ 255) : ∃ (p : Int) (K M : Nat), bgz.f a b c = some (p, (K : Int), (M : Int)) ∧ agz.f p (K : Int) (M : Int) = some true ∧ (agz.f 1 (K : Int) (M : Int) = some true) ∧ agz.f 3 (K : Int) (mn (M : Int) 3) = some true := by
 have e1 : wrap64 (1 + Int.tmod (wrap64 a) 6) = 1 + a % 6 := by
  rw [show wrap64 a = a by unfold wrap64; omega, Int.tmod_eq_emod_of_nonneg (by omega)]; unfold wrap64; omega
 have e2 : wrap64 (1 + Int.tmod (wrap64 b) 8) = 1 + b % 8 := by
  rw [show wrap64 b = b by unfold wrap64; omega, Int.tmod_eq_emod_of_nonneg (by omega)]; unfold wrap64; omega
 have e3 : ∀ m : Int, 1 ≤ m → m ≤ 4 → wrap64 (1 + Int.tmod (wrap64 c) m) = 1 + c % m := fun m h1 h2 => by
  rw [show wrap64 c = c by unfold wrap64; omega, Int.tmod_eq_emod_of_nonneg (by omega)]
  have := Int.emod_nonneg c (show m ≠ 0 by omega)
  have := Int.emod_lt_of_pos c (show 0 < m by omega)
  unfold wrap64; omega
 unfold bgz.f
 rw [e1, e2]
 obtain ⟨p, hp⟩ : ∃ p, 1 + a % 6 = p := ⟨_, rfl⟩
 obtain ⟨K, hK⟩ : ∃ K : Nat, 1 + b % 8 = (K : Int) := ⟨(1 + b % 8).toNat, by omega⟩
 have hK1 : 1 ≤ (K : Int) ∧ (K : Int) ≤ 8 := by omega
 rw [hp, hK]
 have case4 : ∀ (s : ByteArray) (x y z : Int) (m : Int), (m = 3 ∨ m = 4) → boz.f p = some (s, x, y, z, m, true) → (∀ k M : Int, 1 ≤ k → k ≤ 8 → 1 ≤ M → M ≤ m → agz.f p k M = some true) → ∃ (p' : Int) (K' M : Nat), ((boz.f p).bind fun bt620 => (if bt620.2.2.2.2.1 = 0 then none else some (p, (K : Int), wrap64 (1 + Int.tmod (wrap64 c) bt620.2.2.2.2.1)))) = some (p', (K' : Int), (M : Int)) ∧ agz.f p' (K' : Int) (M : Int) = some true ∧ (agz.f 1 (K' : Int) (M : Int) = some true) ∧ agz.f 3 (K' : Int) (mn (M : Int) 3) = some true := by
  intro s x y z m hm hof hmy
  have hcm : 0 ≤ c % m ∧ c % m < m := ⟨Int.emod_nonneg c (by omega), Int.emod_lt_of_pos c (by omega)⟩
  obtain ⟨M, hM⟩ : ∃ M : Nat, 1 + c % m = (M : Int) := ⟨(1 + c % m).toNat, by omega⟩
  have hM1 : 1 ≤ (M : Int) ∧ (M : Int) ≤ m := by omega
  refine ⟨p, K, M, ?_, hmy _ _ hK1.1 hK1.2 hM1.1 hM1.2, ?_, ?_⟩
  ·rw [hof, Option.bind_some]
   dsimp only
   rw [if_neg (by omega), e3 m (by omega) (by omega), hM]
  ·show (if (K : Int) ≥ 1 then (if (K : Int) ≤ 8 then (if (M : Int) ≥ 1 then some (decide ((M : Int) ≤ 4)) else some false) else some false) else some false) = some true
   rw [if_pos hK1.1, if_pos hK1.2, if_pos hM1.1]
   simp; omega
  ·show (if (K : Int) ≥ 1 then (if (K : Int) ≤ 8 then (if mn (M : Int) 3 ≥ 1 then some (decide (mn (M : Int) 3 ≤ 3)) else some false) else some false) else some false) = some true
   have hmn : 1 ≤ mn (M : Int) 3 ∧ mn (M : Int) 3 ≤ 3 := by unfold mn; split <;> omega
   rw [if_pos hK1.1, if_pos hK1.2, if_pos hmn.1]
   simp; omega
 have hmy : ∀ m : Int, (∀ k M : Int, agz.f p k M = (if k ≥ 1 then (if k ≤ 8 then (if M ≥ 1 then some (decide (M ≤ m)) else some false) else some false) else some false)) → ∀ k M : Int, 1 ≤ k → k ≤ 8 → 1 ≤ M → M ≤ m → agz.f p k M = some true := fun m h k M h1 h2 h3 h4 => by
  rw [h, if_pos h1, if_pos h2, if_pos h3]
  simpa using h4
 have hpc : p = 1 ∨ p = 2 ∨ p = 3 ∨ p = 4 ∨ p = 5 ∨ p = 6 := by omega
 clear hp e1 e2
 rcases hpc with rfl | rfl | rfl | rfl | rfl | rfl
 ·exact case4 _ _ _ _ 4 (.inr rfl) rfl (hmy 4 (fun _ _ => rfl))
 ·exact case4 _ _ _ _ 4 (.inr rfl) rfl (hmy 4 (fun _ _ => rfl))
 ·exact case4 _ _ _ _ 3 (.inl rfl) rfl (hmy 3 (fun _ _ => rfl))
 ·exact case4 _ _ _ _ 4 (.inr rfl) rfl (hmy 4 (fun _ _ => rfl))
 ·exact case4 _ _ _ _ 4 (.inr rfl) rfl (hmy 4 (fun _ _ => rfl))
 ·exact case4 _ _ _ _ 4 (.inr rfl) rfl (hmy 4 (fun _ _ => rfl))
theorem eql_ev (x : List Int) (hx : x.length ≤ 100000000) : Ev (fun k => aiz.f k x x) true := by
 have key : ∀ (m i : Nat), i + m = x.length → Ev (fun k => aiz.l0 k x x (x.length : Int) (i : Int)) true := by
  intro m
  induction m with
  | zero =>
   intro i hi
   refine Ev.step (f := fun _ => some true) (fun k => ?_) (Ev.now _)
   rw [aiz.l0, if_neg (by omega)]
  | succ m ih =>
   intro i hi
   refine Ev.step (f := fun k => aiz.l0 k x x (x.length : Int) ((i + 1 : Nat) : Int)) (fun k => ?_) (ih (i + 1) (by omega))
   rw [aiz.l0, if_pos (by omega), if_pos (by omega), if_pos (by omega), if_pos (by omega), if_pos rfl, coz (by omega)]
 have h := key x.length 0 (by omega)
 refine Ev.congr (fun k => ?_) h
 unfold aiz.f
 rw [if_pos rfl]; rfl
theorem eqRows_ev : ∀ (l : List (List Int)), (∀ x, x ∈ l → x.length ≤ 100000000) → Ev (fun k => eqRows k l l) true
 | [], _ => by simp only [eqRows]; exact Ev.now _
 | x :: xs, h => by
  simp only [eqRows]
  refine Ev.bind (eql_ev x (h x (List.mem_cons_self ..))) ?_
  refine Ev.congr (fun k => ?_) (eqRows_ev xs (fun y hy => h y (List.mem_cons_of_mem _ hy)))
  rw [if_pos rfl]
theorem eqFunc_ev (l : List (List Int)) (hl : l.length ≤ 1000000) (h : ∀ x, x ∈ l → x.length ≤ 100000000) : Ev (fun k => eqFunc k l l) true := by
 refine Ev.congr (fun k => ?_) (eqRows_ev l h)
 unfold eqFunc
 rw [if_pos rfl, if_pos hl]
theorem ver_ev (p : Int) (K M L : Nat) (data : List (List Int)) (hmay : agz.f p (K : Int) (M : Int) = some true) (hK : data.length = K) (hL : L ≤ 1000000) (hd : L % wN (pbits p) = 0) (hr : ∀ r, r ∈ data → r.length = L) :
  Ev (fun k => anz.f k p (K : Int) (M : Int) (data ++ parV L p K M data)) true := by
 have h1 := par_ev p K M L data hmay hK hL hd hr
 have hl := ddz L p K M data hmay
 obtain ⟨p1, p2, k1, k2, m1, m2⟩ := bfz hmay
 have h2 := eqFunc_ev (parV L p K M data) (by omega) (fun x hx => by
  unfold parV at hx
  obtain ⟨c, -, rfl⟩ := List.mem_map.1 hx
  rw [dotV_len hd hr]; omega)
 have ht : (data ++ parV L p K M data).take K = data := by rw [← hK, List.take_left']; rfl
 have hdr : (data ++ parV L p K M data).drop K = parV L p K M data := by rw [← hK, List.drop_left']; rfl
 refine Ev.congr (f := fun k => (amz.f k p (K : Int) (M : Int) data).bind fun t => if t.2 = 0 then eqFunc k t.1 (parV L p K M data) else some false) (fun k => ?_) ?_
 ·unfold anz.f
  rw [hmay, Option.bind_some, if_pos rfl, if_pos (by rw [List.length_append, hK, hl]; omega), Int.toNat_natCast, ht, hdr]
 ·refine Ev.bind h1 ?_
  refine Ev.congr (fun k => ?_) h2
  rw [if_pos rfl]
theorem u8_wf {x : Int} (h : (Lit.int .u8 x).wf = true) : 0 ≤ x ∧ x ≤ 255 := by
 simp [Lit.wf, IntKind.has] at h
 have h1 : IntKind.min .u8 = 0 := rfl
 have h2 : IntKind.max .u8 = 255 := rfl
 omega
theorem flatten_set (size : Nat) (hs : 0 < size) (c : Int) : ∀ (rows : List (List Int)) (i : Nat), (∀ r, r ∈ rows → r.length = size) → i / size < rows.length → (rows.set (i / size) ((rows.getD (i / size) []).set (i % size) c)).flatten = rows.flatten.set i c
 | [], i, _, h => by simp at h
 | r :: rs, i, hr, h => by
  have hrl := hr r (List.mem_cons_self ..)
  by_cases hi : i < size
  ·have h0 : i / size = 0 := Nat.div_eq_of_lt hi
   have h1 : i % size = i := Nat.mod_eq_of_lt hi
   rw [h0, h1]
   show (r.set i c ++ rs.flatten) = (r ++ rs.flatten).set i c
   rw [List.set_append_left _ _ (by omega)]
  ·obtain ⟨j, rfl⟩ : ∃ j, i = j + size := ⟨i - size, by omega⟩
   have h0 : (j + size) / size = j / size + 1 := Nat.add_div_right j hs
   have h1 : (j + size) % size = j % size := Nat.add_mod_right j size
   have ih := flatten_set size hs c rs j (fun q hq => hr q (List.mem_cons_of_mem _ hq)) (by rw [h0] at h; simp at h; omega)
   rw [h0, h1]
   show r ++ (rs.set (j / size) ((rs.getD (j / size) []).set (j % size) c)).flatten = (r ++ rs.flatten).set (j + size) c
   rw [ih, List.set_append_right _ _ (by omega)]
   congr 2
   omega
theorem fill_flat (size : Nat) (hs : 0 < size) : ∀ (cs : List Int) (i : Nat) (rows r : List (List Int)), (∀ r, r ∈ rows → r.length = size) → arz.fill size cs i rows = some r → i + cs.length ≤ rows.flatten.length → r.flatten = rows.flatten.take i ++ cs ++ rows.flatten.drop (i + cs.length)
 | [], i, rows, r, _, h, hl => by
  cases h
  simp
 | c :: cs, i, rows, r, hr, h, hl => by
  simp only [arz.fill] at h
  by_cases hlt : i / size < rows.length
  ·rw [if_pos hlt] at h
   have hf := flatten_set size hs c rows i hr hlt
   have hrow : ∀ x, x ∈ rows.set (i / size) ((rows.getD (i / size) []).set (i % size) c) → x.length = size := fun x hx => by
    rcases List.mem_or_eq_of_mem_set hx with hx | rfl
    ·exact hr x hx
    ·rw [List.length_set, List.getD_eq_getElem?_getD, List.getElem?_eq_getElem hlt]
     exact hr _ (List.getElem_mem ..)
   have ih := fill_flat size hs cs (i + 1) _ r hrow h (by rw [hf, List.length_set]; simp only [List.length_cons] at hl; omega)
   rw [ih, hf]
   have hil : i < rows.flatten.length := by simp only [List.length_cons] at hl; omega
   have e1 : (rows.flatten.set i c).take (i + 1) = rows.flatten.take i ++ [c] := by
    rw [List.take_add_one, List.getElem?_set_self hil, List.take_set_of_le (Nat.le_refl _)]
    rfl
   have e2 : (rows.flatten.set i c).drop (i + 1 + cs.length) = rows.flatten.drop (i + (c :: cs).length) := by
    rw [List.drop_set_of_lt (by omega)]
    congr 1
    simp; omega
   rw [e1, e2]
   simp
  ·rw [if_neg hlt] at h; cases h
theorem flatten_len (size : Nat) : ∀ (rows : List (List Int)), (∀ r, r ∈ rows → r.length = size) → rows.flatten.length = rows.length * size
 | [], _ => by simp
 | r :: rs, h => by
  have := flatten_len size rs (fun q hq => h q (List.mem_cons_of_mem _ hq))
  rw [List.flatten_cons, List.length_append, this, h r (List.mem_cons_self ..), List.length_cons, Nat.add_mul]; omega
theorem dOz (K size : Nat) : (List.replicate K (List.replicate size (0 : Int))).flatten = List.replicate (K * size) 0 := by
 induction K with
 | zero => simp
 | succ K ih => rw [List.replicate_succ, List.flatten_cons, ih, List.replicate_append_replicate, Nat.add_mul]; congr 1; omega
theorem laidL_drop (a : Nat) (ha : a ≤ 4) (b : List Int) : (laidL a b).drop a = b := by
 unfold laidL
 have : ((four4 (b.length : Int)).drop (4 - a)).length = a := by unfold four4; simp; omega
 rw [List.drop_append_of_le_length (by omega), List.drop_of_length_le (by omega), List.nil_append]
theorem laidL_take (b : List Int) : (laidL 4 b).take 4 = four4 (b.length : Int) := by
 unfold laidL
 rw [Nat.sub_self, List.drop_zero, List.take_append_of_le_length (by unfold four4; simp), List.take_of_length_le (by unfold four4; simp)]
theorem told_ev (n : Nat) (hn : n ≤ 4096) : Ev (fun k => avz.f k (four4 (n : Int))) (n : Int) := by
 refine Ev.of (fun k => avz.mono _ k) (k := 5) ?_
 obtain ⟨a, b, h1, h2, h3⟩ : ∃ a b : Int, four4 (n : Int) = [0, 0, a, b] ∧ 256 * a + b = n ∧ (0 ≤ a ∧ a ≤ 16 ∧ 0 ≤ b ∧ b ≤ 255) := ⟨(n : Int) / 256, (n : Int) % 256, by unfold four4; rw [show (n : Int) / 256 / 256 / 256 % 256 = 0 by omega, show (n : Int) / 256 / 256 % 256 = 0 by omega, show (n : Int) / 256 % 256 = (n : Int) / 256 by omega], by omega, by omega, by omega, by omega, by omega⟩
 have st : ∀ (k : Nat) (x : Int) (i : Nat), i < 4 → avz.l0 (k + 1) x [0, 0, a, b] 4 (i : Int) = avz.l0 k (wrap64 (wrap64 (256 * x) + wrap64 (rd [0, 0, a, b] (i : Int)))) [0, 0, a, b] 4 ((i + 1 : Nat) : Int) := fun k x i hi => by
  rw [avz.l0, if_pos (by omega), if_pos (by omega), if_pos (by simp; omega), coz (by omega)]
 have z : wrap64 (wrap64 (256 * 0) + wrap64 0) = 0 := by decide +kernel
 rw [h1]
 unfold avz.f
 show avz.l0 5 0 [0, 0, a, b] 4 ((0 : Nat) : Int) = some (n : Int)
 rw [st 4 0 0 (by omega), show rd [0, 0, a, b] ((0 : Nat) : Int) = 0 from rfl, z, st 3 0 1 (by omega), show rd [0, 0, a, b] ((0 + 1 : Nat) : Int) = 0 from rfl, z, st 2 0 2 (by omega), st 1 _ 3 (by omega), avz.l0, if_neg (by omega)]
 rw [show rd [0, 0, a, b] ((1 + 1 : Nat) : Int) = a from rfl, show rd [0, 0, a, b] ((2 + 1 : Nat) : Int) = b from rfl]
 congr 1
 rw [show wrap64 (256 * 0) = 0 by decide +kernel, w64 (x := a) (by omega) (by omega), w64 (x := b) (by omega) (by omega), w64 (x := 0 + a) (by omega) (by omega), w64 (x := 256 * (0 + a)) (by omega) (by omega), w64 (by omega) (by omega)]
 omega
theorem join_ev (p : Int) (K M : Nat) (b : List Int) (hmay : agz.f p (K : Int) (M : Int) = some true) (hn : b.length ≤ 4096) (data : List (List Int)) (hK : data.length = K) (hS : ∀ r, r ∈ data → r.length = sizeN p K b.length)
  (hf : arz.fill (sizeN p K b.length) (laidL (aheadN p) b) 0 (List.replicate K (List.replicate (sizeN p K b.length) 0)) = some data) (hs : Ev (fun k => arz.f k p (K : Int) (M : Int) b) (data, 0)) :
  Ev (fun k => alz.f k p (K : Int) (M : Int) data (b.length : Int)) (b, 0) := by
 obtain ⟨p1, p2, k1, k2, m1, m2⟩ := bfz hmay
 have hz1 := sizeN_pos p K b.length
 have hz2 := dcz p K b.length (by omega) (by omega) hn
 have hz3 := sizeN_room p K b.length (by omega)
 have hz4 : sizeN p K b.length % unitN p = 0 := by unfold sizeN; exact Nat.mul_mod_right _ _
 have hu := dbz p
 have ha := cKz p
 have ha5 : aheadN p = 0 ∨ aheadN p = 4 := by unfold aheadN; split <;> simp
 have hll := laidL_len p b
 have hld := laidL_drop (aheadN p) ha b
 have hlt := laidL_take b
 have hfl := fill_flat _ hz1 _ 0 _ data (fun r hr => by rw [List.eq_of_mem_replicate hr]; simp) hf (by rw [dOz, List.length_replicate, hll, Nat.zero_add, Nat.mul_comm]; exact hz3)
 rw [dOz, List.take_zero, List.nil_append, Nat.zero_add, List.drop_replicate] at hfl
 have hdl := flatten_len _ data hS
 rw [hK] at hdl
 have hSK : K * sizeN p K b.length ≤ 8 * 80000 := Nat.mul_le_mul (by omega) hz2
 have hroom : b.length + aheadN p ≤ K * sizeN p K b.length := by rw [Nat.mul_comm]; exact hz3
 generalize sizeN p K b.length = S at hS hz1 hz2 hz4 hfl hdl hSK hroom
 generalize K * S = T at hdl hSK hroom hfl
 have hsm : alz.small data = true := by
  simp only [alz.small, Bool.and_eq_true, decide_eq_true_eq, List.all_eq_true]
  exact ⟨by omega, fun r h => by rw [hS r h]; omega⟩
 obtain ⟨r0, hr0⟩ : ∃ r, data[0]? = some r := ⟨_, List.getElem?_eq_getElem (by omega)⟩
 have hg : data.getD 0 [] = r0 := by rw [List.getD_eq_getElem?_getD, hr0]; rfl
 have hr0S := hS r0 (List.mem_of_getElem? hr0)
 have hno : ¬ (data.any (fun x => (x.length : Int) != ((data.getD 0 []).length : Int)) = true) := by
  rw [List.any_eq_true]
  rintro ⟨x, hx, h⟩
  rw [hg, hr0S, hS x hx] at h
  simp at h
 have hdrop : data.flatten.drop (aheadN p) = b ++ List.replicate (T - (laidL (aheadN p) b).length) 0 := by
  rw [hfl, List.drop_append_of_le_length (by omega), hld]
 have hrest : (data.flatten.drop (aheadN p)).take b.length = b := by rw [hdrop, List.take_left']; rfl
 have hH : Ev (fun k => alz.h k p (K : Int) (M : Int) data (b.length : Int) (data.flatten.drop (aheadN p))) (b, 0) := by
  have hrl : (data.flatten.drop (aheadN p)).length = T - aheadN p := by rw [List.length_drop, hdl]
  refine Ev.congr (f := fun k => (arz.f k p (K : Int) (M : Int) b).bind fun t => if t.2 = 0 then ((eqFunc k t.1 data).bind fun c => if c = true then some (b, 0) else some ([], 3)) else some ([], 3)) (fun k => ?_) ?_
  ·unfold alz.h
   rw [hrl, if_neg (by omega), Int.toNat_natCast, hrest]
  ·refine Ev.bind hs ?_
   refine Ev.congr (f := fun k => (eqFunc k data data).bind fun c => if c = true then some (b, 0) else some ([], 3)) (fun k => by dsimp only; rw [if_pos rfl]) ?_
   refine Ev.bind (eqFunc_ev data (by omega) (fun x hx => by rw [hS x hx]; omega)) ?_
   exact Ev.congr (fun k => by rw [if_pos rfl]) (Ev.now _)
 have hform : ¬ ((data.getD 0 []).length = 0 ∨ ((data.getD 0 []).length : Int) % (unitN p : Int) ≠ 0 ∨ (data.flatten.length : Int) < (aheadN p : Int)) := by
  rw [hg, hr0S]
  rintro (h | h | h)
  ·omega
  ·exact h (by rw [← Int.natCast_emod, hz4]; rfl)
  ·omega
 have hG : Ev (fun k => alz.g k p (K : Int) (M : Int) data (b.length : Int) (unitN p : Int) (aheadN p : Int)) (b, 0) := by
  rcases ha5 with h5 | h5
  ·refine Ev.congr (fun k => ?_) hH
   unfold alz.g
   rw [if_neg hform, if_neg (by omega), Int.toNat_natCast]
  ·have ht : data.flatten.take (aheadN p) = four4 (b.length : Int) := by
    rw [h5] at hfl hll ⊢
    rw [hfl, List.take_append_of_le_length (by omega), hlt]
   refine Ev.congr (f := fun k => (avz.f k (four4 (b.length : Int))).bind fun m => alz.h k p (K : Int) (M : Int) data m (data.flatten.drop (aheadN p))) (fun k => ?_) (Ev.bind (told_ev b.length hn) hH)
   unfold alz.g
   rw [if_neg hform, if_pos (by omega), Int.toNat_natCast, ht]
 refine Ev.congr (fun k => ?_) hG
 unfold alz.f
 rw [hmay, Option.bind_some, if_pos rfl, if_pos (by omega), if_pos hsm, if_neg hno, rule_eq p1 p2, Option.bind_some]
theorem u8_xor (a b : Nat) (ha : a < 256) (hb : b < 256) : Go.bits .xor .u8 (a : Int) (b : Int) = ((a ^^^ b : Nat) : Int) := by
 have h : a ^^^ b < 2 ^ 8 := Nat.xor_lt_two_pow ha hb
 have e : ∀ x : Nat, x < 256 → (BitVec.ofInt 8 (x : Int)).toNat = x := fun x hx => by rw [BitVec.toNat_ofInt]; omega
 show IntKind.u8.wrap ((BitVec.ofInt 8 (a : Int) ^^^ BitVec.ofInt 8 (b : Int)).toNat : Int) = _
 rw [BitVec.toNat_xor, e a ha, e b hb]
 show ((a ^^^ b : Nat) : Int) % 256 = _
 omega
def xorN (a b : List Nat) : List Nat := List.zipWith (fun x y => x ^^^ y) a b
theorem xorB_nat : ∀ (a b : List Nat), (∀ x, x ∈ a → x < 256) → (∀ x, x ∈ b → x < 256) → xorB (a.map fun x : Nat => (x : Int)) (b.map fun x : Nat => (x : Int)) = (xorN a b).map fun x : Nat => (x : Int)
 | [], _, _, _ => by simp [xorB, xorN]
 | _ :: _, [], _, _ => by simp [xorB, xorN]
 | x :: a, y :: b, ha, hb => by
  have h := xorB_nat a b (fun q hq => ha q (List.mem_cons_of_mem _ hq)) (fun q hq => hb q (List.mem_cons_of_mem _ hq))
  unfold xorB xorN at *
  simp only [List.map_cons, List.zipWith_cons_cons]
  rw [h, u8_xor x y (ha x (List.mem_cons_self ..)) (hb y (List.mem_cons_self ..))]
theorem xorN_lt {w : Nat} : ∀ (a b : List Nat), (∀ x, x ∈ a → x < 2 ^ w) → (∀ x, x ∈ b → x < 2 ^ w) → ∀ x, x ∈ xorN a b → x < 2 ^ w := by
 intro a b ha hb x hx
 unfold xorN at hx
 obtain ⟨i, hi, rfl⟩ := List.mem_iff_getElem.1 hx
 rw [List.getElem_zipWith]
 exact Nat.xor_lt_two_pow (ha _ (List.getElem_mem ..)) (hb _ (List.getElem_mem ..))
def pairN : List Nat → List Nat
 | x :: y :: r => (x + 256 * y) :: pairN r
 | _ => []
theorem pairN_lt : ∀ (a : List Nat), (∀ x, x ∈ a → x < 256) → ∀ x, x ∈ pairN a → x < 65536
 | [], _, _, h => by simp [pairN] at h
 | [_], _, _, h => by simp [pairN] at h
 | u :: v :: a, ha, x, h => by
  have h1 := ha u (by simp)
  have h2 := ha v (by simp)
  rcases List.mem_cons.1 (show x ∈ (u + 256 * v) :: pairN a from h) with rfl | h
  ·omega
  ·exact pairN_lt a (fun q hq => ha q (by simp [hq])) x h
def castN (l : List Nat) : List Int := l.map fun x : Nat => (x : Int)
theorem pairN_snoc (x y : Nat) : ∀ (l : List Nat), l.length % 2 = 0 → pairN (l ++ [x, y]) = pairN l ++ [x + 256 * y]
 | [], _ => rfl
 | [_], h => by simp at h
 | u :: v :: l, h => by
  have ih := pairN_snoc x y l (by simp at h; omega)
  show (u + 256 * v) :: pairN (l ++ [x, y]) = (u + 256 * v) :: pairN l ++ [x + 256 * y]
  rw [ih]; rfl
theorem pairN_len : ∀ (l : List Nat), (pairN l).length = l.length / 2
 | [] => rfl
 | [_] => by simp [pairN]
 | u :: v :: l => by
  have ih := pairN_len l
  show (pairN l).length + 1 = (l.length + 2) / 2
  omega
theorem wTo_two (n : List Nat) (hb : ∀ x, x ∈ n → x < 256) : ∀ j, 2 * j ≤ n.length → wTo 2 (castN n) (2 * j) = castN (pairN (n.take (2 * j))) ++ List.replicate (n.length / 2 - j) 0
 | 0, _ => by
  show wTo 2 (castN n) 0 = _
  unfold wTo castN
  simp [pairN]
 | j + 1, hj => by
  have ih := wTo_two n hb j (by omega)
  obtain ⟨x, hx⟩ : ∃ x, n[2 * j]? = some x := ⟨_, List.getElem?_eq_getElem (by omega)⟩
  obtain ⟨y, hy⟩ : ∃ y, n[2 * j + 1]? = some y := ⟨_, List.getElem?_eq_getElem (by omega)⟩
  have hx8 := hb x (List.mem_of_getElem? hx)
  have hy8 := hb y (List.mem_of_getElem? hy)
  have gx : (castN n).getD (2 * j) 0 = (x : Int) := by unfold castN; rw [List.getD_eq_getElem?_getD, List.getElem?_map, hx]; rfl
  have gy : (castN n).getD (2 * j + 1) 0 = (y : Int) := by unfold castN; rw [List.getD_eq_getElem?_getD, List.getElem?_map, hy]; rfl
  have hpl : (castN (pairN (n.take (2 * j)))).length = j := by
   unfold castN
   rw [List.length_map, pairN_len, List.length_take]; omega
  have e1 : wTo 2 (castN n) (2 * j + 1) = castN (pairN (n.take (2 * j))) ++ (x : Int) :: List.replicate (n.length / 2 - (j + 1)) 0 := by
   have e : wTo 2 (castN n) (2 * j + 1) = if (2 * j) % 2 = 0 then (wTo 2 (castN n) (2 * j)).set ((2 * j) / 2) (wrap64 ((castN n).getD (2 * j) 0)) else (wTo 2 (castN n) (2 * j)).set ((2 * j) / 2) (wrap64 ((wTo 2 (castN n) (2 * j)).getD ((2 * j) / 2) 0 + wrap64 (256 * wrap64 ((castN n).getD (2 * j) 0)))) := rfl
   rw [e, if_pos (by omega), ih, gx, show 2 * j / 2 = j by omega, w64 (by omega) (by omega), List.set_append_right _ _ (by omega), hpl, Nat.sub_self, show n.length / 2 - j = (n.length / 2 - (j + 1)) + 1 by omega, List.replicate_succ, List.set_cons_zero]
  have e2 : wTo 2 (castN n) (2 * j + 1 + 1) = if (2 * j + 1) % 2 = 0 then (wTo 2 (castN n) (2 * j + 1)).set ((2 * j + 1) / 2) (wrap64 ((castN n).getD (2 * j + 1) 0)) else (wTo 2 (castN n) (2 * j + 1)).set ((2 * j + 1) / 2) (wrap64 ((wTo 2 (castN n) (2 * j + 1)).getD ((2 * j + 1) / 2) 0 + wrap64 (256 * wrap64 ((castN n).getD (2 * j + 1) 0)))) := rfl
  have hgd : (castN (pairN (n.take (2 * j))) ++ (x : Int) :: List.replicate (n.length / 2 - (j + 1)) 0).getD j 0 = (x : Int) := by
   rw [List.getD_eq_getElem?_getD, List.getElem?_append_right (by omega), hpl, Nat.sub_self]; rfl
  rw [show 2 * (j + 1) = 2 * j + 1 + 1 by omega, e2, if_neg (by omega), e1, gy, show (2 * j + 1) / 2 = j by omega, hgd, w64 (x := (y : Int)) (by omega) (by omega), w64 (x := 256 * (y : Int)) (by omega) (by omega), w64 (x := (x : Int) + 256 * (y : Int)) (by omega) (by omega), List.set_append_right _ _ (by omega), hpl, Nat.sub_self, List.set_cons_zero]
  have e3 : n.take (2 * j + 1 + 1) = n.take (2 * j) ++ [x, y] := by
   rw [List.take_add_one, List.take_add_one, hx, hy]; simp
  rw [e3, pairN_snoc x y _ (by rw [List.length_take]; omega)]
  unfold castN
  simp
theorem words16 (n : List Nat) (hb : ∀ x, x ∈ n → x < 256) (he : n.length % 2 = 0) : wordsF 16 (castN n) = castN (pairN n) := by
 unfold wordsF
 have h := wTo_two n hb (n.length / 2) (by omega)
 rw [show wN 16 = 2 from rfl, show (castN n).length = 2 * (n.length / 2) by unfold castN; rw [List.length_map]; omega, h, Nat.sub_self, List.take_of_length_le (by omega)]
 simp
theorem wTo_one (b : List Int) (hb : ∀ x, x ∈ b → 0 ≤ x ∧ x ≤ 255) : ∀ i, i ≤ b.length → wTo 1 b i = b.take i ++ List.replicate (b.length - i) 0
 | 0, _ => by unfold wTo; simp
 | i + 1, hi => by
  have ih := wTo_one b hb i (by omega)
  obtain ⟨x, hx⟩ : ∃ x, b[i]? = some x := ⟨_, List.getElem?_eq_getElem (by omega)⟩
  have hxb := hb x (List.mem_of_getElem? hx)
  have hg : b.getD i 0 = x := by rw [List.getD_eq_getElem?_getD, hx]; rfl
  have e : wTo 1 b (i + 1) = if i % 1 = 0 then (wTo 1 b i).set (i / 1) (wrap64 (b.getD i 0)) else (wTo 1 b i).set (i / 1) (wrap64 ((wTo 1 b i).getD (i / 1) 0 + wrap64 (256 * wrap64 (b.getD i 0)))) := rfl
  rw [e, if_pos (Nat.mod_one i), ih, hg, Nat.div_one, w64 (by omega) (by omega), List.set_append_right _ _ (by simp; omega), List.take_add_one, hx]
  rw [show i - (b.take i).length = 0 by simp; omega, show b.length - i = (b.length - (i + 1)) + 1 by omega, List.replicate_succ]
  simp
def onesOk (l : List (List Int)) (k : Nat) : Bool := decide (l[0]? = some (List.replicate k 1))
theorem o1_1_1 : onesOk (jvM 8 1 1) 1 = true := by kernel_rfl
theorem o1_1_2 : onesOk (jvM 8 1 2) 1 = true := by kernel_rfl
theorem o1_1_3 : onesOk (jvM 8 1 3) 1 = true := by kernel_rfl
theorem o1_1_4 : onesOk (jvM 8 1 4) 1 = true := by kernel_rfl
theorem o1_2_1 : onesOk (jvM 8 2 1) 2 = true := by kernel_rfl
theorem o1_2_2 : onesOk (jvM 8 2 2) 2 = true := by kernel_rfl
theorem o1_2_3 : onesOk (jvM 8 2 3) 2 = true := by kernel_rfl
theorem o1_2_4 : onesOk (jvM 8 2 4) 2 = true := by kernel_rfl
theorem o1_3_1 : onesOk (jvM 8 3 1) 3 = true := by kernel_rfl
theorem o1_3_2 : onesOk (jvM 8 3 2) 3 = true := by kernel_rfl
theorem o1_3_3 : onesOk (jvM 8 3 3) 3 = true := by kernel_rfl
theorem o1_3_4 : onesOk (jvM 8 3 4) 3 = true := by kernel_rfl
theorem o1_4_1 : onesOk (jvM 8 4 1) 4 = true := by kernel_rfl
theorem o1_4_2 : onesOk (jvM 8 4 2) 4 = true := by kernel_rfl
theorem o1_4_3 : onesOk (jvM 8 4 3) 4 = true := by kernel_rfl
theorem o1_4_4 : onesOk (jvM 8 4 4) 4 = true := by kernel_rfl
theorem s5_1 : stepsF 8 5 (extM 8 5 1) = [[1, 0, 0, 0, 0], [0, 1, 0, 0, 0], [0, 0, 1, 0, 0], [0, 0, 0, 1, 0], [0, 0, 0, 0, 1], [144, 75, 224, 192, 251]] := by kernel_rfl
def gpi (m q a x : Nat) : Nat → Nat
 | 0 => x
 | k + 1 => gm m q (gpi m q a x k) a
theorem gp_more (m q a n : Nat) : ∀ k, gp m q a (n + k) = gpi m q a (gp m q a n) k
 | 0 => rfl
 | k + 1 => by
  show gm m q (gp m q a (n + k)) a = _
  rw [gp_more m q a n k]; rfl
theorem g192_64 : gp 7 285 192 64 = 14 := by kernel_rfl
theorem g192_128 : gp 7 285 192 (64 + 64) = 84 := by
 rw [gp_more, g192_64]
 kernel_rfl
theorem g192_192 : gp 7 285 192 (64 + 64 + 64) = 127 := by
 rw [gp_more, g192_128]
 kernel_rfl
theorem g192 : ginv 8 192 = 18 := by
 have e : gp 7 285 192 254 = 18 := by
  rw [show 254 = 64 + 64 + 64 + 62 from rfl, gp_more, g192_192]
  kernel_rfl
 have e2 : ginv 8 192 = ((gp 7 285 192 254 : Nat) : Int) := by
  unfold ginv gpow gpwN
  rw [if_pos (by decide), if_pos (by decide), if_pos rfl]
  rfl
 rw [e2, e]
 rfl
theorem c5_1 : colsF 8 5 1 [[1, 0, 0, 0, 0], [0, 1, 0, 0, 0], [0, 0, 1, 0, 0], [0, 0, 0, 1, 0], [0, 0, 0, 0, 1], [144, 75, 224, 192, 251]] = [[1, 0, 0, 0, 0], [0, 1, 0, 0, 0], [0, 0, 1, 0, 0], [0, 0, 0, 1, 0], [0, 0, 0, 0, 1], [1, 75, 224, 192, 251]] := by kernel_rfl
theorem c5_2 : colsF 8 5 2 [[1, 0, 0, 0, 0], [0, 1, 0, 0, 0], [0, 0, 1, 0, 0], [0, 0, 0, 1, 0], [0, 0, 0, 0, 1], [144, 75, 224, 192, 251]] = [[1, 0, 0, 0, 0], [0, 1, 0, 0, 0], [0, 0, 1, 0, 0], [0, 0, 0, 1, 0], [0, 0, 0, 0, 1], [1, 1, 224, 192, 251]] := by
 rw [colsF, c5_1]
 kernel_rfl
theorem c5_3 : colsF 8 5 3 [[1, 0, 0, 0, 0], [0, 1, 0, 0, 0], [0, 0, 1, 0, 0], [0, 0, 0, 1, 0], [0, 0, 0, 0, 1], [144, 75, 224, 192, 251]] = [[1, 0, 0, 0, 0], [0, 1, 0, 0, 0], [0, 0, 1, 0, 0], [0, 0, 0, 1, 0], [0, 0, 0, 0, 1], [1, 1, 1, 192, 251]] := by
 rw [colsF, c5_2]
 kernel_rfl
theorem c5_4 : colsF 8 5 4 [[1, 0, 0, 0, 0], [0, 1, 0, 0, 0], [0, 0, 1, 0, 0], [0, 0, 0, 1, 0], [0, 0, 0, 0, 1], [144, 75, 224, 192, 251]] = [[1, 0, 0, 0, 0], [0, 1, 0, 0, 0], [0, 0, 1, 0, 0], [0, 0, 0, 1, 0], [0, 0, 0, 0, 1], [1, 1, 1, 1, 251]] := by
 rw [colsF, c5_3]
 rw [show ((([[1, 0, 0, 0, 0], [0, 1, 0, 0, 0], [0, 0, 1, 0, 0], [0, 0, 0, 1, 0], [0, 0, 0, 0, 1], [1, 1, 1, 192, 251]] : List (List Int)).getD 5 []).getD 3 0) = 192 from rfl, g192]
 kernel_rfl
theorem c5_5 : colsF 8 5 5 [[1, 0, 0, 0, 0], [0, 1, 0, 0, 0], [0, 0, 1, 0, 0], [0, 0, 0, 1, 0], [0, 0, 0, 0, 1], [144, 75, 224, 192, 251]] = [[1, 0, 0, 0, 0], [0, 1, 0, 0, 0], [0, 0, 1, 0, 0], [0, 0, 0, 1, 0], [0, 0, 0, 0, 1], [1, 1, 1, 1, 1]] := by
 rw [colsF, c5_4]
 kernel_rfl
theorem o1_5_1 : onesOk (jvM 8 5 1) 5 = true := by
 unfold jvM
 rw [s5_1, c5_5]
 kernel_rfl
theorem o1_5_2 : onesOk (jvM 8 5 2) 5 = true := by kernel_rfl
theorem o1_5_3 : onesOk (jvM 8 5 3) 5 = true := by kernel_rfl
theorem o1_5_4 : onesOk (jvM 8 5 4) 5 = true := by kernel_rfl
theorem o1_6_1 : onesOk (jvM 8 6 1) 6 = true := by kernel_rfl
theorem o1_6_2 : onesOk (jvM 8 6 2) 6 = true := by kernel_rfl
theorem o1_6_3 : onesOk (jvM 8 6 3) 6 = true := by kernel_rfl
theorem o1_6_4 : onesOk (jvM 8 6 4) 6 = true := by kernel_rfl
theorem o1_7_1 : onesOk (jvM 8 7 1) 7 = true := by kernel_rfl
theorem o1_7_2 : onesOk (jvM 8 7 2) 7 = true := by kernel_rfl
theorem o1_7_3 : onesOk (jvM 8 7 3) 7 = true := by kernel_rfl
theorem o1_7_4 : onesOk (jvM 8 7 4) 7 = true := by kernel_rfl
theorem o1_8_1 : onesOk (jvM 8 8 1) 8 = true := by kernel_rfl
theorem o1_8_2 : onesOk (jvM 8 8 2) 8 = true := by kernel_rfl
theorem o1_8_3 : onesOk (jvM 8 8 3) 8 = true := by kernel_rfl
theorem o1_8_4 : onesOk (jvM 8 8 4) 8 = true := by kernel_rfl
theorem o3_1_1 : onesOk (isalM 8 1 1) 1 = true := by kernel_rfl
theorem o3_1_2 : onesOk (isalM 8 2 1) 1 = true := by kernel_rfl
theorem o3_1_3 : onesOk (isalM 8 3 1) 1 = true := by kernel_rfl
theorem o3_2_1 : onesOk (isalM 8 1 2) 2 = true := by kernel_rfl
theorem o3_2_2 : onesOk (isalM 8 2 2) 2 = true := by kernel_rfl
theorem o3_2_3 : onesOk (isalM 8 3 2) 2 = true := by kernel_rfl
theorem o3_3_1 : onesOk (isalM 8 1 3) 3 = true := by kernel_rfl
theorem o3_3_2 : onesOk (isalM 8 2 3) 3 = true := by kernel_rfl
theorem o3_3_3 : onesOk (isalM 8 3 3) 3 = true := by kernel_rfl
theorem o3_4_1 : onesOk (isalM 8 1 4) 4 = true := by kernel_rfl
theorem o3_4_2 : onesOk (isalM 8 2 4) 4 = true := by kernel_rfl
theorem o3_4_3 : onesOk (isalM 8 3 4) 4 = true := by kernel_rfl
theorem o3_5_1 : onesOk (isalM 8 1 5) 5 = true := by kernel_rfl
theorem o3_5_2 : onesOk (isalM 8 2 5) 5 = true := by kernel_rfl
theorem o3_5_3 : onesOk (isalM 8 3 5) 5 = true := by kernel_rfl
theorem o3_6_1 : onesOk (isalM 8 1 6) 6 = true := by kernel_rfl
theorem o3_6_2 : onesOk (isalM 8 2 6) 6 = true := by kernel_rfl
theorem o3_6_3 : onesOk (isalM 8 3 6) 6 = true := by kernel_rfl
theorem o3_7_1 : onesOk (isalM 8 1 7) 7 = true := by kernel_rfl
theorem o3_7_2 : onesOk (isalM 8 2 7) 7 = true := by kernel_rfl
theorem o3_7_3 : onesOk (isalM 8 3 7) 7 = true := by kernel_rfl
theorem o3_8_1 : onesOk (isalM 8 1 8) 8 = true := by kernel_rfl
theorem o3_8_2 : onesOk (isalM 8 2 8) 8 = true := by kernel_rfl
theorem o3_8_3 : onesOk (isalM 8 3 8) 8 = true := by kernel_rfl
theorem ones1 (K M : Nat) (h1 : 1 ≤ K) (h2 : K ≤ 8) (h3 : 1 ≤ M) (h4 : M ≤ 4) : (parM 1 K M)[0]? = some (List.replicate K 1) := by
 have key : onesOk (jvM 8 K M) K = true := by
  match K, M, h1, h2, h3, h4 with
  | 1, 1, _, _, _, _ => exact o1_1_1
  | 1, 2, _, _, _, _ => exact o1_1_2
  | 1, 3, _, _, _, _ => exact o1_1_3
  | 1, 4, _, _, _, _ => exact o1_1_4
  | 2, 1, _, _, _, _ => exact o1_2_1
  | 2, 2, _, _, _, _ => exact o1_2_2
  | 2, 3, _, _, _, _ => exact o1_2_3
  | 2, 4, _, _, _, _ => exact o1_2_4
  | 3, 1, _, _, _, _ => exact o1_3_1
  | 3, 2, _, _, _, _ => exact o1_3_2
  | 3, 3, _, _, _, _ => exact o1_3_3
  | 3, 4, _, _, _, _ => exact o1_3_4
  | 4, 1, _, _, _, _ => exact o1_4_1
  | 4, 2, _, _, _, _ => exact o1_4_2
  | 4, 3, _, _, _, _ => exact o1_4_3
  | 4, 4, _, _, _, _ => exact o1_4_4
  | 5, 1, _, _, _, _ => exact o1_5_1
  | 5, 2, _, _, _, _ => exact o1_5_2
  | 5, 3, _, _, _, _ => exact o1_5_3
  | 5, 4, _, _, _, _ => exact o1_5_4
  | 6, 1, _, _, _, _ => exact o1_6_1
  | 6, 2, _, _, _, _ => exact o1_6_2
  | 6, 3, _, _, _, _ => exact o1_6_3
  | 6, 4, _, _, _, _ => exact o1_6_4
  | 7, 1, _, _, _, _ => exact o1_7_1
  | 7, 2, _, _, _, _ => exact o1_7_2
  | 7, 3, _, _, _, _ => exact o1_7_3
  | 7, 4, _, _, _, _ => exact o1_7_4
  | 8, 1, _, _, _, _ => exact o1_8_1
  | 8, 2, _, _, _, _ => exact o1_8_2
  | 8, 3, _, _, _, _ => exact o1_8_3
  | 8, 4, _, _, _, _ => exact o1_8_4
  | 0, _, h, _, _, _ => omega
  | _ + 9, _, _, h, _, _ => omega
  | _, 0, _, _, h, _ => omega
  | _, _ + 5, _, _, _, h => omega
 exact of_decide_eq_true key
theorem ones3 (K M : Nat) (h1 : 1 ≤ K) (h2 : K ≤ 8) (h3 : 1 ≤ M) (h4 : M ≤ 3) : (parM 3 K M)[0]? = some (List.replicate K 1) := by
 have key : onesOk (isalM 8 M K) K = true := by
  match K, M, h1, h2, h3, h4 with
  | 1, 1, _, _, _, _ => exact o3_1_1
  | 1, 2, _, _, _, _ => exact o3_1_2
  | 1, 3, _, _, _, _ => exact o3_1_3
  | 2, 1, _, _, _, _ => exact o3_2_1
  | 2, 2, _, _, _, _ => exact o3_2_2
  | 2, 3, _, _, _, _ => exact o3_2_3
  | 3, 1, _, _, _, _ => exact o3_3_1
  | 3, 2, _, _, _, _ => exact o3_3_2
  | 3, 3, _, _, _, _ => exact o3_3_3
  | 4, 1, _, _, _, _ => exact o3_4_1
  | 4, 2, _, _, _, _ => exact o3_4_2
  | 4, 3, _, _, _, _ => exact o3_4_3
  | 5, 1, _, _, _, _ => exact o3_5_1
  | 5, 2, _, _, _, _ => exact o3_5_2
  | 5, 3, _, _, _, _ => exact o3_5_3
  | 6, 1, _, _, _, _ => exact o3_6_1
  | 6, 2, _, _, _, _ => exact o3_6_2
  | 6, 3, _, _, _, _ => exact o3_6_3
  | 7, 1, _, _, _, _ => exact o3_7_1
  | 7, 2, _, _, _, _ => exact o3_7_2
  | 7, 3, _, _, _, _ => exact o3_7_3
  | 8, 1, _, _, _, _ => exact o3_8_1
  | 8, 2, _, _, _, _ => exact o3_8_2
  | 8, 3, _, _, _, _ => exact o3_8_3
  | 0, _, h, _, _, _ => omega
  | _ + 9, _, _, h, _, _ => omega
  | _, 0, _, _, h, _ => omega
  | _, _ + 4, _, _, _, h => omega
 exact of_decide_eq_true key
def mapN (f : Nat → Nat) (l : List Nat) : List Nat := l.map f
def mN (wb c : Int) (x : Nat) : Nat := (gmul wb c (x : Int)).toNat
theorem mN_cast {wb : Int} (hw : wb = 8 ∨ wb = 16) (c : Int) (l : List Nat) : (castN l).map (gmul wb c) = castN (mapN (mN wb c) l) := by
 unfold castN mapN
 rw [List.map_map, List.map_map]
 refine List.map_congr_left (fun x _ => ?_)
 have := (bdz hw c (x : Int)).1
 show gmul wb c (x : Int) = ((gmul wb c (x : Int)).toNat : Int)
 omega
theorem fsize8 : fsize 8 = 256 := rfl
theorem fsize16 : fsize 16 = 65536 := rfl
theorem mN_lt8 (c : Int) (x : Nat) : mN 8 c x < 256 := by
 have := bdz (.inl rfl : (8 : Int) = 8 ∨ (8 : Int) = 16) c (x : Int)
 rw [fsize8] at this
 unfold mN; omega
theorem mN_lt16 (c : Int) (x : Nat) : mN 16 c x < 65536 := by
 have := bdz (.inr rfl : (16 : Int) = 8 ∨ (16 : Int) = 16) c (x : Int)
 rw [fsize16] at this
 unfold mN; omega
def flatN : List Nat → List Nat
 | [] => []
 | x :: r => (x % 256) :: (x / 256 % 256) :: flatN r
theorem bytes16 : ∀ (l : List Nat), bytesF 16 (castN l) = castN (flatN l)
 | [] => rfl
 | x :: r => by
  have h3 : bytesF 16 ((x : Int) :: castN r) = byteF 16 (x : Int) ++ bytesF 16 (castN r) := by unfold bytesF; rw [List.flatMap_cons]
  show bytesF 16 ((x : Int) :: castN r) = ((x % 256 : Nat) : Int) :: ((x / 256 % 256 : Nat) : Int) :: castN (flatN r)
  rw [h3, bytes16 r]
  show [(x : Int) % 256, (x : Int) / 256 % 256] ++ _ = _
  simp
theorem bytes8 : ∀ (l : List Nat), (∀ x, x ∈ l → x < 256) → bytesF 8 (castN l) = castN l
 | [], _ => rfl
 | x :: r, h => by
  have h3 : bytesF 8 ((x : Int) :: castN r) = byteF 8 (x : Int) ++ bytesF 8 (castN r) := by unfold bytesF; rw [List.flatMap_cons]
  have hx := h x (List.mem_cons_self ..)
  show bytesF 8 ((x : Int) :: castN r) = (x : Int) :: castN r
  rw [h3, bytes8 r (fun q hq => h q (List.mem_cons_of_mem _ hq))]
  show [(x : Int) % 256] ++ _ = _
  rw [show (x : Int) % 256 = (x : Int) by omega]; rfl
theorem flatN_lt : ∀ (a : List Nat) (x : Nat), x ∈ flatN a → x < 256
 | [], _, h => by simp [flatN] at h
 | u :: a, x, h => by
  rcases List.mem_cons.1 (show x ∈ (u % 256) :: (u / 256 % 256) :: flatN a from h) with rfl | h
  ·omega
  ·rcases List.mem_cons.1 h with rfl | h
   ·omega
   ·exact flatN_lt a x h
def mulN (wb c : Int) (n : List Nat) : List Nat := if wb = 8 then mapN (mN 8 c) n else flatN (mapN (mN 16 c) (pairN n))
theorem mapN_lt8 (c : Int) (n : List Nat) : ∀ x, x ∈ mapN (mN 8 c) n → x < 256 := by
 intro x hx
 obtain ⟨y, -, rfl⟩ := List.mem_map.1 hx
 exact mN_lt8 c y
theorem mulN_lt (wb c : Int) (n : List Nat) : ∀ x, x ∈ mulN wb c n → x < 256 := by
 unfold mulN
 split
 ·exact mapN_lt8 c n
 ·exact flatN_lt _
theorem words8 (n : List Nat) (hb : ∀ x, x ∈ n → x < 256) : wordsF 8 (castN n) = castN n := by
 unfold wordsF
 rw [show wN 8 = 1 from rfl, wTo_one (castN n) (fun x hx => by
  obtain ⟨y, hy, rfl⟩ := List.mem_map.1 hx
  have := hb y hy
  omega) _ (Nat.le_refl _), Nat.sub_self, List.take_length]
 simp
theorem mulB_nat {wb : Int} (hw : wb = 8 ∨ wb = 16) (c : Int) (n : List Nat) (hb : ∀ x, x ∈ n → x < 256) (he : n.length % wN wb = 0) : mulB wb c (castN n) = castN (mulN wb c n) := by
 unfold mulB mulN
 rcases hw with rfl | rfl
 ·rw [words8 n hb, mN_cast (.inl rfl), bytes8 _ (mapN_lt8 c n), if_pos rfl]
 ·rw [words16 n hb he, mN_cast (.inr rfl), bytes16, if_neg (by decide)]
theorem foldB_nat : ∀ (A : List (List Nat)) (a : List Nat), (∀ x, x ∈ a → x < 256) → (∀ r, r ∈ A → ∀ x, x ∈ r → x < 256) → (A.map castN).foldl xorB (castN a) = castN (A.foldl xorN a)
 | [], _, _, _ => rfl
 | r :: A, a, ha, hA => by
  have hr := hA r (List.mem_cons_self ..)
  have ih := foldB_nat A (xorN a r) (xorN_lt (w := 8) a r ha hr) (fun q hq => hA q (List.mem_cons_of_mem _ hq))
  show (A.map castN).foldl xorB (xorB (castN a) (castN r)) = _
  rw [show xorB (castN a) (castN r) = castN (xorN a r) from xorB_nat a r ha hr, ih]; rfl
def dotN (S : Nat) (wb : Int) (c : List Int) (P : List (List Nat)) : List Nat := (List.zipWith (mulN wb) c P).foldl xorN (List.replicate S 0)
theorem zipM_nat {wb : Int} (hw : wb = 8 ∨ wb = 16) : ∀ (c : List Int) (P : List (List Nat)), (∀ r, r ∈ P → (∀ x, x ∈ r → x < 256) ∧ r.length % wN wb = 0) → List.zipWith (mulB wb) c (P.map castN) = (List.zipWith (mulN wb) c P).map castN
 | [], _, _ => by simp
 | _ :: _, [], _ => by simp
 | x :: c, r :: P, h => by
  have hr := h r (List.mem_cons_self ..)
  simp only [List.map_cons, List.zipWith_cons_cons]
  rw [mulB_nat hw x r hr.1 hr.2, zipM_nat hw c P (fun q hq => h q (List.mem_cons_of_mem _ hq))]
theorem dotV_nat {wb : Int} (hw : wb = 8 ∨ wb = 16) (S : Nat) (c : List Int) (P : List (List Nat)) (h : ∀ r, r ∈ P → (∀ x, x ∈ r → x < 256) ∧ r.length % wN wb = 0) : dotV S wb c (P.map castN) = castN (dotN S wb c P) := by
 unfold dotV sumB dotN
 rw [zipM_nat hw c P h, show (List.replicate S (0 : Int)) = castN (List.replicate S 0) by unfold castN; simp]
 refine foldB_nat _ _ (fun x hx => by rw [List.eq_of_mem_replicate hx]; omega) (fun r hr x hx => ?_)
 obtain ⟨i, hi, rfl⟩ := List.mem_iff_getElem.1 hr
 rw [List.getElem_zipWith] at hx
 exact mulN_lt _ _ _ x hx
theorem mN_in8 {c : Int} (h0 : 0 ≤ c) (h1 : c < 256) (x : Nat) (hx : x < 256) : mN 8 c x = gm 7 285 c.toNat x := by
 unfold mN
 rw [gmul_in h0 (by rw [fsize8]; exact h1) (by omega) (by rw [fsize8]; omega)]
 simp [gmN]
theorem mN_in16 {c : Int} (h0 : 0 ≤ c) (h1 : c < 65536) (x : Nat) (hx : x < 65536) : mN 16 c x = gm 15 69643 c.toNat x := by
 unfold mN
 rw [gmul_in h0 (by rw [fsize16]; exact h1) (by omega) (by rw [fsize16]; omega)]
 simp [gmN]
theorem mN_inv8 (c : Int) (h0 : 0 < c) (h1 : c < 256) (x : Nat) (hx : x < 256) : mN 8 (gp 7 285 c.toNat 254 : Nat) (mN 8 c x) = x := by
 have F := gf8.toGf
 have hc : c.toNat < 2 ^ (7 + 1) := by omega
 have hg := F.gp_lt hc 254
 rw [mN_in8 (by omega) h1 x hx, mN_in8 (by omega) (by omega) _ (F.lt hc), Int.toNat_natCast, ← F.assoc hg hc, F.comm hg hc, show gm 7 285 c.toNat (gp 7 285 c.toNat 254) = 1 from gf8.dyz hc (by omega), F.bZz hx]
theorem mN_inv16 (c : Int) (h0 : 0 < c) (h1 : c < 65536) (x : Nat) (hx : x < 65536) : mN 16 (gp 15 69643 c.toNat 65534 : Nat) (mN 16 c x) = x := by
 have F := gf16.toGf
 have hc : c.toNat < 2 ^ (15 + 1) := by omega
 obtain ⟨e, he⟩ : ∃ e : Nat, e = 65534 := ⟨_, rfl⟩
 rw [← he]
 have hg := F.gp_lt hc e
 have hi : gm 15 69643 c.toNat (gp 15 69643 c.toNat e) = 1 := by
  have := gf16.dyz hc (by omega)
  rw [show 2 ^ (15 + 1) - 2 = e by rw [he]] at this
  exact this
 rw [mN_in16 (by omega) h1 x hx, mN_in16 (by omega) (by omega) _ (F.lt hc), Int.toNat_natCast, ← F.assoc hg hc, F.comm hg hc, hi, F.bZz hx]
theorem dIz (f g : Nat → Nat) (w : Nat) (h : ∀ x, x < w → f (g x) = x) : ∀ l : List Nat, (∀ x, x ∈ l → x < w) → mapN f (mapN g l) = l := by
 intro l hl
 unfold mapN
 rw [List.map_map]
 conv => rhs; rw [← List.map_id l]
 exact List.map_congr_left (fun x hx => h x (hl x hx))
theorem pair_flat : ∀ (l : List Nat), (∀ x, x ∈ l → x < 65536) → pairN (flatN l) = l
 | [], _ => rfl
 | x :: l, hb => by
  have ih := pair_flat l (fun z hz => hb z (List.mem_cons_of_mem _ hz))
  have hx := hb x (List.mem_cons_self ..)
  simp only [flatN, pairN]
  rw [ih]
  congr 1
  omega
theorem flat_pair : ∀ (l : List Nat), l.length % 2 = 0 → (∀ x, x ∈ l → x < 256) → flatN (pairN l) = l
 | [], _, _ => rfl
 | [x], h, _ => by simp at h
 | x :: y :: l, h, hb => by
  have ih := flat_pair l (by simp at h; omega) (fun z hz => hb z (List.mem_cons_of_mem _ (List.mem_cons_of_mem _ hz)))
  have hx := hb x (List.mem_cons_self ..)
  have hy := hb y (List.mem_cons_of_mem _ (List.mem_cons_self ..))
  simp only [pairN, flatN]
  rw [ih, show (x + 256 * y) % 256 = x by omega, show (x + 256 * y) / 256 % 256 = y by omega]
theorem mulN_inj {wb : Int} (hw : wb = 8 ∨ wb = 16) (c : Int) (h0 : 0 < c) (h1 : c < fsize wb) (a b : List Nat) (ha : ∀ x, x ∈ a → x < 256) (hb : ∀ x, x ∈ b → x < 256) (ea : a.length % wN wb = 0) (eb : b.length % wN wb = 0) (h : mulN wb c a = mulN wb c b) : a = b := by
 rcases hw with rfl | rfl
 ·unfold mulN at h
  rw [if_pos rfl, if_pos rfl] at h
  have hi := fun x hx => mN_inv8 c h0 h1 x hx
  rw [← dIz _ _ 256 hi a ha, ← dIz _ _ 256 hi b hb, h]
 ·unfold mulN at h
  rw [if_neg (by decide), if_neg (by decide)] at h
  have hi := fun x hx => mN_inv16 c h0 h1 x hx
  have h2 : mapN (mN 16 c) (pairN a) = mapN (mN 16 c) (pairN b) := by
   have lt : ∀ l : List Nat, ∀ x, x ∈ mapN (mN 16 c) l → x < 65536 := fun l x hx => by
    obtain ⟨y, -, rfl⟩ := List.mem_map.1 hx
    exact mN_lt16 c y
   rw [← pair_flat (mapN (mN 16 c) (pairN a)) (lt _), h, pair_flat _ (lt _)]
  have h3 : pairN a = pairN b := by rw [← dIz _ _ 65536 hi (pairN a) (pairN_lt a ha), ← dIz _ _ 65536 hi (pairN b) (pairN_lt b hb), h2]
  have hn : wN 16 = 2 := rfl
  rw [hn] at ea eb
  rw [← flat_pair a ea ha, ← flat_pair b eb hb, h3]
theorem cLz {S : Nat} {a b : List Nat} (ha : a.length = S) (hb : b.length = S) : (xorN a b).length = S := by simp [xorN, ha, hb]
theorem cyz : ∀ (a b c : List Nat), a.length = b.length → b.length = c.length → xorN a b = xorN a c → b = c
 | [], [], [], _, _, _ => rfl
 | x :: a, y :: b, z :: c, h1, h2, h => by
  have h : (x ^^^ y) :: xorN a b = (x ^^^ z) :: xorN a c := h
  injection h with e1 e2
  have ih := cyz a b c (by simpa using h1) (by simpa using h2) e2
  have : y = z := by
   have := congrArg (x ^^^ ·) e1
   simpa [← Nat.xor_assoc] using this
  rw [this, ih]
theorem xorN_comm : ∀ (a b : List Nat), xorN a b = xorN b a := by
 intro a b
 unfold xorN
 rw [List.zipWith_comm]
 congr 1
 funext x y
 exact Nat.xor_comm _ _
theorem foldN_inj {S : Nat} : ∀ (zs : List (List Nat)) (a b : List Nat), a.length = S → b.length = S → (∀ r, r ∈ zs → r.length = S) → zs.foldl xorN a = zs.foldl xorN b → a = b
 | [], _, _, _, _, _, h => h
 | r :: rs, a, b, ha, hb, hr, h => by
  have hrl := hr r (List.mem_cons_self ..)
  have ih := foldN_inj rs (xorN a r) (xorN b r) (cLz ha hrl) (cLz hb hrl) (fun q hq => hr q (List.mem_cons_of_mem _ hq)) h
  rw [xorN_comm a r, xorN_comm b r] at ih
  exact cyz r a b (by omega) (by omega) ih
theorem foldN_set {S : Nat} : ∀ (zs : List (List Nat)) (i : Nat) (a z z' : List Nat), a.length = S → (∀ r, r ∈ zs → r.length = S) → z'.length = S → zs[i]? = some z → (zs.set i z').foldl xorN a = zs.foldl xorN a → z' = z
 | [], _, _, _, _, _, _, _, h, _ => by simp at h
 | r :: rs, 0, a, z, z', ha, hr, hz, hi, h => by
  obtain rfl : r = z := by simpa using hi
  have hrl := hr r (List.mem_cons_self ..)
  have h1 := foldN_inj rs (xorN a z') (xorN a r) (cLz ha hz) (cLz ha hrl) (fun q hq => hr q (List.mem_cons_of_mem _ hq)) h
  exact cyz a z' r (by omega) (by omega) h1
 | r :: rs, i + 1, a, z, z', ha, hr, hz, hi, h => by
  have hrl := hr r (List.mem_cons_self ..)
  exact foldN_set rs i (xorN a r) z z' (cLz ha hrl) (fun q hq => hr q (List.mem_cons_of_mem _ hq)) hz (by simpa using hi) h
theorem zip_set (f : Int → List Nat → List Nat) : ∀ (c : List Int) (P : List (List Nat)) (i : Nat) (x : Int) (r : List Nat), c[i]? = some x → List.zipWith f c (P.set i r) = (List.zipWith f c P).set i (f x r)
 | [], _, _, _, _, h => by simp at h
 | y :: c, [], i, x, r, _ => by simp
 | y :: c, q :: P, 0, x, r, h => by
  obtain rfl : y = x := by simpa using h
  rfl
 | y :: c, q :: P, i + 1, x, r, h => by
  have ih := zip_set f c P i x r (by simpa using h)
  show f y q :: List.zipWith f c (P.set i r) = f y q :: (List.zipWith f c P).set i (f x r)
  rw [ih]
theorem mulN_len {wb : Int} (hw : wb = 8 ∨ wb = 16) (c : Int) (n : List Nat) (hb : ∀ x, x ∈ n → x < 256) (he : n.length % wN wb = 0) : (mulN wb c n).length = n.length := by
 have h := mulB_len wb c (castN n) (by simpa [castN] using he)
 rw [mulB_nat hw c n hb he] at h
 simpa [castN] using h
theorem dotN_one {wb : Int} (hw : wb = 8 ∨ wb = 16) (S : Nat) (hS : S % wN wb = 0) (c : List Int) (P : List (List Nat)) (i : Nat) (x : Int) (r r' : List Nat) (hx : c[i]? = some x) (hx0 : 0 < x) (hx1 : x < fsize wb) (hP : ∀ q, q ∈ P → q.length = S ∧ ∀ z, z ∈ q → z < 256) (hr : P[i]? = some r) (hr' : r'.length = S ∧ ∀ z, z ∈ r' → z < 256)
  (h : dotN S wb c (P.set i r') = dotN S wb c P) : r' = r := by
 have hrP := hP r (List.mem_of_getElem? hr)
 unfold dotN at h
 rw [zip_set _ _ _ _ _ _ hx] at h
 have h1 := foldN_set (S := S) _ i _ (mulN wb x r) (mulN wb x r') (by simp) (fun q hq => by
  obtain ⟨j, hj, rfl⟩ := List.mem_iff_getElem.1 hq
  rw [List.getElem_zipWith]
  have := hP _ (List.getElem_mem (l := P) (n := j) (by simp at hj; omega))
  rw [mulN_len hw _ _ this.2 (by rw [this.1]; exact hS)]
  exact this.1) (by rw [mulN_len hw _ _ hr'.2 (by rw [hr'.1]; exact hS)]; exact hr'.1) (by rw [List.getElem?_zipWith, hx, hr]) h
 exact mulN_inj hw x hx0 hx1 r' r hr'.2 hrP.2 (by rw [hr'.1]; exact hS) (by rw [hrP.1]; exact hS) h1
theorem castN_inj : ∀ (a b : List Nat), castN a = castN b → a = b
 | [], [], _ => rfl
 | [], _ :: _, h => by simp [castN] at h
 | _ :: _, [], h => by simp [castN] at h
 | x :: a, y :: b, h => by
  have h : (x : Int) :: castN a = (y : Int) :: castN b := h
  injection h with h1 h2
  rw [castN_inj a b h2, show x = y by omega]
theorem eqb_loop (x y : List Int) (n : Nat) (hx : x.length = n) (hy : y.length = n) (hn : n ≤ 100000000) : ∀ (m i : Nat), i + m = n → Ev (fun k => aiz.l0 k x y (n : Int) (i : Int)) (decide (x.drop i = y.drop i)) := by
 intro m
 induction m with
 | zero =>
  intro i hi
  refine Ev.step (f := fun _ => some true) (fun k => ?_) ?_
  ·rw [aiz.l0, if_neg (by omega)]
  ·rw [List.drop_of_length_le (by omega), List.drop_of_length_le (by omega)]
   exact Ev.now _
 | succ m ih =>
  intro i hi
  have hix : i < x.length := by omega
  have hiy : i < y.length := by omega
  have e1 : rd x (i : Int) = x[i] := by unfold rd; rw [Int.toNat_natCast, List.getD_eq_getElem?_getD, List.getElem?_eq_getElem hix]; rfl
  have e2 : rd y (i : Int) = y[i] := by unfold rd; rw [Int.toNat_natCast, List.getD_eq_getElem?_getD, List.getElem?_eq_getElem hiy]; rfl
  have d1 := List.drop_eq_getElem_cons hix
  have d2 := List.drop_eq_getElem_cons hiy
  by_cases h : x[i] = y[i]
  ·refine Ev.step (f := fun k => aiz.l0 k x y (n : Int) ((i + 1 : Nat) : Int)) (fun k => ?_) ?_
   ·rw [aiz.l0, if_pos (by omega), if_pos (by omega), if_pos (by omega), if_pos (by omega), e1, e2, if_pos h, coz (by omega)]
   ·have := ih (i + 1) (by omega)
    rw [d1, d2]
    rw [show decide (x[i] :: x.drop (i + 1) = y[i] :: y.drop (i + 1)) = decide (x.drop (i + 1) = y.drop (i + 1)) by rw [h]; simp only [List.cons.injEq, true_and]]
    exact this
  ·refine Ev.step (f := fun _ => some false) (fun k => ?_) ?_
   ·rw [aiz.l0, if_pos (by omega), if_pos (by omega), if_pos (by omega), if_pos (by omega), e1, e2, if_neg h]
   ·rw [d1, d2, decide_eq_false (by intro hh; injection hh with h1 _; exact h h1)]
    exact Ev.now _
theorem eqb_ev (x y : List Int) (hx : x.length ≤ 100000000) : Ev (fun k => aiz.f k x y) (decide (x = y)) := by
 by_cases hl : x.length = y.length
 ·have h := eqb_loop x y x.length rfl hl.symm hx x.length 0 (by omega)
  refine Ev.congr (fun k => ?_) (by simpa using h)
  unfold aiz.f
  rw [if_pos (by omega)]
 ·refine Ev.congr (f := fun _ => some false) (fun k => ?_) ?_
  ·unfold aiz.f
   rw [if_neg (by omega)]
  ·rw [decide_eq_false (by rintro rfl; exact hl rfl)]
   exact Ev.now _
theorem eqRows_dec : ∀ (p q : List (List Int)), (∀ x, x ∈ p → x.length ≤ 100000000) → Ev (fun k => eqRows k p q) (decide (p = q))
 | [], [], _ => by simp only [eqRows]; exact Ev.now _
 | [], _ :: _, _ => by simp only [eqRows]; exact Ev.now _
 | _ :: _, [], _ => by simp only [eqRows]; exact Ev.now _
 | x :: xs, y :: ys, h => by
  simp only [eqRows]
  refine Ev.bind (eqb_ev x y (h x (List.mem_cons_self ..))) ?_
  by_cases hxy : x = y
  ·refine Ev.congr (f := fun k => eqRows k xs ys) (fun k => by rw [if_pos (decide_eq_true hxy)]) ?_
   have := eqRows_dec xs ys (fun z hz => h z (List.mem_cons_of_mem _ hz))
   simpa [hxy] using this
  ·refine Ev.congr (f := fun _ => some false) (fun k => by rw [decide_eq_false hxy, if_neg (by decide)]) ?_
   rw [decide_eq_false (by intro hh; injection hh with h1 _; exact hxy h1)]
   exact Ev.now _
theorem eqFunc_dec (p q : List (List Int)) (hl : p.length ≤ 1000000) (h : ∀ x, x ∈ p → x.length ≤ 100000000) : Ev (fun k => eqFunc k p q) (decide (p = q)) := by
 by_cases hpq : p.length = q.length
 ·refine Ev.congr (fun k => ?_) (eqRows_dec p q h)
  unfold eqFunc
  rw [if_pos hpq, if_pos hl]
 ·refine Ev.congr (f := fun _ => some false) (fun k => ?_) ?_
  ·unfold eqFunc
   rw [if_neg hpq]
  ·rw [decide_eq_false (by rintro rfl; exact hpq rfl)]
   exact Ev.now _
theorem ver_dec (p : Int) (K M L : Nat) (data Q : List (List Int)) (hmay : agz.f p (K : Int) (M : Int) = some true) (hK : data.length = K) (hL : L ≤ 1000000) (hd : L % wN (pbits p) = 0) (hr : ∀ r, r ∈ data → r.length = L) (hQ : Q.length = M) :
  Ev (fun k => anz.f k p (K : Int) (M : Int) (data ++ Q)) (decide (parV L p K M data = Q)) := by
 have h1 := par_ev p K M L data hmay hK hL hd hr
 have hl := ddz L p K M data hmay
 obtain ⟨p1, p2, k1, k2, m1, m2⟩ := bfz hmay
 have h2 := eqFunc_dec (parV L p K M data) Q (by omega) (fun x hx => by
  unfold parV at hx
  obtain ⟨c, -, rfl⟩ := List.mem_map.1 hx
  rw [dotV_len hd hr]; omega)
 have ht : (data ++ Q).take K = data := by rw [← hK, List.take_left']; rfl
 have hdr : (data ++ Q).drop K = Q := by rw [← hK, List.drop_left']; rfl
 refine Ev.congr (f := fun k => (amz.f k p (K : Int) (M : Int) data).bind fun t => if t.2 = 0 then eqFunc k t.1 Q else some false) (fun k => ?_) ?_
 ·unfold anz.f
  rw [hmay, Option.bind_some, if_pos rfl, if_pos (by rw [List.length_append, hK, hQ]; omega), Int.toNat_natCast, ht, hdr]
 ·refine Ev.bind h1 ?_
  refine Ev.congr (fun k => ?_) h2
  rw [if_pos rfl]
theorem ver_len (p : Int) (K M : Nat) (l : List (List Int)) (hmay : agz.f p (K : Int) (M : Int) = some true) (hl : l.length ≠ K + M) : Ev (fun k => anz.f k p (K : Int) (M : Int) l) false := by
 refine Ev.congr (f := fun _ => some false) (fun k => ?_) (Ev.now _)
 unfold anz.f
 rw [hmay, Option.bind_some, if_pos rfl, if_neg (by omega)]
theorem gp_pos8 (a : Nat) (h0 : a ≠ 0) (h1 : a < 256) : gp 7 285 a 254 ≠ 0 := by
 intro h
 have := gf8.dyz (a := a) h1 h0
 rw [show (2 : Nat) ^ (7 + 1) - 2 = 254 from rfl, h, Gf.dxz] at this
 cases this
theorem gp_pos16 (e a : Nat) (he : e = 65534) (h0 : a ≠ 0) (h1 : a < 65536) : gp 15 69643 a e ≠ 0 := by
 intro h
 have := gf16.dyz (a := a) h1 h0
 rw [show (2 : Nat) ^ (15 + 1) - 2 = e by rw [he], h, Gf.dxz] at this
 cases this
theorem ginv_pos {wb : Int} (hw : wb = 8 ∨ wb = 16) (a : Int) (h0 : 0 < a) (h1 : a < fsize wb) : 0 < ginv wb a := by
 have hin : inF wb a = true := by unfold inF; simp; omega
 have hne : (a != 0) = true := by simp; omega
 have hfs : (0 : Int) ≤ fsize wb - 2 := by rcases hw with rfl | rfl <;> decide
 unfold ginv
 rw [hin, hne, Bool.true_and, if_pos rfl]
 unfold gpow
 rw [hin, decide_eq_true hfs, Bool.true_and, if_pos rfl]
 rcases hw with rfl | rfl
 ·have := gp_pos8 a.toNat (by omega) (by rw [fsize8] at h1; omega)
  show (0 : Int) < ((gpwN 8 a.toNat (fsize 8 - 2).toNat : Nat) : Int)
  have e : gpwN 8 a.toNat (fsize 8 - 2).toNat = gp 7 285 a.toNat 254 := by unfold gpwN; rw [if_pos rfl]; rfl
  rw [e]; omega
 ·obtain ⟨e, he⟩ : ∃ e, e = (fsize 16 - 2).toNat := ⟨_, rfl⟩
  rw [← he]
  have := gp_pos16 e a.toNat (by rw [he]; rfl) (by omega) (by rw [fsize16] at h1; omega)
  have e2 : gpwN 16 a.toNat e = gp 15 69643 a.toNat e := by unfold gpwN; rw [if_neg (by decide)]
  rw [e2]; omega
def posOk (k : Nat) (l : List (List Int)) : Bool := match l[0]? with | some c => decide (c.length = k) && c.all (fun x => decide (0 < x)) | none => false
theorem posOk_of {k : Nat} {l : List (List Int)} (h : posOk k l = true) : ∃ c, l[0]? = some c ∧ c.length = k ∧ ∀ x, x ∈ c → 0 < x := by
 unfold posOk at h
 split at h
 ·rename_i c hc
  simp only [Bool.and_eq_true, decide_eq_true_eq, List.all_eq_true] at h
  exact ⟨c, hc, h.1, h.2⟩
 ·cases h
theorem sp_1_1 : posOk 1 ((sysM 8 1 1).drop 1) = true := by kernel_rfl
theorem sp_1_2 : posOk 1 ((sysM 8 1 2).drop 1) = true := by kernel_rfl
theorem sp_1_3 : posOk 1 ((sysM 8 1 3).drop 1) = true := by kernel_rfl
theorem sp_1_4 : posOk 1 ((sysM 8 1 4).drop 1) = true := by kernel_rfl
theorem sp_2_1 : posOk 2 ((sysM 8 2 1).drop 2) = true := by kernel_rfl
theorem sp_2_2 : posOk 2 ((sysM 8 2 2).drop 2) = true := by kernel_rfl
theorem sp_2_3 : posOk 2 ((sysM 8 2 3).drop 2) = true := by kernel_rfl
theorem sp_2_4 : posOk 2 ((sysM 8 2 4).drop 2) = true := by kernel_rfl
theorem sp_3_1 : posOk 3 ((sysM 8 3 1).drop 3) = true := by kernel_rfl
theorem sp_3_2 : posOk 3 ((sysM 8 3 2).drop 3) = true := by kernel_rfl
theorem sp_3_3 : posOk 3 ((sysM 8 3 3).drop 3) = true := by kernel_rfl
theorem sp_3_4 : posOk 3 ((sysM 8 3 4).drop 3) = true := by kernel_rfl
theorem sp_4_1 : posOk 4 ((sysM 8 4 1).drop 4) = true := by kernel_rfl
theorem sp_4_2 : posOk 4 ((sysM 8 4 2).drop 4) = true := by kernel_rfl
theorem sp_4_3 : posOk 4 ((sysM 8 4 3).drop 4) = true := by kernel_rfl
theorem sp_4_4 : posOk 4 ((sysM 8 4 4).drop 4) = true := by kernel_rfl
theorem sp_5_1 : posOk 5 ((sysM 8 5 1).drop 5) = true := by kernel_rfl
theorem sp_5_2 : posOk 5 ((sysM 8 5 2).drop 5) = true := by kernel_rfl
theorem sp_5_3 : posOk 5 ((sysM 8 5 3).drop 5) = true := by kernel_rfl
theorem sp_5_4 : posOk 5 ((sysM 8 5 4).drop 5) = true := by kernel_rfl
theorem sp_6_1 : posOk 6 ((sysM 8 6 1).drop 6) = true := by kernel_rfl
theorem sp_6_2 : posOk 6 ((sysM 8 6 2).drop 6) = true := by kernel_rfl
theorem sp_6_3 : posOk 6 ((sysM 8 6 3).drop 6) = true := by kernel_rfl
theorem sp_6_4 : posOk 6 ((sysM 8 6 4).drop 6) = true := by kernel_rfl
theorem sp_7_1 : posOk 7 ((sysM 8 7 1).drop 7) = true := by kernel_rfl
theorem sp_7_2 : posOk 7 ((sysM 8 7 2).drop 7) = true := by kernel_rfl
theorem sp_7_3 : posOk 7 ((sysM 8 7 3).drop 7) = true := by kernel_rfl
theorem sp_7_4 : posOk 7 ((sysM 8 7 4).drop 7) = true := by kernel_rfl
theorem sp_8_1 : posOk 8 ((sysM 8 8 1).drop 8) = true := by kernel_rfl
theorem sp_8_2 : posOk 8 ((sysM 8 8 2).drop 8) = true := by kernel_rfl
theorem sp_8_3 : posOk 8 ((sysM 8 8 3).drop 8) = true := by kernel_rfl
theorem sp_8_4 : posOk 8 ((sysM 8 8 4).drop 8) = true := by kernel_rfl
theorem sp (K M : Nat) (h1 : 1 ≤ K) (h2 : K ≤ 8) (h3 : 1 ≤ M) (h4 : M ≤ 4) : posOk K ((sysM 8 K M).drop K) = true := by
 have hk : K = 1 ∨ K = 2 ∨ K = 3 ∨ K = 4 ∨ K = 5 ∨ K = 6 ∨ K = 7 ∨ K = 8 := by omega
 have hm : M = 1 ∨ M = 2 ∨ M = 3 ∨ M = 4 := by omega
 rcases hk with rfl | rfl | rfl | rfl | rfl | rfl | rfl | rfl <;> rcases hm with rfl | rfl | rfl | rfl
 ·exact sp_1_1
 ·exact sp_1_2
 ·exact sp_1_3
 ·exact sp_1_4
 ·exact sp_2_1
 ·exact sp_2_2
 ·exact sp_2_3
 ·exact sp_2_4
 ·exact sp_3_1
 ·exact sp_3_2
 ·exact sp_3_3
 ·exact sp_3_4
 ·exact sp_4_1
 ·exact sp_4_2
 ·exact sp_4_3
 ·exact sp_4_4
 ·exact sp_5_1
 ·exact sp_5_2
 ·exact sp_5_3
 ·exact sp_5_4
 ·exact sp_6_1
 ·exact sp_6_2
 ·exact sp_6_3
 ·exact sp_6_4
 ·exact sp_7_1
 ·exact sp_7_2
 ·exact sp_7_3
 ·exact sp_7_4
 ·exact sp_8_1
 ·exact sp_8_2
 ·exact sp_8_3
 ·exact sp_8_4
theorem xor_zero : ∀ b, b < 13 → Go.bits .xor .i64 0 ((b : Nat) : Int) = (b : Int) := by decide +kernel
theorem xor_apart : ∀ k, k < 9 → ∀ b, b < k → 0 < Go.bits .xor .i64 ((k : Nat) : Int) ((b : Nat) : Int) ∧ Go.bits .xor .i64 ((k : Nat) : Int) ((b : Nat) : Int) < 256 := by decide +kernel
theorem coef_pos (p : Int) (K M : Nat) (hmay : agz.f p (K : Int) (M : Int) = some true) : ∃ c, (parM p K M)[0]? = some c ∧ c.length = K ∧ ∀ x, x ∈ c → 0 < x := by
 obtain ⟨p1, p2, k1, k2, m1, m2⟩ := bfz hmay
 have hp : p = 1 ∨ p = 2 ∨ p = 3 ∨ p = 4 ∨ p = 5 ∨ p = 6 := by omega
 have run0 : ∀ a n : Nat, 1 ≤ n → ∃ l, runL a n = (a : Int) :: l := fun a n hn => by
  obtain ⟨n, rfl⟩ : ∃ m, n = m + 1 := ⟨n - 1, by omega⟩
  refine ⟨(List.range n).map fun i => ((a + (i + 1) : Nat) : Int), ?_⟩
  unfold runL
  rw [List.range_succ_eq_map, List.map_cons, List.map_map]
  rfl
 rcases hp with rfl | rfl | rfl | rfl | rfl | rfl
 ·refine ⟨_, ones1 K M (by omega) (by omega) (by omega) (by omega), by simp, fun x hx => ?_⟩
  have := List.eq_of_mem_replicate hx
  omega
 ·obtain ⟨l, hl⟩ := run0 0 M (by omega)
  refine ⟨(runL M K).map fun b => ginv 16 (Go.bits .xor .i64 0 b), ?_, by rw [List.length_map, aOz], fun x hx => ?_⟩
  ·unfold parM
   rw [if_neg (by decide), if_pos rfl, hl]
   rfl
  ·obtain ⟨b, hb, rfl⟩ := List.mem_map.1 hx
   unfold runL at hb
   obtain ⟨i, hi, rfl⟩ := List.mem_map.1 hb
   have hi := List.mem_range.1 hi
   rw [xor_zero (M + i) (by omega)]
   exact ginv_pos (.inr rfl) _ (by omega) (by rw [fsize16]; omega)
 ·have hm3 : M ≤ 3 := by
   have h : agz.f 3 (K : Int) (M : Int) = (if (K : Int) ≥ 1 then (if (K : Int) ≤ 8 then (if (M : Int) ≥ 1 then some (decide ((M : Int) ≤ 3)) else some false) else some false) else some false) := rfl
   rw [h, if_pos (by omega), if_pos (by omega), if_pos (by omega)] at hmay
   have h3 : (M : Int) ≤ 3 := by simpa using hmay
   omega
  refine ⟨_, ones3 K M (by omega) (by omega) (by omega) hm3, by simp, fun x hx => ?_⟩
  have := List.eq_of_mem_replicate hx
  omega
 ·obtain ⟨l, hl⟩ := run0 K M (by omega)
  refine ⟨(runL 0 K).map fun b => ginv 8 (Go.bits .xor .i64 (K : Int) b), ?_, by rw [List.length_map, aOz], fun x hx => ?_⟩
  ·unfold parM
   rw [if_neg (by decide), if_neg (by decide), if_neg (by decide), if_pos rfl, hl]
   rfl
  ·obtain ⟨b, hb, rfl⟩ := List.mem_map.1 hx
   unfold runL at hb
   obtain ⟨i, hi, rfl⟩ := List.mem_map.1 hb
   have hi := List.mem_range.1 hi
   rw [Nat.zero_add]
   have := xor_apart K (by omega) i hi
   exact ginv_pos (.inl rfl) _ this.1 (by rw [fsize8]; exact this.2)
 ·obtain ⟨c, h1, h2, h3⟩ := posOk_of (sp K M (by omega) (by omega) (by omega) (by omega))
  exact ⟨c, h1, h2, h3⟩
 ·obtain ⟨c, h1, h2, h3⟩ := posOk_of (sp K M (by omega) (by omega) (by omega) (by omega))
  exact ⟨c, h1, h2, h3⟩
end Go.Proofs.YtelcllhibpnneaaGreat.XCo
end
