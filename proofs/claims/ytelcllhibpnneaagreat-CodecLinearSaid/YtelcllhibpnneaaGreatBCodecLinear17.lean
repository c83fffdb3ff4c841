-- Joined by this work's own program (wip/tools/bundle.py) out of its texts: what this claim uses of them. Not trusted: Lean checks it.
import Derived.Test.YtelcllhibpnneaaGreatBCodecLinear16
section
namespace Go.Proofs.YtelcllhibpnneaaGreat.XCo
open Go.RowKit Go.Proofs.YtelcllhibpnneaaGreatW.PrintWords Go.Proofs.YtelcllhibpnneaaGreatW.PrintLast Go.Proofs.YtelcllhibpnneaaGreatW.PrintMore
attribute [local go_sem] max2_int min2_int max_two min_two max_three min_three max_four min_four
set_option linter.unusedVariables false
set_option linter.unusedSimpArgs false
def xorB (a b : List Int) : List Int := List.zipWith (fun x y => Go.bits .xor .u8 x y) a b
def sumB (L : Nat) (rows : List (List Int)) : List Int := rows.foldl xorB (List.replicate L 0)
theorem xorB_length (a b : List Int) (h : a.length = b.length) : (xorB a b).length = b.length := by simp [xorB]; omega
theorem foldB_length {L : Nat} : ∀ (rows : List (List Int)) (acc : List Int), acc.length = L → (∀ r, r ∈ rows → r.length = L) → (rows.foldl xorB acc).length = L
 | [], acc, h, _ => h
 | r :: rs, acc, h, hr => by
  have h1 := hr r (List.mem_cons_self ..)
  exact foldB_length rs (xorB acc r) (by rw [xorB_length _ _ (h.trans h1.symm)]; exact h1) (fun q hq => hr q (List.mem_cons_of_mem _ hq))
theorem sumB_length {L : Nat} (rows : List (List Int)) (h : ∀ r, r ∈ rows → r.length = L) : (sumB L rows).length = L := foldB_length rows _ (by simp) h
theorem wrap64_nat {j : Nat} (h : j ≤ 1000000000) : wrap64 ((j : Int) + 1) = ((j + 1 : Nat) : Int) := by unfold wrap64; omega
theorem sum_l1 (rows : List (List Int)) (n : Int) (i : Nat) (acc row : List Int) (r : List Int × Int) (K : Nat) (hl : acc.length = row.length) (hL : row.length ≤ 100000000) (hi : i ≤ 100000000)
  (h : region_sum.l0 K (xorB acc row) rows n ((i + 1 : Nat) : Int) = some r) :
  ∀ (d j : Nat), j + d = row.length → region_sum.l1 (K + d + 1) ((xorB acc row).take j ++ acc.drop j) rows n (i : Int) row (row.length : Int) (j : Int) = some r
 | 0, j, hj => by
  obtain rfl : j = row.length := by omega
  unfold region_sum.l1
  rw [if_neg (by omega), wrap64_nat (by omega), List.take_of_length_le (by rw [xorB_length _ _ hl]; exact Nat.le_refl _), List.drop_of_length_le (by omega), List.append_nil]
  exact h
 | d + 1, j, hj => by
  have hlx := xorB_length _ _ hl
  have hjl : j < row.length := by omega
  have hlen : ((xorB acc row).take j ++ acc.drop j).length = row.length := by simp [hlx]; omega
  unfold region_sum.l1
  rw [if_pos (by omega), if_pos (by omega), if_pos (by omega), if_pos (by omega), wrap64_nat (by omega)]
  have hset : ((xorB acc row).take j ++ acc.drop j).set (j : Int).toNat (Go.bits .xor .u8 (rd ((xorB acc row).take j ++ acc.drop j) (j : Int)) (rd row (j : Int))) = (xorB acc row).take (j + 1) ++ acc.drop (j + 1) := by
   have e1 : rd ((xorB acc row).take j ++ acc.drop j) (j : Int) = acc.getD j 0 := by
    unfold rd
    rw [Int.toNat_natCast, List.getD_eq_getElem?_getD, List.getElem?_append_right (by simp [hlx]; omega), List.getElem?_drop]
    simp [hlx, Nat.min_eq_left (Nat.le_of_lt hjl)]
   have e2 : rd row (j : Int) = row.getD j 0 := by unfold rd; rw [Int.toNat_natCast]
   rw [e1, e2, Int.toNat_natCast]
   apply List.ext_getElem?
   intro q
   have hja : j < acc.length := by omega
   have hx : (xorB acc row)[j]? = some (Go.bits .xor .u8 (acc.getD j 0) (row.getD j 0)) := by
    unfold xorB
    rw [List.getElem?_zipWith, List.getElem?_eq_getElem hja, List.getElem?_eq_getElem hjl]
    simp [List.getD_eq_getElem?_getD, List.getElem?_eq_getElem hja, List.getElem?_eq_getElem hjl]
   rw [List.getElem?_set]
   by_cases hq : j = q
   ·subst hq
    rw [if_pos rfl, if_pos (by omega), List.getElem?_append_left (by simp [hlx]; omega), List.getElem?_take, if_pos (by omega), hx]
   ·rw [if_neg hq]
    by_cases hlt : q < j
    ·rw [List.getElem?_append_left (by simp [hlx]; omega), List.getElem?_append_left (by simp [hlx]; omega), List.getElem?_take, List.getElem?_take, if_pos hlt, if_pos (by omega)]
    ·rw [List.getElem?_append_right (by simp [hlx]; omega), List.getElem?_append_right (by simp [hlx]; omega), List.getElem?_drop, List.getElem?_drop]
     congr 1
     simp [hlx, Nat.min_eq_left (Nat.le_of_lt hjl), Nat.min_eq_left (show j + 1 ≤ row.length from hjl)]
     omega
  rw [hset]
  have := sum_l1 rows n i acc row r K hl hL hi h d (j + 1) (by omega)
  rw [show K + (d + 1) = K + d + 1 by omega]
  exact this
theorem sum_l0 (rows : List (List Int)) (L : Nat) (hL : L ≤ 100000000) (hn : rows.length ≤ 1000) (hr : ∀ r, r ∈ rows → r.length = L) :
  ∀ (m i : Nat) (acc : List Int), i + m = rows.length → acc.length = L → ∃ K, region_sum.l0 K acc rows (rows.length : Int) (i : Int) = some ((rows.drop i).foldl xorB acc, 0)
 | 0, i, acc, hi, ha => by
  refine ⟨1, ?_⟩
  unfold region_sum.l0
  rw [if_neg (by omega), List.drop_of_length_le (by omega)]; rfl
 | m + 1, i, acc, hi, ha => by
  obtain ⟨row, hrow⟩ : ∃ r, rows[i]? = some r := ⟨_, List.getElem?_eq_getElem (by omega)⟩
  have hrl := hr row (List.mem_of_getElem? hrow)
  have hd : rows.drop i = row :: rows.drop (i + 1) := by
   obtain ⟨h1, h2⟩ := List.getElem?_eq_some_iff.1 hrow
   rw [List.drop_eq_getElem_cons h1, h2]
  obtain ⟨K, hK⟩ := sum_l0 rows L hL hn hr m (i + 1) (xorB acc row) (by omega) (by rw [xorB_length _ _ (by omega)]; exact hrl)
  have h1 := sum_l1 rows (rows.length : Int) i acc row _ K (by omega) (by omega) (by omega) hK row.length 0 (by omega)
  refine ⟨K + row.length + 1 + 1, ?_⟩
  have hrd : rd_L1 rows (i : Int) = row := by unfold rd_L1; rw [Int.toNat_natCast, List.getD_eq_getElem?_getD, hrow]; rfl
  unfold region_sum.l0
  rw [if_pos (by omega), if_pos (by omega), if_pos (by omega), hrd, if_pos (by omega), hd]
  simpa using h1
theorem sum_ev (rows : List (List Int)) (L : Nat) (hL : L ≤ 100000000) (hn : rows.length ≤ 1000) (h0 : 0 < rows.length) (hr : ∀ r, r ∈ rows → r.length = L) : Ev (fun k => region_sum.f k rows) (sumB L rows, 0) := by
 obtain ⟨row, hrow⟩ : ∃ r, rows[0]? = some r := ⟨_, List.getElem?_eq_getElem h0⟩
 have hrl := hr row (List.mem_of_getElem? hrow)
 have hrd : rd_L1 rows 0 = row := by unfold rd_L1; rw [show (0 : Int).toNat = 0 from rfl, List.getD_eq_getElem?_getD, hrow]; rfl
 obtain ⟨K, hK⟩ := sum_l0 rows L hL hn hr rows.length 0 (List.replicate L 0) (by omega) (by simp)
 refine Ev.of (fun k => region_sum.mono _ k) (k := K) ?_
 unfold region_sum.f
 rw [if_pos (by omega), hrd, if_pos (by omega), if_pos (by omega), hrl, Int.toNat_natCast]
 simpa [sumB] using hK
theorem byteF_len (wb a : Int) : (byteF wb a).length = wN wb := by unfold byteF wN; split <;> rfl
theorem bytesF_len (wb : Int) : ∀ l : List Int, (bytesF wb l).length = l.length * wN wb
 | [] => by simp [bytesF]
 | a :: l => by
  have h1 := bytesF_len wb l
  have h3 : bytesF wb (a :: l) = byteF wb a ++ bytesF wb l := by unfold bytesF; rw [List.flatMap_cons]
  rw [h3, List.length_append, byteF_len, h1, List.length_cons, Nat.add_mul]
  omega
theorem mulB_len (wb c : Int) (b : List Int) (h : b.length % wN wb = 0) : (mulB wb c b).length = b.length := by
 unfold mulB
 rw [bytesF_len, List.length_map, wordsF_length]
 exact Nat.div_mul_cancel (Nat.dvd_of_mod_eq_zero h)
def dotV (L : Nat) (wb : Int) (c : List Int) (rows : List (List Int)) : List Int := sumB L (List.zipWith (mulB wb) c rows)
theorem zip_len {wb : Int} {L : Nat} (hd : L % wN wb = 0) {c : List Int} {rows : List (List Int)} (hr : ∀ r, r ∈ rows → r.length = L) : ∀ r, r ∈ List.zipWith (mulB wb) c rows → r.length = L := by
 intro r h
 obtain ⟨i, hi, rfl⟩ := List.mem_iff_getElem.1 h
 rw [List.getElem_zipWith]
 rw [mulB_len _ _ _ (by rw [hr _ (List.getElem_mem ..)]; exact hd)]
 exact hr _ (List.getElem_mem ..)
theorem dotV_len {wb : Int} {L : Nat} (hd : L % wN wb = 0) {c : List Int} {rows : List (List Int)} (hr : ∀ r, r ∈ rows → r.length = L) : (dotV L wb c rows).length = L := sumB_length _ (zip_len hd hr)
theorem dot_ev (wb : Int) (L : Nat) (hL : L ≤ 1000000) (hd : L % wN wb = 0) (c : List Int) (rows : List (List Int)) (h0 : 0 < rows.length) (hc : c.length = rows.length) (hn : rows.length ≤ 1000) (hr : ∀ r, r ∈ rows → r.length = L) : Ev (fun k => dotB k wb c rows) (dotV L wb c rows, 0) := by
 have hall : rows.all (evB wb) = true := by
  rw [List.all_eq_true]
  intro r h
  unfold evB
  rw [hr r h, hd]; rfl
 refine Ev.congr (f := fun k => region_sum.f k (List.zipWith (mulB wb) c rows)) (fun k => by unfold dotB; rw [if_pos hall]) ?_
 exact sum_ev _ L (by omega) (by simp; omega) (by simp; omega) (zip_len hd hr)
theorem parl_ev (wb : Int) (L : Nat) (hL : L ≤ 1000000) (hd : L % wN wb = 0) (data : List (List Int)) (h0 : 0 < data.length) (hn : data.length ≤ 1000) (hr : ∀ r, r ∈ data → r.length = L) :
  ∀ (rs acc : List (List Int)), (∀ r, r ∈ rs → r.length = data.length) → Ev (fun k => codec_Parity.l k wb data rs acc) (acc ++ rs.map (fun c => dotV L wb c data), 0)
 | [], acc, _ => by
  simp only [codec_Parity.l, List.map_nil, List.append_nil]
  exact Ev.now _
 | row :: rs, acc, hc => by
  have h1 := dot_ev wb L hL hd row data h0 (hc row (List.mem_cons_self ..)) hn hr
  have h2 := parl_ev wb L hL hd data h0 hn hr rs (acc ++ [dotV L wb row data]) (fun r h => hc r (List.mem_cons_of_mem _ h))
  simp only [codec_Parity.l]
  refine Ev.bind h1 ?_
  rw [List.append_assoc] at h2
  simpa using h2
def parV (L : Nat) (p : Int) (K M : Nat) (data : List (List Int)) : List (List Int) := (parM p K M).map fun c => dotV L (pbits p) c data
theorem par_ev (p : Int) (K M L : Nat) (data : List (List Int)) (hmay : profile_May.f p (K : Int) (M : Int) = some true) (hK : data.length = K) (hL : L ≤ 1000000) (hd : L % wN (pbits p) = 0) (hr : ∀ r, r ∈ data → r.length = L) :
  Ev (fun k => codec_Parity.f k p (K : Int) (M : Int) data) (parV L p K M data, 0) := by
 obtain ⟨p1, p2, k1, k2, m1, m2⟩ := may_true hmay
 have hgd := parM_good p K M (by omega) (by omega) (by omega) (by omega)
 have hs : codec_Parity.small data = true := by
  simp only [codec_Parity.small, Bool.and_eq_true, decide_eq_true_eq, List.all_eq_true]
  exact ⟨by omega, fun r h => by rw [hr r h]; exact hL⟩
 have h1 := parl_ev (pbits p) L hL hd data (by omega) (by omega) hr (parM p K M) [] (fun r h => by rw [(hgd.1 r h).1, hK])
 refine Ev.congr (fun k => ?_) h1
 unfold codec_Parity.f
 rw [hmay, Option.bind_some, if_pos rfl, if_pos (by omega), if_pos hs, Int.toNat_natCast, Int.toNat_natCast]
theorem w64 {x : Int} (h0 : -1 ≤ x) (h1 : x < 1000000000) : wrap64 x = x := by unfold wrap64; omega
theorem some_ev (a b c : Int) (ha : 0 ≤ a ∧ a ≤ 255) (hb : 0 ≤ b ∧ b ≤ 255) (hc : 0 ≤ c ∧ c ≤ 255) : ∃ (p : Int) (K M : Nat), gambrelref09_Some.f a b c = some (p, (K : Int), (M : Int)) ∧ profile_May.f p (K : Int) (M : Int) = some true ∧ (profile_May.f 1 (K : Int) (M : Int) = some true) ∧ profile_May.f 3 (K : Int) (mn (M : Int) 3) = some true := by
 have e1 : wrap64 (1 + Int.tmod (wrap64 a) 6) = 1 + a % 6 := by
  rw [show wrap64 a = a by unfold wrap64; omega, Int.tmod_eq_emod_of_nonneg (by omega)]; unfold wrap64; omega
 have e2 : wrap64 (1 + Int.tmod (wrap64 b) 8) = 1 + b % 8 := by
  rw [show wrap64 b = b by unfold wrap64; omega, Int.tmod_eq_emod_of_nonneg (by omega)]; unfold wrap64; omega
 have e3 : ∀ m : Int, 1 ≤ m → m ≤ 4 → wrap64 (1 + Int.tmod (wrap64 c) m) = 1 + c % m := fun m h1 h2 => by
  rw [show wrap64 c = c by unfold wrap64; omega, Int.tmod_eq_emod_of_nonneg (by omega)]
  have := Int.emod_nonneg c (show m ≠ 0 by omega)
  have := Int.emod_lt_of_pos c (show 0 < m by omega)
  unfold wrap64; omega
 unfold gambrelref09_Some.f
 rw [e1, e2]
 obtain ⟨p, hp⟩ : ∃ p, 1 + a % 6 = p := ⟨_, rfl⟩
 obtain ⟨K, hK⟩ : ∃ K : Nat, 1 + b % 8 = (K : Int) := ⟨(1 + b % 8).toNat, by omega⟩
 have hK1 : 1 ≤ (K : Int) ∧ (K : Int) ≤ 8 := by omega
 rw [hp, hK]
 have case4 : ∀ (s : ByteArray) (x y z : Int) (m : Int), (m = 3 ∨ m = 4) → gambrelref09_Of.f p = some (s, x, y, z, m, true) → (∀ k M : Int, 1 ≤ k → k ≤ 8 → 1 ≤ M → M ≤ m → profile_May.f p k M = some true) → ∃ (p' : Int) (K' M : Nat), ((gambrelref09_Of.f p).bind fun bt620 => (if bt620.2.2.2.2.1 = 0 then none else some (p, (K : Int), wrap64 (1 + Int.tmod (wrap64 c) bt620.2.2.2.2.1)))) = some (p', (K' : Int), (M : Int)) ∧ profile_May.f p' (K' : Int) (M : Int) = some true ∧ (profile_May.f 1 (K' : Int) (M : Int) = some true) ∧ profile_May.f 3 (K' : Int) (mn (M : Int) 3) = some true := by
  intro s x y z m hm hof hmy
  have hcm : 0 ≤ c % m ∧ c % m < m := ⟨Int.emod_nonneg c (by omega), Int.emod_lt_of_pos c (by omega)⟩
  obtain ⟨M, hM⟩ : ∃ M : Nat, 1 + c % m = (M : Int) := ⟨(1 + c % m).toNat, by omega⟩
  have hM1 : 1 ≤ (M : Int) ∧ (M : Int) ≤ m := by omega
  refine ⟨p, K, M, ?_, hmy _ _ hK1.1 hK1.2 hM1.1 hM1.2, ?_, ?_⟩
  ·rw [hof, Option.bind_some]
   dsimp only
   rw [if_neg (by omega), e3 m (by omega) (by omega), hM]
  ·show (if (K : Int) ≥ 1 then (if (K : Int) ≤ 8 then (if (M : Int) ≥ 1 then some (decide ((M : Int) ≤ 4)) else some false) else some false) else some false) = some true
   rw [if_pos hK1.1, if_pos hK1.2, if_pos hM1.1]
   simp; omega
  ·show (if (K : Int) ≥ 1 then (if (K : Int) ≤ 8 then (if mn (M : Int) 3 ≥ 1 then some (decide (mn (M : Int) 3 ≤ 3)) else some false) else some false) else some false) = some true
   have hmn : 1 ≤ mn (M : Int) 3 ∧ mn (M : Int) 3 ≤ 3 := by unfold mn; split <;> omega
   rw [if_pos hK1.1, if_pos hK1.2, if_pos hmn.1]
   simp; omega
 have hmy : ∀ m : Int, (∀ k M : Int, profile_May.f p k M = (if k ≥ 1 then (if k ≤ 8 then (if M ≥ 1 then some (decide (M ≤ m)) else some false) else some false) else some false)) → ∀ k M : Int, 1 ≤ k → k ≤ 8 → 1 ≤ M → M ≤ m → profile_May.f p k M = some true := fun m h k M h1 h2 h3 h4 => by
  rw [h, if_pos h1, if_pos h2, if_pos h3]
  simpa using h4
 have hpc : p = 1 ∨ p = 2 ∨ p = 3 ∨ p = 4 ∨ p = 5 ∨ p = 6 := by omega
 clear hp e1 e2
 rcases hpc with rfl | rfl | rfl | rfl | rfl | rfl
 ·exact case4 _ _ _ _ 4 (.inr rfl) rfl (hmy 4 (fun _ _ => rfl))
 ·exact case4 _ _ _ _ 4 (.inr rfl) rfl (hmy 4 (fun _ _ => rfl))
 ·exact case4 _ _ _ _ 3 (.inl rfl) rfl (hmy 3 (fun _ _ => rfl))
 ·exact case4 _ _ _ _ 4 (.inr rfl) rfl (hmy 4 (fun _ _ => rfl))
 ·exact case4 _ _ _ _ 4 (.inr rfl) rfl (hmy 4 (fun _ _ => rfl))
 ·exact case4 _ _ _ _ 4 (.inr rfl) rfl (hmy 4 (fun _ _ => rfl))
theorem u8_wf {x : Int} (h : (Lit.int .u8 x).wf = true) : 0 ≤ x ∧ x ≤ 255 := by
 simp [Lit.wf, IntKind.has] at h
 have h1 : IntKind.min .u8 = 0 := rfl
 have h2 : IntKind.max .u8 = 255 := rfl
 omega
theorem u8_xor (a b : Nat) (ha : a < 256) (hb : b < 256) : Go.bits .xor .u8 (a : Int) (b : Int) = ((a ^^^ b : Nat) : Int) := by
 have h : a ^^^ b < 2 ^ 8 := Nat.xor_lt_two_pow ha hb
 have e : ∀ x : Nat, x < 256 → (BitVec.ofInt 8 (x : Int)).toNat = x := fun x hx => by rw [BitVec.toNat_ofInt]; omega
 show IntKind.u8.wrap ((BitVec.ofInt 8 (a : Int) ^^^ BitVec.ofInt 8 (b : Int)).toNat : Int) = _
 rw [BitVec.toNat_xor, e a ha, e b hb]
 show ((a ^^^ b : Nat) : Int) % 256 = _
 omega
def isB (l : List Int) : Prop := ∀ x, x ∈ l → 0 ≤ x ∧ x ≤ 255
theorem isB_of (l : List Int) (h : isB l) : ∃ n : List Nat, l = n.map (fun x : Nat => (x : Int)) ∧ ∀ x, x ∈ n → x < 256 := by
 refine ⟨l.map Int.toNat, ?_, fun x hx => ?_⟩
 ·rw [List.map_map]
  conv => lhs; rw [← List.map_id l]
  exact List.map_congr_left (fun x hx => by have := h x hx; simp; omega)
 ·obtain ⟨y, hy, rfl⟩ := List.mem_map.1 hx
  have := h y hy
  omega
def xorN (a b : List Nat) : List Nat := List.zipWith (fun x y => x ^^^ y) a b
theorem xorB_nat : ∀ (a b : List Nat), (∀ x, x ∈ a → x < 256) → (∀ x, x ∈ b → x < 256) → xorB (a.map fun x : Nat => (x : Int)) (b.map fun x : Nat => (x : Int)) = (xorN a b).map fun x : Nat => (x : Int)
 | [], _, _, _ => by simp [xorB, xorN]
 | _ :: _, [], _, _ => by simp [xorB, xorN]
 | x :: a, y :: b, ha, hb => by
  have h := xorB_nat a b (fun q hq => ha q (List.mem_cons_of_mem _ hq)) (fun q hq => hb q (List.mem_cons_of_mem _ hq))
  unfold xorB xorN at *
  simp only [List.map_cons, List.zipWith_cons_cons]
  rw [h, u8_xor x y (ha x (List.mem_cons_self ..)) (hb y (List.mem_cons_self ..))]
theorem xorN_lt {w : Nat} : ∀ (a b : List Nat), (∀ x, x ∈ a → x < 2 ^ w) → (∀ x, x ∈ b → x < 2 ^ w) → ∀ x, x ∈ xorN a b → x < 2 ^ w := by
 intro a b ha hb x hx
 unfold xorN at hx
 obtain ⟨i, hi, rfl⟩ := List.mem_iff_getElem.1 hx
 rw [List.getElem_zipWith]
 exact Nat.xor_lt_two_pow (ha _ (List.getElem_mem ..)) (hb _ (List.getElem_mem ..))
def pairN : List Nat → List Nat
 | x :: y :: r => (x + 256 * y) :: pairN r
 | _ => []
theorem pair_xor (x y u v : Nat) (hx : x < 256) (hu : u < 256) : (x + 256 * y) ^^^ (u + 256 * v) = (x ^^^ u) + 256 * (y ^^^ v) := by
 have hxu : x ^^^ u < 2 ^ 8 := Nat.xor_lt_two_pow hx hu
 apply Nat.eq_of_testBit_eq
 intro i
 have e : ∀ a b : Nat, b + 256 * a = 2 ^ 8 * a + b := fun a b => by omega
 rw [e, e, e, Nat.testBit_xor, Nat.testBit_two_pow_mul_add _ hx, Nat.testBit_two_pow_mul_add _ hu, Nat.testBit_two_pow_mul_add _ hxu]
 split <;> rw [Nat.testBit_xor]
theorem pairN_xor : ∀ (a b : List Nat), a.length = b.length → (∀ x, x ∈ a → x < 256) → (∀ x, x ∈ b → x < 256) → pairN (xorN a b) = xorN (pairN a) (pairN b)
 | [], [], _, _, _ => rfl
 | [_], [_], _, _, _ => rfl
 | x :: y :: a, u :: v :: b, hl, ha, hb => by
  have h := pairN_xor a b (by simpa using hl) (fun q hq => ha q (by simp [hq])) (fun q hq => hb q (by simp [hq]))
  show ((x ^^^ u) + 256 * (y ^^^ v)) :: pairN (xorN a b) = ((x + 256 * y) ^^^ (u + 256 * v)) :: xorN (pairN a) (pairN b)
  rw [h, pair_xor x y u v (ha x (by simp)) (hb u (by simp))]
 | [], _ :: _, hl, _, _ => by simp at hl
 | _ :: _, [], hl, _, _ => by simp at hl
 | [_], _ :: _ :: _, hl, _, _ => by simp at hl
 | _ :: _ :: _, [_], hl, _, _ => by simp at hl
theorem pairN_lt : ∀ (a : List Nat), (∀ x, x ∈ a → x < 256) → ∀ x, x ∈ pairN a → x < 65536
 | [], _, _, h => by simp [pairN] at h
 | [_], _, _, h => by simp [pairN] at h
 | u :: v :: a, ha, x, h => by
  have h1 := ha u (by simp)
  have h2 := ha v (by simp)
  rcases List.mem_cons.1 (show x ∈ (u + 256 * v) :: pairN a from h) with rfl | h
  ·omega
  ·exact pairN_lt a (fun q hq => ha q (by simp [hq])) x h
def castN (l : List Nat) : List Int := l.map fun x : Nat => (x : Int)
theorem pairN_snoc (x y : Nat) : ∀ (l : List Nat), l.length % 2 = 0 → pairN (l ++ [x, y]) = pairN l ++ [x + 256 * y]
 | [], _ => rfl
 | [_], h => by simp at h
 | u :: v :: l, h => by
  have ih := pairN_snoc x y l (by simp at h; omega)
  show (u + 256 * v) :: pairN (l ++ [x, y]) = (u + 256 * v) :: pairN l ++ [x + 256 * y]
  rw [ih]; rfl
theorem pairN_len : ∀ (l : List Nat), (pairN l).length = l.length / 2
 | [] => rfl
 | [_] => by simp [pairN]
 | u :: v :: l => by
  have ih := pairN_len l
  show (pairN l).length + 1 = (l.length + 2) / 2
  omega
theorem wTo_two (n : List Nat) (hb : ∀ x, x ∈ n → x < 256) : ∀ j, 2 * j ≤ n.length → wTo 2 (castN n) (2 * j) = castN (pairN (n.take (2 * j))) ++ List.replicate (n.length / 2 - j) 0
 | 0, _ => by
  show wTo 2 (castN n) 0 = _
  unfold wTo castN
  simp [pairN]
 | j + 1, hj => by
  have ih := wTo_two n hb j (by omega)
  obtain ⟨x, hx⟩ : ∃ x, n[2 * j]? = some x := ⟨_, List.getElem?_eq_getElem (by omega)⟩
  obtain ⟨y, hy⟩ : ∃ y, n[2 * j + 1]? = some y := ⟨_, List.getElem?_eq_getElem (by omega)⟩
  have hx8 := hb x (List.mem_of_getElem? hx)
  have hy8 := hb y (List.mem_of_getElem? hy)
  have gx : (castN n).getD (2 * j) 0 = (x : Int) := by unfold castN; rw [List.getD_eq_getElem?_getD, List.getElem?_map, hx]; rfl
  have gy : (castN n).getD (2 * j + 1) 0 = (y : Int) := by unfold castN; rw [List.getD_eq_getElem?_getD, List.getElem?_map, hy]; rfl
  have hpl : (castN (pairN (n.take (2 * j)))).length = j := by
   unfold castN
   rw [List.length_map, pairN_len, List.length_take]; omega
  have e1 : wTo 2 (castN n) (2 * j + 1) = castN (pairN (n.take (2 * j))) ++ (x : Int) :: List.replicate (n.length / 2 - (j + 1)) 0 := by
   have e : wTo 2 (castN n) (2 * j + 1) = if (2 * j) % 2 = 0 then (wTo 2 (castN n) (2 * j)).set ((2 * j) / 2) (wrap64 ((castN n).getD (2 * j) 0)) else (wTo 2 (castN n) (2 * j)).set ((2 * j) / 2) (wrap64 ((wTo 2 (castN n) (2 * j)).getD ((2 * j) / 2) 0 + wrap64 (256 * wrap64 ((castN n).getD (2 * j) 0)))) := rfl
   rw [e, if_pos (by omega), ih, gx, show 2 * j / 2 = j by omega, w64 (by omega) (by omega), List.set_append_right _ _ (by omega), hpl, Nat.sub_self, show n.length / 2 - j = (n.length / 2 - (j + 1)) + 1 by omega, List.replicate_succ, List.set_cons_zero]
  have e2 : wTo 2 (castN n) (2 * j + 1 + 1) = if (2 * j + 1) % 2 = 0 then (wTo 2 (castN n) (2 * j + 1)).set ((2 * j + 1) / 2) (wrap64 ((castN n).getD (2 * j + 1) 0)) else (wTo 2 (castN n) (2 * j + 1)).set ((2 * j + 1) / 2) (wrap64 ((wTo 2 (castN n) (2 * j + 1)).getD ((2 * j + 1) / 2) 0 + wrap64 (256 * wrap64 ((castN n).getD (2 * j + 1) 0)))) := rfl
  have hgd : (castN (pairN (n.take (2 * j))) ++ (x : Int) :: List.replicate (n.length / 2 - (j + 1)) 0).getD j 0 = (x : Int) := by
   rw [List.getD_eq_getElem?_getD, List.getElem?_append_right (by omega), hpl, Nat.sub_self]; rfl
  rw [show 2 * (j + 1) = 2 * j + 1 + 1 by omega, e2, if_neg (by omega), e1, gy, show (2 * j + 1) / 2 = j by omega, hgd, w64 (x := (y : Int)) (by omega) (by omega), w64 (x := 256 * (y : Int)) (by omega) (by omega), w64 (x := (x : Int) + 256 * (y : Int)) (by omega) (by omega), List.set_append_right _ _ (by omega), hpl, Nat.sub_self, List.set_cons_zero]
  have e3 : n.take (2 * j + 1 + 1) = n.take (2 * j) ++ [x, y] := by
   rw [List.take_add_one, List.take_add_one, hx, hy]; simp
  rw [e3, pairN_snoc x y _ (by rw [List.length_take]; omega)]
  unfold castN
  simp
theorem words16 (n : List Nat) (hb : ∀ x, x ∈ n → x < 256) (he : n.length % 2 = 0) : wordsF 16 (castN n) = castN (pairN n) := by
 unfold wordsF
 have h := wTo_two n hb (n.length / 2) (by omega)
 rw [show wN 16 = 2 from rfl, show (castN n).length = 2 * (n.length / 2) by unfold castN; rw [List.length_map]; omega, h, Nat.sub_self, List.take_of_length_le (by omega)]
 simp
theorem wTo_one (b : List Int) (hb : ∀ x, x ∈ b → 0 ≤ x ∧ x ≤ 255) : ∀ i, i ≤ b.length → wTo 1 b i = b.take i ++ List.replicate (b.length - i) 0
 | 0, _ => by unfold wTo; simp
 | i + 1, hi => by
  have ih := wTo_one b hb i (by omega)
  obtain ⟨x, hx⟩ : ∃ x, b[i]? = some x := ⟨_, List.getElem?_eq_getElem (by omega)⟩
  have hxb := hb x (List.mem_of_getElem? hx)
  have hg : b.getD i 0 = x := by rw [List.getD_eq_getElem?_getD, hx]; rfl
  have e : wTo 1 b (i + 1) = if i % 1 = 0 then (wTo 1 b i).set (i / 1) (wrap64 (b.getD i 0)) else (wTo 1 b i).set (i / 1) (wrap64 ((wTo 1 b i).getD (i / 1) 0 + wrap64 (256 * wrap64 (b.getD i 0)))) := rfl
  rw [e, if_pos (Nat.mod_one i), ih, hg, Nat.div_one, w64 (by omega) (by omega), List.set_append_right _ _ (by simp; omega), List.take_add_one, hx]
  rw [show i - (b.take i).length = 0 by simp; omega, show b.length - i = (b.length - (i + 1)) + 1 by omega, List.replicate_succ]
  simp
def mapN (f : Nat → Nat) (l : List Nat) : List Nat := l.map f
theorem mapN_xor (f : Nat → Nat) (w : Nat) (hf : ∀ a b, a < 2 ^ w → b < 2 ^ w → f (a ^^^ b) = f a ^^^ f b) : ∀ (a b : List Nat), (∀ x, x ∈ a → x < 2 ^ w) → (∀ x, x ∈ b → x < 2 ^ w) → mapN f (xorN a b) = xorN (mapN f a) (mapN f b)
 | [], _, _, _ => by simp [mapN, xorN]
 | _ :: _, [], _, _ => by simp [mapN, xorN]
 | x :: a, y :: b, ha, hb => by
  have h := mapN_xor f w hf a b (fun q hq => ha q (List.mem_cons_of_mem _ hq)) (fun q hq => hb q (List.mem_cons_of_mem _ hq))
  show f (x ^^^ y) :: mapN f (xorN a b) = (f x ^^^ f y) :: xorN (mapN f a) (mapN f b)
  rw [h, hf x y (ha x (List.mem_cons_self ..)) (hb y (List.mem_cons_self ..))]
def mN (wb c : Int) (x : Nat) : Nat := (gmul wb c (x : Int)).toNat
theorem mN_cast {wb : Int} (hw : wb = 8 ∨ wb = 16) (c : Int) (l : List Nat) : (castN l).map (gmul wb c) = castN (mapN (mN wb c) l) := by
 unfold castN mapN
 rw [List.map_map, List.map_map]
 refine List.map_congr_left (fun x _ => ?_)
 have := (gmul_range hw c (x : Int)).1
 show gmul wb c (x : Int) = ((gmul wb c (x : Int)).toNat : Int)
 omega
theorem fsize8 : fsize 8 = 256 := rfl
theorem fsize16 : fsize 16 = 65536 := rfl
theorem mN_lt8 (c : Int) (x : Nat) : mN 8 c x < 256 := by
 have := gmul_range (.inl rfl : (8 : Int) = 8 ∨ (8 : Int) = 16) c (x : Int)
 rw [fsize8] at this
 unfold mN; omega
theorem mN_xor8 (c : Int) (a b : Nat) (ha : a < 2 ^ 8) (hb : b < 2 ^ 8) : mN 8 c (a ^^^ b) = mN 8 c a ^^^ mN 8 c b := by
 have hx : a ^^^ b < 2 ^ 8 := Nat.xor_lt_two_pow ha hb
 by_cases hc : 0 ≤ c ∧ c < 256
 ·have e : ∀ x : Nat, x < 2 ^ 8 → mN 8 c x = gm 7 285 c.toNat x := fun x hx => by
   unfold mN
   rw [gmul_in hc.1 (by rw [fsize8]; exact hc.2) (by omega) (by rw [fsize8]; omega)]
   simp [gmN]
  rw [e _ hx, e _ ha, e _ hb]
  exact Gf.add_right _ _ _
 ·have e : ∀ x : Nat, mN 8 c x = 0 := fun x => by
   unfold mN
   rw [gmul_out]; rfl
   unfold inF
   rw [fsize8]
   simp
   intro h1 h2
   exact absurd ⟨h1, h2⟩ hc
  rw [e, e, e]; rfl
theorem mN_xor16 (c : Int) (a b : Nat) (ha : a < 2 ^ 16) (hb : b < 2 ^ 16) : mN 16 c (a ^^^ b) = mN 16 c a ^^^ mN 16 c b := by
 have hx : a ^^^ b < 2 ^ 16 := Nat.xor_lt_two_pow ha hb
 by_cases hc : 0 ≤ c ∧ c < 65536
 ·have e : ∀ x : Nat, x < 2 ^ 16 → mN 16 c x = gm 15 69643 c.toNat x := fun x hx => by
   unfold mN
   rw [gmul_in hc.1 (by rw [fsize16]; exact hc.2) (by omega) (by rw [fsize16]; omega)]
   simp [gmN]
  rw [e _ hx, e _ ha, e _ hb]
  exact Gf.add_right _ _ _
 ·have e : ∀ x : Nat, mN 16 c x = 0 := fun x => by
   unfold mN
   rw [gmul_out]; rfl
   unfold inF
   rw [fsize16]
   simp
   intro h1 h2
   exact absurd ⟨h1, h2⟩ hc
  rw [e, e, e]; rfl
def flatN : List Nat → List Nat
 | [] => []
 | x :: r => (x % 256) :: (x / 256 % 256) :: flatN r
theorem bytes16 : ∀ (l : List Nat), bytesF 16 (castN l) = castN (flatN l)
 | [] => rfl
 | x :: r => by
  have h3 : bytesF 16 ((x : Int) :: castN r) = byteF 16 (x : Int) ++ bytesF 16 (castN r) := by unfold bytesF; rw [List.flatMap_cons]
  show bytesF 16 ((x : Int) :: castN r) = ((x % 256 : Nat) : Int) :: ((x / 256 % 256 : Nat) : Int) :: castN (flatN r)
  rw [h3, bytes16 r]
  show [(x : Int) % 256, (x : Int) / 256 % 256] ++ _ = _
  simp
theorem bytes8 : ∀ (l : List Nat), (∀ x, x ∈ l → x < 256) → bytesF 8 (castN l) = castN l
 | [], _ => rfl
 | x :: r, h => by
  have h3 : bytesF 8 ((x : Int) :: castN r) = byteF 8 (x : Int) ++ bytesF 8 (castN r) := by unfold bytesF; rw [List.flatMap_cons]
  have hx := h x (List.mem_cons_self ..)
  show bytesF 8 ((x : Int) :: castN r) = (x : Int) :: castN r
  rw [h3, bytes8 r (fun q hq => h q (List.mem_cons_of_mem _ hq))]
  show [(x : Int) % 256] ++ _ = _
  rw [show (x : Int) % 256 = (x : Int) by omega]; rfl
theorem flatN_xor : ∀ (a b : List Nat), a.length = b.length → flatN (xorN a b) = xorN (flatN a) (flatN b)
 | [], [], _ => rfl
 | [], _ :: _, h => by simp at h
 | _ :: _, [], h => by simp at h
 | x :: a, y :: b, h => by
  have ih := flatN_xor a b (by simpa using h)
  show ((x ^^^ y) % 256) :: ((x ^^^ y) / 256 % 256) :: flatN (xorN a b) = ((x % 256) ^^^ (y % 256)) :: ((x / 256 % 256) ^^^ (y / 256 % 256)) :: xorN (flatN a) (flatN b)
  have e1 : ∀ u v : Nat, (u ^^^ v) % 256 = (u % 256) ^^^ (v % 256) := fun u v => Nat.xor_mod_two_pow (n := 8)
  have e2 : (x ^^^ y) / 256 = (x / 256) ^^^ (y / 256) := Nat.xor_div_two_pow (n := 8)
  rw [ih, e1, e2, e1]
theorem flatN_lt : ∀ (a : List Nat) (x : Nat), x ∈ flatN a → x < 256
 | [], _, h => by simp [flatN] at h
 | u :: a, x, h => by
  rcases List.mem_cons.1 (show x ∈ (u % 256) :: (u / 256 % 256) :: flatN a from h) with rfl | h
  ·omega
  ·rcases List.mem_cons.1 h with rfl | h
   ·omega
   ·exact flatN_lt a x h
def mulN (wb c : Int) (n : List Nat) : List Nat := if wb = 8 then mapN (mN 8 c) n else flatN (mapN (mN 16 c) (pairN n))
theorem mapN_lt8 (c : Int) (n : List Nat) : ∀ x, x ∈ mapN (mN 8 c) n → x < 256 := by
 intro x hx
 obtain ⟨y, -, rfl⟩ := List.mem_map.1 hx
 exact mN_lt8 c y
theorem mulN_lt (wb c : Int) (n : List Nat) : ∀ x, x ∈ mulN wb c n → x < 256 := by
 unfold mulN
 split
 ·exact mapN_lt8 c n
 ·exact flatN_lt _
theorem words8 (n : List Nat) (hb : ∀ x, x ∈ n → x < 256) : wordsF 8 (castN n) = castN n := by
 unfold wordsF
 rw [show wN 8 = 1 from rfl, wTo_one (castN n) (fun x hx => by
  obtain ⟨y, hy, rfl⟩ := List.mem_map.1 hx
  have := hb y hy
  omega) _ (Nat.le_refl _), Nat.sub_self, List.take_length]
 simp
theorem mulB_nat {wb : Int} (hw : wb = 8 ∨ wb = 16) (c : Int) (n : List Nat) (hb : ∀ x, x ∈ n → x < 256) (he : n.length % wN wb = 0) : mulB wb c (castN n) = castN (mulN wb c n) := by
 unfold mulB mulN
 rcases hw with rfl | rfl
 ·rw [words8 n hb, mN_cast (.inl rfl), bytes8 _ (mapN_lt8 c n), if_pos rfl]
 ·rw [words16 n hb he, mN_cast (.inr rfl), bytes16, if_neg (by decide)]
theorem mulN_xor {wb : Int} (c : Int) (a b : List Nat) (hl : a.length = b.length) (ha : ∀ x, x ∈ a → x < 256) (hb : ∀ x, x ∈ b → x < 256) : mulN wb c (xorN a b) = xorN (mulN wb c a) (mulN wb c b) := by
 unfold mulN
 split
 ·exact mapN_xor _ 8 (mN_xor8 c) a b ha hb
 ·rw [pairN_xor a b hl ha hb, mapN_xor _ 16 (mN_xor16 c) _ _ (pairN_lt a ha) (pairN_lt b hb), flatN_xor]
  unfold mapN
  rw [List.length_map, List.length_map, pairN_len, pairN_len, hl]
theorem xorN4 : ∀ (a b x y : List Nat), xorN (xorN a b) (xorN x y) = xorN (xorN a x) (xorN b y)
 | p :: a, q :: b, r :: x, s :: y => by
  have ih := xorN4 a b x y
  show ((p ^^^ q) ^^^ (r ^^^ s)) :: xorN (xorN a b) (xorN x y) = ((p ^^^ r) ^^^ (q ^^^ s)) :: xorN (xorN a x) (xorN b y)
  rw [ih, Nat.xor_assoc, ← Nat.xor_assoc q r s, Nat.xor_comm q r, Nat.xor_assoc r q s, ← Nat.xor_assoc]
 | [], _, _, _ => by simp [xorN]
 | _ :: _, [], _, _ => by simp [xorN]
 | _ :: _, _ :: _, [], _ => by simp [xorN]
 | _ :: _, _ :: _, _ :: _, [] => by simp [xorN]
theorem fold_xorN : ∀ (A B : List (List Nat)) (a b : List Nat), A.length = B.length → (List.zipWith xorN A B).foldl xorN (xorN a b) = xorN (A.foldl xorN a) (B.foldl xorN b)
 | [], [], _, _, _ => rfl
 | [], _ :: _, _, _, h => by simp at h
 | _ :: _, [], _, _, h => by simp at h
 | x :: A, y :: B, a, b, h => by
  have ih := fold_xorN A B (xorN a x) (xorN b y) (by simpa using h)
  show (List.zipWith xorN A B).foldl xorN (xorN (xorN a b) (xorN x y)) = _
  rw [xorN4, ih]; rfl
theorem zero_xorN (S : Nat) : xorN (List.replicate S 0) (List.replicate S 0) = List.replicate S 0 := by
 unfold xorN
 rw [List.zipWith_replicate]
 simp
theorem foldB_nat : ∀ (A : List (List Nat)) (a : List Nat), (∀ x, x ∈ a → x < 256) → (∀ r, r ∈ A → ∀ x, x ∈ r → x < 256) → (A.map castN).foldl xorB (castN a) = castN (A.foldl xorN a)
 | [], _, _, _ => rfl
 | r :: A, a, ha, hA => by
  have hr := hA r (List.mem_cons_self ..)
  have ih := foldB_nat A (xorN a r) (xorN_lt (w := 8) a r ha hr) (fun q hq => hA q (List.mem_cons_of_mem _ hq))
  show (A.map castN).foldl xorB (xorB (castN a) (castN r)) = _
  rw [show xorB (castN a) (castN r) = castN (xorN a r) from xorB_nat a r ha hr, ih]; rfl
def dotN (S : Nat) (wb : Int) (c : List Int) (P : List (List Nat)) : List Nat := (List.zipWith (mulN wb) c P).foldl xorN (List.replicate S 0)
theorem zipM_nat {wb : Int} (hw : wb = 8 ∨ wb = 16) : ∀ (c : List Int) (P : List (List Nat)), (∀ r, r ∈ P → (∀ x, x ∈ r → x < 256) ∧ r.length % wN wb = 0) → List.zipWith (mulB wb) c (P.map castN) = (List.zipWith (mulN wb) c P).map castN
 | [], _, _ => by simp
 | _ :: _, [], _ => by simp
 | x :: c, r :: P, h => by
  have hr := h r (List.mem_cons_self ..)
  simp only [List.map_cons, List.zipWith_cons_cons]
  rw [mulB_nat hw x r hr.1 hr.2, zipM_nat hw c P (fun q hq => h q (List.mem_cons_of_mem _ hq))]
theorem dotV_nat {wb : Int} (hw : wb = 8 ∨ wb = 16) (S : Nat) (c : List Int) (P : List (List Nat)) (h : ∀ r, r ∈ P → (∀ x, x ∈ r → x < 256) ∧ r.length % wN wb = 0) : dotV S wb c (P.map castN) = castN (dotN S wb c P) := by
 unfold dotV sumB dotN
 rw [zipM_nat hw c P h, show (List.replicate S (0 : Int)) = castN (List.replicate S 0) by unfold castN; simp]
 refine foldB_nat _ _ (fun x hx => by rw [List.eq_of_mem_replicate hx]; omega) (fun r hr x hx => ?_)
 obtain ⟨i, hi, rfl⟩ := List.mem_iff_getElem.1 hr
 rw [List.getElem_zipWith] at hx
 exact mulN_lt _ _ _ x hx
theorem zipM_xor {wb : Int} (L : Nat) : ∀ (c : List Int) (P Q : List (List Nat)), (∀ r, r ∈ P → r.length = L ∧ ∀ x, x ∈ r → x < 256) → (∀ r, r ∈ Q → r.length = L ∧ ∀ x, x ∈ r → x < 256) →
  List.zipWith (mulN wb) c (List.zipWith xorN P Q) = List.zipWith xorN (List.zipWith (mulN wb) c P) (List.zipWith (mulN wb) c Q)
 | [], _, _, _, _ => by simp
 | _ :: _, [], _, _, _ => by simp
 | _ :: _, _ :: _, [], _, _ => by simp
 | x :: c, p :: P, q :: Q, hP, hQ => by
  have h1 := hP p (List.mem_cons_self ..)
  have h2 := hQ q (List.mem_cons_self ..)
  simp only [List.zipWith_cons_cons]
  rw [mulN_xor x p q (h1.1.trans h2.1.symm) h1.2 h2.2, zipM_xor L c P Q (fun r hr => hP r (List.mem_cons_of_mem _ hr)) (fun r hr => hQ r (List.mem_cons_of_mem _ hr))]
theorem dotN_xor (S : Nat) {wb : Int} (L : Nat) (c : List Int) (P Q : List (List Nat)) (hl : P.length = Q.length) (hP : ∀ r, r ∈ P → r.length = L ∧ ∀ x, x ∈ r → x < 256) (hQ : ∀ r, r ∈ Q → r.length = L ∧ ∀ x, x ∈ r → x < 256) :
  dotN S wb c (List.zipWith xorN P Q) = xorN (dotN S wb c P) (dotN S wb c Q) := by
 unfold dotN
 rw [zipM_xor L c P Q hP hQ]
 conv => lhs; rw [← zero_xorN S]
 exact fold_xorN _ _ _ _ (by simp [hl])
end Go.Proofs.YtelcllhibpnneaaGreat.XCo
end
