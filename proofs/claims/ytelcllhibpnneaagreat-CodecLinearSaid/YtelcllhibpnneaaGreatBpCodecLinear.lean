/- The plain law of CodecLinear: parity of shards that are added is what their parity is, added. -/
import Derived.Test.YtelcllhibpnneaaGreatBCodecLinear17
namespace Go.Proofs.YtelcllhibpnneaaGreat.Pure
open Go.RowKit Go.Proofs.YtelcllhibpnneaaGreat.XCo Go.Proofs.YtelcllhibpnneaaGreatW.PrintWords Go.Proofs.YtelcllhibpnneaaGreatW.PrintLast Go.Proofs.YtelcllhibpnneaaGreatW.PrintMore
def gambrellaw11_CodecLinear.Pure : Prop := ∀ (a0_0 : Int) (a0_1 : Int) (a0_2 : Int) (l1 : List Int) (l2 : List Int), (Lit.int .u8 a0_0).wf = true → (Lit.int .u8 a0_1).wf = true → (Lit.int .u8 a0_2).wf = true → l1.length ≤ maxLen → l1.length * 1 ≤ 140737488351232 → (∀ x ∈ l1, (Lit.int .u8 x).wf = true) → l2.length ≤ maxLen → l2.length * 1 ≤ 140737488351232 → (∀ x ∈ l2, (Lit.int .u8 x).wf = true) → ∃ k, gambrellaw11_CodecLinear.f k a0_0 a0_1 a0_2 l1 l2 = some true
def partN (n : List Nat) (S i : Nat) : List Nat := (n.take ((i + 1) * S)).drop (i * S)
theorem partN_len (n : List Nat) (S i : Nat) (h : (i + 1) * S ≤ n.length) : (partN n S i).length = S := by
  unfold partN
  rw [List.length_drop, List.length_take, Nat.min_eq_left h, Nat.add_mul]; omega
theorem partN_lt (n : List Nat) (S i : Nat) (h : ∀ x, x ∈ n → x < 256) : ∀ x, x ∈ partN n S i → x < 256 := fun x hx => h x (List.mem_of_mem_take (List.mem_of_mem_drop hx))
theorem partN_get (n : List Nat) (S i t : Nat) (ht : t < S) : (partN n S i)[t]? = n[i * S + t]? := by
  unfold partN
  rw [List.getElem?_drop, List.getElem?_take, if_pos (by rw [Nat.add_mul]; omega)]
def partsN (n : List Nat) (S K : Nat) : List (List Nat) := (List.range K).map (partN n S)
theorem partsN_succ (n : List Nat) (S i : Nat) : partsN n S (i + 1) = partsN n S i ++ [partN n S i] := by
  unfold partsN
  rw [List.range_succ, List.map_append]; rfl
theorem cast_rd (n : List Nat) (j : Nat) : rd (castN n) (j : Int) = ((n.getD j 0 : Nat) : Int) := by
  unfold rd castN
  rw [Int.toNat_natCast, List.getD_eq_getElem?_getD, List.getD_eq_getElem?_getD, List.getElem?_map]
  cases n[j]? <;> rfl
theorem getD_lt {n : List Nat} (h : ∀ x, x ∈ n → x < 256) (j : Nat) : n.getD j 0 < 256 := by
  rw [List.getD_eq_getElem?_getD]
  cases hj : n[j]? with
  | none => decide
  | some x => exact h x (List.mem_of_getElem? hj)
theorem xorN_len (a b : List Nat) (h : a.length = b.length) : (xorN a b).length = a.length := by simp [xorN, h]
theorem xorN_getD (a b : List Nat) (t : Nat) (ha : t < a.length) (hb : t < b.length) : (xorN a b)[t]? = some (a.getD t 0 ^^^ b.getD t 0) := by
  unfold xorN
  rw [List.getElem?_zipWith, List.getElem?_eq_getElem ha, List.getElem?_eq_getElem hb, List.getD_eq_getElem?_getD, List.getD_eq_getElem?_getD, List.getElem?_eq_getElem ha, List.getElem?_eq_getElem hb]
  rfl
theorem cast_snoc (L : List Nat) (t x : Nat) (h : L[t]? = some x) : castN (L.take t) ++ [((x : Nat) : Int)] = castN (L.take (t + 1)) := by
  unfold castN
  rw [List.take_add_one, h, List.map_append]; rfl
theorem foldN_lt : ∀ (A : List (List Nat)) (a : List Nat), (∀ x, x ∈ a → x < 256) → (∀ r, r ∈ A → ∀ x, x ∈ r → x < 256) → ∀ x, x ∈ A.foldl xorN a → x < 256
  | [], _, h, _ => h
  | r :: rs, a, h, hr => foldN_lt rs (xorN a r) (xorN_lt (w := 8) a r h (hr r (List.mem_cons_self ..))) (fun q hq => hr q (List.mem_cons_of_mem _ hq))
theorem dotN_lt (S : Nat) (wb : Int) (c : List Int) (P : List (List Nat)) : ∀ x, x ∈ dotN S wb c P → x < 256 := by
  unfold dotN
  refine foldN_lt _ _ (fun x hx => ?_) (fun r hr => ?_)
  · have := List.eq_of_mem_replicate hx
    omega
  · obtain ⟨i, hi, rfl⟩ := List.mem_iff_getElem.1 hr
    rw [List.getElem_zipWith]
    exact mulN_lt _ _ _
/-- The inner loop: one sum. -/
theorem lin_l1 (p : Int) (K M S : Nat) (n1 n2 : List Nat) (P Q R : List (List Int)) (i : Nat) (hi : (i + 1) * S ≤ n1.length ∧ (i + 1) * S ≤ n2.length) (hs : (i + 1) * S ≤ 1000) (hR : R.length ≤ 1000) (b1 : ∀ x, x ∈ n1 → x < 256) (b2 : ∀ x, x ∈ n2 → x < 256)
    (hi2 : i ≤ 1000)
    (hn : Ev (fun k => gambrellaw11_CodecLinear.l0 k (castN n1) (castN n2) true (S : Int) P Q (R ++ [castN (xorN (partN n1 S i) (partN n2 S i))]) ((i + 1 : Nat) : Int) p (K : Int) (M : Int)) true) :
    ∀ (m t : Nat), t + m = S → Ev (fun k => gambrellaw11_CodecLinear.l1 k (castN n1) (castN n2) true (S : Int) P Q R (i : Int) (castN ((xorN (partN n1 S i) (partN n2 S i)).take t)) (t : Int) p (K : Int) (M : Int)) true := by
  have l1 := partN_len n1 S i hi.1
  have l2 := partN_len n2 S i hi.2
  have lx := xorN_len (partN n1 S i) (partN n2 S i) (by omega)
  have hSi : (i + 1) * S = i * S + S := by rw [Nat.add_mul]; omega
  have c1 : (castN n1).length = n1.length := by simp [castN]
  have c2 : (castN n2).length = n2.length := by simp [castN]
  have W1 : Aside0 (wrap64 ((i : Int) * (S : Int)) = ((i * S : Nat) : Int)) := ⟨by rw [← Int.natCast_mul, w64 (by omega) (by omega)]⟩
  intro m
  induction m with
  | zero =>
    intro t ht
    refine Ev.step (f := fun k => gambrellaw11_CodecLinear.l0 k (castN n1) (castN n2) true (S : Int) P Q (R ++ [castN (xorN (partN n1 S i) (partN n2 S i))]) ((i + 1 : Nat) : Int) p (K : Int) (M : Int)) (fun k => ?_) hn
    rw [gambrellaw11_CodecLinear.l1, if_neg (by omega), if_pos (by omega), wrap64_nat (by omega), List.take_of_length_le (by omega)]
  | succ m ih =>
    intro t ht
    have W2 : Aside0 (wrap64 (((i * S : Nat) : Int) + (t : Int)) = ((i * S + t : Nat) : Int)) := ⟨by rw [← Int.natCast_add, w64 (by omega) (by omega)]⟩
    have hx : (xorN (partN n1 S i) (partN n2 S i))[t]? = some (n1.getD (i * S + t) 0 ^^^ n2.getD (i * S + t) 0) := by
      rw [xorN_getD _ _ t (by omega) (by omega)]
      rw [List.getD_eq_getElem?_getD, List.getD_eq_getElem?_getD, partN_get _ _ _ _ (by omega), partN_get _ _ _ _ (by omega), ← List.getD_eq_getElem?_getD, ← List.getD_eq_getElem?_getD]
    have lc : (castN ((xorN (partN n1 S i) (partN n2 S i)).take t)).length ≤ 1000 := by simp [castN]; omega
    refine Ev.step (f := fun k => gambrellaw11_CodecLinear.l1 k (castN n1) (castN n2) true (S : Int) P Q R (i : Int) (castN ((xorN (partN n1 S i) (partN n2 S i)).take (t + 1))) ((t + 1 : Nat) : Int) p (K : Int) (M : Int)) (fun k => ?_) (ih (t + 1) (by omega))
    rw [gambrellaw11_CodecLinear.l1, if_pos (by omega), W1.out, W2.out, if_pos (by omega), if_pos (by omega), if_pos (by omega), if_pos (by omega), wrap64_nat (by omega), cast_rd, cast_rd, XCo.u8_xor (n1.getD (i * S + t) 0) (n2.getD (i * S + t) 0) (getD_lt b1 _) (getD_lt b2 _), cast_snoc _ _ _ hx]
theorem cast_part (n : List Nat) (S i : Nat) : ((castN n).take ((i + 1) * S)).drop (i * S) = castN (partN n S i) := by
  unfold castN partN
  rw [List.map_drop, List.map_take]
/-- The outer loop. -/
theorem lin_l0 (p : Int) (K M S : Nat) (n1 n2 : List Nat) (hi1 : K * S ≤ n1.length) (hi2 : K * S ≤ n2.length) (hs : K * S ≤ 900) (hK : K ≤ 8) (b1 : ∀ x, x ∈ n1 → x < 256) (b2 : ∀ x, x ∈ n2 → x < 256)
    (hn : Ev (fun k => gambrellaw11_CodecLinear.l0 k (castN n1) (castN n2) true (S : Int) ((partsN n1 S K).map castN) ((partsN n2 S K).map castN) ((List.zipWith xorN (partsN n1 S K) (partsN n2 S K)).map castN) (K : Int) p (K : Int) (M : Int)) true) :
    ∀ (m i : Nat), i + m = K → Ev (fun k => gambrellaw11_CodecLinear.l0 k (castN n1) (castN n2) true (S : Int) ((partsN n1 S i).map castN) ((partsN n2 S i).map castN) ((List.zipWith xorN (partsN n1 S i) (partsN n2 S i)).map castN) (i : Int) p (K : Int) (M : Int)) true := by
  have c1 : (castN n1).length = n1.length := by simp [castN]
  have c2 : (castN n2).length = n2.length := by simp [castN]
  intro m
  induction m with
  | zero =>
    intro i hi
    obtain rfl : i = K := by omega
    exact hn
  | succ m ih =>
    intro i hi
    have hSi : (i + 1) * S = i * S + S := by rw [Nat.add_mul]; omega
    have hSK : (i + 1) * S ≤ K * S := Nat.mul_le_mul_right _ (by omega)
    have W1 : Aside0 (wrap64 ((i : Int) * (S : Int)) = ((i * S : Nat) : Int)) := ⟨by rw [← Int.natCast_mul, w64 (by omega) (by omega)]⟩
    have W2 : Aside0 (wrap64 (((i + 1 : Nat) : Int) * (S : Int)) = (((i + 1) * S : Nat) : Int)) := ⟨by rw [← Int.natCast_mul, w64 (by omega) (by omega)]⟩
    have pl : ∀ n : List Nat, ((partsN n S i).map castN).length = i := fun n => by simp [partsN]
    have h := lin_l1 p K M S n1 n2 ((partsN n1 S (i + 1)).map castN) ((partsN n2 S (i + 1)).map castN) ((List.zipWith xorN (partsN n1 S i) (partsN n2 S i)).map castN) i ⟨by omega, by omega⟩ (by omega) (by simp [partsN]; omega) b1 b2 (by omega)
      (by
        have h := ih (i + 1) (by omega)
        have e : (List.zipWith xorN (partsN n1 S (i + 1)) (partsN n2 S (i + 1))).map castN = (List.zipWith xorN (partsN n1 S i) (partsN n2 S i)).map castN ++ [castN (xorN (partN n1 S i) (partN n2 S i))] := by
          rw [partsN_succ, partsN_succ, List.zipWith_append (by simp [partsN]), List.map_append]; rfl
        rw [e] at h
        exact h) S 0 (by omega)
    refine Ev.step (f := fun k => gambrellaw11_CodecLinear.l1 k (castN n1) (castN n2) true (S : Int) ((partsN n1 S (i + 1)).map castN) ((partsN n2 S (i + 1)).map castN) ((List.zipWith xorN (partsN n1 S i) (partsN n2 S i)).map castN) (i : Int) [] 0 p (K : Int) (M : Int)) (fun k => ?_) (by rw [List.take_zero] at h; exact h)
    have p1 := pl n1
    have p2 := pl n2
    rw [gambrellaw11_CodecLinear.l0, if_pos (by omega), W1.out, wrap64_nat (by omega), W2.out, if_pos (by omega), if_pos (by omega), if_pos (by omega), if_pos (by omega), if_pos (by omega), if_pos (by omega), Int.toNat_natCast, Int.toNat_natCast, cast_part, cast_part]
    rw [partsN_succ, partsN_succ, List.map_append, List.map_append]; rfl
/-- The look at the sums: row by row, byte by byte. -/
theorem lin_l3 (p : Int) (K M S : Nat) (U V : List (List Nat)) (i : Nat) (u v : List Nat) (hu : U[i]? = some u) (hv : V[i]? = some v) (hul : u.length = S) (hvl : v.length = S) (bu : ∀ x, x ∈ u → x < 256) (bv : ∀ x, x ∈ v → x < 256) (hS : S ≤ 1000) (hi : i ≤ 1000)
    (hn : Ev (fun k => gambrellaw11_CodecLinear.l2 k true (S : Int) (U.map castN) (V.map castN) ((List.zipWith xorN U V).map castN) ((i + 1 : Nat) : Int) p (K : Int) (M : Int)) true) :
    ∀ (m t : Nat), t + m = S → Ev (fun k => gambrellaw11_CodecLinear.l3 k true (S : Int) (U.map castN) (V.map castN) ((List.zipWith xorN U V).map castN) (i : Int) (t : Int) p (K : Int) (M : Int)) true := by
  have hiU := (List.getElem?_eq_some_iff.1 hu).1
  have hiV := (List.getElem?_eq_some_iff.1 hv).1
  have hw : (List.zipWith xorN U V)[i]? = some (xorN u v) := by rw [List.getElem?_zipWith, hu, hv] <;> rfl
  have hwl := xorN_len u v (by omega)
  have hr : ∀ (Z : List (List Nat)) (z : List Nat), Z[i]? = some z → rd_L1 (Z.map castN) (i : Int) = castN z := fun Z z h => by
    unfold rd_L1
    rw [Int.toNat_natCast, List.getD_eq_getElem?_getD, List.getElem?_map, h]; rfl
  have r1 := hr _ _ hu
  have r2 := hr _ _ hv
  have r3 := hr _ _ hw
  have e1 : (U.map castN).length = U.length := by simp
  have e2 : (V.map castN).length = V.length := by simp
  have e3 : i < ((List.zipWith xorN U V).map castN).length := by rw [List.length_map, List.length_zipWith]; omega
  have cl : ∀ z : List Nat, (castN z).length = z.length := fun z => by simp [castN]
  have q1 := cl u
  have q2 := cl v
  have q3 := cl (xorN u v)
  intro m
  induction m with
  | zero =>
    intro t ht
    refine Ev.step (f := fun k => gambrellaw11_CodecLinear.l2 k true (S : Int) (U.map castN) (V.map castN) ((List.zipWith xorN U V).map castN) ((i + 1 : Nat) : Int) p (K : Int) (M : Int)) (fun k => ?_) hn
    rw [gambrellaw11_CodecLinear.l3, if_neg (by omega), wrap64_nat (by omega)]
  | succ m ih =>
    intro t ht
    have hx := xorN_getD u v t (by omega) (by omega)
    have hxx : (xorN u v).getD t 0 = u.getD t 0 ^^^ v.getD t 0 := by rw [List.getD_eq_getElem?_getD, hx]; rfl
    refine Ev.step (f := fun k => gambrellaw11_CodecLinear.l3 k true (S : Int) (U.map castN) (V.map castN) ((List.zipWith xorN U V).map castN) (i : Int) ((t + 1 : Nat) : Int) p (K : Int) (M : Int)) (fun k => ?_) (ih (t + 1) (by omega))
    rw [gambrellaw11_CodecLinear.l3, if_pos (by omega), if_pos (by omega), if_pos (by omega), if_pos (by omega), r3, r1, r2, if_pos (by omega), if_pos (by omega), if_pos (by omega), if_pos (by omega), if_pos (by omega), cast_rd, cast_rd, cast_rd, XCo.u8_xor (u.getD t 0) (v.getD t 0) (getD_lt bu _) (getD_lt bv _), hxx, if_pos rfl, wrap64_nat (by omega)]
theorem lin_l2 (p : Int) (K M S : Nat) (U V : List (List Nat)) (hU : U.length = M) (hV : V.length = M) (hM : M ≤ 900) (hu : ∀ r, r ∈ U → r.length = S ∧ ∀ x, x ∈ r → x < 256) (hv : ∀ r, r ∈ V → r.length = S ∧ ∀ x, x ∈ r → x < 256) (hS : S ≤ 1000) :
    ∀ (m i : Nat), i + m = M → Ev (fun k => gambrellaw11_CodecLinear.l2 k true (S : Int) (U.map castN) (V.map castN) ((List.zipWith xorN U V).map castN) (i : Int) p (K : Int) (M : Int)) true := by
  intro m
  induction m with
  | zero =>
    intro i hi
    refine Ev.step (f := fun _ => some true) (fun k => ?_) (Ev.now _)
    rw [gambrellaw11_CodecLinear.l2, if_neg (by omega)]
  | succ m ih =>
    intro i hi
    obtain ⟨u, h1⟩ : ∃ r, U[i]? = some r := ⟨_, List.getElem?_eq_getElem (by omega)⟩
    obtain ⟨v, h2⟩ : ∃ r, V[i]? = some r := ⟨_, List.getElem?_eq_getElem (by omega)⟩
    obtain ⟨a1, a2⟩ := hu u (List.mem_of_getElem? h1)
    obtain ⟨a3, a4⟩ := hv v (List.mem_of_getElem? h2)
    have h3 := lin_l3 p K M S U V i u v h1 h2 a1 a3 a2 a4 hS (by omega) (ih (i + 1) (by omega)) S 0 (by omega)
    have hw : (List.zipWith xorN U V)[i]? = some (xorN u v) := by rw [List.getElem?_zipWith, h1, h2] <;> rfl
    have hwl := xorN_len u v (by omega)
    have hr : ∀ (Z : List (List Nat)) (z : List Nat), Z[i]? = some z → rd_L1 (Z.map castN) (i : Int) = castN z := fun Z z h => by
      unfold rd_L1
      rw [Int.toNat_natCast, List.getD_eq_getElem?_getD, List.getElem?_map, h]; rfl
    have r1 := hr _ _ h1
    have r2 := hr _ _ h2
    have r3 := hr _ _ hw
    have e1 : (U.map castN).length = U.length := by simp
    have e2 : (V.map castN).length = V.length := by simp
    have e3 : i < ((List.zipWith xorN U V).map castN).length := by rw [List.length_map, List.length_zipWith]; omega
    have cl : ∀ z : List Nat, (castN z).length = z.length := fun z => by simp [castN]
    have q1 := cl u
    have q2 := cl v
    have q3 := cl (xorN u v)
    obtain ⟨K0, hK0⟩ := h3
    refine ⟨K0 + 2, fun k hk => ?_⟩
    obtain ⟨k, rfl⟩ : ∃ n, k = n + 1 + 1 := ⟨k - 2, by omega⟩
    have h4 := hK0 k (by omega)
    show gambrellaw11_CodecLinear.l2 (k + 1 + 1) true (S : Int) (U.map castN) (V.map castN) ((List.zipWith xorN U V).map castN) (i : Int) p (K : Int) (M : Int) = some true
    rw [gambrellaw11_CodecLinear.l2, if_pos (by omega), if_pos (by omega), if_pos (by omega), r1, if_pos (by omega), if_pos (by omega), r2, if_pos (by omega), if_pos (by omega), r3, show (((castN (xorN u v)).length : Int) != (S : Int)) = false by rw [q3, hwl, a1]; simp, gambrellaw11_CodecLinear.j4, if_neg (by decide)]
    exact h4
theorem mn_nat (a b : Nat) : mn (a : Int) (b : Int) = ((min a b : Nat) : Int) := by unfold mn; split <;> omega
theorem CodecLinear : gambrellaw11_CodecLinear.Pure := by
  intro a b c l1 l2 ha hb hc hm1 hz1 hw1 hm2 hz2 hw2
  obtain ⟨n1, rfl, b1⟩ := isB_of l1 (fun x hx => u8_wf (hw1 x hx))
  obtain ⟨n2, rfl, b2⟩ := isB_of l2 (fun x hx => u8_wf (hw2 x hx))
  clear hm1 hz1 hw1 hm2 hz2 hw2
  obtain ⟨p, K, M, hs, hmay, -, -⟩ := some_ev a b c (u8_wf ha) (u8_wf hb) (u8_wf hc)
  obtain ⟨p1, p2, k1, k2, m1, m2⟩ := may_true hmay
  obtain ⟨X, hX⟩ : ∃ X, min (min n1.length n2.length) 300 = X := ⟨_, rfl⟩
  obtain ⟨D, hD⟩ : ∃ D, X / K = D := ⟨_, rfl⟩
  have hD2 : K * D ≤ X := by rw [← hD]; exact Nat.mul_div_le X K
  have hD3 : D ≤ X := by rw [← hD]; exact Nat.div_le_self _ _
  obtain ⟨S, hS⟩ : ∃ S, D / 2 * 2 = S := ⟨_, rfl⟩
  have hSD : S ≤ D := by omega
  have hKS : K * S ≤ X := Nat.le_trans (Nat.mul_le_mul_left _ hSD) hD2
  have hX3 : X ≤ 300 := by omega
  have hSw : S % wN (pbits p) = 0 := by unfold wN; split <;> omega
  have P1 : ∀ n : List Nat, K * S ≤ n.length → (∀ x, x ∈ n → x < 256) → ∀ r, r ∈ partsN n S K → r.length = S ∧ ∀ x, x ∈ r → x < 256 := fun n h hb r hr => by
    unfold partsN at hr
    obtain ⟨i, hi, rfl⟩ := List.mem_map.1 hr
    have hi := List.mem_range.1 hi
    exact ⟨partN_len _ _ _ (Nat.le_trans (Nat.mul_le_mul_right _ (by omega)) h), partN_lt _ _ _ hb⟩
  have hp := P1 n1 (by omega) b1
  have hq := P1 n2 (by omega) b2
  have hpl : (partsN n1 S K).length = K := by simp [partsN]
  have hql : (partsN n2 S K).length = K := by simp [partsN]
  have hwb : pbits p = 8 ∨ pbits p = 16 := by unfold pbits; split <;> simp
  have PAR : ∀ P : List (List Nat), P.length = K → (∀ r, r ∈ P → r.length = S ∧ ∀ x, x ∈ r → x < 256) → Ev (fun k => codec_Parity.f k p (K : Int) (M : Int) (P.map castN)) (((parM p K M).map fun c => dotN S (pbits p) c P).map castN, 0) := fun P hl hr => by
    have h := par_ev p K M S (P.map castN) hmay (by simp [hl]) (by omega) hSw (fun r h => by
      obtain ⟨z, hz, rfl⟩ := List.mem_map.1 h
      simp [castN, (hr z hz).1])
    have e : parV S p K M (P.map castN) = ((parM p K M).map fun c => dotN S (pbits p) c P).map castN := by
      unfold parV
      rw [List.map_map]
      exact List.map_congr_left (fun c _ => dotV_nat hwb S c P (fun r h => ⟨(hr r h).2, by rw [(hr r h).1]; exact hSw⟩))
    rw [e] at h
    exact h
  have hMl : (parM p K M).length = M := (parM_good p K M (by omega) (by omega) (by omega) (by omega)).2
  have rows : ∀ P : List (List Nat), P.length = K → (∀ r, r ∈ P → r.length = S ∧ ∀ x, x ∈ r → x < 256) → ∀ r, r ∈ ((parM p K M).map fun c => dotN S (pbits p) c P) → r.length = S ∧ ∀ x, x ∈ r → x < 256 := fun P hl hr r h => by
    obtain ⟨c, hc, rfl⟩ := List.mem_map.1 h
    refine ⟨?_, dotN_lt _ _ _ _⟩
    have h1 : (dotV S (pbits p) c (P.map castN)).length = S := dotV_len hSw (fun r h => by
      obtain ⟨z, hz, rfl⟩ := List.mem_map.1 h
      simp [castN, (hr z hz).1])
    rw [dotV_nat hwb S c P (fun r h => ⟨(hr r h).2, by rw [(hr r h).1]; exact hSw⟩)] at h1
    simpa [castN] using h1
  have hx : ∀ r, r ∈ List.zipWith xorN (partsN n1 S K) (partsN n2 S K) → r.length = S ∧ ∀ x, x ∈ r → x < 256 := fun r h => by
    obtain ⟨i, hi, rfl⟩ := List.mem_iff_getElem.1 h
    rw [List.getElem_zipWith]
    obtain ⟨a1, a2⟩ := hp _ (List.getElem_mem (l := partsN n1 S K) (n := i) (by simp at hi; omega))
    obtain ⟨a3, a4⟩ := hq _ (List.getElem_mem (l := partsN n2 S K) (n := i) (by simp at hi; omega))
    exact ⟨by rw [xorN_len _ _ (by omega)]; exact a1, xorN_lt (w := 8) _ _ a2 a4⟩
  have e3 : ((parM p K M).map fun c => dotN S (pbits p) c (List.zipWith xorN (partsN n1 S K) (partsN n2 S K))) = List.zipWith xorN ((parM p K M).map fun c => dotN S (pbits p) c (partsN n1 S K)) ((parM p K M).map fun c => dotN S (pbits p) c (partsN n2 S K)) := by
    rw [List.zipWith_map_left, List.zipWith_map_right, List.zipWith_self]
    exact List.map_congr_left (fun c _ => dotN_xor S S c _ _ (by rw [hpl, hql]) hp hq)
  have q1 := PAR _ hpl hp
  have q2 := PAR _ hql hq
  have q3 := PAR (List.zipWith xorN (partsN n1 S K) (partsN n2 S K)) (by simp [hpl, hql]) hx
  have u1 := rows _ hpl hp
  have u2 := rows _ hql hq
  rw [e3] at q3
  have U1 : ((parM p K M).map fun c => dotN S (pbits p) c (partsN n1 S K)).length = M := by rw [List.length_map, hMl]
  have U2 : ((parM p K M).map fun c => dotN S (pbits p) c (partsN n2 S K)).length = M := by rw [List.length_map, hMl]
  generalize ((parM p K M).map fun c => dotN S (pbits p) c (partsN n1 S K)) = U at q1 q3 u1 U1
  generalize ((parM p K M).map fun c => dotN S (pbits p) c (partsN n2 S K)) = V at q2 q3 u2 U2
  have hl2 := lin_l2 p K M S U V U1 U2 (by omega) u1 u2 (by omega) M 0 (by omega)
  have l3len : (List.zipWith xorN U V).length = M := by simp [U1, U2]
  have hend : Ev (fun k => gambrellaw11_CodecLinear.l0 k (castN n1) (castN n2) true (S : Int) ((partsN n1 S K).map castN) ((partsN n2 S K).map castN) ((List.zipWith xorN (partsN n1 S K) (partsN n2 S K)).map castN) (K : Int) p (K : Int) (M : Int)) true := by
    refine Ev.step (f := fun k => (codec_Parity.f k p (K : Int) (M : Int) ((partsN n1 S K).map castN)).bind fun bt648 => ((codec_Parity.f k p (K : Int) (M : Int) ((partsN n2 S K).map castN)).bind fun bt652 => ((codec_Parity.f k p (K : Int) (M : Int) ((List.zipWith xorN (partsN n1 S K) (partsN n2 S K)).map castN)).bind fun bt656 => (if (wrap64 ((wrap64 (bt648.2 + bt652.2)) + bt656.2)) = 0 then (if (bt648.1.length : Int) = (M : Int) then (if (bt652.1.length : Int) = (M : Int) then (gambrellaw11_CodecLinear.j2 k true (S : Int) bt648.1 bt652.1 bt656.1 ((bt656.1.length : Int) != (M : Int)) p (K : Int) (M : Int)) else (gambrellaw11_CodecLinear.j2 k true (S : Int) bt648.1 bt652.1 bt656.1 true p (K : Int) (M : Int))) else (gambrellaw11_CodecLinear.j2 k true (S : Int) bt648.1 bt652.1 bt656.1 true p (K : Int) (M : Int))) else (gambrellaw11_CodecLinear.j2 k true (S : Int) bt648.1 bt652.1 bt656.1 true p (K : Int) (M : Int)))))) (fun k => by rw [gambrellaw11_CodecLinear.l0, if_neg (by omega)]) ?_
    refine Ev.bind q1 (Ev.bind q2 (Ev.bind q3 ?_))
    refine Ev.congr (f := fun k => gambrellaw11_CodecLinear.j2 k true (S : Int) (U.map castN) (V.map castN) ((List.zipWith xorN U V).map castN) false p (K : Int) (M : Int)) (fun k => ?_) ?_
    · dsimp only
      rw [show wrap64 (wrap64 (0 + 0) + 0) = 0 by decide +kernel, if_pos rfl, List.length_map, List.length_map, List.length_map, U1, U2, l3len, if_pos rfl, if_pos rfl, show ((M : Int) != (M : Int)) = false by simp]
    · exact Ev.step (f := fun k => gambrellaw11_CodecLinear.l2 k true (S : Int) (U.map castN) (V.map castN) ((List.zipWith xorN U V).map castN) 0 p (K : Int) (M : Int)) (fun k => by rw [gambrellaw11_CodecLinear.j2, if_neg (by decide)]) hl2
  have h0 := lin_l0 p K M S n1 n2 (by omega) (by omega) (by omega) (by omega) b1 b2 hend K 0 (by omega)
  refine Ev.rounds (Ev.congr (f := fun k => gambrellaw11_CodecLinear.l0 k (castN n1) (castN n2) true (S : Int) [] [] [] 0 p (K : Int) (M : Int)) (fun k => ?_) h0)
  have E1 : Aside0 (mn (mn ((castN n1).length : Int) ((castN n2).length : Int)) 300 = (X : Int)) := ⟨by
    rw [show (castN n1).length = n1.length by simp [castN], show (castN n2).length = n2.length by simp [castN], mn_nat, show (300 : Int) = ((300 : Nat) : Int) from rfl, mn_nat, hX]⟩
  have E2 : Aside0 (wrap64 ((X : Int) / (K : Int)) = (D : Int)) := ⟨by
    rw [← Int.natCast_ediv, hD, w64 (by omega) (by omega)]⟩
  have E4 : Aside0 (wrap64 (Int.tdiv (D : Int) 2) = ((D / 2 : Nat) : Int)) := ⟨by
    rw [show Int.tdiv (D : Int) 2 = ((D / 2 : Nat) : Int) from (Int.ofNat_tdiv _ _).symm, w64 (by omega) (by omega)]⟩
  have E5 : Aside0 (wrap64 (((D / 2 : Nat) : Int) * 2) = (S : Int)) := ⟨by
    rw [show ((D / 2 : Nat) : Int) * 2 = ((D / 2 * 2 : Nat) : Int) by omega, hS, w64 (by omega) (by omega)]⟩
  unfold gambrellaw11_CodecLinear.f gambrellaw11_awake.f
  rw [Option.bind_some, hs, Option.bind_some]
  dsimp only
  change (if (K : Int) = 0 then none else gambrellaw11_CodecLinear.l0 k (castN n1) (castN n2) true (wrap64 (wrap64 (Int.tdiv (wrap64 (mn (mn ((castN n1).length : Int) ((castN n2).length : Int)) 300 / (K : Int))) 2) * 2)) [] [] [] 0 p (K : Int) (M : Int)) = _
  rw [if_neg (by omega), E1.out, E2.out, E4.out, E5.out]
end Go.Proofs.YtelcllhibpnneaaGreat.Pure
