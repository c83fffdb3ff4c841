/- The plain law of CodecVerifies: what is encoded is verified, and joined; with one byte otherwise it isn't verified. -/
import Derived.Test.YtelcllhibpnneaaGreatBCodecVerifies16
namespace Go.Proofs.YtelcllhibpnneaaGreat.Pure
open Go.RowKit Go.Proofs.YtelcllhibpnneaaGreat.XCo Go.Proofs.YtelcllhibpnneaaGreatW.PrintWords Go.Proofs.YtelcllhibpnneaaGreatW.PrintLast Go.Proofs.YtelcllhibpnneaaGreatW.PrintMore
def abz.Pure : Prop := ∀ (a0_0 : Int) (a0_1 : Int) (a0_2 : Int) (l1 : List Int) (a2_0 : Int) (a2_1 : Int) (a2_2 : Int), (Lit.int .u8 a0_0).wf = true → (Lit.int .u8 a0_1).wf = true → (Lit.int .u8 a0_2).wf = true → l1.length ≤ maxLen → l1.length * 1 ≤ 140737488351232 → (∀ x ∈ l1, (Lit.int .u8 x).wf = true) → (Lit.int .u8 a2_0).wf = true → (Lit.int .u8 a2_1).wf = true → (Lit.int .u8 a2_2).wf = true → ∃ k, abz.f k a0_0 a0_1 a0_2 l1 a2_0 a2_1 a2_2 = some true
def nOf (r : List Int) : List Nat := r.map Int.toNat
theorem cMz : ∀ (r : List Int), (∀ x, x ∈ r → 0 ≤ x ∧ x ≤ 255) → castN (nOf r) = r
  | [], _ => rfl
  | x :: r, h => by
    have hx := h x (List.mem_cons_self ..)
    have ih := cMz r (fun y hy => h y (List.mem_cons_of_mem _ hy))
    show ((x.toNat : Nat) : Int) :: castN (nOf r) = x :: r
    rw [ih, Int.toNat_of_nonneg hx.1]
theorem nOf_lt (r : List Int) (h : ∀ x, x ∈ r → 0 ≤ x ∧ x ≤ 255) : ∀ x, x ∈ nOf r → x < 256 := by
  intro x hx
  obtain ⟨y, hy, rfl⟩ := List.mem_map.1 hx
  have := h y hy
  omega
theorem nOf_len (r : List Int) : (nOf r).length = r.length := by simp [nOf]
def isBL (l : List (List Int)) (S : Nat) : Prop := ∀ r, r ∈ l → r.length = S ∧ ∀ x, x ∈ r → 0 ≤ x ∧ x ≤ 255
theorem rows_nOf {l : List (List Int)} {S : Nat} (h : isBL l S) : (l.map nOf).map castN = l ∧ ∀ r, r ∈ l.map nOf → r.length = S ∧ ∀ x, x ∈ r → x < 256 := by
  constructor
  · rw [List.map_map]
    conv => rhs; rw [← List.map_id l]
    exact List.map_congr_left (fun r hr => cMz r (h r hr).2)
  · intro r hr
    obtain ⟨q, hq, rfl⟩ := List.mem_map.1 hr
    exact ⟨by rw [nOf_len]; exact (h q hq).1, nOf_lt q (h q hq).2⟩
theorem foldN_lt : ∀ (A : List (List Nat)) (a : List Nat), (∀ x, x ∈ a → x < 256) → (∀ r, r ∈ A → ∀ x, x ∈ r → x < 256) → ∀ x, x ∈ A.foldl xorN a → x < 256
  | [], _, h, _ => h
  | r :: rs, a, h, hr => foldN_lt rs (xorN a r) (xorN_lt (w := 8) a r h (hr r (List.mem_cons_self ..))) (fun q hq => hr q (List.mem_cons_of_mem _ hq))
theorem dotN_lt (S : Nat) (wb : Int) (c : List Int) (P : List (List Nat)) : ∀ x, x ∈ dotN S wb c P → x < 256 := by
  unfold dotN
  refine foldN_lt _ _ (fun x hx => ?_) (fun r hr => ?_)
  · have := List.eq_of_mem_replicate hx
    omega
  · obtain ⟨i, hi, rfl⟩ := List.mem_iff_getElem.1 hr
    rw [List.getElem_zipWith]
    exact mulN_lt _ _ _
theorem dqz (p : Int) : pbits p = 8 ∨ pbits p = 16 := by unfold pbits; split <;> simp
theorem parV_bytes (p : Int) (K M S : Nat) (data : List (List Int)) (hS : S % wN (pbits p) = 0) (h : isBL data S) : isBL (parV S p K M data) S := by
  obtain ⟨e, hb⟩ := rows_nOf h
  intro r hr
  unfold parV at hr
  obtain ⟨c, -, rfl⟩ := List.mem_map.1 hr
  refine ⟨dotV_len hS (fun r hr => (h r hr).1), ?_⟩
  rw [← e, dotV_nat (dqz p) S c _ (fun r hr => ⟨(hb r hr).2, by rw [(hb r hr).1]; exact hS⟩)]
  intro x hx
  obtain ⟨y, hy, rfl⟩ := List.mem_map.1 hx
  have := dotN_lt _ _ _ _ y hy
  omega
/-- Another data shard has another parity. -/
theorem parV_set (p : Int) (K M S : Nat) (hmay : agz.f p (K : Int) (M : Int) = some true) (data : List (List Int)) (hK : data.length = K) (hS : S % wN (pbits p) = 0) (h : isBL data S) (i : Nat) (r r' : List Int) (hr : data[i]? = some r) (hr' : r'.length = S ∧ ∀ x, x ∈ r' → 0 ≤ x ∧ x ≤ 255)
    (he : parV S p K M (data.set i r') = parV S p K M data) : r' = r := by
  obtain ⟨p1, p2, k1, k2, m1, m2⟩ := bfz hmay
  obtain ⟨c, hc, hcl, hcp⟩ := coef_pos p K M hmay
  have hg := (dpz p K M (by omega) (by omega) (by omega) (by omega)).1 c (List.mem_of_getElem? hc)
  obtain ⟨e, hb⟩ := rows_nOf h
  have hil := (List.getElem?_eq_some_iff.1 hr).1
  have hd : ∀ D, (parV S p K M D)[0]? = some (dotV S (pbits p) c D) := fun D => by unfold parV; rw [List.getElem?_map, hc]; rfl
  have h0 : dotV S (pbits p) c (data.set i r') = dotV S (pbits p) c data := by
    have := hd (data.set i r')
    rw [he, hd data] at this
    exact (Option.some.inj this).symm
  have e2 : data.set i r' = ((data.map nOf).set i (nOf r')).map castN := by
    rw [List.map_set, e, cMz r' hr'.2]
  have hrn : (nOf r').length = S ∧ ∀ x, x ∈ nOf r' → x < 256 := ⟨by rw [nOf_len]; exact hr'.1, nOf_lt r' hr'.2⟩
  have hb2 : ∀ q, q ∈ (data.map nOf).set i (nOf r') → q.length = S ∧ ∀ x, x ∈ q → x < 256 := fun q hq => by
    rcases List.mem_or_eq_of_mem_set hq with hq | rfl
    · exact hb q hq
    · exact hrn
  have h1 : castN (dotN S (pbits p) c ((data.map nOf).set i (nOf r'))) = castN (dotN S (pbits p) c (data.map nOf)) := by
    rw [← dotV_nat (dqz p) S c _ (fun q hq => ⟨(hb2 q hq).2, by rw [(hb2 q hq).1]; exact hS⟩), ← dotV_nat (dqz p) S c _ (fun q hq => ⟨(hb q hq).2, by rw [(hb q hq).1]; exact hS⟩), ← e2, e]
    exact h0
  obtain ⟨x, hx⟩ : ∃ x, c[i]? = some x := ⟨_, List.getElem?_eq_getElem (by omega)⟩
  have hxm := List.mem_of_getElem? hx
  have h2 := dotN_one (dqz p) S hS c (data.map nOf) i x (nOf r) (nOf r') hx (hcp x hxm) (hg.2 x hxm).2 hb (by rw [List.getElem?_map, hr]; rfl) hrn (castN_inj _ _ h1)
  rw [← cMz r' hr'.2, h2, cMz r (h r (List.mem_of_getElem? hr)).2]
theorem enc_of (p : Int) (K M : Nat) (b : List Int) (hmay : agz.f p (K : Int) (M : Int) = some true) (hn : b.length ≤ 4096) (data : List (List Int)) (q1 : data.length = K) (q2 : ∀ r, r ∈ data → r.length = sizeN p K b.length) (q4 : Ev (fun k => arz.f k p (K : Int) (M : Int) b) (data, 0)) :
    Ev (fun k => bnz.f k p (K : Int) (M : Int) b) (data ++ parV (sizeN p K b.length) p K M data, 0) := by
  obtain ⟨p1, p2, k1, k2, m1, m2⟩ := bfz hmay
  have h2 := par_ev p K M (sizeN p K b.length) data hmay q1 (by have := dcz p K b.length (by omega) (by omega) hn; omega) (sizeN_even p K b.length) q2
  have hl := ddz (sizeN p K b.length) p K M data hmay
  refine Ev.bind q4 ?_
  refine Ev.congr (f := fun k => (amz.f k p (K : Int) (M : Int) data).bind fun t => if data.length + t.1.length < 5864062014805 then some (data ++ t.1, t.2) else none) (fun k => by dsimp only; rw [if_pos rfl]) ?_
  refine Ev.bind h2 ?_
  refine Ev.congr (fun k => ?_) (Ev.now _)
  dsimp only
  rw [if_pos (by omega)]
theorem xor_other (x d : Nat) (hd : d ≠ 0) : x ^^^ d ≠ x := by
  intro h
  have := congrArg (x ^^^ ·) h
  simp [← Nat.xor_assoc] at this
  exact hd this
/-- One byte of one shard otherwise: it isn't verified. -/
theorem odd_ev (p : Int) (K M S : Nat) (data : List (List Int)) (hmay : agz.f p (K : Int) (M : Int) = some true) (hK : data.length = K) (hL : S ≤ 1000000) (hd : S % wN (pbits p) = 0) (hb : isBL data S) (i : Nat) (hi : i < K + M) (r r' : List Int) (hr : (data ++ parV S p K M data)[i]? = some r) (hr' : r'.length = S ∧ ∀ x, x ∈ r' → 0 ≤ x ∧ x ≤ 255) (hne : r' ≠ r) :
    Ev (fun k => anz.f k p (K : Int) (M : Int) ((data ++ parV S p K M data).set i r')) false := by
  have hpl := ddz S p K M data hmay
  by_cases hiK : i < K
  · have hri : data[i]? = some r := by rw [List.getElem?_append_left (by omega)] at hr; exact hr
    rw [List.set_append_left _ _ (by omega)]
    have h := ver_dec p K M S (data.set i r') (parV S p K M data) hmay (by simpa using hK) hL hd (fun q hq => by
      rcases List.mem_or_eq_of_mem_set hq with hq | rfl
      · exact (hb q hq).1
      · exact hr'.1) hpl
    rw [decide_eq_false (fun he => hne (parV_set p K M S hmay data hK hd hb i r r' hri hr' he))] at h
    exact h
  · have hri : (parV S p K M data)[i - K]? = some r := by rw [List.getElem?_append_right (by omega), hK] at hr; exact hr
    rw [List.set_append_right _ _ (by omega), hK]
    have h := ver_dec p K M S data ((parV S p K M data).set (i - K) r') hmay hK hL hd (fun q hq => (hb q hq).1) (by simpa using hpl)
    rw [decide_eq_false (fun he => hne (by
      have h2 := hri
      rw [he, List.getElem?_set_self (by omega)] at h2
      exact Option.some.inj h2))] at h
    exact h
theorem CodecVerifies : abz.Pure := by
  intro a b c l d0 d1 d2 ha hb hc hl1 hl2 hl3 hd0 hd1 hd2
  have e0 := u8_wf hd0
  have e1 := u8_wf hd1
  have e2 := u8_wf hd2
  have hlb : ∀ x, x ∈ l → 0 ≤ x ∧ x ≤ 255 := fun x hx => u8_wf (hl3 x hx)
  clear hl1 hl2 hl3 hd0 hd1 hd2
  by_cases h300 : (l.length : Int) > 300
  · refine ⟨0, ?_⟩
    unfold abz.f bcz.f
    rw [Option.bind_some, if_pos h300]
  · obtain ⟨p, K, M, hs, hmay, -, -⟩ := some_ev a b c (u8_wf ha) (u8_wf hb) (u8_wf hc)
    obtain ⟨p1, p2, k1, k2, m1, m2⟩ := bfz hmay
    obtain ⟨data, q1, q2, q3, q4, q5⟩ := split_ev p K M l hmay (by omega)
    have hz1 := sizeN_pos p K l.length
    have hz2 := dcz p K l.length (by omega) (by omega) (by omega)
    have hz3 := sizeN_even p K l.length
    have henc := enc_of p K M l hmay (by omega) data q1 q2 q5
    have hjoin := join_ev p K M l hmay (by omega) data q1 q2 q4 q5
    have hpl := ddz (sizeN p K l.length) p K M data hmay
    have hbd : isBL data (sizeN p K l.length) := fun r hr => ⟨q2 r hr, q3 hlb r hr⟩
    clear q4 q5
    generalize sizeN p K l.length = S at q2 hz1 hz2 hz3 henc hpl hbd
    have hpb := parV_bytes p K M S data hz3 hbd
    have hLb : isBL (data ++ parV S p K M data) S := fun r hr => by
      rcases List.mem_append.1 hr with hr | hr
      · exact hbd r hr
      · exact hpb r hr
    have hver := ver_ev p K M S data hmay q1 (by omega) hz3 q2
    have hodd := odd_ev p K M S data hmay q1 (by omega) hz3 hbd
    have htk : (data ++ parV S p K M data).take K = data := by rw [← q1, List.take_left']; rfl
    have hLl : (data ++ parV S p K M data).length = K + M := by rw [List.length_append, q1, hpl]
    generalize data ++ parV S p K M data = L at henc hLb hver hodd htk hLl
    obtain ⟨d0', rfl⟩ : ∃ n : Nat, d0 = (n : Int) := ⟨d0.toNat, by omega⟩
    obtain ⟨d1', rfl⟩ : ∃ n : Nat, d1 = (n : Int) := ⟨d1.toNat, by omega⟩
    obtain ⟨d2', rfl⟩ : ∃ n : Nat, d2 = (n : Int) := ⟨d2.toNat, by omega⟩
    obtain ⟨i, hi⟩ : ∃ i, d0' % (K + M) = i := ⟨_, rfl⟩
    have hin : i < K + M := by rw [← hi]; exact Nat.mod_lt _ (by omega)
    obtain ⟨r, hr⟩ : ∃ r, L[i]? = some r := ⟨_, List.getElem?_eq_getElem (by omega)⟩
    have hrb := hLb r (List.mem_of_getElem? hr)
    obtain ⟨t, ht⟩ : ∃ t, d1' % S = t := ⟨_, rfl⟩
    have htS : t < S := by rw [← ht]; exact Nat.mod_lt _ (by omega)
    obtain ⟨x, hx⟩ : ∃ x, r[t]? = some x := ⟨_, List.getElem?_eq_getElem (by omega)⟩
    have hxb := hrb.2 x (List.mem_of_getElem? hx)
    obtain ⟨x', rfl⟩ : ∃ n : Nat, x = (n : Int) := ⟨x.toNat, by omega⟩
    obtain ⟨d, hd⟩ : ∃ d, 1 + d2' % 255 = d := ⟨_, rfl⟩
    have hd2 : 1 ≤ d ∧ d ≤ 255 := by have := Nat.mod_lt d2' (show 0 < 255 by omega); omega
    have hxd : x' ^^^ d < 2 ^ 8 := Nat.xor_lt_two_pow (by omega) (by omega)
    obtain ⟨r', hr'⟩ : ∃ r', r.set t ((x' ^^^ d : Nat) : Int) = r' := ⟨_, rfl⟩
    have hrl : r'.length = S ∧ ∀ z, z ∈ r' → 0 ≤ z ∧ z ≤ 255 := by
      rw [← hr']
      refine ⟨by rw [List.length_set]; exact hrb.1, fun z hz => ?_⟩
      rcases List.mem_or_eq_of_mem_set hz with hz | rfl
      · exact hrb.2 z hz
      · omega
    have hne : r' ≠ r := by
      intro he
      rw [← hr'] at he
      have h2 : (r.set t ((x' ^^^ d : Nat) : Int))[t]? = some ((x' ^^^ d : Nat) : Int) := List.getElem?_set_self (by omega)
      rw [he, hx] at h2
      have h3 := Option.some.inj h2
      exact xor_other x' d (by omega) (by omega)
    have hov := hodd i hin r r' hr hrl hne
    have hdrop := ver_len p K M (L.drop 1) hmay (by rw [List.length_drop]; omega)
    refine Ev.rounds ?_
    have W1 : Aside0 (wrap64 ((K : Int) + (M : Int)) = ((K + M : Nat) : Int)) := ⟨by rw [w64 (by omega) (by omega)]; omega⟩
    have F1 : Aside0 (Int.tmod (wrap64 (d0' : Int)) ((K + M : Nat) : Int) = (i : Int)) := ⟨by
      rw [w64 (by omega) (by omega), show Int.tmod (d0' : Int) ((K + M : Nat) : Int) = ((d0' % (K + M) : Nat) : Int) from (Int.ofNat_tmod _ _).symm, hi]⟩
    have F2 : Aside0 (Int.tmod (wrap64 (d1' : Int)) (S : Int) = (t : Int)) := ⟨by
      rw [w64 (by omega) (by omega), show Int.tmod (d1' : Int) (S : Int) = ((d1' % S : Nat) : Int) from (Int.ofNat_tmod _ _).symm, ht]⟩
    have F3 : Aside0 ((1 + Int.tmod (d2' : Int) 255) % 256 = (d : Int)) := ⟨by
      rw [show Int.tmod (d2' : Int) 255 = ((d2' % 255 : Nat) : Int) from (Int.ofNat_tmod _ _).symm]; omega⟩
    have G1 : Aside0 (rd_L1 L (i : Int) = r) := ⟨by unfold rd_L1; rw [Int.toNat_natCast, List.getD_eq_getElem?_getD, hr]; rfl⟩
    have G2 : Aside0 (rd r (t : Int) = (x' : Int)) := ⟨by unfold rd; rw [Int.toNat_natCast, List.getD_eq_getElem?_getD, hx]; rfl⟩
    have G3 : Aside0 (Go.bits .xor .u8 (x' : Int) (d : Int) = ((x' ^^^ d : Nat) : Int)) := ⟨XCo.u8_xor x' d (by omega) (by omega)⟩
    refine Ev.congr (f := fun k => (bnz.f k p (K : Int) (M : Int) l).bind fun bt940 => (if bt940.2 = 0 then (abz.j0 k l true bt940.1 ((bt940.1.length : Int) != (wrap64 ((K : Int) + (M : Int)))) (d0' : Int) (d1' : Int) (d2' : Int) p (K : Int) (M : Int)) else (abz.j0 k l true bt940.1 true (d0' : Int) (d1' : Int) (d2' : Int) p (K : Int) (M : Int)))) (fun k => ?_) ?_
    · unfold abz.f bcz.f
      rw [Option.bind_some, if_neg h300, hs, Option.bind_some]
    refine Ev.bind henc ?_
    have hend : Ev (fun k => (alz.f k p (K : Int) (M : Int) data (l.length : Int)).bind fun bt949 => (anz.f k p (K : Int) (M : Int) L).bind fun t971 => (if t971 = true then (if bt949.2 = 0 then (if (strOfNums bt949.1).toList = (strOfNums l).toList then ((anz.f k p (K : Int) (M : Int) (L.set i r')).bind fun t972 => (if t972 = true then (some false) else ((anz.f k p (K : Int) (M : Int) (L.drop 1)).bind fun t978 => (some (!t978))))) else (some false)) else (some false)) else (some false))) true := by
      refine Ev.bind hjoin (Ev.bind hver ?_)
      refine Ev.congr (f := fun k => (anz.f k p (K : Int) (M : Int) (L.set i r')).bind fun t972 => (if t972 = true then (some false) else ((anz.f k p (K : Int) (M : Int) (L.drop 1)).bind fun t978 => (some (!t978))))) (fun k => by dsimp only; rw [if_pos rfl, if_pos rfl, if_pos rfl]) ?_
      refine Ev.bind hov ?_
      refine Ev.congr (f := fun k => (anz.f k p (K : Int) (M : Int) (L.drop 1)).bind fun t978 => (some (!t978))) (fun k => by rw [if_neg (by decide)]) ?_
      exact Ev.bind hdrop (Ev.now _)
    refine Ev.step (f := _) (fun k => ?_) hend
    have hil : (0 : Int) ≤ (i : Int) ∧ (i : Int) < ((K + M : Nat) : Int) := by omega
    have htl : (0 : Int) ≤ (t : Int) ∧ (t : Int) < (S : Int) := by omega
    have hKn : ((K : Int) ≤ ((K + M : Nat) : Int)) := by omega
    have hne0 : ¬ (((K + M : Nat) : Int) = 0) := by omega
    have hS0 : ¬ ((S : Int) = 0) := by omega
    have hK0 : (0 : Int) ≤ (K : Int) := by omega
    have h1n : (1 : Int) ≤ ((K + M : Nat) : Int) := by omega
    have hbig1 : ([] : List (List Int)).length + L.length < 5864062014805 := by rw [hLl]; simp; omega
    have hbig2 : ([] : List Int).length + r.length < 140737488355328 := by rw [hrb.1]; simp; omega
    dsimp only
    rw [if_pos rfl, hLl, W1.out, show (((K + M : Nat) : Int) != ((K + M : Nat) : Int)) = false by simp, abz.j0, if_neg (by decide), if_pos hK0, hLl, if_pos hKn, Int.toNat_natCast, htk]
    congr 1
    funext bt949
    rw [if_neg hne0, F1.out, if_pos hil.1, if_pos hil.2, G1.out, hrb.1, if_neg hS0, Option.bind_some, ← hLl, if_pos hbig1]
    have hS1 : ([] : List Int).length + S < 140737488355328 := by simp; omega
    have hrl1 : (([] ++ r : List Int).length : Int) = (S : Int) := by simp [hrb.1]
    have hLl1 : (([] ++ L : List (List Int)).length : Int) = ((K + M : Nat) : Int) := by simp [hLl]
    have hLl2 : (L.length : Int) = ((K + M : Nat) : Int) := by rw [hLl]
    rw [Option.bind_some, Option.bind_some, if_pos hS1, Option.bind_some, F2.out, if_pos htl.1, hrl1, if_pos htl.2, hLl1, if_pos hil.2, if_pos rfl, hLl2, if_pos h1n, List.nil_append, List.nil_append, G2.out, F3.out, G3.out, Int.toNat_natCast, Int.toNat_natCast, hr']
end Go.Proofs.YtelcllhibpnneaaGreat.Pure
