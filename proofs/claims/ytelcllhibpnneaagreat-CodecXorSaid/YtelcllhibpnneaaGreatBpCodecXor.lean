/- The plain law of CodecXor: the first parity shard is exclusive or of all data shards. -/
import Derived.Test.YtelcllhibpnneaaGreatBCodecXor20
namespace Go.Proofs.YtelcllhibpnneaaGreat.Pure
open Go.RowKit Go.Proofs.YtelcllhibpnneaaGreat.XCo Go.Proofs.YtelcllhibpnneaaGreatW.PrintWords Go.Proofs.YtelcllhibpnneaaGreatW.PrintLast Go.Proofs.YtelcllhibpnneaaGreatW.PrintMore
def gambrellaw11_CodecXor.Pure : Prop := ∀ (a0_0 : Int) (a0_1 : Int) (a0_2 : Int) (l1 : List Int), (Lit.int .u8 a0_0).wf = true → (Lit.int .u8 a0_1).wf = true → (Lit.int .u8 a0_2).wf = true → l1.length ≤ maxLen → l1.length * 1 ≤ 140737488351232 → (∀ x ∈ l1, (Lit.int .u8 x).wf = true) → ∃ k, gambrellaw11_CodecXor.f k a0_0 a0_1 a0_2 l1 = some true
theorem xor_in (p : Int) (K M S t : Nat) (data : List (List Int)) (L : List (List Int)) (last : List Int) (hK : data.length = K) (hK8 : K ≤ 1000) (hS : ∀ r, r ∈ data → r.length = S) (hd : ∀ i, i < K → L[i]? = data[i]?) (hlast : L[K]? = some last) (hll : last = sumB S data) (ht : t < S) (hS2 : S ≤ 1000000)
    (hn : Ev (fun k => gambrellaw11_CodecXor.l0 k true L ((t + 1 : Nat) : Int) p (K : Int) (M : Int)) true) :
    ∀ (m i : Nat), i + m = K → Ev (fun k => gambrellaw11_CodecXor.l1 k true L (t : Int) (((data.take i).foldl xorB (List.replicate S 0)).getD t 0) (i : Int) p (K : Int) (M : Int)) true := by
  have hLK := (List.getElem?_eq_some_iff.1 hlast).1
  have hrK : rd_L1 L (K : Int) = last := by unfold rd_L1; rw [Int.toNat_natCast, List.getD_eq_getElem?_getD, hlast]; rfl
  have hlen : last.length = S := by rw [hll]; exact sumB_length _ hS
  intro m
  induction m with
  | zero =>
    intro i hi
    refine Ev.step (f := fun k => gambrellaw11_CodecXor.l0 k true L ((t + 1 : Nat) : Int) p (K : Int) (M : Int)) (fun k => ?_) hn
    rw [gambrellaw11_CodecXor.l1, if_neg (by omega), if_pos (by omega), if_pos (by omega), if_pos (by omega), hrK, if_pos (by omega), wrap64_nat (by omega), if_pos]
    rw [List.take_of_length_le (by omega), hll]
    unfold rd sumB
    rw [Int.toNat_natCast]
  | succ m ih =>
    intro i hi
    obtain ⟨r, hr⟩ : ∃ r, data[i]? = some r := ⟨_, List.getElem?_eq_getElem (by omega)⟩
    have hrl := hS r (List.mem_of_getElem? hr)
    have hri : rd_L1 L (i : Int) = r := by unfold rd_L1; rw [Int.toNat_natCast, List.getD_eq_getElem?_getD, hd i (by omega), hr]; rfl
    have hfl : ((data.take i).foldl xorB (List.replicate S 0)).length = S := foldB_length _ _ (by simp) (fun q hq => hS q (List.mem_of_mem_take hq))
    refine Ev.step (f := fun k => gambrellaw11_CodecXor.l1 k true L (t : Int) (((data.take (i + 1)).foldl xorB (List.replicate S 0)).getD t 0) ((i + 1 : Nat) : Int) p (K : Int) (M : Int)) (fun k => ?_) (ih (i + 1) (by omega))
    rw [gambrellaw11_CodecXor.l1, if_pos (by omega), if_pos (by omega), if_pos (by omega), if_pos (by omega), if_pos (by omega), hri, hrK, if_pos (by omega), if_pos (by omega), if_pos (by omega), wrap64_nat (by omega), foldB_snoc S data i r hr, xorB_get _ _ t (by omega) (by omega)]
    rw [show rd r (t : Int) = r.getD t 0 by unfold rd; rw [Int.toNat_natCast]]
theorem xor_out (p : Int) (K M S : Nat) (data : List (List Int)) (L : List (List Int)) (last : List Int) (hK : data.length = K) (hK8 : K ≤ 1000) (hS : ∀ r, r ∈ data → r.length = S) (hd : ∀ i, i < K → L[i]? = data[i]?) (hlast : L[K]? = some last) (hll : last = sumB S data) (hS2 : S ≤ 1000000) :
    ∀ (m t : Nat), t + m = S → Ev (fun k => gambrellaw11_CodecXor.l0 k true L (t : Int) p (K : Int) (M : Int)) true := by
  have hLK := (List.getElem?_eq_some_iff.1 hlast).1
  have hrK : rd_L1 L (K : Int) = last := by unfold rd_L1; rw [Int.toNat_natCast, List.getD_eq_getElem?_getD, hlast]; rfl
  have hlen : last.length = S := by rw [hll]; exact sumB_length _ hS
  intro m
  induction m with
  | zero =>
    intro t ht
    refine Ev.step (f := fun _ => some true) (fun k => ?_) (Ev.now _)
    rw [gambrellaw11_CodecXor.l0, if_pos (by omega), if_pos (by omega), hrK, if_neg (by omega)]
  | succ m ih =>
    intro t ht
    have h := xor_in p K M S t data L last hK hK8 hS hd hlast hll (by omega) hS2 (ih (t + 1) (by omega)) K 0 (by omega)
    refine Ev.step (f := fun k => gambrellaw11_CodecXor.l1 k true L (t : Int) (((data.take 0).foldl xorB (List.replicate S 0)).getD t 0) ((0 : Nat) : Int) p (K : Int) (M : Int)) (fun k => ?_) h
    rw [gambrellaw11_CodecXor.l0, if_pos (by omega), if_pos (by omega), hrK, if_pos (by omega)]
    have e : ((data.take 0).foldl xorB (List.replicate S 0)).getD t 0 = 0 := by
      simp [List.getD_eq_getElem?_getD, List.getElem?_replicate]
      split <;> rfl
    rw [e]; rfl
theorem xor_j0 (p : Int) (K M : Nat) (l : List Int) (hp8 : pbits p = 8) (hmay : profile_May.f p (K : Int) (M : Int) = some true) (hones : (parM p K M)[0]? = some (List.replicate K 1)) (hl : l.length ≤ 300) (hb : ∀ x, x ∈ l → 0 ≤ x ∧ x ≤ 255) :
    Ev (fun k => gambrellaw11_CodecXor.j0 k l true p (K : Int) (M : Int)) true := by
  obtain ⟨data, q1, q2, q3, q4⟩ := enc_ev p K M l hmay (by omega)
  obtain ⟨p1, p2, k1, k2, m1, m2⟩ := may_true hmay
  have hz2 := sizeN_le p K l.length (by omega) (by omega) (by omega)
  have hpl := parV_len (sizeN p K l.length) p K M data hmay
  generalize sizeN p K l.length = S at q2 q4 hz2 hpl
  have hbd := q3 hb
  have h0 : (parV S p K M data)[0]? = some (sumB S data) := by
    unfold parV
    rw [List.getElem?_map, hones, hp8]
    show some (dotV S 8 (List.replicate K 1) data) = _
    unfold dotV
    rw [← q1, ones_zip data hbd]
  have ho := xor_out p K M S data (data ++ parV S p K M data) (sumB S data) q1 (by omega) q2 (fun i hi => List.getElem?_append_left (by omega)) (by rw [List.getElem?_append_right (by omega), q1, Nat.sub_self]; exact h0) rfl (by omega) S 0 (by omega)
  refine Ev.step (f := fun k => (codec_Encode.f k p (K : Int) (M : Int) l).bind fun t => if t.2 = 0 then gambrellaw11_CodecXor.j1 k true t.1 ((t.1.length : Int) != wrap64 ((K : Int) + (M : Int))) p (K : Int) (M : Int) else gambrellaw11_CodecXor.j1 k true t.1 true p (K : Int) (M : Int)) (fun k => by rw [gambrellaw11_CodecXor.j0]) ?_
  refine Ev.bind q4 ?_
  have hw : wrap64 ((K : Int) + (M : Int)) = ((K + M : Nat) : Int) := by unfold wrap64; omega
  refine Ev.step (f := fun k => gambrellaw11_CodecXor.l0 k true (data ++ parV S p K M data) 0 p (K : Int) (M : Int)) (fun k => ?_) (by simpa using ho)
  dsimp only
  rw [if_pos rfl, hw, List.length_append, q1, hpl, show (((K + M : Nat) : Int) != ((K + M : Nat) : Int)) = false by simp, gambrellaw11_CodecXor.j1, if_neg (by decide)]
theorem CodecXor : gambrellaw11_CodecXor.Pure := by
  intro a b c l ha hb hc hl1 hl2 hl3
  by_cases h300 : (l.length : Int) > 300
  · refine ⟨0, ?_⟩
    unfold gambrellaw11_CodecXor.f gambrellaw11_awake.f
    rw [Option.bind_some, if_pos h300]
  · obtain ⟨p, K, M, hs, -, hm1, hm3⟩ := some_ev a b c (u8_wf ha) (u8_wf hb) (u8_wf hc)
    have hbb : ∀ x, x ∈ l → 0 ≤ x ∧ x ≤ 255 := fun x hx => u8_wf (hl3 x hx)
    refine Ev.rounds ?_
    by_cases h2 : Int.tmod a 2 = 0
    · obtain ⟨p1, p2, k1, k2, m1, m2⟩ := may_true hm1
      refine Ev.congr (fun k => ?_) (xor_j0 1 K M l rfl hm1 (ones1 K M (by omega) (by omega) (by omega) (by omega)) (by omega) hbb)
      unfold gambrellaw11_CodecXor.f gambrellaw11_awake.f
      rw [Option.bind_some, if_neg h300, hs, Option.bind_some, if_pos h2]
    · obtain ⟨N, hN⟩ : ∃ N : Nat, mn (M : Int) 3 = (N : Int) := by
        unfold mn
        split
        · exact ⟨3, rfl⟩
        · exact ⟨M, rfl⟩
      have hN3 : N ≤ 3 := by
        have : mn (M : Int) 3 ≤ 3 := by unfold mn; split <;> omega
        omega
      rw [hN] at hm3
      obtain ⟨p1, p2, k1, k2, m1, m2⟩ := may_true hm3
      refine Ev.congr (fun k => ?_) (xor_j0 3 K N l rfl hm3 (ones3 K N (by omega) (by omega) (by omega) hN3) (by omega) hbb)
      unfold gambrellaw11_CodecXor.f gambrellaw11_awake.f
      rw [Option.bind_some, if_neg h300, hs, Option.bind_some, if_neg h2, hN]
end Go.Proofs.YtelcllhibpnneaaGreat.Pure
