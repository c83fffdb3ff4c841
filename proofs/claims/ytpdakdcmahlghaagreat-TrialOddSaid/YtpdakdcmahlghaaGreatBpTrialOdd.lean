/- The plain law of TrialOdd: with one byte otherwise the profile is none of those told. -/
import Derived.Test.YtpdakdcmahlghaaGreatBTrialOdd17
namespace Go.Proofs.YtpdakdcmahlghaaGreat.Pure
open Go.RowKit Go.Proofs.YtpdakdcmahlghaaGreat.XCo Go.Proofs.YtpdakdcmahlghaaGreatW.PrintWords Go.Proofs.YtpdakdcmahlghaaGreatW.PrintLast Go.Proofs.YtpdakdcmahlghaaGreatW.PrintMore
def afz.Pure : Prop := ∀ (a0_0 : Int) (a0_1 : Int) (a0_2 : Int) (l1 : List Int) (a2_0 : Int) (a2_1 : Int) (a2_2 : Int), (Lit.int .u8 a0_0).wf = true → (Lit.int .u8 a0_1).wf = true → (Lit.int .u8 a0_2).wf = true → l1.length ≤ maxLen → l1.length * 1 ≤ 140737488351232 → (∀ x ∈ l1, (Lit.int .u8 x).wf = true) → (Lit.int .u8 a2_0).wf = true → (Lit.int .u8 a2_1).wf = true → (Lit.int .u8 a2_2).wf = true → ∃ k, afz.f k a0_0 a0_1 a0_2 l1 a2_0 a2_1 a2_2 = some true
theorem TrialOdd : afz.Pure := by
  intro a b c l d0 d1 d2 ha hb hc hl1 hl2 hl3 hd0 hd1 hd2
  have e0 := u8_wf hd0
  have e1 := u8_wf hd1
  have e2 := u8_wf hd2
  have hlb : ∀ x, x ∈ l → 0 ≤ x ∧ x ≤ 255 := fun x hx => u8_wf (hl3 x hx)
  clear hl1 hl2 hl3 hd0 hd1 hd2
  have haw : Ev (fun k => biz.f k) true := Ev.congr (fun _ => rfl) (Ev.now true)
  by_cases h300 : (l.length : Int) > 300
  · refine Ev.rounds (Ev.bind haw ?_)
    exact Ev.congr (fun k => by rw [if_pos h300]) (Ev.now _)
  · obtain ⟨p, K, M, hs, hmay, -, -⟩ := some_ev a b c (u8_wf ha) (u8_wf hb) (u8_wf hc)
    obtain ⟨p1, p2, k1, k2, m1, m2⟩ := bAz hmay
    obtain ⟨data, q1, q2, q3, q4, q5⟩ := split_ev p K M l hmay (by omega)
    have hz1 := sizeN_pos p K l.length
    have hz2 := dPz p K l.length (by omega) (by omega) (by omega)
    have hz3 := sizeN_even p K l.length
    have henc := enc_of p K M l hmay (by omega) data q1 q2 q5
    have hpl := dQz (sizeN p K l.length) p K M data hmay
    have hbd : isBL data (sizeN p K l.length) := fun r hr => ⟨q2 r hr, q3 hlb r hr⟩
    clear q4 q5
    generalize sizeN p K l.length = S at q2 hz1 hz2 hz3 henc hpl hbd
    have hpb := parV_bytes p K M S data hz3 hbd
    have hLb : isBL (data ++ parV S p K M data) S := fun r hr => by
      rcases List.mem_append.1 hr with hr | hr
      · exact hbd r hr
      · exact hpb r hr
    have hodd := odd_ev p K M S data hmay q1 (by omega) hz3 hbd
    have hLl : (data ++ parV S p K M data).length = K + M := by rw [List.length_append, q1, hpl]
    generalize data ++ parV S p K M data = L at henc hLb hodd hLl
    obtain ⟨d0', rfl⟩ : ∃ n : Nat, d0 = (n : Int) := ⟨d0.toNat, by omega⟩
    obtain ⟨d1', rfl⟩ : ∃ n : Nat, d1 = (n : Int) := ⟨d1.toNat, by omega⟩
    obtain ⟨d2', rfl⟩ : ∃ n : Nat, d2 = (n : Int) := ⟨d2.toNat, by omega⟩
    obtain ⟨i, hi⟩ : ∃ i, d0' % (K + M) = i := ⟨_, rfl⟩
    have hin : i < K + M := by rw [← hi]; exact Nat.mod_lt _ (by omega)
    obtain ⟨r, hr⟩ : ∃ r, L[i]? = some r := ⟨_, List.getElem?_eq_getElem (by omega)⟩
    have hrb := hLb r (List.mem_of_getElem? hr)
    obtain ⟨t, ht⟩ : ∃ t, d1' % S = t := ⟨_, rfl⟩
    have htS : t < S := by rw [← ht]; exact Nat.mod_lt _ (by omega)
    obtain ⟨x, hx⟩ : ∃ x, r[t]? = some x := ⟨_, List.getElem?_eq_getElem (by omega)⟩
    have hxb := hrb.2 x (List.mem_of_getElem? hx)
    obtain ⟨x', rfl⟩ : ∃ n : Nat, x = (n : Int) := ⟨x.toNat, by omega⟩
    obtain ⟨d, hd⟩ : ∃ d, 1 + d2' % 255 = d := ⟨_, rfl⟩
    have hd2 : 1 ≤ d ∧ d ≤ 255 := by have := Nat.mod_lt d2' (show 0 < 255 by omega); omega
    have hxd : x' ^^^ d < 2 ^ 8 := Nat.xor_lt_two_pow (by omega) (by omega)
    obtain ⟨r', hr'⟩ : ∃ r', r.set t ((x' ^^^ d : Nat) : Int) = r' := ⟨_, rfl⟩
    have hrl : r'.length = S ∧ ∀ z, z ∈ r' → 0 ≤ z ∧ z ≤ 255 := by
      rw [← hr']
      refine ⟨by rw [List.length_set]; exact hrb.1, fun z hz => ?_⟩
      rcases List.mem_or_eq_of_mem_set hz with hz | rfl
      · exact hrb.2 z hz
      · omega
    have hne : r' ≠ r := by
      intro he
      rw [← hr'] at he
      have h2 : (r.set t ((x' ^^^ d : Nat) : Int))[t]? = some ((x' ^^^ d : Nat) : Int) := List.getElem?_set_self (by omega)
      rw [he, hx] at h2
      have h3 := Option.some.inj h2
      exact xor_other x' d (by omega) (by omega)
    have hov := hodd i hin r r' hr hrl hne
    have hL2r : ∀ q, q ∈ L.set i r' → q.length = S := fun q hq => by
      rcases List.mem_or_eq_of_mem_set hq with hq | rfl
      · exact (hLb q hq).1
      · exact hrl.1
    have hL2l : (L.set i r').length = K + M := by rw [List.length_set, hLl]
    have htr := dzz K M S (L.set i r') hL2l (by omega) (by omega) hL2r (by omega)
    have hnot : p ∉ all6.filter fun q => passB S q K M (L.set i r') := by
      intro hp
      have h2 := (List.mem_filter.1 hp).2
      unfold passB verB at h2
      simp only [Bool.and_eq_true, decide_eq_true_eq] at h2
      have hv := ver_dec p K M S ((L.set i r').take K) ((L.set i r').drop K) hmay (by rw [List.length_take]; omega) (by omega) hz3 (fun q hq => hL2r q (List.mem_of_mem_take hq)) (by rw [List.length_drop]; omega)
      rw [List.take_append_drop, decide_eq_true h2.2.2] at hv
      have := Ev.uniq hv hov
      cases this
    have hT6 : (all6.filter fun q => passB S q K M (L.set i r')).length ≤ 6 := List.length_filter_le ..
    generalize (all6.filter fun q => passB S q K M (L.set i r')) = T at htr hnot hT6
    have hine := in_ev T p (by omega)
    rw [decide_eq_false hnot] at hine
    refine Ev.rounds (Ev.bind haw ?_)
    have W1 : Aside0 (wrap64 ((K : Int) + (M : Int)) = ((K + M : Nat) : Int)) := ⟨by rw [w64 (by omega) (by omega)]; omega⟩
    have F1 : Aside0 (Int.tmod (wrap64 (d0' : Int)) ((K + M : Nat) : Int) = (i : Int)) := ⟨by
      rw [w64 (by omega) (by omega), show Int.tmod (d0' : Int) ((K + M : Nat) : Int) = ((d0' % (K + M) : Nat) : Int) from (Int.ofNat_tmod _ _).symm, hi]⟩
    have F2 : Aside0 (Int.tmod (wrap64 (d1' : Int)) (S : Int) = (t : Int)) := ⟨by
      rw [w64 (by omega) (by omega), show Int.tmod (d1' : Int) (S : Int) = ((d1' % S : Nat) : Int) from (Int.ofNat_tmod _ _).symm, ht]⟩
    have F3 : Aside0 ((1 + Int.tmod (d2' : Int) 255) % 256 = (d : Int)) := ⟨by
      rw [show Int.tmod (d2' : Int) 255 = ((d2' % 255 : Nat) : Int) from (Int.ofNat_tmod _ _).symm]; omega⟩
    have G1 : Aside0 (rd_L1 L (i : Int) = r) := ⟨by unfold rd_L1; rw [Int.toNat_natCast, List.getD_eq_getElem?_getD, hr]; rfl⟩
    have G2 : Aside0 (rd r (t : Int) = (x' : Int)) := ⟨by unfold rd; rw [Int.toNat_natCast, List.getD_eq_getElem?_getD, hx]; rfl⟩
    have G3 : Aside0 (Go.bits .xor .u8 (x' : Int) (d : Int) = ((x' ^^^ d : Nat) : Int)) := ⟨XCo.u8_xor x' d (by omega) (by omega)⟩
    refine Ev.congr (f := fun k => (bnz.f k p (K : Int) (M : Int) l).bind fun bt950 => (if bt950.2 = 0 then (afz.j0 k true bt950.1 ((bt950.1.length : Int) != (wrap64 ((K : Int) + (M : Int)))) (d0' : Int) (d1' : Int) (d2' : Int) p (K : Int) (M : Int)) else (afz.j0 k true bt950.1 true (d0' : Int) (d1' : Int) (d2' : Int) p (K : Int) (M : Int)))) (fun k => by rw [if_neg h300, hs, Option.bind_some]) ?_
    refine Ev.bind henc ?_
    have hend : Ev (fun k => (axz.f k (L.set i r') (K : Int)).bind fun t971 => ((aFz.f k t971 p).bind fun t974 => (some (!t974)))) true := by
      refine Ev.bind htr (Ev.bind hine (Ev.now _))
    refine Ev.step (f := _) (fun k => ?_) hend
    have hil : (0 : Int) ≤ (i : Int) ∧ (i : Int) < ((K + M : Nat) : Int) := by omega
    have htl : (0 : Int) ≤ (t : Int) ∧ (t : Int) < (S : Int) := by omega
    have hne0 : ¬ (((K + M : Nat) : Int) = 0) := by omega
    have hS0 : ¬ ((S : Int) = 0) := by omega
    have hbig1 : ([] : List (List Int)).length + (K + M) < 5864062014805 := by simp; omega
    have hbig2 : ([] : List Int).length + S < 140737488355328 := by simp; omega
    have hrl1 : (([] ++ r : List Int).length : Int) = (S : Int) := by simp [hrb.1]
    have hLl1 : (([] ++ L : List (List Int)).length : Int) = ((K + M : Nat) : Int) := by simp [hLl]
    dsimp only
    rw [if_pos rfl, hLl, W1.out, show (((K + M : Nat) : Int) != ((K + M : Nat) : Int)) = false by simp, afz.j0, if_neg (by decide), Option.bind_some, hLl, if_pos hbig1, Option.bind_some, if_neg hne0, F1.out, if_pos hil.1, if_pos hil.2, G1.out, hrb.1, if_neg hS0, Option.bind_some, if_pos hbig2, Option.bind_some, hrl1, if_neg hS0, F2.out, if_pos htl.1, if_pos htl.2, hLl1, if_pos hil.2, if_pos rfl, List.nil_append, List.nil_append, G2.out, F3.out, G3.out, Int.toNat_natCast, Int.toNat_natCast, hr']
end Go.Proofs.YtpdakdcmahlghaaGreat.Pure
