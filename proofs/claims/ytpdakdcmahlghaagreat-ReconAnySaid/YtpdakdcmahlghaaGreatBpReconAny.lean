/- The plain law of ReconAny: any K of the shards tell the rest. -/
import Derived.Test.YtpdakdcmahlghaaGreatBReconAny20
namespace Go.Proofs.YtpdakdcmahlghaaGreat.Pure
open Go.RowKit Go.Proofs.YtpdakdcmahlghaaGreat.XCo Go.Proofs.YtpdakdcmahlghaaGreatW.PrintWords Go.Proofs.YtpdakdcmahlghaaGreatW.PrintLast Go.Proofs.YtpdakdcmahlghaaGreatW.PrintMore
def adz.Pure : Prop := ∀ (a0_0 : Int) (a0_1 : Int) (a0_2 : Int) (l1 : List Int) (a2_0 : Int) (a2_1 : Int) (a2_2 : Int) (a2_3 : Int), (Lit.int .u8 a0_0).wf = true → (Lit.int .u8 a0_1).wf = true → (Lit.int .u8 a0_2).wf = true → l1.length ≤ maxLen → l1.length * 1 ≤ 140737488351232 → (∀ x ∈ l1, (Lit.int .u8 x).wf = true) → (Lit.int .u8 a2_0).wf = true → (Lit.int .u8 a2_1).wf = true → (Lit.int .u8 a2_2).wf = true → (Lit.int .u8 a2_3).wf = true → ∃ k, adz.f k a0_0 a0_1 a0_2 l1 a2_0 a2_1 a2_2 a2_3 = some true
theorem ReconAny : adz.Pure := by
  intro a b c l d0 d1 d2 d3 ha hb hc hl1 hl2 hl3 hd0 hd1 hd2 hd3
  have e0 := u8_wf hd0
  have e1 := u8_wf hd1
  have e2 := u8_wf hd2
  have hlb : ∀ x, x ∈ l → 0 ≤ x ∧ x ≤ 255 := fun x hx => u8_wf (hl3 x hx)
  clear hl1 hl2 hl3 hd0 hd1 hd2 hd3
  have haw : Ev (fun k => bqz.f k) true := Ev.congr (fun _ => rfl) (Ev.now true)
  by_cases h300 : (l.length : Int) > 300
  · refine Ev.rounds (Ev.bind haw ?_)
    exact Ev.congr (fun k => by rw [if_pos h300]) (Ev.now _)
  · obtain ⟨p, K, M, hs, hmay, -, -⟩ := some_ev a b c (u8_wf ha) (u8_wf hb) (u8_wf hc)
    obtain ⟨p1, p2, k1, k2, m1, m2⟩ := boz hmay
    obtain ⟨data, q1, q2, q3, q4, q5⟩ := split_ev p K M l hmay (by omega)
    have hz2 := ehz p K l.length (by omega) (by omega) (by omega)
    have hz3 := sizeN_even p K l.length
    have henc := enc_of p K M l hmay (by omega) data q1 q2 q5
    have hbd : isBL data (sizeN p K l.length) := fun r hr => ⟨q2 r hr, q3 hlb r hr⟩
    clear q3 q4 q5
    generalize sizeN p K l.length = S at q2 hz2 hz3 henc hbd
    have hpl := c2z S p K M data hmay
    have hLl : (data ++ parV S p K M data).length = K + M := by rw [List.length_append, q1, hpl]
    obtain ⟨d0', rfl⟩ : ∃ n : Nat, d0 = (n : Int) := ⟨d0.toNat, by omega⟩
    obtain ⟨d1', rfl⟩ : ∃ n : Nat, d1 = (n : Int) := ⟨d1.toNat, by omega⟩
    obtain ⟨d2', rfl⟩ : ∃ n : Nat, d2 = (n : Int) := ⟨d2.toNat, by omega⟩
    obtain ⟨i, hi⟩ : ∃ i, d0' % (M + 1) = i := ⟨_, rfl⟩
    have hin : i < M + 1 := by rw [← hi]; exact Nat.mod_lt _ (by omega)
    obtain ⟨hv, ⟨hv1, hv2⟩, hlost⟩ := lost_ev (K + M) i d1' d2' (by omega) (by omega) (by omega)
    have hcnt : K ≤ trueN hv := by omega
    have hsp := spoilt_ev (data ++ parV S p K M data) hv d3 (by omega) (by omega)
    have hda := data_any p K M S hmay hz3 (by omega) data q1 hbd hv hv1 hcnt [d3, 7]
    have hre := reb_any p K M S hmay hz3 (by omega) data q1 hbd hv hv1 hcnt [d3, 7] (by simp)
    have hsame1 := same_ev (data ++ parV S p K M data) (by omega)
    have hsame2 := same_ev data (by omega)
    have ht1 : (data ++ parV S p K M data).take K = data := List.take_left' q1
    generalize data ++ parV S p K M data = L at henc hLl hsp hda hre hsame1 ht1
    have F1 : Aside0 (Int.tmod (wrap64 (d0' : Int)) (wrap64 ((M : Int) + 1)) = (i : Int)) := ⟨by
      rw [w64 (by omega) (by omega), bHz (by omega), show Int.tmod (d0' : Int) ((M + 1 : Nat) : Int) = ((d0' % (M + 1) : Nat) : Int) from (Int.ofNat_tmod _ _).symm, hi]⟩
    have W1 : Aside0 (wrap64 ((K : Int) + (M : Int)) = ((K + M : Nat) : Int)) := ⟨by rw [w64 (by omega) (by omega)]; omega⟩
    have F3 : Aside0 (wrap64 (d1' : Int) = (d1' : Int)) := ⟨w64 (by omega) (by omega)⟩
    have F4 : Aside0 (wrap64 (d2' : Int) = (d2' : Int)) := ⟨w64 (by omega) (by omega)⟩
    have hM0 : ¬ (wrap64 ((M : Int) + 1) = 0) := by rw [bHz (by omega)]; omega
    refine Ev.rounds (Ev.bind haw ?_)
    refine Ev.congr (f := fun k => (bpz.f k p (K : Int) (M : Int) l).bind fun bt311 => (if bt311.2 = 0 then (adz.j0 k true bt311.1 ((bt311.1.length : Int) != (wrap64 ((K : Int) + (M : Int)))) (d0' : Int) (d1' : Int) (d2' : Int) d3 p (K : Int) (M : Int)) else (adz.j0 k true bt311.1 true (d0' : Int) (d1' : Int) (d2' : Int) d3 p (K : Int) (M : Int)))) (fun k => by rw [if_neg h300, hs, Option.bind_some]) ?_
    refine Ev.bind henc ?_
    refine Ev.step (f := fun k => (afz.f k ((K + M : Nat) : Int) (i : Int) (d1' : Int) (d2' : Int)).bind fun t315 => ((anz.f k L t315 d3).bind fun t318 => ((aGz.f k p (K : Int) (M : Int) t318 t315).bind fun bt321 => ((anz.f k L t315 d3).bind fun t325 => ((akz.f k p (K : Int) (M : Int) t325 t315).bind fun bt328 => (if true = true then (if bt321.2 = 0 then (if bt328.2 = 0 then ((ajz.f k bt321.1 L).bind fun t332 => (if t332 = true then ((ajz.f k bt328.1 data).bind fun t338 => (some t338)) else (some false))) else (some false)) else (some false)) else (some false))))))) (fun k => ?_) ?_
    · dsimp only
      rw [if_pos rfl, hLl, W1.out, show (((K + M : Nat) : Int) != ((K + M : Nat) : Int)) = false by simp, adz.j0, if_neg (by decide), if_neg hM0, hLl, F1.out, F3.out, F4.out]
      simp only [if_pos (show (0 : Int) ≤ (K : Int) by omega), if_pos (show (K : Int) ≤ ((K + M : Nat) : Int) by omega), Int.toNat_natCast, ht1]
    · refine Ev.bind hlost (Ev.bind hsp (Ev.bind hre (Ev.bind hsp (Ev.bind hda ?_))))
      refine Ev.congr (fun k => by rw [if_pos rfl, if_pos rfl, if_pos rfl]) (Ev.bind hsame1 (Ev.congr (fun k => by rw [if_pos rfl]) (Ev.bind hsame2 (Ev.now _))))
end Go.Proofs.YtpdakdcmahlghaaGreat.Pure
