/- The plain law of ReconFew: with too few rows nothing is told. -/
import Derived.Test.YtpdakdcmahlghaaGreatBReconFew17
namespace Go.Proofs.YtpdakdcmahlghaaGreat.Pure
open Go.RowKit Go.Proofs.YtpdakdcmahlghaaGreat.XCo Go.Proofs.YtpdakdcmahlghaaGreatW.PrintWords Go.Proofs.YtpdakdcmahlghaaGreatW.PrintLast Go.Proofs.YtpdakdcmahlghaaGreatW.PrintMore
def akz.Pure : Prop := ∀ (a0_0 : Int) (a0_1 : Int) (a0_2 : Int) (l1 : List Int) (a2_0 : Int) (a2_1 : Int) (a2_2 : Int), (Lit.int .u8 a0_0).wf = true → (Lit.int .u8 a0_1).wf = true → (Lit.int .u8 a0_2).wf = true → l1.length ≤ maxLen → l1.length * 1 ≤ 140737488351232 → (∀ x ∈ l1, (Lit.int .u8 x).wf = true) → (Lit.int .u8 a2_0).wf = true → (Lit.int .u8 a2_1).wf = true → (Lit.int .u8 a2_2).wf = true → ∃ k, akz.f k a0_0 a0_1 a0_2 l1 a2_0 a2_1 a2_2 = some true
theorem ReconFew : akz.Pure := by
  intro a b c l d0 d1 d2 ha hb hc hl1 hl2 hl3 hd0 hd1 hd2
  have e0 := u8_wf hd0
  have e1 := u8_wf hd1
  have e2 := u8_wf hd2
  clear hl1 hl2 hl3 hd0 hd1 hd2
  have haw : Ev (fun k => bfz.f k) true := Ev.congr (fun _ => rfl) (Ev.now true)
  by_cases h300 : (l.length : Int) > 300
  · refine Ev.rounds (Ev.bind haw ?_)
    exact Ev.congr (fun k => by rw [if_pos h300]) (Ev.now _)
  · obtain ⟨p, K, M, hs, hmay, -, -⟩ := some_ev a b c (u8_wf ha) (u8_wf hb) (u8_wf hc)
    obtain ⟨p1, p2, k1, k2, m1, m2⟩ := bEz hmay
    obtain ⟨data, q1, q2, q3, q4, q5⟩ := split_ev p K M l hmay (by omega)
    have henc := enc_of p K M l hmay (by omega) data q1 q2 q5
    have hpl := parV_len (sizeN p K l.length) p K M data hmay
    clear q3 q4 q5
    have hLl : (data ++ parV (sizeN p K l.length) p K M data).length = K + M := by rw [List.length_append, q1, hpl]
    generalize data ++ parV (sizeN p K l.length) p K M data = L at henc hLl
    obtain ⟨d0', rfl⟩ : ∃ n : Nat, d0 = (n : Int) := ⟨d0.toNat, by omega⟩
    obtain ⟨d1', rfl⟩ : ∃ n : Nat, d1 = (n : Int) := ⟨d1.toNat, by omega⟩
    obtain ⟨d2', rfl⟩ : ∃ n : Nat, d2 = (n : Int) := ⟨d2.toNat, by omega⟩
    obtain ⟨i, hi⟩ : ∃ i, d0' % K = i := ⟨_, rfl⟩
    have hin : i < K := by rw [← hi]; exact Nat.mod_lt _ (by omega)
    obtain ⟨hv, ⟨hv1, hv2⟩, hlost⟩ := lost_ev (K + M) (M + 1 + i) d1' d2' (by omega) (by omega) (by omega)
    have htr : trueN hv < K := by omega
    have F1 : Aside0 (Int.tmod (wrap64 (d0' : Int)) (K : Int) = (i : Int)) := ⟨by
      rw [w64 (by omega) (by omega), show Int.tmod (d0' : Int) (K : Int) = ((d0' % K : Nat) : Int) from (Int.ofNat_tmod _ _).symm, hi]⟩
    have F2 : Aside0 (wrap64 (wrap64 ((M : Int) + 1) + (i : Int)) = ((M + 1 + i : Nat) : Int)) := ⟨by
      rw [bRz (by omega), w64 (by omega) (by omega)]; omega⟩
    have W1 : Aside0 (wrap64 ((K : Int) + (M : Int)) = ((K + M : Nat) : Int)) := ⟨by rw [w64 (by omega) (by omega)]; omega⟩
    have F3 : Aside0 (wrap64 (d1' : Int) = (d1' : Int)) := ⟨w64 (by omega) (by omega)⟩
    have F4 : Aside0 (wrap64 (d2' : Int) = (d2' : Int)) := ⟨w64 (by omega) (by omega)⟩
    refine Ev.rounds (Ev.bind haw ?_)
    refine Ev.congr (f := fun k => (bFz.f k p (K : Int) (M : Int) l).bind fun bt346 => (if bt346.2 = 0 then (akz.j0 k true bt346.1 ((bt346.1.length : Int) != (wrap64 ((K : Int) + (M : Int)))) (d0' : Int) (d1' : Int) (d2' : Int) p (K : Int) (M : Int)) else (akz.j0 k true bt346.1 true (d0' : Int) (d1' : Int) (d2' : Int) p (K : Int) (M : Int)))) (fun k => by rw [if_neg h300, hs, Option.bind_some]) ?_
    refine Ev.bind henc ?_
    have hK0 : ¬ ((K : Int) = 0) := by omega
    refine Ev.step (f := fun k => (aez.f k ((K + M : Nat) : Int) ((M + 1 + i : Nat) : Int) (d1' : Int) (d2' : Int)).bind fun t350 => ((aOz.f k p (K : Int) (M : Int) L t350).bind fun bt353 => ((aoz.f k p (K : Int) (M : Int) L t350).bind fun bt357 => (if true = true then (if bt353.2 = 5 then (if bt357.2 = 5 then (if (bt353.1.length : Int) = 0 then (some ((bt357.1.length : Int) == 0)) else (some false)) else (some false)) else (some false)) else (some false))))) (fun k => ?_) ?_
    · dsimp only
      rw [if_pos rfl, hLl, W1.out, show (((K + M : Nat) : Int) != ((K + M : Nat) : Int)) = false by simp, akz.j0, if_neg (by decide), if_neg hK0, hLl, F1.out, F2.out, F3.out, F4.out]
    · refine Ev.bind hlost ?_
      refine Ev.congr (fun k => ?_) (Ev.now true)
      rw [reb_few k p K M L hv hmay (by omega) hLl hv1 htr, Option.bind_some, data_few k p K M L hv hmay (by omega) hLl hv1 htr, Option.bind_some]
      rfl
end Go.Proofs.YtpdakdcmahlghaaGreat.Pure
