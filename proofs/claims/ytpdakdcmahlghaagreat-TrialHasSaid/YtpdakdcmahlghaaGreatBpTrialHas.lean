/- The plain law of TrialHas: of what was encoded the profile is one of those told; all that are told verify the shards. -/
import Derived.Test.YtpdakdcmahlghaaGreatBTrialHas16
namespace Go.Proofs.YtpdakdcmahlghaaGreat.Pure
open Go.RowKit Go.Proofs.YtpdakdcmahlghaaGreat.XCo Go.Proofs.YtpdakdcmahlghaaGreatW.PrintWords Go.Proofs.YtpdakdcmahlghaaGreatW.PrintLast Go.Proofs.YtpdakdcmahlghaaGreatW.PrintMore
def afz.Pure : Prop := ∀ (a0_0 : Int) (a0_1 : Int) (a0_2 : Int) (l1 : List Int), (Lit.int .u8 a0_0).wf = true → (Lit.int .u8 a0_1).wf = true → (Lit.int .u8 a0_2).wf = true → l1.length ≤ maxLen → l1.length * 1 ≤ 140737488351232 → (∀ x ∈ l1, (Lit.int .u8 x).wf = true) → ∃ k, afz.f k a0_0 a0_1 a0_2 l1 = some true
theorem has_ev (L : List (List Int)) (p : Int) (K M : Nat) (T : List Int) (hT : T.length ≤ 6) (hm : ∀ q, q ∈ T → agz.f q (K : Int) (M : Int) = some true) (hv : ∀ q, q ∈ T → Ev (fun k => aLz.f k q (K : Int) (M : Int) L) true) (hs : T.Pairwise (· < ·)) :
    ∀ (m i : Nat), i + m = T.length → Ev (fun k => afz.l0 k true L 0 T (i : Int) p (K : Int) (M : Int)) (decide (p ∈ T))
  | 0, i, hi => by
    refine Ev.step (f := fun k => (aIz.f k T p).bind fun t936 => (some t936)) (fun k => ?_) (Ev.bind (in_ev T p (by omega)) (Ev.now _))
    rw [afz.l0, if_neg (by omega), if_pos rfl, if_pos rfl]
  | m + 1, i, hi => by
    have ih := has_ev L p K M T hT hm hv hs m (i + 1) (by omega)
    have hrd : rd T (i : Int) = T[i]'(by omega) := by
      unfold rd
      rw [Int.toNat_natCast, List.getD_eq_getElem?_getD, List.getElem?_eq_getElem (by omega)]
      rfl
    obtain ⟨q, hq⟩ : ∃ q, T[i]'(by omega) = q := ⟨_, rfl⟩
    have hqm : q ∈ T := by rw [← hq]; exact List.getElem_mem _
    rw [hq] at hrd
    refine Ev.step (f := fun k => (aLz.f k q (K : Int) (M : Int) L).bind fun t940 => if t940 = true then afz.l0 k true L 0 T ((i + 1 : Nat) : Int) p (K : Int) (M : Int) else some false) (fun k => ?_) ?_
    · rw [afz.l0, if_pos (by omega), if_pos (by omega), hrd, hm q hqm, Option.bind_some, if_pos rfl]
      congr 1
      funext t940
      cases t940 with
      | false => rfl
      | true =>
        rw [if_pos rfl, if_pos rfl, cnz (by omega)]
        by_cases h0 : (i : Int) > 0
        · have hw : wrap64 ((i : Int) - 1) = ((i - 1 : Nat) : Int) := by unfold wrap64; omega
          have hrd2 : rd T ((i - 1 : Nat) : Int) = T[i - 1]'(by omega) := by
            unfold rd
            rw [Int.toNat_natCast, List.getD_eq_getElem?_getD, List.getElem?_eq_getElem (by omega)]
            rfl
          have hlt := List.pairwise_iff_getElem.1 hs (i - 1) i (by omega) (by omega) (by omega)
          rw [if_pos h0, hw, if_pos (by omega), if_pos (by omega), hrd2, if_neg (by rw [hq] at hlt; omega)]
        · rw [if_neg h0]
    · refine Ev.bind (hv q hqm) ?_
      exact Ev.congr (fun k => by rw [if_pos rfl]) ih
theorem TrialHas : afz.Pure := by
  intro a b c l ha hb hc hl1 hl2 hl3
  clear hl1 hl2 hl3
  have haw : Ev (fun k => bgz.f k) true := Ev.congr (fun _ => rfl) (Ev.now true)
  by_cases h300 : (l.length : Int) > 300
  · refine Ev.rounds (Ev.bind haw ?_)
    exact Ev.congr (fun k => by rw [if_pos h300]) (Ev.now _)
  · obtain ⟨p, K, M, hs, hmay, -, -⟩ := some_ev a b c (u8_wf ha) (u8_wf hb) (u8_wf hc)
    obtain ⟨p1, p2, k1, k2, m1, m2⟩ := bJz hmay
    obtain ⟨data, q1, q2, q3, q4, q5⟩ := split_ev p K M l hmay (by omega)
    have hz2 := dCz p K l.length (by omega) (by omega) (by omega)
    have hz3 := sizeN_even p K l.length
    have henc := enc_of p K M l hmay (by omega) data q1 q2 q5
    have hown := pass_own p K M l.length data hmay q1
    have hpl := parV_len (sizeN p K l.length) p K M data hmay
    clear q3 q4 q5
    generalize sizeN p K l.length = S at q2 hz2 hz3 henc hpl hown
    have hLr : ∀ r, r ∈ data ++ parV S p K M data → r.length = S := fun r hr => by
      rcases List.mem_append.1 hr with hr | hr
      · exact q2 r hr
      · unfold parV at hr
        obtain ⟨c, -, rfl⟩ := List.mem_map.1 hr
        exact dotV_len hz3 q2
    have hLl : (data ++ parV S p K M data).length = K + M := by rw [List.length_append, q1, hpl]
    generalize data ++ parV S p K M data = L at henc hown hLr hLl
    have htr := dnz K M S L hLl (by omega) (by omega) hLr (by omega)
    have hin : p ∈ all6.filter fun q => passB S q K M L := List.mem_filter.2 ⟨dDz.2 ⟨p1, p2⟩, hown⟩
    have hsm : ∀ q, q ∈ all6.filter (fun q => passB S q K M L) → agz.f q (K : Int) (M : Int) = some true ∧ Ev (fun k => aLz.f k q (K : Int) (M : Int) L) true := by
      intro q hq
      obtain ⟨h1, h2⟩ := List.mem_filter.1 hq
      obtain ⟨h3, h4⟩ := dDz.1 h1
      unfold passB longB verB at h2
      simp only [Bool.and_eq_true, decide_eq_true_eq] at h2
      have hmq := mayQ_true.1 h2.1
      have hv := ver_dec q K M S (L.take K) (L.drop K) hmq (by rw [List.length_take]; omega) (by omega) (unit_even h3 h4 h2.2.1.2) (fun r hr' => hLr r (List.mem_of_mem_take hr')) (by rw [List.length_drop]; omega)
      rw [List.take_append_drop, decide_eq_true h2.2.2] at hv
      exact ⟨hmq, hv⟩
    have hpw : (all6.filter fun q => passB S q K M L).Pairwise (· < ·) := List.Pairwise.filter _ (by decide)
    have hT6 : (all6.filter fun q => passB S q K M L).length ≤ 6 := List.length_filter_le ..
    generalize (all6.filter fun q => passB S q K M L) = T at htr hin hsm hpw hT6
    have hloop := has_ev L p K M T hT6 (fun q hq => (hsm q hq).1) (fun q hq => (hsm q hq).2) hpw T.length 0 (by omega)
    rw [decide_eq_true hin] at hloop
    refine Ev.rounds (Ev.bind haw ?_)
    refine Ev.congr (f := fun k => (bjz.f k p (K : Int) (M : Int) l).bind fun bt929 => ((aEz.f k bt929.1 (K : Int)).bind fun t933 => (afz.l0 k true bt929.1 bt929.2 t933 0 p (K : Int) (M : Int)))) (fun k => by rw [if_neg h300, hs, Option.bind_some]) ?_
    exact Ev.bind henc (Ev.bind htr hloop)
end Go.Proofs.YtpdakdcmahlghaaGreat.Pure
