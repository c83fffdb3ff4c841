/- The plain law of TrialTwins: Backblaze's shards may be klauspost's, and the other way round. -/
import Derived.Test.YtpdakdcmahlghaaGreatBTrialTwins15
namespace Go.Proofs.YtpdakdcmahlghaaGreat.Pure
open Go.RowKit Go.Proofs.YtpdakdcmahlghaaGreat.XCo Go.Proofs.YtpdakdcmahlghaaGreatW.PrintWords Go.Proofs.YtpdakdcmahlghaaGreatW.PrintLast Go.Proofs.YtpdakdcmahlghaaGreatW.PrintMore
def aNz.Pure : Prop := ∀ (a0 : Int) (a1 : Int) (l2 : List Int), (Lit.int .u8 a0).wf = true → (Lit.int .u8 a1).wf = true → l2.length ≤ maxLen → l2.length * 1 ≤ 140737488351232 → (∀ x ∈ l2, (Lit.int .u8 x).wf = true) → ∃ k, aNz.f k a0 a1 l2 = some true
theorem parV_twin (S K M : Nat) (data : List (List Int)) : parV S 5 K M data = parV S 6 K M data := by
  have h : parM 5 K M = parM 6 K M := rfl
  have e5 : pbits 5 = 8 := rfl
  have e6 : pbits 6 = 8 := rfl
  unfold parV
  rw [h, e5, e6]
/-- Of what was encoded as p's, any q of the two is told. -/
theorem twin_told (p : Int) (hp : p = 5 ∨ p = 6) (K M : Nat) (l : List Int) (h5 : aez.f 5 (K : Int) (M : Int) = some true) (h6 : aez.f 6 (K : Int) (M : Int) = some true) (hl : l.length ≤ 4096) :
    ∃ (L : List (List Int)) (T : List Int), Ev (fun k => a3z.f k p (K : Int) (M : Int) l) (L, 0) ∧ Ev (fun k => arz.f k L (K : Int)) T ∧ 5 ∈ T ∧ 6 ∈ T ∧ T.length ≤ 6 := by
  have hmay : aez.f p (K : Int) (M : Int) = some true := by rcases hp with rfl | rfl <;> assumption
  obtain ⟨p1, p2, k1, k2, m1, m2⟩ := bGz hmay
  obtain ⟨data, q1, q2, q3, q4, q5⟩ := split_ev p K M l hmay hl
  have hz1 := sizeN_pos p K l.length
  have hz2 := dpz p K l.length (by omega) (by omega) (by omega)
  have hz3 := sizeN_even p K l.length
  have henc := enc_of p K M l hmay (by omega) data q1 q2 q5
  have hpl := parV_len (sizeN p K l.length) p K M data hmay
  clear q3 q4 q5
  generalize sizeN p K l.length = S at q2 hz1 hz2 hz3 henc hpl
  have hLr : ∀ r, r ∈ data ++ parV S p K M data → r.length = S := fun r hr => by
    rcases List.mem_append.1 hr with hr | hr
    · exact q2 r hr
    · unfold parV at hr
      obtain ⟨c, -, rfl⟩ := List.mem_map.1 hr
      exact dotV_len hz3 q2
  have hLl : (data ++ parV S p K M data).length = K + M := by rw [List.length_append, q1, hpl]
  have hv : ∀ q : Int, q = 5 ∨ q = 6 → passB S q K M (data ++ parV S p K M data) = true := by
    intro q hq
    have hmq : mayQ q K M = true := by rcases hq with rfl | rfl <;> exact mayQ_true.2 (by assumption)
    have hpq : parV S q K M data = parV S p K M data := by
      rcases hq with rfl | rfl <;> rcases hp with rfl | rfl <;> first | rfl | exact parV_twin S K M data | exact (parV_twin S K M data).symm
    have hu : unitN q = 1 := by rcases hq with rfl | rfl <;> rfl
    unfold passB longB verB
    rw [hmq, decide_eq_true (by omega), hu, decide_eq_true (Nat.mod_one S), ← hpq]
    rw [← q1, List.take_left' rfl, List.drop_left' rfl]
    simp
  have htr := daz K M S (data ++ parV S p K M data) hLl (by omega) (by omega) hLr (by omega)
  exact ⟨_, _, henc, htr, List.mem_filter.2 ⟨by decide, hv 5 (.inl rfl)⟩, List.mem_filter.2 ⟨by decide, hv 6 (.inr rfl)⟩, List.length_filter_le ..⟩
theorem two_of {T : List Int} (h5 : 5 ∈ T) (h6 : 6 ∈ T) : 2 ≤ T.length := by
  match T, h5, h6 with
  | [], h, _ => simp at h
  | [x], h5, h6 => simp at h5 h6; omega
  | _ :: _ :: _, _, _ => simp
theorem TrialTwins : aNz.Pure := by
  intro a b l ha hb hl1 hl2 hl3
  have e0 := u8_wf ha
  have e1 := u8_wf hb
  clear hl1 hl2 hl3 ha hb
  have haw : Ev (fun k => bfz.f k) true := Ev.congr (fun _ => rfl) (Ev.now true)
  by_cases h300 : (l.length : Int) > 300
  · refine Ev.rounds (Ev.bind haw ?_)
    exact Ev.congr (fun k => by rw [if_pos h300]) (Ev.now _)
  · obtain ⟨a', rfl⟩ : ∃ n : Nat, a = (n : Int) := ⟨a.toNat, by omega⟩
    obtain ⟨b', rfl⟩ : ∃ n : Nat, b = (n : Int) := ⟨b.toNat, by omega⟩
    obtain ⟨K, hK⟩ : ∃ K, 1 + a' % 8 = K := ⟨_, rfl⟩
    obtain ⟨M, hM⟩ : ∃ M, 1 + b' % 4 = M := ⟨_, rfl⟩
    have F1 : wrap64 (1 + (Int.tmod (wrap64 (a' : Int)) 8)) = (K : Int) := by
      rw [w64 (x := (a' : Int)) (by omega) (by omega), show Int.tmod (a' : Int) 8 = ((a' % 8 : Nat) : Int) from (Int.ofNat_tmod _ _).symm, w64 (by omega) (by omega)]; omega
    have F2 : wrap64 (1 + (Int.tmod (wrap64 (b' : Int)) 4)) = (M : Int) := by
      rw [w64 (x := (b' : Int)) (by omega) (by omega), show Int.tmod (b' : Int) 4 = ((b' % 4 : Nat) : Int) from (Int.ofNat_tmod _ _).symm, w64 (by omega) (by omega)]; omega
    have hk : 1 ≤ K ∧ K ≤ 8 := by omega
    have hm : 1 ≤ M ∧ M ≤ 4 := by omega
    clear hK hM e0 e1
    have hMay : ∀ q : Int, q = 5 ∨ q = 6 → aez.f q (K : Int) (M : Int) = some true := by
      intro q hq
      have h : aez.f q (K : Int) (M : Int) = (if (K : Int) ≥ 1 then (if (K : Int) ≤ 8 then (if (M : Int) ≥ 1 then some (decide ((M : Int) ≤ 4)) else some false) else some false) else some false) := by rcases hq with rfl | rfl <;> rfl
      rw [h, if_pos (by omega), if_pos (by omega), if_pos (by omega), decide_eq_true (by omega)]
    obtain ⟨L1, T1, x1, x2, x3, x4, x5⟩ := twin_told 5 (.inl rfl) K M l (hMay 5 (.inl rfl)) (hMay 6 (.inr rfl)) (by omega)
    obtain ⟨L2, T2, y1, y2, y3, y4, y5⟩ := twin_told 6 (.inr rfl) K M l (hMay 5 (.inl rfl)) (hMay 6 (.inr rfl)) (by omega)
    have hin : ∀ (T : List Int) (q : Int), q ∈ T → T.length ≤ 6 → Ev (fun k => aiz.f k T q) true := fun T q h1 h2 => by
      have := in_ev T q (by omega)
      rwa [decide_eq_true h1] at this
    have h2 := two_of x3 x4
    have hpick : Ev (fun k => bdz.f k L1 (K : Int)) (0, 6) := by
      unfold bdz.f
      refine Ev.bind x2 ?_
      exact Ev.congr (fun k => by rw [if_neg (by omega), if_neg (by omega)]) (Ev.now _)
    refine Ev.rounds ?_
    unfold aNz.f
    simp only [F1, F2]
    refine Ev.bind haw ?_
    refine Ev.congr (f := fun k => (a3z.f k 5 (K : Int) (M : Int) l).bind fun bt978 => ((a3z.f k 6 (K : Int) (M : Int) l).bind fun bt982 => ((arz.f k bt978.1 (K : Int)).bind fun t986 => ((arz.f k bt982.1 (K : Int)).bind fun t989 => ((bdz.f k bt978.1 (K : Int)).bind fun bt992 => (if bt978.2 = 0 then (if bt982.2 = 0 then ((aiz.f k t986 5).bind fun t994 => (if t994 = true then ((aiz.f k t986 6).bind fun t995 => (if t995 = true then ((aiz.f k t989 5).bind fun t996 => (if t996 = true then ((aiz.f k t989 6).bind fun t997 => (if t997 = true then (some (bt992.2 == 6)) else (some false))) else (some false))) else (some false))) else (some false))) else (some false)) else (some false))))))) (fun k => by rw [if_neg h300]; rfl) ?_
    refine Ev.bind x1 (Ev.bind y1 (Ev.bind x2 (Ev.bind y2 (Ev.bind hpick ?_))))
    refine Ev.congr (f := fun k => (aiz.f k T1 5).bind fun t994 => (if t994 = true then ((aiz.f k T1 6).bind fun t995 => (if t995 = true then ((aiz.f k T2 5).bind fun t996 => (if t996 = true then ((aiz.f k T2 6).bind fun t997 => (if t997 = true then (some ((6 : Int) == 6)) else (some false))) else (some false))) else (some false))) else (some false))) (fun k => by rw [if_pos rfl, if_pos rfl]) ?_
    refine Ev.bind (hin T1 5 x3 x5) ?_
    refine Ev.congr (fun k => by rw [if_pos rfl]) (Ev.bind (hin T1 6 x4 x5) ?_)
    refine Ev.congr (fun k => by rw [if_pos rfl]) (Ev.bind (hin T2 5 y3 y5) ?_)
    refine Ev.congr (fun k => by rw [if_pos rfl]) (Ev.bind (hin T2 6 y4 y5) ?_)
    exact Ev.congr (fun k => by rw [if_pos rfl]; rfl) (Ev.now _)
end Go.Proofs.YtpdakdcmahlghaaGreat.Pure
