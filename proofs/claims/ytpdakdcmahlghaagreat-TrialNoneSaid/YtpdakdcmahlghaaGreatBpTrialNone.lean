/- The plain law of TrialNone: no shards, none to spare, and shards that are not all as long are nobody's. -/
import Derived.Test.YtpdakdcmahlghaaGreatBTrialNone14
namespace Go.Proofs.YtpdakdcmahlghaaGreat.Pure
open Go.RowKit Go.Proofs.YtpdakdcmahlghaaGreat.XCo Go.Proofs.YtpdakdcmahlghaaGreatW.PrintWords Go.Proofs.YtpdakdcmahlghaaGreatW.PrintLast Go.Proofs.YtpdakdcmahlghaaGreatW.PrintMore
def aoz.Pure : Prop := ∀ (l0 : List (List Int)) (a1 : Int), l0.length ≤ maxLen → (∀ r, r ∈ l0 → r.length ≤ maxLen ∧ ∀ x ∈ r, (Lit.int .u8 x).wf = true) → (Lit.int .i64 a1).wf = true → ∃ k, aoz.f k l0 a1 = some true
theorem few_loop (l : List (List Int)) : ∀ (m i : Nat), i + m = l.length → (∀ r, r ∈ l.take i → r.length ≤ 300) → i ≤ 13 → ∃ b, Ev (fun k => afz.l0 k l (i : Int)) b ∧ (b = true → (∀ r, r ∈ l → r.length ≤ 300) ∧ l.length ≤ 12) := by
  intro m
  induction m with
  | zero =>
    intro i hi h _
    refine ⟨decide ((l.length : Int) ≤ 12), ?_, fun hb => ?_⟩
    · have he : Ev (fun k => afz.j1 k l (i : Int) false) (decide ((l.length : Int) ≤ 12)) := by
        refine Ev.step (f := fun _ => some (decide ((l.length : Int) ≤ 12))) (fun k => ?_) (Ev.now _)
        rw [afz.j1, if_neg (by decide)]
      refine Ev.step (fun k => ?_) he
      rw [afz.l0, if_neg (by omega)]
    · rw [List.take_of_length_le (by omega)] at h
      have := of_decide_eq_true hb
      exact ⟨h, by omega⟩
  | succ m ih =>
    intro i hi h h13
    by_cases hlt : i < 13
    · obtain ⟨r, hr⟩ : ∃ r, l[i]? = some r := ⟨_, List.getElem?_eq_getElem (by omega)⟩
      have hrd : rd_L1 l (i : Int) = r := by unfold rd_L1; rw [Int.toNat_natCast, List.getD_eq_getElem?_getD, hr]; rfl
      by_cases hlen : r.length ≤ 300
      · obtain ⟨b, hE, hb⟩ := ih (i + 1) (by omega) (fun q hq => by
          rw [List.take_add_one, hr] at hq
          rcases List.mem_append.1 hq with hq | hq
          · exact h q hq
          · obtain rfl : q = r := by simpa using hq
            exact hlen) (by omega)
        refine ⟨b, ?_, hb⟩
        have he : Ev (fun k => afz.j1 k l (i : Int) true) b := by
          refine Ev.step (fun k => ?_) hE
          rw [afz.j1, if_pos rfl, if_pos (by omega), if_pos (by omega), hrd, if_neg (by omega), cHz (by omega)]
        refine Ev.step (fun k => ?_) he
        rw [afz.l0, if_pos (by omega), decide_eq_true (by omega)]
      · refine ⟨false, ?_, fun hb => by cases hb⟩
        have he : Ev (fun k => afz.j1 k l (i : Int) true) false := by
          refine Ev.step (f := fun _ => some false) (fun k => ?_) (Ev.now _)
          rw [afz.j1, if_pos rfl, if_pos (by omega), if_pos (by omega), hrd, if_pos (by omega)]
        refine Ev.step (fun k => ?_) he
        rw [afz.l0, if_pos (by omega), decide_eq_true (by omega)]
    · refine ⟨decide ((l.length : Int) ≤ 12), ?_, fun hb => by have := of_decide_eq_true hb; omega⟩
      have he : Ev (fun k => afz.j1 k l (i : Int) false) (decide ((l.length : Int) ≤ 12)) := by
        refine Ev.step (f := fun _ => some (decide ((l.length : Int) ≤ 12))) (fun k => ?_) (Ev.now _)
        rw [afz.j1, if_neg (by decide)]
      refine Ev.step (fun k => ?_) he
      rw [afz.l0, if_pos (by omega), decide_eq_false (by omega)]
theorem TrialNone : aoz.Pure := by
  intro l k hl hw hk
  clear hl hw hk
  have haw : Ev (fun k => bgz.f k) true := Ev.congr (fun _ => rfl) (Ev.now true)
  obtain ⟨few, hF, hfew⟩ := few_loop l l.length 0 (by omega) (by simp) (by omega)
  have hF : Ev (fun n => afz.f n l) few := Ev.congr (fun n => rfl) hF
  refine Ev.rounds (Ev.bind haw (Ev.bind hF ?_))
  cases few with
  | false => exact Ev.congr (fun n => by rw [if_neg (by decide)]) (Ev.now true)
  | true =>
    obtain ⟨h1, h2⟩ := hfew rfl
    have he := cAz [] k (fun q _ _ => c0z q k [] (fun h => by
      obtain ⟨-, -, k1, k2, m1, -⟩ := bjz h
      simp only [List.length_nil] at m1
      unfold wrap64 at m1
      omega))
    have hg := cAz l (l.length : Int) (fun q _ _ => c0z q _ l (fun h => by
      obtain ⟨-, -, k1, k2, m1, -⟩ := bjz h
      rw [show (l.length : Int) - (l.length : Int) = 0 by omega] at m1
      unfold wrap64 at m1
      omega))
    have hh := cAz l 0 (fun q _ _ => c0z q _ l (fun h => by
      obtain ⟨-, -, k1, -, -, -⟩ := bjz h
      omega))
    refine Ev.congr (fun n => by rw [if_pos rfl]) ?_
    refine Ev.bind he ?_
    refine Ev.bind hg ?_
    refine Ev.bind hh ?_
    refine Ev.congr (fun n => by rw [if_pos (show l.length ≤ 1000 by omega)]) ?_
    by_cases h0 : 0 < l.length
    · have hi := cAz (l ++ [List.replicate 301 0]) k (fun q q1 q2 => pass_long q k q1 q2 l (List.replicate 301 0) (by omega) h0 h1 List.length_replicate)
      refine Ev.bind hi (Ev.congr (fun n => ?_) (Ev.now true))
      unfold aoz.g
      simp
    · have hi := cAz (l ++ [List.replicate 301 0]) k (fun q _ _ => c0z q k _ (fun h => by
        obtain ⟨-, -, k1, k2, m1, -⟩ := bjz h
        rw [List.length_append, show l.length = 0 by omega] at m1
        simp only [List.length_singleton] at m1
        unfold wrap64 at m1
        omega))
      refine Ev.bind hi (Ev.congr (fun n => ?_) (Ev.now true))
      unfold aoz.g
      simp
end Go.Proofs.YtpdakdcmahlghaaGreat.Pure
