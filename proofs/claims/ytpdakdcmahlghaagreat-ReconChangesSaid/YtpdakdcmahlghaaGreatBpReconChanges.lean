/- The plain law of ReconChanges: one shard is changed, and turned back. -/
import Derived.Test.YtpdakdcmahlghaaGreatBReconChanges19
namespace Go.Proofs.YtpdakdcmahlghaaGreat.Pure
open Go.RowKit Go.Proofs.YtpdakdcmahlghaaGreat.XCo Go.Proofs.YtpdakdcmahlghaaGreatW.PrintWords Go.Proofs.YtpdakdcmahlghaaGreatW.PrintLast Go.Proofs.YtpdakdcmahlghaaGreatW.PrintMore
def abz.Pure : Prop := ∀ (a0_0 : Int) (a0_1 : Int) (a0_2 : Int) (l1 : List Int) (a2_0 : Int) (l2_1 : List Int), (Lit.int .u8 a0_0).wf = true → (Lit.int .u8 a0_1).wf = true → (Lit.int .u8 a0_2).wf = true → l1.length ≤ maxLen → l1.length * 1 ≤ 140737488351232 → (∀ x ∈ l1, (Lit.int .u8 x).wf = true) → (Lit.int .i64 a2_0).wf = true → l2_1.length ≤ maxLen → (∀ x ∈ l2_1, (Lit.int .u8 x).wf = true) → ∃ k, abz.f k a0_0 a0_1 a0_2 l1 a2_0 l2_1 = some true
theorem change_loop (L : List (List Int)) (i S : Nat) (b : List Int) (d K M p : Int) (r : Bool) (hi : i < L.length) (hS : (rd_L1 L (i : Int)).length = S) (hS2 : S ≤ 1000000)
    (hend : Ev (fun k => (alz.f k p K M L (i : Int) ((List.range S).map fun t => b.getD t 0)).bind fun bt387 => (if bt387.2 = 0 then (abz.j3 k true L (i : Int) ((List.range S).map fun t => b.getD t 0) bt387.1 ((bt387.1.length : Int) != (L.length : Int)) p K M) else (abz.j3 k true L (i : Int) ((List.range S).map fun t => b.getD t 0) bt387.1 true p K M))) r) :
    ∀ (m j : Nat), j + m = S → Ev (fun k => abz.l0 k true L (i : Int) ((List.range j).map fun t => b.getD t 0) (j : Int) d b p K M) r := by
  intro m
  induction m with
  | zero =>
    intro j hj
    obtain rfl : j = S := by omega
    refine Ev.step (fun k => ?_) hend
    rw [abz.l0, if_pos (by omega), if_pos (by omega), if_neg (by omega)]
  | succ m ih =>
    intro j hj
    refine Ev.step (fun k => ?_) (ih (j + 1) (by omega))
    have hl : ((List.range j).map fun t => b.getD t 0).length < 140737488355328 := by rw [List.length_map, List.length_range]; omega
    have hs : ((List.range (j + 1)).map fun t => b.getD t 0) = ((List.range j).map fun t => b.getD t 0) ++ [b.getD j 0] := by rw [List.range_succ, List.map_append]; rfl
    rw [abz.l0, if_pos (by omega), if_pos (by omega), if_pos (by omega), cFz (by omega), hs]
    by_cases hb : (j : Int) < (b.length : Int)
    · rw [if_pos hb, if_pos (by omega), if_pos hl]
      rfl
    · rw [if_neg hb, if_pos hl, show b.getD j 0 = 0 by rw [List.getD_eq_getElem?_getD, List.getElem?_eq_none (by omega)]; rfl]
theorem ReconChanges : abz.Pure := by
  intro a b c l d0 l2 ha hb hc hl1 hl2 hl3 hd0 hm2 hw2
  have hlb : ∀ x, x ∈ l → 0 ≤ x ∧ x ≤ 255 := fun x hx => u8_wf (hl3 x hx)
  have hlb2 : ∀ x, x ∈ l2 → 0 ≤ x ∧ x ≤ 255 := fun x hx => u8_wf (hw2 x hx)
  clear hl1 hl2 hl3 hd0 hm2 hw2
  have haw : Ev (fun k => bKz.f k) true := Ev.congr (fun _ => rfl) (Ev.now true)
  have hoff : Ev (fun k => abz.j0 k l true true a b c d0 l2) true := by
    refine Ev.step (f := fun _ => some true) (fun k => ?_) (Ev.now _)
    rw [abz.j0, if_pos rfl]
  by_cases h300 : (l.length : Int) > 300
  · refine Ev.rounds (Ev.bind haw ?_)
    exact Ev.congr (fun k => by rw [if_pos h300]) hoff
  · by_cases hneg : d0 < 0
    · refine Ev.rounds (Ev.bind haw ?_)
      exact Ev.congr (fun k => by rw [if_neg h300, decide_eq_true hneg]) hoff
    obtain ⟨p, K, M, hs, hmay, -, -⟩ := some_ev a b c (u8_wf ha) (u8_wf hb) (u8_wf hc)
    obtain ⟨p1, p2, k1, k2, m1, m2⟩ := bhz hmay
    obtain ⟨data, q1, q2, q3, q4, q5⟩ := split_ev p K M l hmay (by omega)
    have hz1 := sizeN_pos p K l.length
    have hz2 := d2z p K l.length (by omega) (by omega) (by omega)
    have hz3 := sizeN_even p K l.length
    have henc := enc_of p K M l hmay (by omega) data q1 q2 q5
    have hbd : isBL data (sizeN p K l.length) := fun r hr => ⟨q2 r hr, q3 hlb r hr⟩
    clear q3 q4 q5
    generalize sizeN p K l.length = S at q2 hz1 hz2 hz3 henc hbd
    have hpl := cPz S p K M data hmay
    obtain ⟨d0', rfl⟩ : ∃ n : Nat, d0 = (n : Int) := ⟨d0.toNat, by omega⟩
    obtain ⟨i, hi⟩ : ∃ i, d0' % K = i := ⟨_, rfl⟩
    have hin : i < K := by rw [← hi]; exact Nat.mod_lt _ (by omega)
    obtain ⟨y, hyd⟩ : ∃ y, ((List.range S).map fun t => l2.getD t 0) = y := ⟨_, rfl⟩
    have hy : y.length = S ∧ ∀ x, x ∈ y → 0 ≤ x ∧ x ≤ 255 := by
      rw [← hyd]
      refine ⟨by simp, fun x hx => ?_⟩
      obtain ⟨t, -, rfl⟩ := List.mem_map.1 hx
      cases e : l2[t]? with
      | none => rw [List.getD_eq_getElem?_getD, e]; simp
      | some z =>
        rw [List.getD_eq_getElem?_getD, e]
        exact hlb2 z (List.mem_of_getElem? e)
    obtain ⟨r, hr⟩ : ∃ r, data[i]? = some r := ⟨_, List.getElem?_eq_getElem (by omega)⟩
    have hrb := hbd r (List.mem_of_getElem? hr)
    have hup := upd_ev p K M S hmay hz3 (by omega) data q1 hbd i hin y hy
    have hbd2 : isBL (data.set i y) S := fun q hq => by
      rcases List.mem_or_eq_of_mem_set hq with hq | rfl
      · exact hbd q hq
      · exact hy
    have hl2 : (data.set i y).length = K := by rw [List.length_set, q1]
    have hback := upd_ev p K M S hmay hz3 (by omega) (data.set i y) hl2 hbd2 i hin r hrb
    have hset : (data.set i y).set i r = data := by
      rw [List.set_set]
      obtain ⟨h1, h2⟩ := List.getElem?_eq_some_iff.1 hr
      rw [← h2]
      exact List.set_getElem_self h1
    rw [hset] at hback
    have hver := ver_dec p K M S (data.set i y) (parV S p K M (data.set i y)) hmay hl2 (by omega) hz3 (fun q hq => (hbd2 q hq).1) (cPz S p K M _ hmay)
    rw [decide_eq_true rfl] at hver
    have hLl : (data ++ parV S p K M data).length = K + M := by rw [List.length_append, q1, hpl]
    have hLl2 : (data.set i y ++ parV S p K M (data.set i y)).length = K + M := by rw [List.length_append, hl2, cPz S p K M _ hmay]
    have hsame1 := same_ev (data.set i y) (by omega)
    have hsame2 := same_ev (data ++ parV S p K M data) (by omega)
    have ht1 : (data ++ parV S p K M data).take K = data := by rw [← q1]; exact List.take_left' rfl
    have ht2 : (data.set i y ++ parV S p K M (data.set i y)).take K = data.set i y := List.take_left' hl2
    have hrow : rd_L1 (data ++ parV S p K M data) (i : Int) = r := by
      unfold rd_L1
      rw [Int.toNat_natCast, List.getD_eq_getElem?_getD, List.getElem?_append_left (by omega), hr]; rfl
    generalize data ++ parV S p K M data = L at henc hup hback hLl hsame2 ht1 hrow
    generalize data.set i y ++ parV S p K M (data.set i y) = L2 at hup hback hver hLl2 ht2
    have W1 : Aside0 (wrap64 ((K : Int) + (M : Int)) = ((K + M : Nat) : Int)) := ⟨by rw [w64 (by omega) (by omega)]; omega⟩
    have F1 : Aside0 (Int.tmod (d0' : Int) (K : Int) = (i : Int)) := ⟨by rw [show Int.tmod (d0' : Int) (K : Int) = ((d0' % K : Nat) : Int) from (Int.ofNat_tmod _ _).symm, hi]⟩
    have hK0 : ¬ ((K : Int) = 0) := by omega
    have hj3 : Ev (fun k => abz.j3 k true L (i : Int) y L2 false p (K : Int) (M : Int)) true := by
      refine Ev.step (f := fun k => (alz.f k p (K : Int) (M : Int) L2 (i : Int) r).bind fun bt404 => (if true = true then ((a9z.f k p (K : Int) (M : Int) L2).bind fun t408 => (if t408 = true then ((aDz.f k (data.set i y) (data.set i y)).bind fun t414 => (if t414 = true then (if bt404.2 = 0 then ((aDz.f k bt404.1 L).bind fun t415 => (some t415)) else (some false)) else (some false))) else (some false))) else (some false))) (fun k => ?_) ?_
      · rw [abz.j3, if_neg (by decide), Option.bind_some, if_pos (by omega), if_pos (by omega), Int.toNat_natCast, ht1, Option.bind_some, if_pos (by simp only [List.length_nil]; omega), Option.bind_some, List.nil_append, if_pos (by omega), if_pos (by omega), if_pos (by omega), hrow, Int.toNat_natCast]
        simp only [if_pos (show (K : Int) ≤ (L2.length : Int) by omega), ht2]
      · refine Ev.bind hback (Ev.congr (fun k => by rw [if_pos rfl]) (Ev.bind hver (Ev.congr (fun k => by rw [if_pos rfl]) (Ev.bind hsame1 (Ev.congr (fun k => by rw [if_pos rfl, if_pos rfl]) (Ev.bind hsame2 (Ev.now _)))))))
    have hloop := change_loop L i S l2 (d0' : Int) (K : Int) (M : Int) p true (by omega) (by rw [hrow]; exact hrb.1) (by omega) (by
      rw [hyd]
      refine Ev.bind hup (Ev.congr (fun k => ?_) hj3)
      rw [if_pos rfl, hLl, hLl2, show (((K + M : Nat) : Int) != ((K + M : Nat) : Int)) = false by simp]) S 0 (by omega)
    refine Ev.rounds (Ev.bind haw ?_)
    refine Ev.congr (fun k => by rw [if_neg h300, decide_eq_false hneg]) ?_
    refine Ev.step (f := fun k => (bVz.f k p (K : Int) (M : Int) l).bind fun bt375 => (if bt375.2 = 0 then (abz.j1 k true bt375.1 ((bt375.1.length : Int) != (wrap64 ((K : Int) + (M : Int)))) (d0' : Int) l2 p (K : Int) (M : Int)) else (abz.j1 k true bt375.1 true (d0' : Int) l2 p (K : Int) (M : Int)))) (fun k => by rw [abz.j0, if_neg (by decide), hs, Option.bind_some]) ?_
    refine Ev.bind henc ?_
    refine Ev.congr (f := fun k => abz.j1 k true L false (d0' : Int) l2 p (K : Int) (M : Int)) (fun k => ?_) ?_
    · dsimp only
      rw [if_pos rfl, hLl, W1.out, show (((K + M : Nat) : Int) != ((K + M : Nat) : Int)) = false by simp]
    · refine Ev.step (fun k => ?_) hloop
      rw [abz.j1, if_neg (by decide), if_neg hK0, F1.out]
      rfl
end Go.Proofs.YtpdakdcmahlghaaGreat.Pure
