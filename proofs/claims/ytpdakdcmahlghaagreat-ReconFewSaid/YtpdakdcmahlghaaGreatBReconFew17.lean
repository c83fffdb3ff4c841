-- Joined by this work's own program (wip/tools/bundle.py) out of its texts: what this claim uses of them. Not trusted: Lean checks it.
import Derived.Test.YtpdakdcmahlghaaGreatBReconFew16
section
namespace Go.Proofs.YtpdakdcmahlghaaGreat.XCo
open Go.RowKit Go.Proofs.YtpdakdcmahlghaaGreatW.PrintWords Go.Proofs.YtpdakdcmahlghaaGreatW.PrintLast Go.Proofs.YtpdakdcmahlghaaGreatW.PrintMore
attribute [local go_sem] axz ayz aDz aEz apz aqz azz aAz
set_option linter.unusedVariables false
set_option linter.unusedSimpArgs false
def trueN : List Bool → Nat
 | [] => 0
 | b :: l => (if b = true then 1 else 0) + trueN l
theorem trueN_set : ∀ (l : List Bool) (i : Nat), l[i]? = some true → trueN (l.set i false) + 1 = trueN l
 | [], i, h => by simp at h
 | b :: l, 0, h => by
  have : b = true := by simpa using h
  subst this
  show (if false = true then 1 else 0) + trueN l + 1 = (if true = true then 1 else 0) + trueN l
  simp; omega
 | b :: l, i + 1, h => by
  have := trueN_set l i (by simpa using h)
  show (if b = true then 1 else 0) + trueN (l.set i false) + 1 = (if b = true then 1 else 0) + trueN l
  omega
theorem trueN_pos : ∀ (l : List Bool), 0 < trueN l → ∃ j : Nat, l[j]? = some true
 | [], h => by simp [trueN] at h
 | true :: l, _ => ⟨0, rfl⟩
 | false :: l, h => by
  obtain ⟨j, hj⟩ := trueN_pos l (by simpa [trueN] using h)
  exact ⟨j + 1, by simpa using hj⟩
theorem c5z : ∀ n : Nat, trueN (List.replicate n true) = n
 | 0 => rfl
 | n + 1 => by
  rw [List.replicate_succ, trueN, c5z n]
  simp; omega
theorem dxz : ∀ (i : Nat) (l : List (List Int)) (hv : List Bool), l.length = hv.length → (thereF i l hv).length = trueN hv
 | i, [], [], _ => rfl
 | i, b :: l, h :: hv, e => by
  have := dxz (i + 1) l hv (by simpa using e)
  rw [thereF, trueN]
  by_cases hh : h = true
  ·rw [if_pos hh, if_pos hh, List.length_cons, this]; omega
  ·rw [if_neg hh, if_neg hh, this]; omega
theorem lost_l2 (n L s : Nat) (hn : n ≤ 1000) (hs : s ≤ 1000) (hv : List Bool) (hl : hv.length = n) (t : Nat) (ht : t ≤ 1000) (Q : List Bool → Prop)
  (H : ∀ i, i < n → hv[i]? = some true → ∃ R, Q R ∧ Ev (fun k => aez.l1 k (n : Int) (L : Int) (s : Int) (hv.set i false) (((i + s) % n : Nat) : Int) ((t + 1 : Nat) : Int)) R) :
  ∀ (d i : Nat), i < n → hv[(i + d) % n]? = some true → ∃ R, Q R ∧ Ev (fun k => aez.l2 k (n : Int) (L : Int) (s : Int) hv (i : Int) (t : Int)) R := by
 intro d
 induction d with
 | zero =>
  intro i hi h
  rw [Nat.add_zero, Nat.mod_eq_of_lt hi] at h
  obtain ⟨R, hQ, hE⟩ := H i hi h
  refine ⟨R, hQ, Ev.step (fun k => ?_) hE⟩
  have hrd : rdOf false hv (i : Int) = true := by
   unfold rdOf
   rw [Int.toNat_natCast, List.getD_eq_getElem?_getD, h]; rfl
  rw [aez.l2, if_pos (by omega), if_pos (by omega), if_pos hrd, if_neg (by omega), Int.toNat_natCast, show (i : Int) + (s : Int) = ((i + s : Nat) : Int) by omega, w64 (x := ((i + s : Nat) : Int)) (by omega) (by omega), bRz (by omega), show Int.tmod ((i + s : Nat) : Int) (n : Int) = (((i + s) % n : Nat) : Int) from (Int.ofNat_tmod _ _).symm]
 | succ d ih =>
  intro i hi h
  obtain ⟨b, hb⟩ : ∃ b, hv[i]? = some b := ⟨_, List.getElem?_eq_getElem (by omega)⟩
  have hrd : rdOf false hv (i : Int) = b := by
   unfold rdOf
   rw [Int.toNat_natCast, List.getD_eq_getElem?_getD, hb]; rfl
  cases b with
  | true =>
   obtain ⟨R, hQ, hE⟩ := H i hi hb
   refine ⟨R, hQ, Ev.step (fun k => ?_) hE⟩
   rw [aez.l2, if_pos (by omega), if_pos (by omega), if_pos hrd, if_neg (by omega), Int.toNat_natCast, show (i : Int) + (s : Int) = ((i + s : Nat) : Int) by omega, w64 (x := ((i + s : Nat) : Int)) (by omega) (by omega), bRz (by omega), show Int.tmod ((i + s : Nat) : Int) (n : Int) = (((i + s) % n : Nat) : Int) from (Int.ofNat_tmod _ _).symm]
  | false =>
   have hm : ((i + 1) % n + d) % n = (i + (d + 1)) % n := by
    rw [Nat.mod_add_mod]; congr 1; omega
   obtain ⟨R, hQ, hE⟩ := ih ((i + 1) % n) (Nat.mod_lt _ (by omega)) (by rw [hm]; exact h)
   refine ⟨R, hQ, Ev.step (fun k => ?_) hE⟩
   rw [aez.l2, if_pos (by omega), if_pos (by omega), hrd, if_neg (by decide), if_neg (by omega), bRz (by omega), show Int.tmod ((i + 1 : Nat) : Int) (n : Int) = (((i + 1) % n : Nat) : Int) from (Int.ofNat_tmod _ _).symm]
theorem lost_l1 (n L s : Nat) (hn0 : 0 < n) (hn : n ≤ 1000) (hs : s ≤ 1000) : ∀ (m t : Nat) (hv : List Bool) (i : Nat), t + m = min L n → hv.length = n → trueN hv + t = n → i < n →
  ∃ R, (R.length = n ∧ trueN R + min L n = n) ∧ Ev (fun k => aez.l1 k (n : Int) (L : Int) (s : Int) hv (i : Int) (t : Int)) R := by
 intro m
 induction m with
 | zero =>
  intro t hv i hm hl hc hi
  refine ⟨hv, ⟨hl, by omega⟩, ?_⟩
  have he : Ev (fun k => aez.j2 k (n : Int) (L : Int) (s : Int) hv (i : Int) (t : Int) false) hv := by
   refine Ev.step (f := fun _ => some hv) (fun k => ?_) (Ev.now _)
   rw [aez.j2, if_neg (by decide)]
  refine Ev.step (fun k => ?_) he
  rw [aez.l1]
  by_cases h : (t : Int) < (L : Int)
  ·rw [if_pos h, decide_eq_false (by omega)]
  ·rw [if_neg h]
 | succ m ih =>
  intro t hv i hm hl hc hi
  obtain ⟨j, hj⟩ := trueN_pos hv (by omega)
  have hjn : j < n := by
   have := (List.getElem?_eq_some_iff.1 hj).1
   omega
  obtain ⟨R, hQ, hE⟩ := lost_l2 n L s hn hs hv hl t (by omega) (fun R => R.length = n ∧ trueN R + min L n = n) (fun i' hi' hb => ih (t + 1) (hv.set i' false) ((i' + s) % n) (by omega) (by rw [List.length_set]; exact hl) (by have := trueN_set hv i' hb; omega) (Nat.mod_lt _ hn0)) (j + n - i) i hi
   (by rw [show i + (j + n - i) = j + n by omega, Nat.add_mod_right, Nat.mod_eq_of_lt hjn]; exact hj)
  have he : Ev (fun k => aez.j2 k (n : Int) (L : Int) (s : Int) hv (i : Int) (t : Int) true) R := by
   refine Ev.step (fun k => ?_) hE
   rw [aez.j2, if_pos rfl]
  refine ⟨R, hQ, Ev.step (fun k => ?_) he⟩
  rw [aez.l1, if_pos (by omega), decide_eq_true (by omega)]
theorem lost_l0 (n L f s : Nat) (hn : n ≤ 1000) (R : List Bool) (h : Ev (fun k => aez.l1 k (n : Int) (L : Int) (s : Int) (List.replicate n true) ((f % n : Nat) : Int) ((0 : Nat) : Int)) R) : ∀ (m i : Nat), i + m = n →
  0 < n → Ev (fun k => aez.l0 k (n : Int) (L : Int) (f : Int) (s : Int) (List.replicate i true) (i : Int)) R := by
 intro m
 induction m with
 | zero =>
  intro i hi h0
  obtain rfl : i = n := by omega
  refine Ev.step (fun k => ?_) h
  rw [aez.l0, if_neg (by omega), if_neg (by omega), show Int.tmod (f : Int) (i : Int) = ((f % i : Nat) : Int) from (Int.ofNat_tmod _ _).symm]
  rfl
 | succ m ih =>
  intro i hi h0
  refine Ev.step (fun k => ?_) (ih (i + 1) (by omega) h0)
  rw [aez.l0, if_pos (by omega), if_pos (by rw [List.length_replicate]; omega), bRz (by omega), ← List.replicate_succ']
theorem lost_ev (n L f s : Nat) (hn0 : 0 < n) (hn : n ≤ 1000) (hs : s ≤ 1000) : ∃ hv, (hv.length = n ∧ trueN hv + min L n = n) ∧ Ev (fun k => aez.f k (n : Int) (L : Int) (f : Int) (s : Int)) hv := by
 obtain ⟨R, hQ, hE⟩ := lost_l1 n L s hn0 hn hs (min L n) 0 (List.replicate n true) (f % n) (by omega) (by simp) (by rw [c5z]; omega) (Nat.mod_lt _ hn0)
 exact ⟨R, hQ, Ev.congr (fun _ => rfl) (lost_l0 n L f s hn R hE n 0 (by omega) hn0)⟩
theorem fine_true (p : Int) (K M : Nat) (L : List (List Int)) (hmay : aiz.f p (K : Int) (M : Int) = some true) (hb : K + M ≤ 1000) (hL : L.length = K + M) : bnz.f p (K : Int) (M : Int) L = some true := by
 unfold bnz.f
 rw [hmay, Option.bind_some, if_pos rfl, hL, w64 (by omega) (by omega), show (((K + M : Nat) : Int) == (K : Int) + (M : Int)) = true by simp]
theorem data_few (k : Nat) (p : Int) (K M : Nat) (L : List (List Int)) (hv : List Bool) (hmay : aiz.f p (K : Int) (M : Int) = some true) (hb : K + M ≤ 1000) (hL : L.length = K + M) (hv1 : hv.length = K + M) (h : trueN hv < K) : aoz.f k p (K : Int) (M : Int) L hv = some ([], 5) := by
 unfold aoz.f
 rw [fine_true p K M L hmay hb hL, Option.bind_some, if_pos rfl, if_pos (by omega), dxz 0 L hv (by omega), Int.toNat_natCast, if_pos h]
theorem reb_few (k : Nat) (p : Int) (K M : Nat) (L : List (List Int)) (hv : List Bool) (hmay : aiz.f p (K : Int) (M : Int) = some true) (hb : K + M ≤ 1000) (hL : L.length = K + M) (hv1 : hv.length = K + M) (h : trueN hv < K) : aOz.f k p (K : Int) (M : Int) L hv = some ([], 5) := by
 unfold aOz.f
 rw [data_few k p K M L hv hmay hb hL hv1 h, Option.bind_some, if_neg (by decide)]
theorem u8_wf {x : Int} (h : (Lit.int .u8 x).wf = true) : 0 ≤ x ∧ x ≤ 255 := by
 simp [Lit.wf, IntKind.has] at h
 have h1 : IntKind.min .u8 = 0 := rfl
 have h2 : IntKind.max .u8 = 255 := rfl
 omega
theorem xor_zero : ∀ b, b < 13 → Go.bits .xor .i64 0 ((b : Nat) : Int) = (b : Int) := by decide +kernel
theorem enc_of (p : Int) (K M : Nat) (b : List Int) (hmay : aiz.f p (K : Int) (M : Int) = some true) (hn : b.length ≤ 4096) (data : List (List Int)) (q1 : data.length = K) (q2 : ∀ r, r ∈ data → r.length = sizeN p K b.length) (q4 : Ev (fun k => aIz.f k p (K : Int) (M : Int) b) (data, 0)) :
  Ev (fun k => bFz.f k p (K : Int) (M : Int) b) (data ++ parV (sizeN p K b.length) p K M data, 0) := by
 obtain ⟨p1, p2, k1, k2, m1, m2⟩ := bEz hmay
 have h2 := par_ev p K M (sizeN p K b.length) data hmay q1 (by have := sizeN_le p K b.length (by omega) (by omega) hn; omega) (sizeN_even p K b.length) q2
 have hl := parV_len (sizeN p K b.length) p K M data hmay
 refine Ev.bind q4 ?_
 refine Ev.congr (f := fun k => (alz.f k p (K : Int) (M : Int) data).bind fun t => if data.length + t.1.length < 5864062014805 then some (data ++ t.1, t.2) else none) (fun k => by dsimp only; rw [if_pos rfl]) ?_
 refine Ev.bind h2 ?_
 refine Ev.congr (fun k => ?_) (Ev.now _)
 dsimp only
 rw [if_pos (by omega)]
end Go.Proofs.YtpdakdcmahlghaaGreat.XCo
end
