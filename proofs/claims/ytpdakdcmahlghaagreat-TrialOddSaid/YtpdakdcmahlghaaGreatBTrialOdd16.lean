-- Joined by this work's own program (wip/tools/bundle.py) out of its texts: what this claim uses of them. Not trusted: Lean checks it.
import Derived.Lib.SlBytesConst
import Derived.Test.YtpdakdcmahlghaaGreatBTrialOdd15
section
namespace Go.Proofs.YtpdakdcmahlghaaGreat.XCo
open Go.RowKit Go.Proofs.YtpdakdcmahlghaaGreatW.PrintWords Go.Proofs.YtpdakdcmahlghaaGreatW.PrintLast Go.Proofs.YtpdakdcmahlghaaGreatW.PrintMore
attribute [local go_sem] ayz azz aJz aKz auz avz aAz aBz
set_option linter.unusedVariables false
set_option linter.unusedSimpArgs false
theorem eqb_loop (x y : List Int) (n : Nat) (hx : x.length = n) (hy : y.length = n) (hn : n ≤ 100000000) : ∀ (m i : Nat), i + m = n → Ev (fun k => amz.l0 k x y (n : Int) (i : Int)) (decide (x.drop i = y.drop i)) := by
 intro m
 induction m with
 | zero =>
  intro i hi
  refine Ev.step (f := fun _ => some true) (fun k => ?_) ?_
  ·rw [amz.l0, if_neg (by omega)]
  ·rw [List.drop_of_length_le (by omega), List.drop_of_length_le (by omega)]
   exact Ev.now _
 | succ m ih =>
  intro i hi
  have hix : i < x.length := by omega
  have hiy : i < y.length := by omega
  have e1 : rd x (i : Int) = x[i] := by unfold rd; rw [Int.toNat_natCast, List.getD_eq_getElem?_getD, List.getElem?_eq_getElem hix]; rfl
  have e2 : rd y (i : Int) = y[i] := by unfold rd; rw [Int.toNat_natCast, List.getD_eq_getElem?_getD, List.getElem?_eq_getElem hiy]; rfl
  have d1 := List.drop_eq_getElem_cons hix
  have d2 := List.drop_eq_getElem_cons hiy
  by_cases h : x[i] = y[i]
  ·refine Ev.step (f := fun k => amz.l0 k x y (n : Int) ((i + 1 : Nat) : Int)) (fun k => ?_) ?_
   ·rw [amz.l0, if_pos (by omega), if_pos (by omega), if_pos (by omega), if_pos (by omega), e1, e2, if_pos h, cZz (by omega)]
   ·have := ih (i + 1) (by omega)
    rw [d1, d2]
    rw [show decide (x[i] :: x.drop (i + 1) = y[i] :: y.drop (i + 1)) = decide (x.drop (i + 1) = y.drop (i + 1)) by rw [h]; simp only [List.cons.injEq, true_and]]
    exact this
  ·refine Ev.step (f := fun _ => some false) (fun k => ?_) ?_
   ·rw [amz.l0, if_pos (by omega), if_pos (by omega), if_pos (by omega), if_pos (by omega), e1, e2, if_neg h]
   ·rw [d1, d2, decide_eq_false (by intro hh; injection hh with h1 _; exact h h1)]
    exact Ev.now _
theorem eqb_ev (x y : List Int) (hx : x.length ≤ 100000000) : Ev (fun k => amz.f k x y) (decide (x = y)) := by
 by_cases hl : x.length = y.length
 ·have h := eqb_loop x y x.length rfl hl.symm hx x.length 0 (by omega)
  refine Ev.congr (fun k => ?_) (by simpa using h)
  unfold amz.f
  rw [if_pos (by omega)]
 ·refine Ev.congr (f := fun _ => some false) (fun k => ?_) ?_
  ·unfold amz.f
   rw [if_neg (by omega)]
  ·rw [decide_eq_false (by rintro rfl; exact hl rfl)]
   exact Ev.now _
theorem eqRows_dec : ∀ (p q : List (List Int)), (∀ x, x ∈ p → x.length ≤ 100000000) → Ev (fun k => eqRows k p q) (decide (p = q))
 | [], [], _ => by simp only [eqRows]; exact Ev.now _
 | [], _ :: _, _ => by simp only [eqRows]; exact Ev.now _
 | _ :: _, [], _ => by simp only [eqRows]; exact Ev.now _
 | x :: xs, y :: ys, h => by
  simp only [eqRows]
  refine Ev.bind (eqb_ev x y (h x (List.mem_cons_self ..))) ?_
  by_cases hxy : x = y
  ·refine Ev.congr (f := fun k => eqRows k xs ys) (fun k => by rw [if_pos (decide_eq_true hxy)]) ?_
   have := eqRows_dec xs ys (fun z hz => h z (List.mem_cons_of_mem _ hz))
   simpa [hxy] using this
  ·refine Ev.congr (f := fun _ => some false) (fun k => by rw [decide_eq_false hxy, if_neg (by decide)]) ?_
   rw [decide_eq_false (by intro hh; injection hh with h1 _; exact hxy h1)]
   exact Ev.now _
theorem eqFunc_dec (p q : List (List Int)) (hl : p.length ≤ 1000000) (h : ∀ x, x ∈ p → x.length ≤ 100000000) : Ev (fun k => eqFunc k p q) (decide (p = q)) := by
 by_cases hpq : p.length = q.length
 ·refine Ev.congr (fun k => ?_) (eqRows_dec p q h)
  unfold eqFunc
  rw [if_pos hpq, if_pos hl]
 ·refine Ev.congr (f := fun _ => some false) (fun k => ?_) ?_
  ·unfold eqFunc
   rw [if_neg hpq]
  ·rw [decide_eq_false (by rintro rfl; exact hpq rfl)]
   exact Ev.now _
theorem ver_dec (p : Int) (K M L : Nat) (data Q : List (List Int)) (hmay : agz.f p (K : Int) (M : Int) = some true) (hK : data.length = K) (hL : L ≤ 1000000) (hd : L % wN (pbits p) = 0) (hr : ∀ r, r ∈ data → r.length = L) (hQ : Q.length = M) :
  Ev (fun k => aSz.f k p (K : Int) (M : Int) (data ++ Q)) (decide (parV L p K M data = Q)) := by
 have h1 := par_ev p K M L data hmay hK hL hd hr
 have hl := dQz L p K M data hmay
 obtain ⟨p1, p2, k1, k2, m1, m2⟩ := bAz hmay
 have h2 := eqFunc_dec (parV L p K M data) Q (by omega) (fun x hx => by
  unfold parV at hx
  obtain ⟨c, -, rfl⟩ := List.mem_map.1 hx
  rw [dotV_len hd hr]; omega)
 have ht : (data ++ Q).take K = data := by rw [← hK, List.take_left']; rfl
 have hdr : (data ++ Q).drop K = Q := by rw [← hK, List.drop_left']; rfl
 refine Ev.congr (f := fun k => (aoz.f k p (K : Int) (M : Int) data).bind fun t => if t.2 = 0 then eqFunc k t.1 Q else some false) (fun k => ?_) ?_
 ·unfold aSz.f
  rw [hmay, Option.bind_some, if_pos rfl, if_pos (by rw [List.length_append, hK, hQ]; omega), Int.toNat_natCast, ht, hdr]
 ·refine Ev.bind h1 ?_
  refine Ev.congr (fun k => ?_) h2
  rw [if_pos rfl]
theorem gp_pos8 (a : Nat) (h0 : a ≠ 0) (h1 : a < 256) : gp 7 285 a 254 ≠ 0 := by
 intro h
 have := gf8.crz (a := a) h1 h0
 rw [show (2 : Nat) ^ (7 + 1) - 2 = 254 from rfl, h, Gf.cWz] at this
 cases this
theorem gp_pos16 (e a : Nat) (he : e = 65534) (h0 : a ≠ 0) (h1 : a < 65536) : gp 15 69643 a e ≠ 0 := by
 intro h
 have := gf16.crz (a := a) h1 h0
 rw [show (2 : Nat) ^ (15 + 1) - 2 = e by rw [he], h, Gf.cWz] at this
 cases this
theorem ginv_pos {wb : Int} (hw : wb = 8 ∨ wb = 16) (a : Int) (h0 : 0 < a) (h1 : a < fsize wb) : 0 < ginv wb a := by
 have hin : inF wb a = true := by unfold inF; simp; omega
 have hne : (a != 0) = true := by simp; omega
 have hfs : (0 : Int) ≤ fsize wb - 2 := by rcases hw with rfl | rfl <;> decide
 unfold ginv
 rw [hin, hne, Bool.true_and, if_pos rfl]
 unfold gpow
 rw [hin, decide_eq_true hfs, Bool.true_and, if_pos rfl]
 rcases hw with rfl | rfl
 ·have := gp_pos8 a.toNat (by omega) (by rw [fsize8] at h1; omega)
  show (0 : Int) < ((gpwN 8 a.toNat (fsize 8 - 2).toNat : Nat) : Int)
  have e : gpwN 8 a.toNat (fsize 8 - 2).toNat = gp 7 285 a.toNat 254 := by unfold gpwN; rw [if_pos rfl]; rfl
  rw [e]; omega
 ·obtain ⟨e, he⟩ : ∃ e, e = (fsize 16 - 2).toNat := ⟨_, rfl⟩
  rw [← he]
  have := gp_pos16 e a.toNat (by rw [he]; rfl) (by omega) (by rw [fsize16] at h1; omega)
  have e2 : gpwN 16 a.toNat e = gp 15 69643 a.toNat e := by unfold gpwN; rw [if_neg (by decide)]
  rw [e2]; omega
def posOk (k : Nat) (l : List (List Int)) : Bool := match l[0]? with | some c => decide (c.length = k) && c.all (fun x => decide (0 < x)) | none => false
theorem posOk_of {k : Nat} {l : List (List Int)} (h : posOk k l = true) : ∃ c, l[0]? = some c ∧ c.length = k ∧ ∀ x, x ∈ c → 0 < x := by
 unfold posOk at h
 split at h
 ·rename_i c hc
  simp only [Bool.and_eq_true, decide_eq_true_eq, List.all_eq_true] at h
  exact ⟨c, hc, h.1, h.2⟩
 ·cases h
theorem sp_1_1 : posOk 1 ((sysM 8 1 1).drop 1) = true := by kernel_rfl
theorem sp_1_2 : posOk 1 ((sysM 8 1 2).drop 1) = true := by kernel_rfl
theorem sp_1_3 : posOk 1 ((sysM 8 1 3).drop 1) = true := by kernel_rfl
theorem sp_1_4 : posOk 1 ((sysM 8 1 4).drop 1) = true := by kernel_rfl
theorem sp_2_1 : posOk 2 ((sysM 8 2 1).drop 2) = true := by kernel_rfl
theorem sp_2_2 : posOk 2 ((sysM 8 2 2).drop 2) = true := by kernel_rfl
theorem sp_2_3 : posOk 2 ((sysM 8 2 3).drop 2) = true := by kernel_rfl
theorem sp_2_4 : posOk 2 ((sysM 8 2 4).drop 2) = true := by kernel_rfl
theorem sp_3_1 : posOk 3 ((sysM 8 3 1).drop 3) = true := by kernel_rfl
theorem sp_3_2 : posOk 3 ((sysM 8 3 2).drop 3) = true := by kernel_rfl
theorem sp_3_3 : posOk 3 ((sysM 8 3 3).drop 3) = true := by kernel_rfl
theorem sp_3_4 : posOk 3 ((sysM 8 3 4).drop 3) = true := by kernel_rfl
theorem sp_4_1 : posOk 4 ((sysM 8 4 1).drop 4) = true := by kernel_rfl
theorem sp_4_2 : posOk 4 ((sysM 8 4 2).drop 4) = true := by kernel_rfl
theorem sp_4_3 : posOk 4 ((sysM 8 4 3).drop 4) = true := by kernel_rfl
theorem sp_4_4 : posOk 4 ((sysM 8 4 4).drop 4) = true := by kernel_rfl
theorem sp_5_1 : posOk 5 ((sysM 8 5 1).drop 5) = true := by kernel_rfl
theorem sp_5_2 : posOk 5 ((sysM 8 5 2).drop 5) = true := by kernel_rfl
theorem sp_5_3 : posOk 5 ((sysM 8 5 3).drop 5) = true := by kernel_rfl
theorem sp_5_4 : posOk 5 ((sysM 8 5 4).drop 5) = true := by kernel_rfl
theorem sp_6_1 : posOk 6 ((sysM 8 6 1).drop 6) = true := by kernel_rfl
theorem sp_6_2 : posOk 6 ((sysM 8 6 2).drop 6) = true := by kernel_rfl
theorem sp_6_3 : posOk 6 ((sysM 8 6 3).drop 6) = true := by kernel_rfl
theorem sp_6_4 : posOk 6 ((sysM 8 6 4).drop 6) = true := by kernel_rfl
theorem sp_7_1 : posOk 7 ((sysM 8 7 1).drop 7) = true := by kernel_rfl
theorem sp_7_2 : posOk 7 ((sysM 8 7 2).drop 7) = true := by kernel_rfl
theorem sp_7_3 : posOk 7 ((sysM 8 7 3).drop 7) = true := by kernel_rfl
theorem sp_7_4 : posOk 7 ((sysM 8 7 4).drop 7) = true := by kernel_rfl
theorem sp_8_1 : posOk 8 ((sysM 8 8 1).drop 8) = true := by kernel_rfl
theorem sp_8_2 : posOk 8 ((sysM 8 8 2).drop 8) = true := by kernel_rfl
theorem sp_8_3 : posOk 8 ((sysM 8 8 3).drop 8) = true := by kernel_rfl
theorem sp_8_4 : posOk 8 ((sysM 8 8 4).drop 8) = true := by kernel_rfl
theorem sp (K M : Nat) (h1 : 1 ≤ K) (h2 : K ≤ 8) (h3 : 1 ≤ M) (h4 : M ≤ 4) : posOk K ((sysM 8 K M).drop K) = true := by
 have hk : K = 1 ∨ K = 2 ∨ K = 3 ∨ K = 4 ∨ K = 5 ∨ K = 6 ∨ K = 7 ∨ K = 8 := by omega
 have hm : M = 1 ∨ M = 2 ∨ M = 3 ∨ M = 4 := by omega
 rcases hk with rfl | rfl | rfl | rfl | rfl | rfl | rfl | rfl <;> rcases hm with rfl | rfl | rfl | rfl
 ·exact sp_1_1
 ·exact sp_1_2
 ·exact sp_1_3
 ·exact sp_1_4
 ·exact sp_2_1
 ·exact sp_2_2
 ·exact sp_2_3
 ·exact sp_2_4
 ·exact sp_3_1
 ·exact sp_3_2
 ·exact sp_3_3
 ·exact sp_3_4
 ·exact sp_4_1
 ·exact sp_4_2
 ·exact sp_4_3
 ·exact sp_4_4
 ·exact sp_5_1
 ·exact sp_5_2
 ·exact sp_5_3
 ·exact sp_5_4
 ·exact sp_6_1
 ·exact sp_6_2
 ·exact sp_6_3
 ·exact sp_6_4
 ·exact sp_7_1
 ·exact sp_7_2
 ·exact sp_7_3
 ·exact sp_7_4
 ·exact sp_8_1
 ·exact sp_8_2
 ·exact sp_8_3
 ·exact sp_8_4
theorem cAz : ∀ b, b < 13 → Go.bits .xor .i64 0 ((b : Nat) : Int) = (b : Int) := by decide +kernel
theorem xor_apart : ∀ k, k < 9 → ∀ b, b < k → 0 < Go.bits .xor .i64 ((k : Nat) : Int) ((b : Nat) : Int) ∧ Go.bits .xor .i64 ((k : Nat) : Int) ((b : Nat) : Int) < 256 := by decide +kernel
theorem coef_pos (p : Int) (K M : Nat) (hmay : agz.f p (K : Int) (M : Int) = some true) : ∃ c, (parM p K M)[0]? = some c ∧ c.length = K ∧ ∀ x, x ∈ c → 0 < x := by
 obtain ⟨p1, p2, k1, k2, m1, m2⟩ := bAz hmay
 have hp : p = 1 ∨ p = 2 ∨ p = 3 ∨ p = 4 ∨ p = 5 ∨ p = 6 := by omega
 have run0 : ∀ a n : Nat, 1 ≤ n → ∃ l, runL a n = (a : Int) :: l := fun a n hn => by
  obtain ⟨n, rfl⟩ : ∃ m, n = m + 1 := ⟨n - 1, by omega⟩
  refine ⟨(List.range n).map fun i => ((a + (i + 1) : Nat) : Int), ?_⟩
  unfold runL
  rw [List.range_succ_eq_map, List.map_cons, List.map_map]
  rfl
 rcases hp with rfl | rfl | rfl | rfl | rfl | rfl
 ·refine ⟨_, ones1 K M (by omega) (by omega) (by omega) (by omega), by simp, fun x hx => ?_⟩
  have := List.eq_of_mem_replicate hx
  omega
 ·obtain ⟨l, hl⟩ := run0 0 M (by omega)
  refine ⟨(runL M K).map fun b => ginv 16 (Go.bits .xor .i64 0 b), ?_, by rw [List.length_map, aRz], fun x hx => ?_⟩
  ·unfold parM
   rw [if_neg (by decide), if_pos rfl, hl]
   rfl
  ·obtain ⟨b, hb, rfl⟩ := List.mem_map.1 hx
   unfold runL at hb
   obtain ⟨i, hi, rfl⟩ := List.mem_map.1 hb
   have hi := List.mem_range.1 hi
   rw [cAz (M + i) (by omega)]
   exact ginv_pos (.inr rfl) _ (by omega) (by rw [fsize16]; omega)
 ·have hm3 : M ≤ 3 := by
   have h : agz.f 3 (K : Int) (M : Int) = (if (K : Int) ≥ 1 then (if (K : Int) ≤ 8 then (if (M : Int) ≥ 1 then some (decide ((M : Int) ≤ 3)) else some false) else some false) else some false) := rfl
   rw [h, if_pos (by omega), if_pos (by omega), if_pos (by omega)] at hmay
   have h3 : (M : Int) ≤ 3 := by simpa using hmay
   omega
  refine ⟨_, ones3 K M (by omega) (by omega) (by omega) hm3, by simp, fun x hx => ?_⟩
  have := List.eq_of_mem_replicate hx
  omega
 ·obtain ⟨l, hl⟩ := run0 K M (by omega)
  refine ⟨(runL 0 K).map fun b => ginv 8 (Go.bits .xor .i64 (K : Int) b), ?_, by rw [List.length_map, aRz], fun x hx => ?_⟩
  ·unfold parM
   rw [if_neg (by decide), if_neg (by decide), if_neg (by decide), if_pos rfl, hl]
   rfl
  ·obtain ⟨b, hb, rfl⟩ := List.mem_map.1 hx
   unfold runL at hb
   obtain ⟨i, hi, rfl⟩ := List.mem_map.1 hb
   have hi := List.mem_range.1 hi
   rw [Nat.zero_add]
   have := xor_apart K (by omega) i hi
   exact ginv_pos (.inl rfl) _ this.1 (by rw [fsize8]; exact this.2)
 ·obtain ⟨c, h1, h2, h3⟩ := posOk_of (sp K M (by omega) (by omega) (by omega) (by omega))
  exact ⟨c, h1, h2, h3⟩
 ·obtain ⟨c, h1, h2, h3⟩ := posOk_of (sp K M (by omega) (by omega) (by omega) (by omega))
  exact ⟨c, h1, h2, h3⟩
theorem Ev.uniq {α : Type} {g : Nat → Option α} {a b : α} (h : Ev g a) (k : Ev g b) : a = b := by
 obtain ⟨n, hn⟩ := h
 obtain ⟨m, hm⟩ := k
 have h1 := hn (max n m) (Nat.le_max_left ..)
 have h2 := hm (max n m) (Nat.le_max_right ..)
 exact Option.some.inj (h1.symm.trans h2)
def mayQ (q : Int) (K M : Nat) : Bool := agz.f q (K : Int) (M : Int) == some true
def verB (S : Nat) (q : Int) (K M : Nat) (L : List (List Int)) : Bool := decide (parV S q K M (L.take K) = L.drop K)
def longB (S : Nat) (q : Int) : Bool := decide (0 < S) && decide (S % unitN q = 0)
def passB (S : Nat) (q : Int) (K M : Nat) (L : List (List Int)) : Bool := mayQ q K M && (longB S q && verB S q K M L)
theorem six {q : Int} (h1 : 1 ≤ q) (h2 : q ≤ 6) : q = 1 ∨ q = 2 ∨ q = 3 ∨ q = 4 ∨ q = 5 ∨ q = 6 := by omega
theorem unit_even {q : Int} (h1 : 1 ≤ q) (h2 : q ≤ 6) {S : Nat} (h : S % unitN q = 0) : S % wN (pbits q) = 0 := by
 have one : ∀ p : Int, wN (pbits p) = 1 → S % wN (pbits p) = 0 := fun p hp => by rw [hp]; exact Nat.mod_one S
 rcases six h1 h2 with rfl | rfl | rfl | rfl | rfl | rfl
 ·exact one 1 rfl
 ·have e1 : wN (pbits 2) = 2 := rfl
  have e2 : S % 8 = 0 := h
  rw [e1]
  omega
 ·exact one 3 rfl
 ·exact one 4 rfl
 ·exact one 5 rfl
 ·exact one 6 rfl
theorem size_unit {q : Int} (h1 : 1 ≤ q) (h2 : q ≤ 6) : sizeN q 8 0 = unitN q ∧ agz.f q ((8 : Nat) : Int) ((1 : Nat) : Int) = some true := by
 rcases six h1 h2 with rfl | rfl | rfl | rfl | rfl | rfl <;> exact ⟨rfl, rfl⟩
theorem long_ev (S : Nat) (q K : Int) (h1 : 1 ≤ q) (h2 : q ≤ 6) (L : List (List Int)) (h0 : 0 < L.length) (hS : (rd_L1 L 0).length = S) : Ev (fun k => aUz.f k L K q) (longB S q) := by
 obtain ⟨e1, e2⟩ := size_unit h1 h2
 have hs := size_ev q 8 1 0 e2 (by omega)
 rw [e1] at hs
 have hu := dlz q
 refine Ev.congr (f := fun k => (arz.f k q ((8 : Nat) : Int) ((1 : Nat) : Int) ((0 : Nat) : Int)).bind fun bt => if (S : Int) > 0 then (if bt.1 = 0 then none else some (((S : Int) % bt.1) == 0)) else some false) (fun k => ?_) ?_
 ·unfold aUz.f
  rw [if_pos (by omega), hS]
  rfl
 ·refine Ev.bind hs ?_
  refine Ev.congr (f := fun _ => some (longB S q)) (fun k => ?_) (Ev.now _)
  dsimp only
  unfold longB
  by_cases hz : 0 < S
  ·rw [if_pos (by omega), if_neg (by omega), decide_eq_true hz, Bool.true_and]
   congr 1
   have e3 : ((S : Int) % (unitN q : Int)) = ((S % unitN q : Nat) : Int) := by omega
   rw [e3]
   generalize S % unitN q = m
   by_cases hm : m = 0
   ·rw [hm]; rfl
   ·rw [decide_eq_false hm]
    exact beq_eq_false_iff_ne.mpr (by omega)
  ·rw [if_neg (by omega), decide_eq_false hz]
   rfl
theorem pass_ev (q : Int) (K M S : Nat) (h1 : 1 ≤ q) (h2 : q ≤ 6) (L : List (List Int)) (hL : L.length = K + M) (hbig : K + M ≤ 1000000) (h0 : 0 < K + M) (hr : ∀ r, r ∈ L → r.length = S) (hS : S ≤ 1000000) : Ev (fun k => aQz.f k L (K : Int) q) (passB S q K M L) := by
 have hw : wrap64 ((L.length : Int) - (K : Int)) = (M : Int) := by rw [hL]; unfold wrap64; omega
 have hrd : (rd_L1 L 0).length = S := by
  unfold rd_L1
  rw [show Int.toNat 0 = 0 from rfl, List.getD_eq_getElem?_getD, List.getElem?_eq_getElem (by omega)]
  exact hr _ (List.getElem_mem _)
 have hlo := long_ev S q (K : Int) h1 h2 L (by omega) hrd
 refine Ev.congr (f := fun k => (agz.f q (K : Int) (M : Int)).bind fun t852 => (if t852 = true then ((aUz.f k L (K : Int) q).bind fun t853 => (if t853 = true then ((aSz.f k q (K : Int) (M : Int) L).bind fun t854 => (some t854)) else (some false))) else (some false))) (fun k => ?_) ?_
 ·unfold aQz.f a1z.f
  rw [Option.bind_some, hw]
 obtain ⟨b, hb⟩ := may_some q (K : Int) (M : Int)
 unfold passB mayQ
 simp only [hb, Option.bind_some]
 cases b with
 | false => exact Ev.now _
 | true =>
  refine Ev.congr (f := fun k => (aUz.f k L (K : Int) q).bind fun t853 => (if t853 = true then ((aSz.f k q (K : Int) (M : Int) L).bind fun t854 => (some t854)) else (some false))) (fun k => by rw [if_pos rfl]) ?_
  refine Ev.bind hlo ?_
  cases hlb : longB S q with
  | false =>
   refine Ev.congr (fun k => ?_) (Ev.now _)
   rw [if_neg (by decide)]
   rfl
  | true =>
   unfold longB at hlb
   simp only [Bool.and_eq_true, decide_eq_true_eq] at hlb
   have hv := ver_dec q K M S (L.take K) (L.drop K) hb (by rw [List.length_take]; omega) hS (unit_even h1 h2 hlb.2) (fun r hr' => hr r (List.mem_of_mem_take hr')) (by rw [List.length_drop]; omega)
   rw [List.take_append_drop] at hv
   refine Ev.congr (f := fun k => (aSz.f k q (K : Int) (M : Int) L).bind fun t854 => (some t854)) (fun k => by rw [if_pos rfl]) ?_
   refine Ev.bind hv ?_
   refine Ev.congr (fun k => ?_) (Ev.now _)
   rfl
theorem trial_l_ev (L : List (List Int)) (K : Int) (b : Int → Bool) : ∀ (ps acc : List Int), (∀ q, q ∈ ps → Ev (fun k => aQz.f k L K q) (b q)) → Ev (fun k => axz.l k L K ps acc) (acc ++ ps.filter b)
 | [], acc, _ => by
  refine Ev.congr (fun k => ?_) (Ev.now _)
  rw [axz.l]
  simp
 | p :: ps, acc, h => by
  refine Ev.congr (f := fun k => (aQz.f k L K p).bind fun t => axz.l k L K ps (if t = true then acc ++ [p] else acc)) (fun k => by rw [axz.l]) ?_
  refine Ev.bind (h p (List.mem_cons_self ..)) ?_
  have ih := trial_l_ev L K b ps (if b p = true then acc ++ [p] else acc) (fun q hq => h q (List.mem_cons_of_mem _ hq))
  cases hp : b p with
  | true =>
   rw [hp, if_pos rfl] at ih
   rw [List.filter_cons_of_pos hp, if_pos rfl]
   rwa [List.append_assoc] at ih
  | false =>
   rw [hp, if_neg (by decide)] at ih
   rw [List.filter_cons_of_neg (by rw [hp]; decide), if_neg (by decide)]
   exact ih
def all6 : List Int := [1, 2, 3, 4, 5, 6]
theorem all_ev : Ev (fun k => aLz.f k) all6 := Ev.of (fun k => aLz.mono k) (k := 8) kr_
theorem all6_mem {q : Int} : q ∈ all6 ↔ 1 ≤ q ∧ q ≤ 6 := by
 unfold all6
 simp only [List.mem_cons, List.not_mem_nil, or_false]
 omega
theorem trial_ev (L : List (List Int)) (K : Int) (b : Int → Bool) (h : ∀ q, 1 ≤ q → q ≤ 6 → Ev (fun k => aQz.f k L K q) (b q)) : Ev (fun k => axz.f k L K) (all6.filter b) := by
 unfold axz.f
 refine Ev.bind all_ev ?_
 refine Ev.congr (f := fun k => axz.l k L K all6 []) (fun k => by rw [if_pos (by decide)]) ?_
 have := trial_l_ev L K b all6 [] (fun q hq => h q (all6_mem.1 hq).1 (all6_mem.1 hq).2)
 rwa [List.nil_append] at this
theorem dzz (K M S : Nat) (L : List (List Int)) (hL : L.length = K + M) (hbig : K + M ≤ 1000000) (h0 : 0 < K + M) (hr : ∀ r, r ∈ L → r.length = S) (hS : S ≤ 1000000) : Ev (fun k => axz.f k L (K : Int)) (all6.filter fun q => passB S q K M L) :=
 trial_ev L (K : Int) _ (fun q h1 h2 => pass_ev q K M S h1 h2 L hL hbig h0 hr hS)
theorem in_ev (l : List Int) (n : Int) (hl : l.length ≤ 1000000) : Ev (fun k => aFz.f k l n) (decide (n ∈ l)) := by
 have key : ∀ (m i : Nat), i + m = l.length → Ev (fun k => aFz.l0 k l n (i : Int)) (decide (n ∈ l.drop i)) := by
  intro m
  induction m with
  | zero =>
   intro i hi
   refine Ev.step (f := fun _ => some false) (fun k => ?_) ?_
   ·rw [aFz.l0, if_neg (by omega)]
   ·rw [List.drop_of_length_le (by omega)]
    exact Ev.now _
  | succ m ih =>
   intro i hi
   have hx : l.drop i = l[i]'(by omega) :: l.drop (i + 1) := List.drop_eq_getElem_cons (by omega)
   have hrd : rd l (i : Int) = l[i]'(by omega) := by
    unfold rd
    rw [Int.toNat_natCast, List.getD_eq_getElem?_getD, List.getElem?_eq_getElem (by omega)]
    rfl
   by_cases he : l[i]'(by omega) = n
   ·refine Ev.step (f := fun _ => some true) (fun k => ?_) ?_
    ·rw [aFz.l0, if_pos (by omega), if_pos (by omega), hrd, if_pos he]
    ·rw [hx, decide_eq_true (by rw [he]; exact List.mem_cons_self ..)]
     exact Ev.now _
   ·refine Ev.step (f := fun k => aFz.l0 k l n ((i + 1 : Nat) : Int)) (fun k => ?_) ?_
    ·rw [aFz.l0, if_pos (by omega), if_pos (by omega), hrd, if_neg he, cZz (by omega)]
    ·have := ih (i + 1) (by omega)
     rw [hx]
     have e : (n ∈ l[i]'(by omega) :: l.drop (i + 1)) ↔ n ∈ l.drop (i + 1) := by
      rw [List.mem_cons]
      exact ⟨fun h => h.elim (fun h => absurd h.symm he) id, .inr⟩
     rw [decide_eq_decide.2 e]
     exact this
 have h := key l.length 0 (by omega)
 rwa [List.drop_zero] at h
theorem ginv_of {wb : Int} (hw : wb = 8 ∨ wb = 16) {a v : Nat} (ha : a < fN wb) (hv : v < fN wb) (h0 : a ≠ 0) (h : gmN wb a v = 1) : ginv wb (a : Int) = (v : Int) := by
 have hr := dOz hw (a : Int)
 obtain ⟨i, hi⟩ : ∃ i : Nat, ginv wb (a : Int) = (i : Int) := ⟨(ginv wb (a : Int)).toNat, by omega⟩
 have h1 := gmN_inv hw ha h0
 rw [hi, Int.toNat_natCast] at h1
 have hil : i < fN wb := by have := a6z hw hr; rw [hi] at this; simpa using this
 have h2 : gmN wb v (gmN wb a i) = v := by rw [h1, gmN_id hw hv]
 rw [← gmN_asc hw hv ha, gmN_comm hw hv ha, h, gmN_idl hw hil] at h2
 rw [hi, h2]
theorem g16_2 : ginv 16 2 = 34821 := ginv_of (.inr rfl) (a := 2) (v := 34821) (by decide) (by decide) (by decide) (by decide +kernel)
theorem g16_3 : ginv 16 3 = 61446 := ginv_of (.inr rfl) (a := 3) (v := 61446) (by decide) (by decide) (by decide) (by decide +kernel)
theorem g16_4 : ginv 16 4 = 52231 := ginv_of (.inr rfl) (a := 4) (v := 52231) (by decide) (by decide) (by decide) (by decide +kernel)
def awake16.b : List Int := [97, 98, 99, 100, 101, 102, 103, 104, 105, 106, 107, 108, 109, 110, 111, 112, 113, 114, 115, 116, 117, 118, 119, 120]
def awake16.l : List (List Int) := [[97, 98, 99, 100, 101, 102, 103, 104], [105, 106, 107, 108, 109, 110, 111, 112], [113, 114, 115, 116, 117, 118, 119, 120], [121, 122, 123, 124, 125, 126, 127, 96], [0, 0, 0, 0, 0, 0, 0, 235]]
theorem cBz (i : Nat) {S : Nat} {q : Int} {K M : Nat} {L : List (List Int)} (h : ((parV S q K M (L.take K))[i]? == (L.drop K)[i]?) = false) : verB S q K M L = false := by
 unfold verB
 refine decide_eq_false (fun he => ?_)
 rw [he] at h
 simp at h
theorem parV_0 (S : Nat) (q : Int) (K M : Nat) (data : List (List Int)) (c : List Int) (h : (parM q K M)[0]? = some c) : (parV S q K M data)[0]? = some (dotV S (pbits q) c data) := by
 unfold parV
 rw [List.getElem?_map, h]
 rfl
theorem awake16.m2 : (parM 2 3 2)[0]? = some [34821, 61446, 52231] := by
 have h : (parM 2 3 2)[0]? = some [ginv 16 2, ginv 16 3, ginv 16 4] := rfl
 rw [h, g16_2, g16_3, g16_4]
theorem awake16.m3 : (parM 2 2 3)[0]? = some [61446, 52231] := by
 have h : (parM 2 2 3)[0]? = some [ginv 16 3, ginv 16 4] := rfl
 rw [h, g16_3, g16_4]
theorem awake16.v2 : verB 8 2 3 2 awake16.l = false := cBz 0 (by rw [parV_0 8 2 3 2 _ _ awake16.m2]; kernel_rfl)
theorem awake16.v3 : verB 8 2 2 3 awake16.l = false := cBz 0 (by rw [parV_0 8 2 2 3 _ _ awake16.m3]; kernel_rfl)
theorem awake16.p1 : passB 8 1 3 2 awake16.l = true := by kernel_rfl
theorem awake16.p5 : verB 8 5 3 2 awake16.l = false := cBz 1 kr_
theorem awake16.p6 : verB 8 6 3 2 awake16.l = false := cBz 1 kr_
theorem awake16.q1 : verB 8 1 2 3 awake16.l = false := cBz 0 kr_
theorem awake16.q5 : verB 8 5 2 3 awake16.l = false := cBz 0 kr_
theorem awake16.q6 : verB 8 6 2 3 awake16.l = false := cBz 0 kr_
theorem cdz {S : Nat} {q : Int} {K M : Nat} {L : List (List Int)} (h : verB S q K M L = false) : passB S q K M L = false := by
 unfold passB
 rw [h, Bool.and_false, Bool.and_false]
theorem awake16.len : ∀ r, r ∈ awake16.l → r.length = 8 := by decide
theorem awake16.t3 : Ev (fun k => axz.f k awake16.l 3) [1] := by
 have h := dzz 3 2 8 awake16.l rfl (by decide) (by decide) awake16.len (by decide)
 have e : (all6.filter fun q => passB 8 q 3 2 awake16.l) = [1] := by
  unfold all6
  simp only [List.filter_cons, awake16.p1, cdz awake16.v2, cdz awake16.p5, cdz awake16.p6, show passB 8 3 3 2 awake16.l = false from rfl, show passB 8 4 3 2 awake16.l = false from rfl, List.filter_nil]
  rfl
 rw [e] at h
 exact h
theorem awake16.t2 : Ev (fun k => axz.f k awake16.l 2) [] := by
 have h := dzz 2 3 8 awake16.l rfl (by decide) (by decide) awake16.len (by decide)
 have e : (all6.filter fun q => passB 8 q 2 3 awake16.l) = [] := by
  unfold all6
  simp only [List.filter_cons, cdz awake16.q1, cdz awake16.v3, cdz awake16.q5, cdz awake16.q6, show passB 8 3 2 3 awake16.l = false from rfl, show passB 8 4 2 3 awake16.l = false from rfl, List.filter_nil]
  rfl
 rw [e] at h
 exact h
theorem awake16.t1 : Ev (fun k => axz.f k [[97], [97]] 1) [5, 6] := by
 have h := dzz 1 1 1 [[97], [97]] rfl (by decide) (by decide) (by decide) (by decide)
 have e : (all6.filter fun q => passB 1 q 1 1 [[97], [97]]) = [5, 6] := by
  unfold all6
  simp only [List.filter_cons, show passB 1 1 1 1 [[97], [97]] = false from rfl, show passB 1 2 1 1 [[97], [97]] = false from rfl, show passB 1 3 1 1 [[97], [97]] = false from rfl, show passB 1 4 1 1 [[97], [97]] = false from rfl, show passB 1 5 1 1 [[97], [97]] = true by kernel_rfl, show passB 1 6 1 1 [[97], [97]] = true by kernel_rfl, List.filter_nil]
  rfl
 rw [e] at h
 exact h
theorem awake16.k3 : Ev (fun k => bTz.f k awake16.l 3) (1, 0) := Ev.bind awake16.t3 (Ev.congr (fun _ => rfl) (Ev.now _))
theorem awake16.k1 : Ev (fun k => bTz.f k [[97], [97]] 1) (0, 6) := Ev.bind awake16.t1 (Ev.congr (fun _ => rfl) (Ev.now _))
theorem awake16.enc : bnz.f 199 1 3 2 awake16.b = some (awake16.l, 0) := by kernel_rfl
theorem C_numsF {k : IntKind} {w : World} {g : Nat} {t : TypeId} {xs : List Int} {fr : Nat × Nat} (h : w.heap[g]? = some (.cells (nums k xs).toArray t fr)) (hl : xs.length ≤ 9223372036854775807) : Kd.C (Kd.int k) w (some ⟨g, 0, none⟩) xs.length xs := by
 refine ⟨rfl, hl, fun _ => ⟨_, rfl, fun j p hp => ⟨[.int k p], rfl, rfl, fun i u hu => ?_⟩⟩⟩
 obtain ⟨hj, rfl⟩ := List.getElem?_eq_some_iff.1 hp
 cases i with
 | succ i => simp at hu
 | zero =>
  obtain rfl : Value.int k xs[j] = u := by simpa using hu
  have e : (⟨g, 0, none⟩ : Addr).add (j * (Kd.int k).sz + 0) = ⟨g, j, none⟩ := by
   show (⟨g, 0, none⟩ : Addr).add (j * 1 + 0) = _
   unfold Addr.add
   split <;> simp_all
  rw [e, cell_of_row w g j _ t fr h]
  simp [nums, hj]
def biz.f (_ : Nat) : Option (Bool) := some true
set_option maxRecDepth 100000 in
set_option maxHeartbeats 4000000 in
theorem biz.calls (k : Nat) (r : Bool) (w : World) (h : biz.f k = some r) :
 Calls Tryz.prog 35 #[] w fun e w' => e = .returned (.bool r) ∧ Below w.heap.size w w' := by
 obtain rfl : true = r := by injection h
 clear h
 have kc := fun (w : World) (C : Array Value) (n c : Nat) => Lib.run_convert_bytes_const (P := Tryz.prog) w 34 5 C n c Tryz.underlying34 Tryz.underlying5
 obtain ⟨k3, h3⟩ := Ev.rounds awake16.k3
 obtain ⟨k1, h1⟩ := Ev.rounds awake16.k1
 obtain ⟨k2, h2⟩ := Ev.rounds awake16.t2
 have HE := Aside0.mk (fun (W : World) (A : Option Addr) (hr : Kd.C (Kd.int .u8) W A awake16.b.length awake16.b) => bnz.calls 199 1 3 2 A 24 awake16.b awake16.l 0 W hr (by decide) awake16.enc)
 have HP3 := Aside0.mk (fun (W : World) (A : Option Addr) (c : Nat) (hr : Kd.C (Kd.slice 5 (Kd.int .u8)) W A awake16.l.length awake16.l) (hc : 5 ≤ c) => bTz.calls k3 A c awake16.l 3 1 0 W hr hc h3)
 have HP1 := Aside0.mk (fun (W : World) (A : Option Addr) (hr : Kd.C (Kd.slice 5 (Kd.int .u8)) W A [[97], [97]].length [[97], [97]]) => bTz.calls k1 A 2 [[97], [97]] 1 0 6 W hr (by decide) h1)
 have HT2 := Aside0.mk (fun (W : World) (A : Option Addr) (c : Nat) (hr : Kd.C (Kd.slice 5 (Kd.int .u8)) W A awake16.l.length awake16.l) (hc : 5 ≤ c) => axz.calls k2 A c awake16.l 2 [] W hr hc h2)
 have hl5 : awake16.l.length = 5 := rfl
 rw [hl5] at HP3 HT2
 clear h1 h2 h3
 go_enter Tryz.func35, Tryz.ntmps35
 go_wp2_with fail
 refine (HE.out _ (some ⟨w.heap.size, 0, none⟩) (C_numsF (fr := (24, 25)) (heap_alloc_new _ _) (by decide))).mono ?_
 rintro e w1 ⟨v, rfl, q1, q2⟩
 have HB1 := Aside0.mk ((adz (Below.refl _ _) _).trans (q2.mono (by simp)) : Below w.heap.size w w1)
 obtain ⟨gg, c, rfl, -, -, -⟩ := Kd.N_form q1 (by decide)
 obtain ⟨-, hc, hC⟩ := Kd.bkz q1
 have HC := Aside0.mk hC
 have HCC := Aside0.mk hc
 rw [hl5] at HC HCC ⊢
 have HP := Aside0.mk (HP3.out w1 _ c HC.out HCC.out)
 clear q1 q2 hC hc HE HP3
 go_wp2_with fail
 refine HP.out.mono ?_
 rintro e w2 ⟨rfl, q2⟩
 have HB2 := Aside0.mk (HB1.out.trans (q2.mono HB1.out.size))
 have HC2 := Aside0.mk (Kd.aDz HC.out q2)
 clear q2 HP HC HB1
 have kd : ∀ (W : World) (o : Obj) (C : Array Value) (n c : Nat), Sem.run Tryz.prog (convert 34 34 (.slice (some ⟨W.heap.size + 1, 0, none⟩) n c)) ((W.alloc o).alloc (.cells C 5)) = Result.ok (.slice (some ⟨W.heap.size + 1, 0, none⟩) n c) ((W.alloc o).alloc (.cells C 5 (C.size, C.size + 1))) := fun W o C n c => by
  have h := kc (W.alloc o) C n c
  rw [World.size_alloc] at h
  exact h
 go_wp2_with fail
 have s1 := World.size_alloc w2 (.cells #[.int .u8 97] 5 (1, 2))
 have s2 := World.size_alloc (w2.alloc (.cells #[.int .u8 97] 5 (1, 2))) (.cells #[.int .u8 97] 5 (1, 2))
 have hb1 := heap_alloc_new w2 (.cells #[.int .u8 97] 5 (1, 2))
 have hb2 := heap_alloc_new (w2.alloc (.cells #[.int .u8 97] 5 (1, 2))) (.cells #[.int .u8 97] 5 (1, 2))
 have hB3 := adz (adz (adz (Below.refl w2.heap.size w2) (.cells #[.int .u8 97] 5 (1, 2))) (.cells #[.int .u8 97] 5 (1, 2))) (.cells #[.slice (some ⟨w2.heap.size, 0, none⟩) 1 1, .slice (some ⟨w2.heap.size + 1, 0, none⟩) 1 1] 34)
 have hb3 := heap_alloc_new ((w2.alloc (.cells #[.int .u8 97] 5 (1, 2))).alloc (.cells #[.int .u8 97] 5 (1, 2))) (.cells #[.slice (some ⟨w2.heap.size, 0, none⟩) 1 1, .slice (some ⟨w2.heap.size + 1, 0, none⟩) 1 1] 34)
 rw [s1] at hb2 s2
 have hc1 := aiz (aiz hb1 (adz (Below.refl _ _) (.cells #[.int .u8 97] 5 (1, 2)))) (adz (Below.refl _ _) (.cells #[.slice (some ⟨w2.heap.size, 0, none⟩) 1 1, .slice (some ⟨w2.heap.size + 1, 0, none⟩) 1 1] 34))
 have hc2 := aiz hb2 (adz (Below.refl _ _) (.cells #[.slice (some ⟨w2.heap.size, 0, none⟩) 1 1, .slice (some ⟨w2.heap.size + 1, 0, none⟩) 1 1] 34))
 rw [s2] at hb3
 have HQ := Aside0.mk (HP1.out _ _ (C_twoB hb3 (by decide) (by decide) (C_numsF (xs := [97]) (fr := (1, 2)) hc1 (by decide)) (C_numsF (xs := [97]) (fr := (1, 2)) hc2 (by decide))))
 have HB3 := Aside0.mk (HB2.out.trans (hB3.mono HB2.out.size))
 have HC3 := Aside0.mk (Kd.aDz HC2.out hB3)
 clear hb1 hb2 hb3 hc1 hc2 hB3 HP1 HC2 HB2
 refine HQ.out.mono ?_
 rintro e w3 ⟨rfl, q3⟩
 have HB4 := Aside0.mk (HB3.out.trans (q3.mono HB3.out.size))
 have HC4 := Aside0.mk (Kd.aDz HC3.out q3)
 have HT := Aside0.mk (HT2.out w3 _ c HC4.out HCC.out)
 clear q3 HQ HB3 HC3 HT2
 go_wp2_with fail
 refine HT.out.mono ?_
 rintro e w4 ⟨v, rfl, q4, q5⟩
 obtain ⟨A4, c4, rfl, -, -⟩ := Kd.b5z q4
 have HB5 := Aside0.mk (HB4.out.trans (q5.mono HB4.out.size))
 clear q4 q5
 go_wp2
 go_ret
 exact ⟨rfl, HB5.out⟩
end Go.Proofs.YtpdakdcmahlghaaGreat.XCo
end
