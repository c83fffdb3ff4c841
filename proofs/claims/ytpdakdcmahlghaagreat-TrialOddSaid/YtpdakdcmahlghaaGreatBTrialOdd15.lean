-- Joined by this work's own program (wip/tools/bundle.py) out of its texts: what this claim uses of them. Not trusted: Lean checks it.
import Derived.Test.YtpdakdcmahlghaaGreatBTrialOdd14
section
namespace Go.Proofs.YtpdakdcmahlghaaGreat.XCo
open Go.RowKit Go.Proofs.YtpdakdcmahlghaaGreatW.PrintWords Go.Proofs.YtpdakdcmahlghaaGreatW.PrintLast Go.Proofs.YtpdakdcmahlghaaGreatW.PrintMore
attribute [local go_sem] ayz azz aJz aKz auz avz aAz aBz
set_option linter.unusedVariables false
set_option linter.unusedSimpArgs false
def aLz.l0 : Nat → List Int → Int → Option (List Int)
 | 0, _, _ => none
 | k + 1, x1, x3 => if x3 < 6 then (if x1.length < 17592186044416 then (aLz.l0 k (x1 ++ [wrap64 (x3 + 1)]) (wrap64 (x3 + 1))) else (none)) else (some x1)
def aLz.f (k : Nat)  : Option (List Int) := aLz.l0 k ([] : List Int) 0
theorem aLz.cOz : ∀ k, (∀ y0 y1, LeO (aLz.l0 k y0 y1) (aLz.l0 (k + 1) y0 y1))
 | 0 => fun _ _ r h => by simp [aLz.l0] at h
 | k + 1 => by
  have ih0 := aLz.cOz k
  ·intro y0 y1
   unfold aLz.l0
   repeat' first
   | (with_reducible exact ih0 _ _)
   | (with_reducible exact LeO.refl _)
   | (with_reducible exact LeO.none _)
   | (with_reducible refine LeO.ite ?_ ?_)
   | (with_reducible refine LeO.bind ?_ (fun _ => ?_))
   | exact ih0 _ _
   | exact LeO.none _
   | refine LeO.ite ?_ ?_
   | refine LeO.bind ?_ (fun _ => ?_)
theorem aLz.mono : ∀ k, LeO (aLz.f k ) (aLz.f (k + 1) ) := by
 intro  k
 have ih0 := aLz.cOz k
 unfold aLz.f
 repeat' first
   | (with_reducible exact ih0 _ _)
   | (with_reducible exact LeO.refl _)
   | (with_reducible exact LeO.none _)
   | (with_reducible refine LeO.ite ?_ ?_)
   | (with_reducible refine LeO.bind ?_ (fun _ => ?_))
   | exact ih0 _ _
   | exact LeO.none _
   | refine LeO.ite ?_ ?_
   | refine LeO.bind ?_ (fun _ => ?_)
set_option maxHeartbeats 8000000 in
set_option maxRecDepth 100000 in
theorem aLz.calls (k : Nat)  (r : List Int) (w : World) (h : aLz.f k  = some r) :
  Calls Tryz.prog 73 #[] w fun e w' => ∃ v0_ : Value, e = .returned (v0_) ∧ Kd.R (Kd.int .i64) 3 w' w.heap.size (fun _ => True) v0_ r ∧ Below w.heap.size w w' := by
 have HB := Aside0.mk (Below.refl w.heap.size w)
 have H := h
 clear h
 unfold aLz.f at H
 have H' := Aside0.mk H
 clear H
 go_enter Tryz.func73, Tryz.ntmps73
 go_wp2
 go_loopg [1, 3] k (fun kq v1 v3 w' => ∃ (x1_1 : List Int) (x3_1 : Int), v3 = .int .i64 x3_1 ∧ Aside0 (aLz.l0 kq x1_1 x3_1 = some r) ∧ Aside0 (kq ≤ k) ∧ Aside0 (Kd.R (Kd.int .i64) 3 w' w.heap.size (fun _ => True) v1 x1_1) ∧ Aside0 (Below w.heap.size w w'))
 case atStart => exact ⟨(([] : List Int)), (0), sd_, H', ⟨Nat.le_refl _⟩, ⟨nl_⟩, ⟨bl_⟩⟩
 clear H'
 obtain ⟨x1_1, x3_1, rfl, HA, HK1, HO_1, HB⟩ := hrel
 rcases gk with _ | k1
 ·exact absurd HA.out (by simp [aLz.l0])
 have H := HA.out
 clear HA
 simp only [aLz.l0] at H
 by_cases c1 : x3_1 < 6
 rotate_left
 ·rw [if_neg c1] at H
  have c1b0 := decide_eq_false c1
  clear c1
  obtain rfl := Option.some.inj H
  go_wp2
  go_ret
  exact ⟨_, er_, xd_ HO_1.out, bl_⟩
 rw [if_pos c1] at H
 have c1b0 := decide_eq_true c1
 clear c1
 by_cases c2 : x1_1.length < 17592186044416
 rotate_left
 ·rw [if_neg c2] at H
  exact absurd H (by simp)
 rw [if_pos c2] at H
 have LMc2 := Aside0.mk c2
 clear c2
 obtain ⟨y168, hy168⟩ : ∃ y_ : List Int, y_ = (x1_1 ++ [wrap64 (x3_1 + 1)]) := ⟨_, rfl⟩
 first | rw [Option.bind_some, ← hy168] at H | rw [← hy168] at H
 (try dsimp only at H)
 have Ny168 := Aside0.mk hy168
 clear hy168
 have H' := Aside0.mk H
 clear H
 go_wp2_with (first | ((with_reducible refine atz (b := .append) (xs := #[.tmp 6, .tmp 9]) rfl ?_); at_builtin; refine Kd.bHz (Kd.int .i64) (w0 := w) w.heap.size rfl (.tmp 6) (.tmp 9) 57 3 (.int .i64 0) 8 rfl Tryz.underlying57 info3 rfl (by decide) (by omega) u1 x1_1 (wrap64 (x3_1 + 1)) [.int .i64 (wrap64 (x3_1 + 1))] (fun _ => True) (fun _ => False) rfl rfl ?aP (fun _ hk => hk.elim) ?aF ?aO ?aB ?aS ?aL ?_; (case aP => exact rfl); (case aB => exact bl_); (case aF => exact (fun _ _ => trivial)); (case aO => exact (xd_ HO_1.out)); (case aS => exact (aNz bl_)); (case aL => have := LMc2.out; omega); intro v169 w3 ho hb hg hat; rw [← Ny168.out] at ho; have n_ := And.intro (Aside0.mk (hb)) (Aside0.mk (ho)); clear HB HO_1; obtain ⟨HB, HO170⟩ := n_; clear ho hb hg hat))
 go_roundg k1
 case measure => have := HK1.out; omega
 case rel => exact ⟨(y168), (wrap64 (x3_1 + 1)), sd_, H', ⟨by have := HK1.out; omega⟩, ⟨xd_ HO170.out⟩, ⟨bl_⟩⟩
def axz.l (k : Nat) (l : List (List Int)) (a : Int) : List Int → List Int → Option (List Int)
 | [], acc => some acc
 | p :: ps, acc => (aQz.f k l a p).bind fun b => axz.l k l a ps (if b = true then acc ++ [p] else acc)
def axz.f (k : Nat) (l0 : List (List Int)) (a1 : Int) : Option (List Int) := (aLz.f k).bind fun ps => if ps.length ≤ 1000 then axz.l k l0 a1 ps [] else none
set_option maxRecDepth 100000 in
set_option maxHeartbeats 4000000 in
theorem axz.calls (k : Nat) (A0 : Option Addr) (c0 : Nat) (l0 : List (List Int)) (a1 : Int) (r : List Int) (w : World) (hr0 : Kd.C (Kd.slice 5 (Kd.int .u8)) w A0 l0.length l0) (hc0 : l0.length ≤ c0) (h : axz.f k l0 a1 = some r) :
  Calls Tryz.prog 39 #[.slice A0 l0.length c0, .int .i64 a1] w fun e w' => ∃ v0_ : Value, e = .returned (v0_) ∧ Kd.R (Kd.int .i64) 3 w' w.heap.size (fun _ => True) v0_ r ∧ Below w.heap.size w w' := by
 unfold axz.f at h
 obtain ⟨ps, hps, h⟩ := Option.bind_eq_some_iff.1 h
 by_cases hpl : ps.length ≤ 1000
 rotate_left
 ·rw [if_neg hpl] at h; cases h
 rw [if_pos hpl] at h
 have HALL := Aside0.mk (aLz.calls k ps w hps)
 have HPA := Aside0.mk (fun (w1 : World) (p : Int) (b : Bool) (hB : Below w.heap.size w w1) (hp : aQz.f k l0 a1 p = some b) => aQz.calls k A0 c0 l0 a1 p b w1 (Kd.aDz hr0 hB) hc0 hp)
 have HL := Aside0.mk h
 have HPL := Aside0.mk hpl
 have hmf : ∀ (fn : Fn) (first cap : Array Value) (w : World), (Instr.makeFunc fn first cap).run Tryz.prog w = .ok (.func fn first cap) w := fun _ _ _ _ => rfl
 obtain ⟨n0, hn0⟩ : ∃ n0, l0.length = n0 := ⟨_, rfl⟩
 rw [hn0] at HPA ⊢
 clear hr0 hc0 hps h hpl hn0
 go_enter Tryz.func39, Tryz.ntmps39
 go_wp2_with fail
 refine HALL.out.mono ?_
 rintro e w1 ⟨v, rfl, p1, p2⟩
 obtain ⟨A1, cp, rfl, lp, -⟩ := Kd.b5z p1
 have HC1 := Aside0.mk (Kd.aPz p1).2.2
 have HB1 := Aside0.mk p2
 obtain ⟨n, hn⟩ : ∃ n, ps.length = n := ⟨_, rfl⟩
 have HN := Aside0.mk hn
 have hn1000 : n ≤ 1000 := by have := HPL.out; omega
 rw [hn]
 clear p1 p2 lp HALL hn
 go_wp2
 go_loopw [6, 15] (fun v iv wr => ∃ (k' : Nat) (acc : List Int), k' ≤ n ∧ iv = .int .i64 (k' : Int) ∧ Aside0 (Kd.R (Kd.int .i64) 3 wr w1.heap.size (fun _ => True) v acc) ∧ Aside0 (Below w1.heap.size w1 wr) ∧ Aside0 (axz.l k l0 a1 (ps.drop k') acc = some r) ∧ acc.length ≤ k') (fun _ iv _ => n - (intOf iv).toNat)
 case atStart => exact ⟨0, [], Nat.zero_le _, rfl, ⟨Kd.R_nil _ _ _ _ _⟩, ⟨Below.refl _ _⟩, HL, Nat.zero_le _⟩
 clear HL
 obtain ⟨w2, rfl⟩ : ∃ w2, w2 = wr := ⟨_, rfl⟩
 obtain ⟨k', acc, hk, rfl, HO, HB, HL, hacc⟩ := hrel
 by_cases hlt : k' < n
 ·obtain ⟨p, hp⟩ : ∃ x, ps[k']? = some x := ⟨_, List.getElem?_eq_getElem (by have := HN.out; omega)⟩
  have hdr : ps.drop k' = p :: ps.drop (k' + 1) := by
   obtain ⟨h1, h2⟩ := List.getElem?_eq_some_iff.1 hp
   rw [List.drop_eq_getElem_cons h1, h2]
  have hl := HL.out
  rw [hdr, axz.l] at hl
  obtain ⟨b, hb, hl2⟩ := Option.bind_eq_some_iff.1 hl
  obtain ⟨ad, rfl, hcell⟩ := bwz (Kd.aDz HC1.out HB.out) k' p hp
  have HCP := Aside0.mk (HPA.out w2 p b (HB1.out.trans (HB.out.mono HB1.out.size)) hb)
  have HL2 := Aside0.mk hl2
  have HAC := Aside0.mk hacc
  have k1 : (0 : Int) ≤ (k' : Int) := by omega
  have k2 : (k' : Int) < (n : Int) := by omega
  clear hp hdr hl hl2 hb HL hacc
  go_wp2_with fail
  refine HCP.out.mono ?_
  rintro e w3 ⟨rfl, q1⟩
  have HB3 := Aside0.mk (HB.out.trans (q1.mono HB.out.size))
  have HO3 := Aside0.mk (Kd.c2z HO.out q1)
  clear q1 HCP HO hcell
  cases b with
  | true =>
   have hl3 := HL2.out
   rw [if_pos rfl] at hl3
   have HL3 := Aside0.mk hl3
   clear hl3 HL2
   go_wp2_with ((with_reducible refine atz (b := .append) (xs := #[.tmp 22, .tmp 24]) rfl ?_); go_must (at_builtin; refine Kd.bHz (Kd.int .i64) (w0 := w1) w1.heap.size rfl (.tmp 22) (.tmp 24) 57 3 (.int .i64 0) 8 rfl Tryz.underlying57 kr_ rfl (by decide) (by decide) _ _ p [.int .i64 p] (fun _ => True) (fun _ => False) rfl rfl rfl (fun _ h => h.elim) (fun _ _ => trivial) HO3.out HB3.out HB3.out.size ?aL ?_; (case aL => have := HAC.out; omega)); intro v2 w4 ho2 hb2 hg2 hat2; have HO4 := Aside0.mk ho2; have HB4 := Aside0.mk hb2; clear ho2 hb2 hg2 hat2)
   go_roundw
   case rel => exact ⟨k' + 1, acc ++ [p], by omega, by go_num, HO4, HB4, HL3, by have := HAC.out; simp; omega⟩
   case measure => simp [intOf]; omega
  | false =>
   have hl3 := HL2.out
   rw [if_neg (by decide)] at hl3
   have HL3 := Aside0.mk hl3
   clear hl3 HL2
   go_wp2
   go_roundw
   case rel => exact ⟨k' + 1, acc, by omega, by go_num, HO3, HB3, HL3, by have := HAC.out; omega⟩
   case measure => simp [intOf]; omega
 ·obtain rfl : k' = n := by omega
  have hl := HL.out
  rw [List.drop_of_length_le (by have := HN.out; omega), axz.l] at hl
  obtain rfl := Option.some.inj hl
  have HFN := Aside0.mk HO.out
  clear hl HL
  go_wp2
  go_ret
  exact ⟨_, rfl, Kd.a9z HFN.out HB1.out.size, HB1.out.trans (HB.out.mono HB1.out.size)⟩
def bTz.f (k : Nat) (l0 : List (List Int)) (a1 : Int) : Option (Int × Int) := (axz.f k l0 a1).bind fun t171 => (if (t171.length : Int) = 0 then (some (0, 4)) else (if (t171.length : Int) = 1 then (if 0 < (t171.length : Int) then (some (rd t171 0, 0)) else (none)) else (some (0, 6))))
set_option maxHeartbeats 8000000 in
set_option maxRecDepth 100000 in
theorem bTz.calls (k : Nat) (A0 : Option Addr) (c0 : Nat) (l0 : List (List Int)) (a1 : Int) (r1 : Int) (r2 : Int) (w : World) (hr0 : Kd.C (Kd.slice 5 (Kd.int .u8)) w A0 l0.length l0) (hc0 : l0.length ≤ c0) (h : bTz.f k l0 a1 = some (r1, r2)) :
  Calls Tryz.prog 36 #[.slice A0 l0.length c0, .int .i64 a1] w fun e w' => e = .returned (.tuple #[.int .i64 r1, .int .i64 r2]) ∧ Below w.heap.size w w' := by
 have HR0 := Aside0.mk hr0
 have HC0 := Aside0.mk hc0
 clear hr0 hc0
 have HB := Aside0.mk (Below.refl w.heap.size w)
 have H := h
 clear h
 unfold bTz.f at H
 obtain ⟨t171, A3, H⟩ := ob_ H
 (try dsimp only at H)
 by_cases c4 : (t171.length : Int) = 0
 ·rw [if_pos c4] at H
  have c4b0 : ((t171.length : Int) == 0) = true := beq_iff_eq.mpr c4
  have c4b1 : ((t171.length : Int) != 0) = false := bne_eq_false_iff_eq.mpr c4
  clear c4
  simp only [Option.some.injEq, Prod.mk.injEq] at H
  obtain ⟨rfl, rfl⟩ := H
  go_enter Tryz.func36, Tryz.ntmps36
  go_wp2_with (first | ((with_reducible refine ahz (f := 39) rfl ?_); refine gl_ (some 9) Tryz.func39 #[.slice A0 l0.length c0, .int .i64 a1] ?_; (with_reducible refine (axz.calls k _ _ l0 a1 t171 _ (xd_ HR0.out) (HC0.out) A3.out).mono ?_); rintro e w5 ⟨v172, rfl, ho0, hb⟩; refine ⟨_, rfl, ?_⟩; have n_ := And.intro (Aside0.mk (Kd.a9z ho0 (aNz bl_))) (hs_ HB hb); clear HB; obtain ⟨HO173, HB⟩ := n_; clear hb ho0; obtain ⟨Ao6, co6, eo6⟩ := Kd.a2z HO173.out; subst eo6))
  go_ret2
  exact ⟨er_, bl_⟩
 ·rw [if_neg c4] at H
  have c4b0 : ((t171.length : Int) == 0) = false := beq_eq_false_iff_ne.mpr c4
  have c4b1 : ((t171.length : Int) != 0) = true := bne_iff_ne.mpr c4
  have c4b2 : ¬ (t171 = []) := fun h_ => c4 (by rw [h_]; rfl)
  by_cases c7 : (t171.length : Int) = 1
  rotate_left
  ·rw [if_neg c7] at H
   have c7b0 : ((t171.length : Int) == 1) = false := beq_eq_false_iff_ne.mpr c7
   have c7b1 : ((t171.length : Int) != 1) = true := bne_iff_ne.mpr c7
   simp only [Option.some.injEq, Prod.mk.injEq] at H
   obtain ⟨rfl, rfl⟩ := H
   go_enter Tryz.func36, Tryz.ntmps36
   go_wp2_with (first | ((with_reducible refine ahz (f := 39) rfl ?_); refine gl_ (some 9) Tryz.func39 #[.slice A0 l0.length c0, .int .i64 a1] ?_; (with_reducible refine (axz.calls k _ _ l0 a1 t171 _ (xd_ HR0.out) (HC0.out) A3.out).mono ?_); rintro e w11 ⟨v172, rfl, ho0, hb⟩; refine ⟨_, rfl, ?_⟩; have n_ := And.intro (Aside0.mk (Kd.a9z ho0 (aNz bl_))) (hs_ HB hb); clear HB; obtain ⟨HO173, HB⟩ := n_; clear hb ho0; obtain ⟨Ao12, co12, eo12⟩ := Kd.a2z HO173.out; subst eo12))
   go_ret2
   exact ⟨er_, bl_⟩
  rw [if_pos c7] at H
  have c7b0 : ((t171.length : Int) == 1) = true := beq_iff_eq.mpr c7
  have c7b1 : ((t171.length : Int) != 1) = false := bne_eq_false_iff_eq.mpr c7
  clear c7
  by_cases c8 : 0 < (t171.length : Int)
  ·rw [if_pos c8] at H
   have c8b0 := decide_eq_true c8
   have c8b1 : decide (0 < t171.length) = true := decide_eq_true (by omega)
   clear c8
   simp only [Option.some.injEq, Prod.mk.injEq] at H
   obtain ⟨rfl, rfl⟩ := H
   go_enter Tryz.func36, Tryz.ntmps36
   go_wp2_with (first | ((with_reducible refine ahz (f := 39) rfl ?_); refine gl_ (some 9) Tryz.func39 #[.slice A0 l0.length c0, .int .i64 a1] ?_; (with_reducible refine (axz.calls k _ _ l0 a1 t171 _ (xd_ HR0.out) (HC0.out) A3.out).mono ?_); rintro e w9 ⟨v172, rfl, ho0, hb⟩; refine ⟨_, rfl, ?_⟩; have n_ := And.intro (Aside0.mk (Kd.a9z ho0 (aNz bl_))) (hs_ HB hb); clear HB; obtain ⟨HO173, HB⟩ := n_; clear hb ho0; obtain ⟨Ao10, co10, eo10⟩ := Kd.a2z HO173.out; subst eo10; have p174 : 0 ≤ (0 : Int) := (by omega); have q174 : 0 < (t171.length : Int) := of_decide_eq_true as_; obtain ⟨ad174, e174, hx174_0⟩ := Kd.bOz (Kd.aPz HO173.out).2.2 0 p174 q174; cases e174; have qi174 : (0 < t171.length) = True := eq_true (by omega); (try rw [show ((0 : Int)).toNat = 0 from rfl] at hx174_0); (try rw [Addr.add_zero'] at hx174_0); replace p174 := eq_true p174; replace q174 := eq_true q174))
   go_ret2
   exact ⟨er_, bl_⟩
  ·rw [if_neg c8] at H
   exact absurd H (by simp)
def xorB (a b : List Int) : List Int := List.zipWith (fun x y => Go.bits .xor .u8 x y) a b
def sumB (L : Nat) (rows : List (List Int)) : List Int := rows.foldl xorB (List.replicate L 0)
theorem cIz (a b : List Int) (h : a.length = b.length) : (xorB a b).length = b.length := by simp [xorB]; omega
theorem d3z {L : Nat} : ∀ (rows : List (List Int)) (acc : List Int), acc.length = L → (∀ r, r ∈ rows → r.length = L) → (rows.foldl xorB acc).length = L
 | [], acc, h, _ => h
 | r :: rs, acc, h, hr => by
  have h1 := hr r (List.mem_cons_self ..)
  exact d3z rs (xorB acc r) (by rw [cIz _ _ (h.trans h1.symm)]; exact h1) (fun q hq => hr q (List.mem_cons_of_mem _ hq))
theorem sumB_length {L : Nat} (rows : List (List Int)) (h : ∀ r, r ∈ rows → r.length = L) : (sumB L rows).length = L := d3z rows _ (by simp) h
theorem cZz {j : Nat} (h : j ≤ 1000000000) : wrap64 ((j : Int) + 1) = ((j + 1 : Nat) : Int) := by unfold wrap64; omega
theorem sum_l1 (rows : List (List Int)) (n : Int) (i : Nat) (acc row : List Int) (r : List Int × Int) (K : Nat) (hl : acc.length = row.length) (hL : row.length ≤ 100000000) (hi : i ≤ 100000000)
  (h : alz.l0 K (xorB acc row) rows n ((i + 1 : Nat) : Int) = some r) :
  ∀ (d j : Nat), j + d = row.length → alz.l1 (K + d + 1) ((xorB acc row).take j ++ acc.drop j) rows n (i : Int) row (row.length : Int) (j : Int) = some r
 | 0, j, hj => by
  obtain rfl : j = row.length := by omega
  unfold alz.l1
  rw [if_neg (by omega), cZz (by omega), List.take_of_length_le (by rw [cIz _ _ hl]; exact Nat.le_refl _), List.drop_of_length_le (by omega), List.append_nil]
  exact h
 | d + 1, j, hj => by
  have hlx := cIz _ _ hl
  have hjl : j < row.length := by omega
  have hlen : ((xorB acc row).take j ++ acc.drop j).length = row.length := by simp [hlx]; omega
  unfold alz.l1
  rw [if_pos (by omega), if_pos (by omega), if_pos (by omega), if_pos (by omega), cZz (by omega)]
  have hset : ((xorB acc row).take j ++ acc.drop j).set (j : Int).toNat (Go.bits .xor .u8 (rd ((xorB acc row).take j ++ acc.drop j) (j : Int)) (rd row (j : Int))) = (xorB acc row).take (j + 1) ++ acc.drop (j + 1) := by
   have e1 : rd ((xorB acc row).take j ++ acc.drop j) (j : Int) = acc.getD j 0 := by
    unfold rd
    rw [Int.toNat_natCast, List.getD_eq_getElem?_getD, List.getElem?_append_right (by simp [hlx]; omega), List.getElem?_drop]
    simp [hlx, Nat.min_eq_left (Nat.le_of_lt hjl)]
   have e2 : rd row (j : Int) = row.getD j 0 := by unfold rd; rw [Int.toNat_natCast]
   rw [e1, e2, Int.toNat_natCast]
   apply List.ext_getElem?
   intro q
   have hja : j < acc.length := by omega
   have hx : (xorB acc row)[j]? = some (Go.bits .xor .u8 (acc.getD j 0) (row.getD j 0)) := by
    unfold xorB
    rw [List.getElem?_zipWith, List.getElem?_eq_getElem hja, List.getElem?_eq_getElem hjl]
    simp [List.getD_eq_getElem?_getD, List.getElem?_eq_getElem hja, List.getElem?_eq_getElem hjl]
   rw [List.getElem?_set]
   by_cases hq : j = q
   ·subst hq
    rw [if_pos rfl, if_pos (by omega), List.getElem?_append_left (by simp [hlx]; omega), List.getElem?_take, if_pos (by omega), hx]
   ·rw [if_neg hq]
    by_cases hlt : q < j
    ·rw [List.getElem?_append_left (by simp [hlx]; omega), List.getElem?_append_left (by simp [hlx]; omega), List.getElem?_take, List.getElem?_take, if_pos hlt, if_pos (by omega)]
    ·rw [List.getElem?_append_right (by simp [hlx]; omega), List.getElem?_append_right (by simp [hlx]; omega), List.getElem?_drop, List.getElem?_drop]
     congr 1
     simp [hlx, Nat.min_eq_left (Nat.le_of_lt hjl), Nat.min_eq_left (show j + 1 ≤ row.length from hjl)]
     omega
  rw [hset]
  have := sum_l1 rows n i acc row r K hl hL hi h d (j + 1) (by omega)
  rw [show K + (d + 1) = K + d + 1 by omega]
  exact this
theorem sum_l0 (rows : List (List Int)) (L : Nat) (hL : L ≤ 100000000) (hn : rows.length ≤ 1000) (hr : ∀ r, r ∈ rows → r.length = L) :
  ∀ (m i : Nat) (acc : List Int), i + m = rows.length → acc.length = L → ∃ K, alz.l0 K acc rows (rows.length : Int) (i : Int) = some ((rows.drop i).foldl xorB acc, 0)
 | 0, i, acc, hi, ha => by
  refine ⟨1, ?_⟩
  unfold alz.l0
  rw [if_neg (by omega), List.drop_of_length_le (by omega)]; rfl
 | m + 1, i, acc, hi, ha => by
  obtain ⟨row, hrow⟩ : ∃ r, rows[i]? = some r := ⟨_, List.getElem?_eq_getElem (by omega)⟩
  have hrl := hr row (List.mem_of_getElem? hrow)
  have hd : rows.drop i = row :: rows.drop (i + 1) := by
   obtain ⟨h1, h2⟩ := List.getElem?_eq_some_iff.1 hrow
   rw [List.drop_eq_getElem_cons h1, h2]
  obtain ⟨K, hK⟩ := sum_l0 rows L hL hn hr m (i + 1) (xorB acc row) (by omega) (by rw [cIz _ _ (by omega)]; exact hrl)
  have h1 := sum_l1 rows (rows.length : Int) i acc row _ K (by omega) (by omega) (by omega) hK row.length 0 (by omega)
  refine ⟨K + row.length + 1 + 1, ?_⟩
  have hrd : rd_L1 rows (i : Int) = row := by unfold rd_L1; rw [Int.toNat_natCast, List.getD_eq_getElem?_getD, hrow]; rfl
  unfold alz.l0
  rw [if_pos (by omega), if_pos (by omega), if_pos (by omega), hrd, if_pos (by omega), hd]
  simpa using h1
theorem sum_ev (rows : List (List Int)) (L : Nat) (hL : L ≤ 100000000) (hn : rows.length ≤ 1000) (h0 : 0 < rows.length) (hr : ∀ r, r ∈ rows → r.length = L) : Ev (fun k => alz.f k rows) (sumB L rows, 0) := by
 obtain ⟨row, hrow⟩ : ∃ r, rows[0]? = some r := ⟨_, List.getElem?_eq_getElem h0⟩
 have hrl := hr row (List.mem_of_getElem? hrow)
 have hrd : rd_L1 rows 0 = row := by unfold rd_L1; rw [show (0 : Int).toNat = 0 from rfl, List.getD_eq_getElem?_getD, hrow]; rfl
 obtain ⟨K, hK⟩ := sum_l0 rows L hL hn hr rows.length 0 (List.replicate L 0) (by omega) (by simp)
 refine Ev.of (fun k => alz.mono _ k) (k := K) ?_
 unfold alz.f
 rw [if_pos (by omega), hrd, if_pos (by omega), if_pos (by omega), hrl, Int.toNat_natCast]
 simpa [sumB] using hK
theorem byteF_len (wb a : Int) : (byteF wb a).length = wN wb := by unfold byteF wN; split <;> rfl
theorem bytesF_len (wb : Int) : ∀ l : List Int, (bytesF wb l).length = l.length * wN wb
 | [] => by simp [bytesF]
 | a :: l => by
  have h1 := bytesF_len wb l
  have h3 : bytesF wb (a :: l) = byteF wb a ++ bytesF wb l := by unfold bytesF; rw [List.flatMap_cons]
  rw [h3, List.length_append, byteF_len, h1, List.length_cons, Nat.add_mul]
  omega
theorem mulB_len (wb c : Int) (b : List Int) (h : b.length % wN wb = 0) : (mulB wb c b).length = b.length := by
 unfold mulB
 rw [bytesF_len, List.length_map, dWz]
 exact Nat.div_mul_cancel (Nat.dvd_of_mod_eq_zero h)
def dotV (L : Nat) (wb : Int) (c : List Int) (rows : List (List Int)) : List Int := sumB L (List.zipWith (mulB wb) c rows)
theorem zip_len {wb : Int} {L : Nat} (hd : L % wN wb = 0) {c : List Int} {rows : List (List Int)} (hr : ∀ r, r ∈ rows → r.length = L) : ∀ r, r ∈ List.zipWith (mulB wb) c rows → r.length = L := by
 intro r h
 obtain ⟨i, hi, rfl⟩ := List.mem_iff_getElem.1 h
 rw [List.getElem_zipWith]
 rw [mulB_len _ _ _ (by rw [hr _ (List.getElem_mem ..)]; exact hd)]
 exact hr _ (List.getElem_mem ..)
theorem dotV_len {wb : Int} {L : Nat} (hd : L % wN wb = 0) {c : List Int} {rows : List (List Int)} (hr : ∀ r, r ∈ rows → r.length = L) : (dotV L wb c rows).length = L := sumB_length _ (zip_len hd hr)
theorem dot_ev (wb : Int) (L : Nat) (hL : L ≤ 1000000) (hd : L % wN wb = 0) (c : List Int) (rows : List (List Int)) (h0 : 0 < rows.length) (hc : c.length = rows.length) (hn : rows.length ≤ 1000) (hr : ∀ r, r ∈ rows → r.length = L) : Ev (fun k => dotB k wb c rows) (dotV L wb c rows, 0) := by
 have hall : rows.all (evB wb) = true := by
  rw [List.all_eq_true]
  intro r h
  unfold evB
  rw [hr r h, hd]; rfl
 refine Ev.congr (f := fun k => alz.f k (List.zipWith (mulB wb) c rows)) (fun k => by unfold dotB; rw [if_pos hall]) ?_
 exact sum_ev _ L (by omega) (by simp; omega) (by simp; omega) (zip_len hd hr)
theorem parl_ev (wb : Int) (L : Nat) (hL : L ≤ 1000000) (hd : L % wN wb = 0) (data : List (List Int)) (h0 : 0 < data.length) (hn : data.length ≤ 1000) (hr : ∀ r, r ∈ data → r.length = L) :
  ∀ (rs acc : List (List Int)), (∀ r, r ∈ rs → r.length = data.length) → Ev (fun k => aoz.l k wb data rs acc) (acc ++ rs.map (fun c => dotV L wb c data), 0)
 | [], acc, _ => by
  simp only [aoz.l, List.map_nil, List.append_nil]
  exact Ev.now _
 | row :: rs, acc, hc => by
  have h1 := dot_ev wb L hL hd row data h0 (hc row (List.mem_cons_self ..)) hn hr
  have h2 := parl_ev wb L hL hd data h0 hn hr rs (acc ++ [dotV L wb row data]) (fun r h => hc r (List.mem_cons_of_mem _ h))
  simp only [aoz.l]
  refine Ev.bind h1 ?_
  rw [List.append_assoc] at h2
  simpa using h2
def parV (L : Nat) (p : Int) (K M : Nat) (data : List (List Int)) : List (List Int) := (parM p K M).map fun c => dotV L (pbits p) c data
theorem par_ev (p : Int) (K M L : Nat) (data : List (List Int)) (hmay : agz.f p (K : Int) (M : Int) = some true) (hK : data.length = K) (hL : L ≤ 1000000) (hd : L % wN (pbits p) = 0) (hr : ∀ r, r ∈ data → r.length = L) :
  Ev (fun k => aoz.f k p (K : Int) (M : Int) data) (parV L p K M data, 0) := by
 obtain ⟨p1, p2, k1, k2, m1, m2⟩ := bAz hmay
 have hgd := dxz p K M (by omega) (by omega) (by omega) (by omega)
 have hs : aoz.small data = true := by
  simp only [aoz.small, Bool.and_eq_true, decide_eq_true_eq, List.all_eq_true]
  exact ⟨by omega, fun r h => by rw [hr r h]; exact hL⟩
 have h1 := parl_ev (pbits p) L hL hd data (by omega) (by omega) hr (parM p K M) [] (fun r h => by rw [(hgd.1 r h).1, hK])
 refine Ev.congr (fun k => ?_) h1
 unfold aoz.f
 rw [hmay, Option.bind_some, if_pos rfl, if_pos (by omega), if_pos hs, Int.toNat_natCast, Int.toNat_natCast]
end Go.Proofs.YtpdakdcmahlghaaGreat.XCo
end
section
namespace Go.Proofs.YtpdakdcmahlghaaGreat.XCo
open Go.RowKit Go.Proofs.YtpdakdcmahlghaaGreatW.PrintWords Go.Proofs.YtpdakdcmahlghaaGreatW.PrintLast Go.Proofs.YtpdakdcmahlghaaGreatW.PrintMore
attribute [local go_sem] ayz azz aJz aKz auz avz aAz aBz
set_option linter.unusedVariables false
set_option linter.unusedSimpArgs false
def fN (wb : Int) : Nat := if wb = 8 then 256 else 65536
theorem fN_fsize {wb : Int} (hw : wb = 8 ∨ wb = 16) : fsize wb = (fN wb : Int) := by rcases hw with rfl | rfl <;> rfl
theorem gmul_cast {wb a b : Int} (ha : 0 ≤ a ∧ a < fsize wb) (hb : 0 ≤ b ∧ b < fsize wb) : gmul wb a b = (gmN wb a.toNat b.toNat : Int) := by
 unfold gmul inF
 rw [if_pos (by simp [ha.1, ha.2, hb.1, hb.2])]
theorem c0z {wb a b : Int} (ha : 0 ≤ a ∧ a < fsize wb) (hb : 0 ≤ b ∧ b < fsize wb) : (gmul wb a b).toNat = gmN wb a.toNat b.toNat := by
 rw [gmul_cast ha hb, Int.toNat_natCast]
section
variable {wb : Int} (hw : wb = 8 ∨ wb = 16)
include hw
theorem bMz : ∃ (m q : Nat) (l : List Nat), GfInv m q l ∧ fN wb = 2 ^ (m + 1) ∧ ∀ a b, gmN wb a b = gm m q a b := by
 rcases hw with rfl | rfl
 ·exact ⟨7, 285, _, gf8, rfl, fun a b => rfl⟩
 ·exact ⟨15, 69643, _, gf16, rfl, fun a b => rfl⟩
theorem gmN_ltN {a : Nat} (b : Nat) (ha : a < fN wb) : gmN wb a b < fN wb := by
 obtain ⟨m, q, l, F, e, h⟩ := bMz hw
 rw [h, e]
 exact F.lt (by rw [← e]; exact ha)
theorem gmN_xl {a c : Nat} (b : Nat) (ha : a < fN wb) (hc : c < fN wb) : gmN wb (a ^^^ c) b = gmN wb a b ^^^ gmN wb c b := by
 obtain ⟨m, q, l, F, e, h⟩ := bMz hw
 rw [e] at ha hc
 rw [h, h, h]
 exact F.cbz ha hc
theorem gmN_xr (a b c : Nat) : gmN wb a (b ^^^ c) = gmN wb a b ^^^ gmN wb a c := by
 obtain ⟨m, q, l, F, e, h⟩ := bMz hw
 rw [h, h, h]
 exact Gf.cgz a b c
theorem gmN_comm {a b : Nat} (ha : a < fN wb) (hb : b < fN wb) : gmN wb a b = gmN wb b a := by
 obtain ⟨m, q, l, F, e, h⟩ := bMz hw
 rw [e] at ha hb
 rw [h, h]
 exact F.comm ha hb
theorem gmN_asc {a b : Nat} (ha : a < fN wb) (hb : b < fN wb) (c : Nat) : gmN wb (gmN wb a b) c = gmN wb a (gmN wb b c) := by
 obtain ⟨m, q, l, F, e, h⟩ := bMz hw
 rw [e] at ha hb
 rw [h, h, h, h]
 exact F.assoc ha hb c
theorem gmN_id {a : Nat} (ha : a < fN wb) : gmN wb a 1 = a := by
 obtain ⟨m, q, l, F, e, h⟩ := bMz hw
 rw [e] at ha
 rw [h]
 exact F.one_right ha
theorem one_ltN : 1 < fN wb := by rcases hw with rfl | rfl <;> decide
theorem gmN_idl {a : Nat} (ha : a < fN wb) : gmN wb 1 a = a := by rw [gmN_comm hw (one_ltN hw) ha, gmN_id hw ha]
theorem gmN_zl (a : Nat) : gmN wb 0 a = 0 := by
 obtain ⟨m, q, l, F, e, h⟩ := bMz hw
 rw [h]
 exact Gf.zero_left a
theorem bXz (a : Nat) : gmN wb a 0 = 0 := by
 obtain ⟨m, q, l, F, e, h⟩ := bMz hw
 rw [h]
 exact Gf.cWz a
theorem xor_ltN {a b : Nat} (ha : a < fN wb) (hb : b < fN wb) : a ^^^ b < fN wb := by
 obtain ⟨m, q, l, F, e, h⟩ := bMz hw
 rw [e] at ha hb ⊢
 exact Nat.xor_lt_two_pow ha hb
theorem a6z {a : Int} (ha : 0 ≤ a ∧ a < fsize wb) : a.toNat < fN wb := by
 have := fN_fsize hw
 omega
theorem bx_toNat {a b : Int} (ha : 0 ≤ a ∧ a < fsize wb) (hb : 0 ≤ b ∧ b < fsize wb) : (Go.bits .xor .i64 a b).toNat = a.toNat ^^^ b.toNat := by
 obtain ⟨x, rfl⟩ : ∃ x : Nat, a = x := ⟨a.toNat, by omega⟩
 obtain ⟨y, rfl⟩ : ∃ y : Nat, b = y := ⟨b.toNat, by omega⟩
 rcases cGz hw with ⟨e, -⟩ | ⟨e, -⟩ <;> rw [e] at ha hb
 ·rw [cpz x y (by omega) (by omega)]; simp
 ·rw [cpz x y (by omega) (by omega)]; simp
theorem gmN_inv {a : Nat} (ha : a < fN wb) (h0 : a ≠ 0) : gmN wb a (ginv wb (a : Int)).toNat = 1 := by
 have e : (ginv wb (a : Int)).toNat = gpwN wb a (fsize wb - 2).toNat := by
  have hin : inF wb (a : Int) = true := by
   unfold inF
   rw [decide_eq_true (by omega), decide_eq_true (by rw [fN_fsize hw]; omega)]
   rfl
  have hb : ((a : Int) != 0) = true := by simpa using h0
  have hf : decide ((0 : Int) ≤ fsize wb - 2) = true := by rcases hw with rfl | rfl <;> rfl
  unfold ginv
  rw [hin, hb, if_pos (by decide)]
  unfold gpow
  rw [hin, hf, if_pos (by decide), Int.toNat_natCast, Int.toNat_natCast]
 rw [e]
 rcases hw with rfl | rfl
 ·exact gf8.crz (m := 7) (by exact ha) h0
 ·exact gf16.crz (m := 15) (by exact ha) h0
end
theorem xor4 (a b c d : Nat) : (a ^^^ b) ^^^ (c ^^^ d) = (a ^^^ c) ^^^ (b ^^^ d) := by
 rw [Nat.xor_assoc, Nat.xor_assoc, ← Nat.xor_assoc b, ← Nat.xor_assoc c, Nat.xor_comm b]
def evN (wb : Int) : List Int → List Nat → Nat
 | x :: r, y :: v => gmN wb x.toNat y ^^^ evN wb r v
 | _, _ => 0
section
variable {wb : Int} (hw : wb = 8 ∨ wb = 16)
include hw
theorem evN_clr {n : Int} (hn : 0 ≤ n ∧ n < fsize wb) : ∀ (r p : List Int) (v : List Nat), r.length = p.length → (∀ x, x ∈ r → 0 ≤ x ∧ x < fsize wb) → (∀ x, x ∈ p → 0 ≤ x ∧ x < fsize wb) →
  evN wb (List.zipWith (clrF wb n) r p) v = evN wb r v ^^^ gmN wb n.toNat (evN wb p v)
 | [], [], v, _, _, _ => by simp [evN, bXz hw]
 | [], _ :: _, _, h, _, _ => by simp at h
 | _ :: _, [], _, h, _, _ => by simp at h
 | x :: r, y :: p, [], _, _, _ => by simp [evN, bXz hw]
 | x :: r, y :: p, z :: v, h, hr, hp => by
  have ih := evN_clr hn r p v (by simpa using h) (fun x hx => hr x (List.mem_cons_of_mem _ hx)) (fun x hx => hp x (List.mem_cons_of_mem _ hx))
  have hx := hr x (List.mem_cons_self ..)
  have hy := hp y (List.mem_cons_self ..)
  show gmN wb (clrF wb n x y).toNat z ^^^ evN wb (List.zipWith (clrF wb n) r p) v = (gmN wb x.toNat z ^^^ evN wb r v) ^^^ gmN wb n.toNat (gmN wb y.toNat z ^^^ evN wb p v)
  have e : (clrF wb n x y).toNat = x.toNat ^^^ gmN wb n.toNat y.toNat := by
   unfold clrF
   rw [bx_toNat hw hx (aZz hw _ _), c0z hn hy]
  rw [ih, e, gmN_xl hw z (a6z hw hx) (gmN_ltN hw _ (a6z hw hn)), gmN_asc hw (a6z hw hn) (a6z hw hy), gmN_xr hw, xor4]
theorem evN_scl {c : Int} (hc : 0 ≤ c ∧ c < fsize wb) : ∀ (p : List Int) (v : List Nat), (∀ x, x ∈ p → 0 ≤ x ∧ x < fsize wb) →
  evN wb (List.zipWith (fun x _ => gmul wb x c) p p) v = gmN wb c.toNat (evN wb p v)
 | [], v, _ => by simp [evN, bXz hw]
 | x :: p, [], _ => by simp [evN, bXz hw]
 | x :: p, z :: v, hp => by
  have ih := evN_scl hc p v (fun x hx => hp x (List.mem_cons_of_mem _ hx))
  have hx := hp x (List.mem_cons_self ..)
  show gmN wb (gmul wb x c).toNat z ^^^ evN wb (List.zipWith (fun x _ => gmul wb x c) p p) v = gmN wb c.toNat (gmN wb x.toNat z ^^^ evN wb p v)
  rw [ih, c0z hx hc, gmN_xr hw, gmN_comm hw (a6z hw hx) (a6z hw hc), gmN_asc hw (a6z hw hc) (a6z hw hx)]
theorem evN_off : ∀ (r : List Int) (v : List Nat), (∀ j, j < v.length → r.getD j 0 = 0 ∨ v.getD j 0 = 0) → evN wb r v = 0
 | [], v, _ => rfl
 | x :: r, [], _ => rfl
 | x :: r, y :: v, h => by
  have ih := evN_off r v (fun j hj => by simpa using h (j + 1) (by simpa using hj))
  have h0 := h 0 (by simp)
  show gmN wb x.toNat y ^^^ evN wb r v = 0
  rw [ih]
  rcases h0 with h0 | h0
  ·have : x = 0 := by simpa using h0
   rw [this]; simp [gmN_zl hw]
  ·have : y = 0 := by simpa using h0
   rw [this]; simp [bXz hw]
theorem evN_two : ∀ (r : List Int) (v : List Nat) (i c : Nat), i < c → c < v.length → r.getD i 0 = 1 → v.getD c 0 = 1 → (v.getD i 0 = (r.getD c 0).toNat) → (0 ≤ r.getD c 0 ∧ r.getD c 0 < fsize wb) → (∀ j, j < v.length → j ≠ i → j ≠ c → r.getD j 0 = 0 ∨ v.getD j 0 = 0) → evN wb r v = 0
 | [], v, i, c, _, _, h1, _, _, _, _ => by simp at h1
 | x :: r, [], i, c, _, h, _, _, _, _, _ => by simp at h
 | x :: r, y :: v, 0, c + 1, _, hc, h1, h2, h3, h4, h => by
  have e1 : x = 1 := by simpa using h1
  have e2 : v.getD c 0 = 1 := by simpa using h2
  have e3 : y = (r.getD c 0).toNat := by simpa using h3
  have e4 : 0 ≤ r.getD c 0 ∧ r.getD c 0 < fsize wb := by simpa using h4
  have hlt := a6z hw e4
  show gmN wb x.toNat y ^^^ evN wb r v = 0
  have key : ∀ (r : List Int) (v : List Nat) (c : Nat), c < v.length → v.getD c 0 = 1 → (0 ≤ r.getD c 0 ∧ r.getD c 0 < fsize wb) → (∀ j, j < v.length → j ≠ c → r.getD j 0 = 0 ∨ v.getD j 0 = 0) → evN wb r v = (r.getD c 0).toNat := by
   intro r
   induction r with
   | nil => intro v c _ _ _ _; simp [evN]
   | cons x r ih =>
    intro v c hc h1 h2 h
    cases v with
    | nil => simp at hc
    | cons y v =>
     cases c with
     | zero =>
      have := evN_off hw r v (fun j hj => by simpa using h (j + 1) (by simpa using hj) (by omega))
      have hy : y = 1 := by simpa using h1
      have hx : 0 ≤ x ∧ x < fsize wb := by simpa using h2
      show gmN wb x.toNat y ^^^ evN wb r v = _
      rw [this, hy, gmN_id hw (a6z hw hx), Nat.xor_zero]
      simp
     | succ c =>
      have ih := ih v c (by simpa using hc) (by simpa using h1) (by simpa using h2) (fun j hj hne => by simpa using h (j + 1) (by simpa using hj) (by omega))
      have h0 := h 0 (by simp) (by omega)
      show gmN wb x.toNat y ^^^ evN wb r v = _
      rw [ih]
      rcases h0 with h0 | h0
      ·have : x = 0 := by simpa using h0
       rw [this]
       show gmN wb 0 y ^^^ _ = _
       rw [gmN_zl hw, Nat.zero_xor]
       simp
      ·have : y = 0 := by simpa using h0
       rw [this, bXz hw, Nat.zero_xor]
       simp
  rw [key r v c (by simpa using hc) e2 e4 (fun j hj hne => by simpa using h (j + 1) (by simpa using hj) (by omega) (by omega)), e1, e3]
  show gmN wb 1 _ ^^^ _ = 0
  rw [gmN_idl hw hlt, Nat.xor_self]
 | x :: r, y :: v, i + 1, c + 1, hic, hc, h1, h2, h3, h4, h => by
  have ih := evN_two r v i c (by omega) (by simpa using hc) (by simpa using h1) (by simpa using h2) (by simpa using h3) (by simpa using h4) (fun j hj hne hnc => by simpa using h (j + 1) (by simpa using hj) (by omega) (by omega))
  have h0 := h 0 (by simp) (by omega) (by omega)
  show gmN wb x.toNat y ^^^ evN wb r v = 0
  rw [ih]
  rcases h0 with h0 | h0
  ·have : x = 0 := by simpa using h0
   rw [this]
   show gmN wb 0 y ^^^ _ = _
   rw [gmN_zl hw, Nat.zero_xor]
  ·have : y = 0 := by simpa using h0
   rw [this, bXz hw, Nat.zero_xor]
 | x :: r, y :: v, i, 0, hic, _, _, _, _, _, _ => by omega
end
theorem idxF_at' {α : Type} (p : α → Bool) : ∀ (l : List α), ¬ idxF p l < 0 → ∃ x, l[(idxF p l).toNat]? = some x ∧ p x = true
 | [], h => by simp [idxF] at h
 | y :: l, h => by
  have h1 := ciz p l
  unfold idxF at h ⊢
  by_cases hp : p y = true
  ·rw [if_pos hp]; exact ⟨y, by simp, hp⟩
  ·rw [if_neg hp] at h ⊢
   by_cases hn : idxF p l < 0
   ·rw [if_pos hn] at h; omega
   ·rw [if_neg hn]
    obtain ⟨x, hx, hpx⟩ := idxF_at' p l hn
    refine ⟨x, ?_, hpx⟩
    rw [show (idxF p l + 1).toNat = (idxF p l).toNat + 1 by omega, List.getElem?_cons_succ]
    exact hx
theorem evN_lt {wb : Int} (hw : wb = 8 ∨ wb = 16) : ∀ (r : List Int) (v : List Nat), (∀ x, x ∈ r → 0 ≤ x ∧ x < fsize wb) → evN wb r v < fN wb
 | [], _, _ => by have := one_ltN hw; simp only [evN]; omega
 | _ :: _, [], _ => by have := one_ltN hw; simp only [evN]; omega
 | x :: r, y :: v, h => xor_ltN hw (gmN_ltN hw _ (a6z hw (h x (List.mem_cons_self ..)))) (evN_lt hw r v (fun z hz => h z (List.mem_cons_of_mem _ hz)))
structure RI (wb : Int) (n : Nat) (u b : List Nat) (c : Nat) (W : List (List Int)) : Prop where
 len : W.length = n
 good : ∀ r, r ∈ W → Good wb (n + n) r
 zero : ∀ r, r ∈ W → evN wb r (u ++ b) = 0
 unit : ∀ i r, W[i]? = some r → ∀ j, j < c → r.getD j 0 = if i = j then 1 else 0
 inj : ∀ v : List Nat, v.length = n → (∀ x, x ∈ v → x < fN wb) → (∀ r, r ∈ W → evN wb r v = 0) → ∀ x, x ∈ v → x = 0
theorem bNz {wb : Int} {L : Nat} {r : List Int} (h : Good wb L r) (j : Nat) : 0 ≤ r.getD j 0 ∧ r.getD j 0 < fsize wb := by
 rw [List.getD_eq_getElem?_getD]
 cases e : r[j]? with
 | none => exact ⟨Int.le_refl _, by show (0 : Int) < _; unfold fsize; split <;> omega⟩
 | some x => exact h.2 x (List.mem_of_getElem? e)
theorem getD_zip (f : Int → Int → Int) (hf : f 0 0 = 0) : ∀ (r p : List Int) (j : Nat), r.length = p.length → (List.zipWith f r p).getD j 0 = f (r.getD j 0) (p.getD j 0)
 | [], [], j, _ => by simp [hf]
 | [], _ :: _, _, h => by simp at h
 | _ :: _, [], _, h => by simp at h
 | x :: r, y :: p, 0, _ => by simp
 | x :: r, y :: p, j + 1, h => by simpa using getD_zip f hf r p j (by simpa using h)
theorem dkz {a b : Int} (ha : 0 ≤ a) (hb : 0 ≤ b) (h : a.toNat = b.toNat) : a = b := by omega
section
variable {wb : Int} (hw : wb = 8 ∨ wb = 16)
include hw
theorem RI.pivot {n c : Nat} {u b : List Nat} {W : List (List Int)} (h : RI wb n u b c W) (hc : c < n) : ¬ idxF (nzB c) (W.drop c) < 0 := by
 intro hneg
 have hany := (ciz (nzB c) (W.drop c)).2.2.1 hneg
 have hz : ∀ i r, W[i]? = some r → c ≤ i → r.getD c 0 = 0 := by
  intro i r hr hi
  have h1 := List.any_eq_false.1 hany r (List.mem_iff_getElem?.2 ⟨i - c, by rw [List.getElem?_drop, show c + (i - c) = i by omega]; exact hr⟩)
  simpa [nzB] using h1
 obtain ⟨v, hv⟩ : ∃ v : List Nat, v = (List.range n).map (fun j => if j < c then ((W.getD j []).getD c 0).toNat else if j = c then 1 else 0) := ⟨_, rfl⟩
 have vlen : v.length = n := by rw [hv]; simp
 have vat : ∀ j, j < n → v.getD j 0 = if j < c then ((W.getD j []).getD c 0).toNat else if j = c then 1 else 0 := by
  intro j hj
  rw [hv, List.getD_eq_getElem?_getD]
  simp [hj]
 have hin : ∀ x, x ∈ v → x < fN wb := by
  intro x hx
  rw [hv] at hx
  obtain ⟨j, hj, rfl⟩ := List.mem_map.1 hx
  have hj : j < n := by simpa using hj
  have p1 := one_ltN hw
  split
  ·obtain ⟨r, hr⟩ : ∃ r, W[j]? = some r := ⟨_, List.getElem?_eq_getElem (by rw [h.len]; exact hj)⟩
   have hWr : W.getD j [] = r := by rw [List.getD_eq_getElem?_getD, hr]; rfl
   rw [hWr]
   exact a6z hw (bNz (h.good r (List.mem_of_getElem? hr)) c)
  ·split <;> omega
 have hall := h.inj v vlen hin (by
  intro r hr
  obtain ⟨i, hi⟩ := List.mem_iff_getElem?.1 hr
  have hil := (List.getElem?_eq_some_iff.1 hi).1
  rw [h.len] at hil
  by_cases hic : i < c
  ·refine evN_two hw r v i c hic (by omega) (by rw [h.unit i r hi i hic, if_pos rfl]) (by rw [vat c hc, if_neg (Nat.lt_irrefl _), if_pos rfl]) (by
    have hWr : W.getD i [] = r := by rw [List.getD_eq_getElem?_getD, hi]; rfl
    rw [vat i hil, if_pos hic, hWr]) (bNz (h.good r hr) c) ?_
   intro j hj hji hjc
   by_cases hjl : j < c
   ·exact .inl (by rw [h.unit i r hi j hjl, if_neg (Ne.symm hji)])
   ·exact .inr (by rw [vat j (by omega), if_neg hjl, if_neg hjc])
  ·refine evN_off hw r v ?_
   intro j hj
   by_cases hjl : j < c
   ·exact .inl (by rw [h.unit i r hi j hjl, if_neg (by omega)])
   ·by_cases hjc : j = c
    ·exact .inl (by rw [hjc]; exact hz i r hi (by omega))
    ·exact .inr (by rw [vat j (by omega), if_neg hjl, if_neg hjc]))
 have h1 : v.getD c 0 = 1 := by rw [vat c hc, if_neg (Nat.lt_irrefl _), if_pos rfl]
 have h2 : v.getD c 0 = 0 := by
  rw [List.getD_eq_getElem?_getD, List.getElem?_eq_getElem (by omega)]
  exact hall _ (List.getElem_mem _)
 omega
theorem RI.step {n c : Nat} {u b : List Nat} {W : List (List Int)} (h : RI wb n u b c W) (hc : c < n) : RI wb n u b (c + 1) (redStep wb c W c).1 ∧ (redStep wb c W c).2 = c + 1 := by
 have hp := h.pivot hw hc
 have hg := d1z hw (n + n) c W c h.good
 revert hg
 unfold redStep
 have hat := idxF_at' (nzB c) (W.drop c) hp
 have hz := ciz (nzB c) (W.drop c)
 generalize idxF (nzB c) (W.drop c) = z at *
 dsimp only
 rw [if_neg hp]
 obtain ⟨pr, hpr, hnz⟩ := hat
 rw [List.getElem?_drop] at hpr
 obtain ⟨k, hk⟩ : ∃ k, c + z.toNat = k := ⟨_, rfl⟩
 rw [hk] at hpr ⊢
 have hkc : c ≤ k := by omega
 obtain ⟨q, hq⟩ : ∃ q, W[c]? = some q := ⟨_, List.getElem?_eq_getElem (by rw [h.len]; exact hc)⟩
 have hsw := b3z W c k q pr hq hpr
 have hsl := b2z W c k
 have hsm := swapL_mem W c k
 generalize swapL W c k = R at *
 have hRc : R[c]? = some pr := by
  rw [hsw]
  by_cases hck : c = k
  ·rw [if_pos hck]; subst hck; rw [← hq, hpr]
  ·rw [if_neg hck, if_pos rfl]
 have hRcD : R.getD c [] = pr := by rw [List.getD_eq_getElem?_getD, hRc]; rfl
 rw [hRcD]
 have hgp := h.good pr (List.mem_of_getElem? hpr)
 have hpc := bNz hgp c
 have hpc0 : pr.getD c 0 ≠ 0 := by simpa [nzB] using hnz
 obtain ⟨a, ha⟩ : ∃ a : Nat, pr.getD c 0 = (a : Int) := ⟨(pr.getD c 0).toNat, by omega⟩
 have haN : a < fN wb := by have := a6z hw hpc; rw [ha] at this; simpa using this
 have hir := dOz hw (pr.getD c 0)
 have hinv := gmN_inv hw haN (by omega)
 rw [← ha] at hinv
 obtain ⟨i, hi⟩ : ∃ i, ginv wb (pr.getD c 0) = i := ⟨_, rfl⟩
 rw [hi] at hir hinv ⊢
 have hiN := a6z hw hir
 obtain ⟨p2, hp2⟩ : ∃ p2, List.zipWith (fun x _ => gmul wb x i) pr pr = p2 := ⟨_, rfl⟩
 have e2 : ∀ v, evN wb p2 v = gmN wb i.toNat (evN wb pr v) := fun v => by rw [← hp2]; exact evN_scl hw hir pr v hgp.2
 have d2 : ∀ j, p2.getD j 0 = gmul wb (pr.getD j 0) i := fun j => by rw [← hp2]; exact getD_zip (fun x _ => gmul wb x i) (cxz _ _) pr pr j rfl
 have hgp2 : Good wb (n + n) p2 := by rw [← hp2]; exact zip_good _ hgp hgp (fun x y _ _ => aZz hw _ _)
 rw [hp2]
 have hset : ∀ i, i ≠ c → (R.set c p2)[i]? = R[i]? := fun i hi => by rw [List.getElem?_set_ne (Ne.symm hi)]
 have hsetc : (R.set c p2)[c]? = some p2 := by rw [List.getElem?_set_self (by rw [hsl, h.len]; exact hc)]
 have new : ∀ i r, (clrAll wb c c p2 (R.set c p2))[i]? = some r → (i = c ∧ r = p2) ∨ (i ≠ c ∧ ∃ r0, R[i]? = some r0 ∧ r = List.zipWith (clrF wb (r0.getD c 0)) r0 p2) := by
  intro i r hr
  by_cases hic : i = c
  ·subst hic
   rw [b4z _ _ _ _ _ _ p2 hsetc, if_pos rfl] at hr
   exact .inl ⟨rfl, by injection hr with e; exact e.symm⟩
  ·obtain ⟨r0, hr0⟩ : ∃ r0, R[i]? = some r0 := ⟨_, List.getElem?_eq_getElem (by have := (List.getElem?_eq_some_iff.1 hr).1; rw [bhz, List.length_set] at this; exact this)⟩
   rw [b4z _ _ _ _ _ _ r0 (by rw [hset i hic]; exact hr0), if_neg hic] at hr
   exact .inr ⟨hic, r0, hr0, by injection hr with e; exact e.symm⟩
 have old : ∀ i r0, R[i]? = some r0 → i ≠ c → List.zipWith (clrF wb (r0.getD c 0)) r0 p2 ∈ clrAll wb c c p2 (R.set c p2) := by
  intro i r0 hr0 hic
  refine List.mem_iff_getElem?.2 ⟨i, ?_⟩
  rw [b4z _ _ _ _ _ _ r0 (by rw [hset i hic]; exact hr0), if_neg hic]
 have oldc : p2 ∈ clrAll wb c c p2 (R.set c p2) := by
  refine List.mem_iff_getElem?.2 ⟨c, ?_⟩
  rw [b4z _ _ _ _ _ _ p2 hsetc, if_pos rfl]
 have goodR : ∀ i r0, R[i]? = some r0 → Good wb (n + n) r0 := fun i r0 hr0 => h.good r0 (hsm r0 (List.mem_of_getElem? hr0))
 have eclr : ∀ (i : Nat) (r0 : List Int) (v : List Nat), R[i]? = some r0 → evN wb (List.zipWith (clrF wb (r0.getD c 0)) r0 p2) v = evN wb r0 v ^^^ gmN wb (r0.getD c 0).toNat (evN wb p2 v) := by
  intro i r0 v hr0
  have hg0 := goodR i r0 hr0
  exact evN_clr hw (bNz hg0 c) r0 p2 v (hg0.1.trans hgp2.1.symm) hg0.2 hgp2.2
 have prz : ∀ j, j < c → pr.getD j 0 = 0 := fun j hj => by rw [h.unit k pr hpr j hj, if_neg (by omega)]
 have p2z : ∀ j, j < c → p2.getD j 0 = 0 := fun j hj => by rw [d2, prz j hj, cxz]
 have p2c : p2.getD c 0 = 1 := by
  refine dkz (bNz hgp2 c).1 (by omega) ?_
  rw [d2, c0z hpc hir, ha]
  simpa using hinv
 have Runit : ∀ i r0, R[i]? = some r0 → i ≠ c → ∀ j, j < c → r0.getD j 0 = if i = j then 1 else 0 := by
  intro i r0 hr0 hic j hj
  rw [hsw] at hr0
  by_cases hik : i = k
  ·rw [if_pos hik] at hr0
   injection hr0 with e
   subst e
   rw [h.unit c q hq j hj, if_neg (by omega), if_neg (by omega)]
  ·rw [if_neg hik, if_neg hic] at hr0
   exact h.unit i r0 hr0 j hj
 have Rall : ∀ r, r ∈ W → r = pr ∨ ∃ i, i ≠ c ∧ R[i]? = some r := by
  intro r hr
  obtain ⟨i, hi⟩ := List.mem_iff_getElem?.1 hr
  by_cases hik : i = k
  ·subst hik; rw [hpr] at hi; injection hi with e; exact .inl e.symm
  ·by_cases hic : i = c
   ·rw [hic, hq] at hi
    injection hi with e
    subst e
    exact .inr ⟨k, fun e => hik (hic.trans e.symm), by rw [hsw, if_pos rfl]⟩
   ·exact .inr ⟨i, hic, by rw [hsw, if_neg hik, if_neg hic]; exact hi⟩
 intro hg
 refine ⟨⟨hg.2.trans h.len, hg.1, ?_, ?_, ?_⟩, rfl⟩
 ·intro r hr
  obtain ⟨i, hi⟩ := List.mem_iff_getElem?.1 hr
  have z2 : evN wb p2 (u ++ b) = 0 := by rw [e2, h.zero pr (List.mem_of_getElem? hpr), bXz hw]
  rcases new i r hi with ⟨-, rfl⟩ | ⟨-, r0, hr0, rfl⟩
  ·exact z2
  ·rw [eclr i r0 _ hr0, z2, bXz hw, h.zero r0 (hsm r0 (List.mem_of_getElem? hr0))]
   rfl
 ·intro i r hr j hj
  rcases new i r hr with ⟨rfl, rfl⟩ | ⟨hic, r0, hr0, rfl⟩
  ·by_cases hji : j = i
   ·subst hji; rw [p2c, if_pos rfl]
   ·rw [p2z j (by omega), if_neg (fun e => hji e.symm)]
  ·have hg0 := goodR i r0 hr0
   have hc0 := bNz hg0 c
   rw [getD_zip _ (by unfold clrF; rw [dpz]; rfl) r0 p2 j (hg0.1.trans hgp2.1.symm)]
   have hd := bNz hg0 j
   have hd2 := bNz hgp2 j
   have key : (clrF wb (r0.getD c 0) (r0.getD j 0) (p2.getD j 0)).toNat = (r0.getD j 0).toNat ^^^ gmN wb (r0.getD c 0).toNat (p2.getD j 0).toNat := by
    unfold clrF
    rw [bx_toNat hw hd (aZz hw _ _), c0z hc0 hd2]
   have hrng : 0 ≤ clrF wb (r0.getD c 0) (r0.getD j 0) (p2.getD j 0) := by unfold clrF; exact (dtz hw hd (aZz hw _ _)).1
   by_cases hjc : j = c
   ·subst hjc
    rw [if_neg hic]
    refine dkz hrng (by omega) ?_
    rw [key, p2c]
    show _ ^^^ gmN wb _ 1 = 0
    rw [gmN_id hw (a6z hw hd), Nat.xor_self]
   ·have hjl : j < c := by omega
    refine dkz hrng (by split <;> omega) ?_
    rw [key, p2z j hjl]
    show _ ^^^ gmN wb _ 0 = _
    rw [bXz hw, Nat.xor_zero, Runit i r0 hr0 hic j hjl]
 ·intro v hv hin hz0
  refine h.inj v hv hin ?_
  have z2 : evN wb p2 v = 0 := hz0 p2 oldc
  intro r hr
  rcases Rall r hr with rfl | ⟨i, hic, hi⟩
  ·have h1 : gmN wb a (evN wb p2 v) = 0 := by rw [z2, bXz hw]
   have e3 : gmN wb a i.toNat = 1 := hinv
   rw [e2, ← gmN_asc hw haN hiN, e3] at h1
   rwa [gmN_idl hw (evN_lt hw r v hgp.2)] at h1
  ·have h1 := hz0 _ (old i r hi hic)
   rw [eclr i r v hi, z2, bXz hw, Nat.xor_zero] at h1
   exact h1
theorem RI.all {n : Nat} {u b : List Nat} : ∀ (m c : Nat) (W : List (List Int)), RI wb n u b c W → c + m = n → RI wb n u b n (redF wb m c W c).1 ∧ (redF wb m c W c).2 = n
 | 0, c, W, h, e => by
  have : c = n := by omega
  subst this
  exact ⟨h, rfl⟩
 | m + 1, c, W, h, e => by
  have hs := h.step hw (by omega)
  unfold redF
  rw [if_neg (by rw [h.len]; omega), hs.2]
  exact RI.all m (c + 1) _ hs.1 (by omega)
end
end Go.Proofs.YtpdakdcmahlghaaGreat.XCo
end
section
namespace Go.Proofs.YtpdakdcmahlghaaGreat.XCo
open Go.RowKit Go.Proofs.YtpdakdcmahlghaaGreatW.PrintWords Go.Proofs.YtpdakdcmahlghaaGreatW.PrintLast Go.Proofs.YtpdakdcmahlghaaGreatW.PrintMore
attribute [local go_sem] ayz azz aJz aKz auz avz aAz aBz
set_option linter.unusedVariables false
set_option linter.unusedSimpArgs false
def unitN (p : Int) : Nat := if p ≤ 2 then 8 else if p ≤ 4 then 16 else 1
def aheadN (p : Int) : Nat := if p = 5 then 4 else 0
theorem rule_eq {p : Int} (h1 : 1 ≤ p) (h2 : p ≤ 6) (k m : Int) : bsz.f p k m = some ((unitN p : Int), (aheadN p : Int)) := by
 have : p = 1 ∨ p = 2 ∨ p = 3 ∨ p = 4 ∨ p = 5 ∨ p = 6 := by omega
 rcases this with rfl | rfl | rfl | rfl | rfl | rfl <;> rfl
theorem w64 {x : Int} (h0 : -1 ≤ x) (h1 : x < 1000000000) : wrap64 x = x := by unfold wrap64; omega
theorem dlz (p : Int) : 1 ≤ unitN p ∧ unitN p ≤ 16 := by unfold unitN; split <;> (try split) <;> omega
theorem dyz (p : Int) : aheadN p ≤ 4 := by unfold aheadN; split <;> omega
def sizeN (p : Int) (K n : Nat) : Nat := unitN p * max ((n + aheadN p + unitN p * K - 1) / (unitN p * K)) 1
theorem sizeN_room (p : Int) (K n : Nat) (hK : 1 ≤ K) : n + aheadN p ≤ sizeN p K n * K := by
 have hu := (dlz p).1
 unfold sizeN
 generalize n + aheadN p = t
 obtain ⟨s, hs⟩ : ∃ s, unitN p * K = s := ⟨_, rfl⟩
 have hs1 : 1 ≤ s := by rw [← hs]; exact Nat.mul_pos hu hK
 rw [hs]
 have h1 := Nat.div_add_mod (t + s - 1) s
 have h2 := Nat.mod_lt (t + s - 1) (show 0 < s from hs1)
 have h3 : s * ((t + s - 1) / s) ≤ s * max ((t + s - 1) / s) 1 := Nat.mul_le_mul_left _ (Nat.le_max_left _ _)
 have h4 : unitN p * max ((t + s - 1) / s) 1 * K = s * max ((t + s - 1) / s) 1 := by rw [← hs, Nat.mul_assoc, Nat.mul_comm (max _ _) K, ← Nat.mul_assoc]
 rw [h4]
 omega
theorem sizeN_pos (p : Int) (K n : Nat) : 1 ≤ sizeN p K n := by
 unfold sizeN
 exact Nat.mul_pos (dlz p).1 (Nat.lt_of_lt_of_le Nat.one_pos (Nat.le_max_right _ _))
theorem dPz (p : Int) (K n : Nat) (hK : 1 ≤ K) (hK2 : K ≤ 8) (hn : n ≤ 4096) : sizeN p K n ≤ 80000 := by
 have hu := dlz p
 have ha := dyz p
 have h1 : (n + aheadN p + unitN p * K - 1) / (unitN p * K) ≤ 4300 := by
  have h2 : unitN p * K ≤ 16 * 8 := Nat.mul_le_mul hu.2 hK2
  exact Nat.le_trans (Nat.div_le_self _ _) (by omega)
 unfold sizeN
 exact Nat.le_trans (Nat.mul_le_mul hu.2 (show max ((n + aheadN p + unitN p * K - 1) / (unitN p * K)) 1 ≤ 4300 by omega)) (by omega)
theorem sizeN_even (p : Int) (K n : Nat) : sizeN p K n % wN (pbits p) = 0 := by
 unfold pbits
 by_cases h : p = 2
 ·subst h
  rw [if_pos rfl]
  show (8 * _) % 2 = 0
  omega
 ·rw [if_neg h]
  show _ % 1 = 0
  omega
theorem size_ev (p : Int) (K M n : Nat) (hmay : agz.f p (K : Int) (M : Int) = some true) (hn : n ≤ 4096) : Ev (fun k => arz.f k p (K : Int) (M : Int) (n : Int)) ((sizeN p K n : Int), 0) := by
 obtain ⟨p1, p2, k1, k2, m1, m2⟩ := bAz hmay
 have hu := dlz p
 have ha := dyz p
 have hup : unitN p * K ≤ 16 * 8 := Nat.mul_le_mul hu.2 (by omega)
 have hu1 : 1 ≤ unitN p * K := Nat.mul_pos hu.1 (by omega)
 refine Ev.of (fun k => arz.mono _ _ _ _ k) (k := 1) ?_
 unfold arz.f
 rw [hmay, Option.bind_some, if_pos rfl, show decide ((n : Int) < 0) = false by simp]
 rw [arz.j0]
 rw [if_neg (by decide), if_neg (by omega), rule_eq p1 p2, Option.bind_some]
 have w1 : wrap64 ((unitN p : Int) * (K : Int)) = ((unitN p * K : Nat) : Int) := by
  rw [← Int.natCast_mul]; unfold wrap64; omega
 dsimp only
 rw [w1, if_neg (by omega)]
 have w2 : wrap64 (wrap64 (wrap64 ((n : Int) + (aheadN p : Int)) + ((unitN p * K : Nat) : Int)) - 1) = ((n + aheadN p + unitN p * K - 1 : Nat) : Int) := by
  generalize unitN p * K = s at hup hu1 ⊢
  generalize aheadN p = a at ha ⊢
  rw [w64 (x := (n : Int) + (a : Int)) (by omega) (by omega), w64 (x := (n : Int) + (a : Int) + (s : Int)) (by omega) (by omega), w64 (x := (n : Int) + (a : Int) + (s : Int) - 1) (by omega) (by omega)]
  omega
 rw [w2, show Int.tdiv ((n + aheadN p + unitN p * K - 1 : Nat) : Int) ((unitN p * K : Nat) : Int) = (((n + aheadN p + unitN p * K - 1) / (unitN p * K) : Nat) : Int) from (Int.ofNat_tdiv _ _).symm]
 have hle := dPz p K n (by omega) (by omega) hn
 unfold sizeN at hle ⊢
 have hq : (n + aheadN p + unitN p * K - 1) / (unitN p * K) ≤ 4300 := Nat.le_trans (Nat.div_le_self _ _) (by omega)
 generalize (n + aheadN p + unitN p * K - 1) / (unitN p * K) = q at hle hq ⊢
 have w3 : mx (wrap64 (q : Int)) 1 = ((max q 1 : Nat) : Int) := by
  rw [show wrap64 (q : Int) = (q : Int) by unfold wrap64; omega]
  unfold mx
  split <;> omega
 rw [w3, ← Int.natCast_mul]
 rw [show wrap64 ((unitN p * max q 1 : Nat) : Int) = ((unitN p * max q 1 : Nat) : Int) by unfold wrap64; omega]
theorem fill_some (size K : Nat) (hs : 1 ≤ size) : ∀ (cs : List Int) (i : Nat) (rows : List (List Int)), rows.length = K → (∀ r, r ∈ rows → r.length = size) → i + cs.length ≤ size * K →
  ∃ r, aGz.fill size cs i rows = some r ∧ r.length = K ∧ (∀ x, x ∈ r → x.length = size) ∧ (∀ P : Int → Prop, (∀ c, c ∈ cs → P c) → (∀ x, x ∈ rows → ∀ c, c ∈ x → P c) → ∀ x, x ∈ r → ∀ c, c ∈ x → P c)
 | [], i, rows, h1, h2, h3 => ⟨rows, rfl, h1, h2, fun P _ h => h⟩
 | c :: cs, i, rows, h1, h2, h3 => by
  have hlt : i / size < rows.length := by
   rw [h1]
   exact (Nat.div_lt_iff_lt_mul hs).2 (by rw [Nat.mul_comm]; simp at h3; omega)
  obtain ⟨row, hrow⟩ : ∃ r, rows[i / size]? = some r := ⟨_, List.getElem?_eq_getElem hlt⟩
  have hm := List.mem_of_getElem? hrow
  have hd : rows.getD (i / size) [] = row := by rw [List.getD_eq_getElem?_getD, hrow]; rfl
  obtain ⟨r, q1, q2, q3, q4⟩ := fill_some size K hs cs (i + 1) (rows.set (i / size) (row.set (i % size) c)) (by rw [List.length_set]; exact h1) (fun x hx => by
   rcases List.mem_or_eq_of_mem_set hx with hx | rfl
   ·exact h2 x hx
   ·rw [List.length_set]; exact h2 row hm) (by simp at h3; omega)
  refine ⟨r, ?_, q2, q3, fun P hc hr => q4 P (fun c hh => hc c (List.mem_cons_of_mem _ hh)) (fun x hx => ?_)⟩
  ·simp only [aGz.fill]
   rw [if_pos hlt, hd]
   exact q1
  ·rcases List.mem_or_eq_of_mem_set hx with hx | rfl
   ·exact hr x hx
   ·intro y hy
    rcases List.mem_or_eq_of_mem_set hy with hy | rfl
    ·exact hr row hm y hy
    ·exact hc _ (List.mem_cons_self ..)
theorem laidL_len (p : Int) (b : List Int) : (laidL (aheadN p) b).length = b.length + aheadN p := by
 unfold laidL four4
 have := dyz p
 simp; omega
theorem laidL_byte (a : Nat) (b : List Int) (hb : ∀ x, x ∈ b → 0 ≤ x ∧ x ≤ 255) : ∀ x, x ∈ laidL a b → 0 ≤ x ∧ x ≤ 255 := by
 intro x hx
 unfold laidL at hx
 rcases List.mem_append.1 hx with h | h
 ·have h := List.mem_of_mem_drop h
  simp only [four4, List.mem_cons, List.mem_nil_iff, or_false] at h
  rcases h with rfl | rfl | rfl | rfl <;> omega
 ·exact hb x h
theorem split_ev (p : Int) (K M : Nat) (b : List Int) (hmay : agz.f p (K : Int) (M : Int) = some true) (hn : b.length ≤ 4096) :
  ∃ data, data.length = K ∧ (∀ r, r ∈ data → r.length = sizeN p K b.length) ∧ ((∀ x, x ∈ b → 0 ≤ x ∧ x ≤ 255) → ∀ r, r ∈ data → ∀ x, x ∈ r → 0 ≤ x ∧ x ≤ 255) ∧ aGz.fill (sizeN p K b.length) (laidL (aheadN p) b) 0 (List.replicate K (List.replicate (sizeN p K b.length) 0)) = some data ∧ Ev (fun k => aGz.f k p (K : Int) (M : Int) b) (data, 0) := by
 obtain ⟨p1, p2, k1, k2, m1, m2⟩ := bAz hmay
 have hz1 := sizeN_pos p K b.length
 have hz2 := dPz p K b.length (by omega) (by omega) hn
 have hz3 := sizeN_room p K b.length (by omega)
 obtain ⟨data, q1, q2, q3, q4⟩ := fill_some (sizeN p K b.length) K hz1 (laidL (aheadN p) b) 0 (List.replicate K (List.replicate (sizeN p K b.length) 0)) (by simp) (fun r hr => by rw [List.eq_of_mem_replicate hr]; simp) (by rw [laidL_len]; omega)
 refine ⟨data, q2, q3, fun hb => q4 _ (laidL_byte _ b hb) (fun x hx c hc => by
  rw [List.eq_of_mem_replicate hx] at hc
  rw [List.eq_of_mem_replicate hc]
  omega), q1, ?_⟩
 obtain ⟨k0, hk0⟩ := size_ev p K M b.length hmay hn
 refine ⟨k0, fun k hk => ?_⟩
 have h1 : arz.f k p (K : Int) (M : Int) (b.length : Int) = some ((sizeN p K b.length : Int), 0) := hk0 k hk
 show aGz.f k p (K : Int) (M : Int) b = some (data, 0)
 unfold aGz.f
 rw [h1, Option.bind_some, if_pos rfl, if_pos (by omega), if_pos (by omega), if_pos (by show (1 : Int) ≤ _; omega), if_pos (by show _ ≤ (100000 : Int); omega), if_pos (by omega), rule_eq p1 p2, Option.bind_some, if_pos (by have := dyz p; dsimp only; unfold aheadN; split <;> omega), Int.toNat_natCast, Int.toNat_natCast, Int.toNat_natCast, q1]
 rfl
theorem dQz (L : Nat) (p : Int) (K M : Nat) (data : List (List Int)) (hmay : agz.f p (K : Int) (M : Int) = some true) : (parV L p K M data).length = M := by
 obtain ⟨p1, p2, k1, k2, m1, m2⟩ := bAz hmay
 unfold parV
 rw [List.length_map, (dxz p K M (by omega) (by omega) (by omega) (by omega)).2]
theorem some_ev (a b c : Int) (ha : 0 ≤ a ∧ a ≤ 255) (hb : 0 ≤ b ∧ b ≤ 255) (hc : 0 ≤ c ∧ c ≤ 255) : ∃ (p : Int) (K M : Nat), bdz.f a b c = some (p, (K : Int), (M : Int)) ∧ agz.f p (K : Int) (M : Int) = some true ∧ (agz.f 1 (K : Int) (M : Int) = some true) ∧ agz.f 3 (K : Int) (mn (M : Int) 3) = some true := by
 have e1 : wrap64 (1 + Int.tmod (wrap64 a) 6) = 1 + a % 6 := by
  rw [show wrap64 a = a by unfold wrap64; omega, Int.tmod_eq_emod_of_nonneg (by omega)]; unfold wrap64; omega
 have e2 : wrap64 (1 + Int.tmod (wrap64 b) 8) = 1 + b % 8 := by
  rw [show wrap64 b = b by unfold wrap64; omega, Int.tmod_eq_emod_of_nonneg (by omega)]; unfold wrap64; omega
 have e3 : ∀ m : Int, 1 ≤ m → m ≤ 4 → wrap64 (1 + Int.tmod (wrap64 c) m) = 1 + c % m := fun m h1 h2 => by
  rw [show wrap64 c = c by unfold wrap64; omega, Int.tmod_eq_emod_of_nonneg (by omega)]
  have := Int.emod_nonneg c (show m ≠ 0 by omega)
  have := Int.emod_lt_of_pos c (show 0 < m by omega)
  unfold wrap64; omega
 unfold bdz.f
 rw [e1, e2]
 obtain ⟨p, hp⟩ : ∃ p, 1 + a % 6 = p := ⟨_, rfl⟩
 obtain ⟨K, hK⟩ : ∃ K : Nat, 1 + b % 8 = (K : Int) := ⟨(1 + b % 8).toNat, by omega⟩
 have hK1 : 1 ≤ (K : Int) ∧ (K : Int) ≤ 8 := by omega
 rw [hp, hK]
 have case4 : ∀ (s : ByteArray) (x y z : Int) (m : Int), (m = 3 ∨ m = 4) → boz.f p = some (s, x, y, z, m, true) → (∀ k M : Int, 1 ≤ k → k ≤ 8 → 1 ≤ M → M ≤ m → agz.f p k M = some true) → ∃ (p' : Int) (K' M : Nat), ((boz.f p).bind fun bt620 => (if bt620.2.2.2.2.1 = 0 then none else some (p, (K : Int), wrap64 (1 + Int.tmod (wrap64 c) bt620.2.2.2.2.1)))) = some (p', (K' : Int), (M : Int)) ∧ agz.f p' (K' : Int) (M : Int) = some true ∧ (agz.f 1 (K' : Int) (M : Int) = some true) ∧ agz.f 3 (K' : Int) (mn (M : Int) 3) = some true := by
  intro s x y z m hm hof hmy
  have hcm : 0 ≤ c % m ∧ c % m < m := ⟨Int.emod_nonneg c (by omega), Int.emod_lt_of_pos c (by omega)⟩
  obtain ⟨M, hM⟩ : ∃ M : Nat, 1 + c % m = (M : Int) := ⟨(1 + c % m).toNat, by omega⟩
  have hM1 : 1 ≤ (M : Int) ∧ (M : Int) ≤ m := by omega
  refine ⟨p, K, M, ?_, hmy _ _ hK1.1 hK1.2 hM1.1 hM1.2, ?_, ?_⟩
  ·rw [hof, Option.bind_some]
   dsimp only
   rw [if_neg (by omega), e3 m (by omega) (by omega), hM]
  ·show (if (K : Int) ≥ 1 then (if (K : Int) ≤ 8 then (if (M : Int) ≥ 1 then some (decide ((M : Int) ≤ 4)) else some false) else some false) else some false) = some true
   rw [if_pos hK1.1, if_pos hK1.2, if_pos hM1.1]
   simp; omega
  ·show (if (K : Int) ≥ 1 then (if (K : Int) ≤ 8 then (if mn (M : Int) 3 ≥ 1 then some (decide (mn (M : Int) 3 ≤ 3)) else some false) else some false) else some false) = some true
   have hmn : 1 ≤ mn (M : Int) 3 ∧ mn (M : Int) 3 ≤ 3 := by unfold mn; split <;> omega
   rw [if_pos hK1.1, if_pos hK1.2, if_pos hmn.1]
   simp; omega
 have hmy : ∀ m : Int, (∀ k M : Int, agz.f p k M = (if k ≥ 1 then (if k ≤ 8 then (if M ≥ 1 then some (decide (M ≤ m)) else some false) else some false) else some false)) → ∀ k M : Int, 1 ≤ k → k ≤ 8 → 1 ≤ M → M ≤ m → agz.f p k M = some true := fun m h k M h1 h2 h3 h4 => by
  rw [h, if_pos h1, if_pos h2, if_pos h3]
  simpa using h4
 have hpc : p = 1 ∨ p = 2 ∨ p = 3 ∨ p = 4 ∨ p = 5 ∨ p = 6 := by omega
 clear hp e1 e2
 rcases hpc with rfl | rfl | rfl | rfl | rfl | rfl
 ·exact case4 _ _ _ _ 4 (.inr rfl) rfl (hmy 4 (fun _ _ => rfl))
 ·exact case4 _ _ _ _ 4 (.inr rfl) rfl (hmy 4 (fun _ _ => rfl))
 ·exact case4 _ _ _ _ 3 (.inl rfl) rfl (hmy 3 (fun _ _ => rfl))
 ·exact case4 _ _ _ _ 4 (.inr rfl) rfl (hmy 4 (fun _ _ => rfl))
 ·exact case4 _ _ _ _ 4 (.inr rfl) rfl (hmy 4 (fun _ _ => rfl))
 ·exact case4 _ _ _ _ 4 (.inr rfl) rfl (hmy 4 (fun _ _ => rfl))
theorem u8_xor (a b : Nat) (ha : a < 256) (hb : b < 256) : Go.bits .xor .u8 (a : Int) (b : Int) = ((a ^^^ b : Nat) : Int) := by
 have h : a ^^^ b < 2 ^ 8 := Nat.xor_lt_two_pow ha hb
 have e : ∀ x : Nat, x < 256 → (BitVec.ofInt 8 (x : Int)).toNat = x := fun x hx => by rw [BitVec.toNat_ofInt]; omega
 show IntKind.u8.wrap ((BitVec.ofInt 8 (a : Int) ^^^ BitVec.ofInt 8 (b : Int)).toNat : Int) = _
 rw [BitVec.toNat_xor, e a ha, e b hb]
 show ((a ^^^ b : Nat) : Int) % 256 = _
 omega
def xorN (a b : List Nat) : List Nat := List.zipWith (fun x y => x ^^^ y) a b
theorem xorB_nat : ∀ (a b : List Nat), (∀ x, x ∈ a → x < 256) → (∀ x, x ∈ b → x < 256) → xorB (a.map fun x : Nat => (x : Int)) (b.map fun x : Nat => (x : Int)) = (xorN a b).map fun x : Nat => (x : Int)
 | [], _, _, _ => by simp [xorB, xorN]
 | _ :: _, [], _, _ => by simp [xorB, xorN]
 | x :: a, y :: b, ha, hb => by
  have h := xorB_nat a b (fun q hq => ha q (List.mem_cons_of_mem _ hq)) (fun q hq => hb q (List.mem_cons_of_mem _ hq))
  unfold xorB xorN at *
  simp only [List.map_cons, List.zipWith_cons_cons]
  rw [h, u8_xor x y (ha x (List.mem_cons_self ..)) (hb y (List.mem_cons_self ..))]
theorem xorN_lt {w : Nat} : ∀ (a b : List Nat), (∀ x, x ∈ a → x < 2 ^ w) → (∀ x, x ∈ b → x < 2 ^ w) → ∀ x, x ∈ xorN a b → x < 2 ^ w := by
 intro a b ha hb x hx
 unfold xorN at hx
 obtain ⟨i, hi, rfl⟩ := List.mem_iff_getElem.1 hx
 rw [List.getElem_zipWith]
 exact Nat.xor_lt_two_pow (ha _ (List.getElem_mem ..)) (hb _ (List.getElem_mem ..))
def pairN : List Nat → List Nat
 | x :: y :: r => (x + 256 * y) :: pairN r
 | _ => []
theorem pairN_lt : ∀ (a : List Nat), (∀ x, x ∈ a → x < 256) → ∀ x, x ∈ pairN a → x < 65536
 | [], _, _, h => by simp [pairN] at h
 | [_], _, _, h => by simp [pairN] at h
 | u :: v :: a, ha, x, h => by
  have h1 := ha u (by simp)
  have h2 := ha v (by simp)
  rcases List.mem_cons.1 (show x ∈ (u + 256 * v) :: pairN a from h) with rfl | h
  ·omega
  ·exact pairN_lt a (fun q hq => ha q (by simp [hq])) x h
def castN (l : List Nat) : List Int := l.map fun x : Nat => (x : Int)
theorem pairN_snoc (x y : Nat) : ∀ (l : List Nat), l.length % 2 = 0 → pairN (l ++ [x, y]) = pairN l ++ [x + 256 * y]
 | [], _ => rfl
 | [_], h => by simp at h
 | u :: v :: l, h => by
  have ih := pairN_snoc x y l (by simp at h; omega)
  show (u + 256 * v) :: pairN (l ++ [x, y]) = (u + 256 * v) :: pairN l ++ [x + 256 * y]
  rw [ih]; rfl
theorem pairN_len : ∀ (l : List Nat), (pairN l).length = l.length / 2
 | [] => rfl
 | [_] => by simp [pairN]
 | u :: v :: l => by
  have ih := pairN_len l
  show (pairN l).length + 1 = (l.length + 2) / 2
  omega
theorem wTo_two (n : List Nat) (hb : ∀ x, x ∈ n → x < 256) : ∀ j, 2 * j ≤ n.length → wTo 2 (castN n) (2 * j) = castN (pairN (n.take (2 * j))) ++ List.replicate (n.length / 2 - j) 0
 | 0, _ => by
  show wTo 2 (castN n) 0 = _
  unfold wTo castN
  simp [pairN]
 | j + 1, hj => by
  have ih := wTo_two n hb j (by omega)
  obtain ⟨x, hx⟩ : ∃ x, n[2 * j]? = some x := ⟨_, List.getElem?_eq_getElem (by omega)⟩
  obtain ⟨y, hy⟩ : ∃ y, n[2 * j + 1]? = some y := ⟨_, List.getElem?_eq_getElem (by omega)⟩
  have hx8 := hb x (List.mem_of_getElem? hx)
  have hy8 := hb y (List.mem_of_getElem? hy)
  have gx : (castN n).getD (2 * j) 0 = (x : Int) := by unfold castN; rw [List.getD_eq_getElem?_getD, List.getElem?_map, hx]; rfl
  have gy : (castN n).getD (2 * j + 1) 0 = (y : Int) := by unfold castN; rw [List.getD_eq_getElem?_getD, List.getElem?_map, hy]; rfl
  have hpl : (castN (pairN (n.take (2 * j)))).length = j := by
   unfold castN
   rw [List.length_map, pairN_len, List.length_take]; omega
  have e1 : wTo 2 (castN n) (2 * j + 1) = castN (pairN (n.take (2 * j))) ++ (x : Int) :: List.replicate (n.length / 2 - (j + 1)) 0 := by
   have e : wTo 2 (castN n) (2 * j + 1) = if (2 * j) % 2 = 0 then (wTo 2 (castN n) (2 * j)).set ((2 * j) / 2) (wrap64 ((castN n).getD (2 * j) 0)) else (wTo 2 (castN n) (2 * j)).set ((2 * j) / 2) (wrap64 ((wTo 2 (castN n) (2 * j)).getD ((2 * j) / 2) 0 + wrap64 (256 * wrap64 ((castN n).getD (2 * j) 0)))) := rfl
   rw [e, if_pos (by omega), ih, gx, show 2 * j / 2 = j by omega, w64 (by omega) (by omega), List.set_append_right _ _ (by omega), hpl, Nat.sub_self, show n.length / 2 - j = (n.length / 2 - (j + 1)) + 1 by omega, List.replicate_succ, List.set_cons_zero]
  have e2 : wTo 2 (castN n) (2 * j + 1 + 1) = if (2 * j + 1) % 2 = 0 then (wTo 2 (castN n) (2 * j + 1)).set ((2 * j + 1) / 2) (wrap64 ((castN n).getD (2 * j + 1) 0)) else (wTo 2 (castN n) (2 * j + 1)).set ((2 * j + 1) / 2) (wrap64 ((wTo 2 (castN n) (2 * j + 1)).getD ((2 * j + 1) / 2) 0 + wrap64 (256 * wrap64 ((castN n).getD (2 * j + 1) 0)))) := rfl
  have hgd : (castN (pairN (n.take (2 * j))) ++ (x : Int) :: List.replicate (n.length / 2 - (j + 1)) 0).getD j 0 = (x : Int) := by
   rw [List.getD_eq_getElem?_getD, List.getElem?_append_right (by omega), hpl, Nat.sub_self]; rfl
  rw [show 2 * (j + 1) = 2 * j + 1 + 1 by omega, e2, if_neg (by omega), e1, gy, show (2 * j + 1) / 2 = j by omega, hgd, w64 (x := (y : Int)) (by omega) (by omega), w64 (x := 256 * (y : Int)) (by omega) (by omega), w64 (x := (x : Int) + 256 * (y : Int)) (by omega) (by omega), List.set_append_right _ _ (by omega), hpl, Nat.sub_self, List.set_cons_zero]
  have e3 : n.take (2 * j + 1 + 1) = n.take (2 * j) ++ [x, y] := by
   rw [List.take_add_one, List.take_add_one, hx, hy]; simp
  rw [e3, pairN_snoc x y _ (by rw [List.length_take]; omega)]
  unfold castN
  simp
theorem words16 (n : List Nat) (hb : ∀ x, x ∈ n → x < 256) (he : n.length % 2 = 0) : wordsF 16 (castN n) = castN (pairN n) := by
 unfold wordsF
 have h := wTo_two n hb (n.length / 2) (by omega)
 rw [show wN 16 = 2 from rfl, show (castN n).length = 2 * (n.length / 2) by unfold castN; rw [List.length_map]; omega, h, Nat.sub_self, List.take_of_length_le (by omega)]
 simp
theorem wTo_one (b : List Int) (hb : ∀ x, x ∈ b → 0 ≤ x ∧ x ≤ 255) : ∀ i, i ≤ b.length → wTo 1 b i = b.take i ++ List.replicate (b.length - i) 0
 | 0, _ => by unfold wTo; simp
 | i + 1, hi => by
  have ih := wTo_one b hb i (by omega)
  obtain ⟨x, hx⟩ : ∃ x, b[i]? = some x := ⟨_, List.getElem?_eq_getElem (by omega)⟩
  have hxb := hb x (List.mem_of_getElem? hx)
  have hg : b.getD i 0 = x := by rw [List.getD_eq_getElem?_getD, hx]; rfl
  have e : wTo 1 b (i + 1) = if i % 1 = 0 then (wTo 1 b i).set (i / 1) (wrap64 (b.getD i 0)) else (wTo 1 b i).set (i / 1) (wrap64 ((wTo 1 b i).getD (i / 1) 0 + wrap64 (256 * wrap64 (b.getD i 0)))) := rfl
  rw [e, if_pos (Nat.mod_one i), ih, hg, Nat.div_one, w64 (by omega) (by omega), List.set_append_right _ _ (by simp; omega), List.take_add_one, hx]
  rw [show i - (b.take i).length = 0 by simp; omega, show b.length - i = (b.length - (i + 1)) + 1 by omega, List.replicate_succ]
  simp
def onesOk (l : List (List Int)) (k : Nat) : Bool := decide (l[0]? = some (List.replicate k 1))
theorem o1_1_1 : onesOk (jvM 8 1 1) 1 = true := by kernel_rfl
theorem o1_1_2 : onesOk (jvM 8 1 2) 1 = true := by kernel_rfl
theorem o1_1_3 : onesOk (jvM 8 1 3) 1 = true := by kernel_rfl
theorem o1_1_4 : onesOk (jvM 8 1 4) 1 = true := by kernel_rfl
theorem o1_2_1 : onesOk (jvM 8 2 1) 2 = true := by kernel_rfl
theorem o1_2_2 : onesOk (jvM 8 2 2) 2 = true := by kernel_rfl
theorem o1_2_3 : onesOk (jvM 8 2 3) 2 = true := by kernel_rfl
theorem o1_2_4 : onesOk (jvM 8 2 4) 2 = true := by kernel_rfl
theorem o1_3_1 : onesOk (jvM 8 3 1) 3 = true := by kernel_rfl
theorem o1_3_2 : onesOk (jvM 8 3 2) 3 = true := by kernel_rfl
theorem o1_3_3 : onesOk (jvM 8 3 3) 3 = true := by kernel_rfl
theorem o1_3_4 : onesOk (jvM 8 3 4) 3 = true := by kernel_rfl
theorem o1_4_1 : onesOk (jvM 8 4 1) 4 = true := by kernel_rfl
theorem o1_4_2 : onesOk (jvM 8 4 2) 4 = true := by kernel_rfl
theorem o1_4_3 : onesOk (jvM 8 4 3) 4 = true := by kernel_rfl
theorem o1_4_4 : onesOk (jvM 8 4 4) 4 = true := by kernel_rfl
theorem s5_1 : stepsF 8 5 (extM 8 5 1) = [[1, 0, 0, 0, 0], [0, 1, 0, 0, 0], [0, 0, 1, 0, 0], [0, 0, 0, 1, 0], [0, 0, 0, 0, 1], [144, 75, 224, 192, 251]] := by kernel_rfl
def gpi (m q a x : Nat) : Nat → Nat
 | 0 => x
 | k + 1 => gm m q (gpi m q a x k) a
theorem gp_more (m q a n : Nat) : ∀ k, gp m q a (n + k) = gpi m q a (gp m q a n) k
 | 0 => rfl
 | k + 1 => by
  show gm m q (gp m q a (n + k)) a = _
  rw [gp_more m q a n k]; rfl
theorem g192_64 : gp 7 285 192 64 = 14 := by kernel_rfl
theorem g192_128 : gp 7 285 192 (64 + 64) = 84 := by
 rw [gp_more, g192_64]
 kernel_rfl
theorem g192_192 : gp 7 285 192 (64 + 64 + 64) = 127 := by
 rw [gp_more, g192_128]
 kernel_rfl
theorem g192 : ginv 8 192 = 18 := by
 have e : gp 7 285 192 254 = 18 := by
  rw [show 254 = 64 + 64 + 64 + 62 from rfl, gp_more, g192_192]
  kernel_rfl
 have e2 : ginv 8 192 = ((gp 7 285 192 254 : Nat) : Int) := by
  unfold ginv gpow gpwN
  rw [if_pos (by decide), if_pos (by decide), if_pos rfl]
  rfl
 rw [e2, e]
 rfl
theorem c5_1 : colsF 8 5 1 [[1, 0, 0, 0, 0], [0, 1, 0, 0, 0], [0, 0, 1, 0, 0], [0, 0, 0, 1, 0], [0, 0, 0, 0, 1], [144, 75, 224, 192, 251]] = [[1, 0, 0, 0, 0], [0, 1, 0, 0, 0], [0, 0, 1, 0, 0], [0, 0, 0, 1, 0], [0, 0, 0, 0, 1], [1, 75, 224, 192, 251]] := by kernel_rfl
theorem c5_2 : colsF 8 5 2 [[1, 0, 0, 0, 0], [0, 1, 0, 0, 0], [0, 0, 1, 0, 0], [0, 0, 0, 1, 0], [0, 0, 0, 0, 1], [144, 75, 224, 192, 251]] = [[1, 0, 0, 0, 0], [0, 1, 0, 0, 0], [0, 0, 1, 0, 0], [0, 0, 0, 1, 0], [0, 0, 0, 0, 1], [1, 1, 224, 192, 251]] := by
 rw [colsF, c5_1]
 kernel_rfl
theorem c5_3 : colsF 8 5 3 [[1, 0, 0, 0, 0], [0, 1, 0, 0, 0], [0, 0, 1, 0, 0], [0, 0, 0, 1, 0], [0, 0, 0, 0, 1], [144, 75, 224, 192, 251]] = [[1, 0, 0, 0, 0], [0, 1, 0, 0, 0], [0, 0, 1, 0, 0], [0, 0, 0, 1, 0], [0, 0, 0, 0, 1], [1, 1, 1, 192, 251]] := by
 rw [colsF, c5_2]
 kernel_rfl
theorem c5_4 : colsF 8 5 4 [[1, 0, 0, 0, 0], [0, 1, 0, 0, 0], [0, 0, 1, 0, 0], [0, 0, 0, 1, 0], [0, 0, 0, 0, 1], [144, 75, 224, 192, 251]] = [[1, 0, 0, 0, 0], [0, 1, 0, 0, 0], [0, 0, 1, 0, 0], [0, 0, 0, 1, 0], [0, 0, 0, 0, 1], [1, 1, 1, 1, 251]] := by
 rw [colsF, c5_3]
 rw [show ((([[1, 0, 0, 0, 0], [0, 1, 0, 0, 0], [0, 0, 1, 0, 0], [0, 0, 0, 1, 0], [0, 0, 0, 0, 1], [1, 1, 1, 192, 251]] : List (List Int)).getD 5 []).getD 3 0) = 192 from rfl, g192]
 kernel_rfl
theorem c5_5 : colsF 8 5 5 [[1, 0, 0, 0, 0], [0, 1, 0, 0, 0], [0, 0, 1, 0, 0], [0, 0, 0, 1, 0], [0, 0, 0, 0, 1], [144, 75, 224, 192, 251]] = [[1, 0, 0, 0, 0], [0, 1, 0, 0, 0], [0, 0, 1, 0, 0], [0, 0, 0, 1, 0], [0, 0, 0, 0, 1], [1, 1, 1, 1, 1]] := by
 rw [colsF, c5_4]
 kernel_rfl
theorem o1_5_1 : onesOk (jvM 8 5 1) 5 = true := by
 unfold jvM
 rw [s5_1, c5_5]
 kernel_rfl
theorem o1_5_2 : onesOk (jvM 8 5 2) 5 = true := by kernel_rfl
theorem o1_5_3 : onesOk (jvM 8 5 3) 5 = true := by kernel_rfl
theorem o1_5_4 : onesOk (jvM 8 5 4) 5 = true := by kernel_rfl
theorem o1_6_1 : onesOk (jvM 8 6 1) 6 = true := by kernel_rfl
theorem o1_6_2 : onesOk (jvM 8 6 2) 6 = true := by kernel_rfl
theorem o1_6_3 : onesOk (jvM 8 6 3) 6 = true := by kernel_rfl
theorem o1_6_4 : onesOk (jvM 8 6 4) 6 = true := by kernel_rfl
theorem o1_7_1 : onesOk (jvM 8 7 1) 7 = true := by kernel_rfl
theorem o1_7_2 : onesOk (jvM 8 7 2) 7 = true := by kernel_rfl
theorem o1_7_3 : onesOk (jvM 8 7 3) 7 = true := by kernel_rfl
theorem o1_7_4 : onesOk (jvM 8 7 4) 7 = true := by kernel_rfl
theorem o1_8_1 : onesOk (jvM 8 8 1) 8 = true := by kernel_rfl
theorem o1_8_2 : onesOk (jvM 8 8 2) 8 = true := by kernel_rfl
theorem o1_8_3 : onesOk (jvM 8 8 3) 8 = true := by kernel_rfl
theorem o1_8_4 : onesOk (jvM 8 8 4) 8 = true := by kernel_rfl
theorem o3_1_1 : onesOk (isalM 8 1 1) 1 = true := by kernel_rfl
theorem o3_1_2 : onesOk (isalM 8 2 1) 1 = true := by kernel_rfl
theorem o3_1_3 : onesOk (isalM 8 3 1) 1 = true := by kernel_rfl
theorem o3_2_1 : onesOk (isalM 8 1 2) 2 = true := by kernel_rfl
theorem o3_2_2 : onesOk (isalM 8 2 2) 2 = true := by kernel_rfl
theorem o3_2_3 : onesOk (isalM 8 3 2) 2 = true := by kernel_rfl
theorem o3_3_1 : onesOk (isalM 8 1 3) 3 = true := by kernel_rfl
theorem o3_3_2 : onesOk (isalM 8 2 3) 3 = true := by kernel_rfl
theorem o3_3_3 : onesOk (isalM 8 3 3) 3 = true := by kernel_rfl
theorem o3_4_1 : onesOk (isalM 8 1 4) 4 = true := by kernel_rfl
theorem o3_4_2 : onesOk (isalM 8 2 4) 4 = true := by kernel_rfl
theorem o3_4_3 : onesOk (isalM 8 3 4) 4 = true := by kernel_rfl
theorem o3_5_1 : onesOk (isalM 8 1 5) 5 = true := by kernel_rfl
theorem o3_5_2 : onesOk (isalM 8 2 5) 5 = true := by kernel_rfl
theorem o3_5_3 : onesOk (isalM 8 3 5) 5 = true := by kernel_rfl
theorem o3_6_1 : onesOk (isalM 8 1 6) 6 = true := by kernel_rfl
theorem o3_6_2 : onesOk (isalM 8 2 6) 6 = true := by kernel_rfl
theorem o3_6_3 : onesOk (isalM 8 3 6) 6 = true := by kernel_rfl
theorem o3_7_1 : onesOk (isalM 8 1 7) 7 = true := by kernel_rfl
theorem o3_7_2 : onesOk (isalM 8 2 7) 7 = true := by kernel_rfl
theorem o3_7_3 : onesOk (isalM 8 3 7) 7 = true := by kernel_rfl
theorem o3_8_1 : onesOk (isalM 8 1 8) 8 = true := by kernel_rfl
theorem o3_8_2 : onesOk (isalM 8 2 8) 8 = true := by kernel_rfl
theorem o3_8_3 : onesOk (isalM 8 3 8) 8 = true := by kernel_rfl
theorem ones1 (K M : Nat) (h1 : 1 ≤ K) (h2 : K ≤ 8) (h3 : 1 ≤ M) (h4 : M ≤ 4) : (parM 1 K M)[0]? = some (List.replicate K 1) := by
 have key : onesOk (jvM 8 K M) K = true := by
  match K, M, h1, h2, h3, h4 with
  | 1, 1, _, _, _, _ => exact o1_1_1
  | 1, 2, _, _, _, _ => exact o1_1_2
  | 1, 3, _, _, _, _ => exact o1_1_3
  | 1, 4, _, _, _, _ => exact o1_1_4
  | 2, 1, _, _, _, _ => exact o1_2_1
  | 2, 2, _, _, _, _ => exact o1_2_2
  | 2, 3, _, _, _, _ => exact o1_2_3
  | 2, 4, _, _, _, _ => exact o1_2_4
  | 3, 1, _, _, _, _ => exact o1_3_1
  | 3, 2, _, _, _, _ => exact o1_3_2
  | 3, 3, _, _, _, _ => exact o1_3_3
  | 3, 4, _, _, _, _ => exact o1_3_4
  | 4, 1, _, _, _, _ => exact o1_4_1
  | 4, 2, _, _, _, _ => exact o1_4_2
  | 4, 3, _, _, _, _ => exact o1_4_3
  | 4, 4, _, _, _, _ => exact o1_4_4
  | 5, 1, _, _, _, _ => exact o1_5_1
  | 5, 2, _, _, _, _ => exact o1_5_2
  | 5, 3, _, _, _, _ => exact o1_5_3
  | 5, 4, _, _, _, _ => exact o1_5_4
  | 6, 1, _, _, _, _ => exact o1_6_1
  | 6, 2, _, _, _, _ => exact o1_6_2
  | 6, 3, _, _, _, _ => exact o1_6_3
  | 6, 4, _, _, _, _ => exact o1_6_4
  | 7, 1, _, _, _, _ => exact o1_7_1
  | 7, 2, _, _, _, _ => exact o1_7_2
  | 7, 3, _, _, _, _ => exact o1_7_3
  | 7, 4, _, _, _, _ => exact o1_7_4
  | 8, 1, _, _, _, _ => exact o1_8_1
  | 8, 2, _, _, _, _ => exact o1_8_2
  | 8, 3, _, _, _, _ => exact o1_8_3
  | 8, 4, _, _, _, _ => exact o1_8_4
  | 0, _, h, _, _, _ => omega
  | _ + 9, _, _, h, _, _ => omega
  | _, 0, _, _, h, _ => omega
  | _, _ + 5, _, _, _, h => omega
 exact of_decide_eq_true key
theorem ones3 (K M : Nat) (h1 : 1 ≤ K) (h2 : K ≤ 8) (h3 : 1 ≤ M) (h4 : M ≤ 3) : (parM 3 K M)[0]? = some (List.replicate K 1) := by
 have key : onesOk (isalM 8 M K) K = true := by
  match K, M, h1, h2, h3, h4 with
  | 1, 1, _, _, _, _ => exact o3_1_1
  | 1, 2, _, _, _, _ => exact o3_1_2
  | 1, 3, _, _, _, _ => exact o3_1_3
  | 2, 1, _, _, _, _ => exact o3_2_1
  | 2, 2, _, _, _, _ => exact o3_2_2
  | 2, 3, _, _, _, _ => exact o3_2_3
  | 3, 1, _, _, _, _ => exact o3_3_1
  | 3, 2, _, _, _, _ => exact o3_3_2
  | 3, 3, _, _, _, _ => exact o3_3_3
  | 4, 1, _, _, _, _ => exact o3_4_1
  | 4, 2, _, _, _, _ => exact o3_4_2
  | 4, 3, _, _, _, _ => exact o3_4_3
  | 5, 1, _, _, _, _ => exact o3_5_1
  | 5, 2, _, _, _, _ => exact o3_5_2
  | 5, 3, _, _, _, _ => exact o3_5_3
  | 6, 1, _, _, _, _ => exact o3_6_1
  | 6, 2, _, _, _, _ => exact o3_6_2
  | 6, 3, _, _, _, _ => exact o3_6_3
  | 7, 1, _, _, _, _ => exact o3_7_1
  | 7, 2, _, _, _, _ => exact o3_7_2
  | 7, 3, _, _, _, _ => exact o3_7_3
  | 8, 1, _, _, _, _ => exact o3_8_1
  | 8, 2, _, _, _, _ => exact o3_8_2
  | 8, 3, _, _, _, _ => exact o3_8_3
  | 0, _, h, _, _, _ => omega
  | _ + 9, _, _, h, _, _ => omega
  | _, 0, _, _, h, _ => omega
  | _, _ + 4, _, _, _, h => omega
 exact of_decide_eq_true key
def mapN (f : Nat → Nat) (l : List Nat) : List Nat := l.map f
def mN (wb c : Int) (x : Nat) : Nat := (gmul wb c (x : Int)).toNat
theorem mN_cast {wb : Int} (hw : wb = 8 ∨ wb = 16) (c : Int) (l : List Nat) : (castN l).map (gmul wb c) = castN (mapN (mN wb c) l) := by
 unfold castN mapN
 rw [List.map_map, List.map_map]
 refine List.map_congr_left (fun x _ => ?_)
 have := (aZz hw c (x : Int)).1
 show gmul wb c (x : Int) = ((gmul wb c (x : Int)).toNat : Int)
 omega
theorem fsize8 : fsize 8 = 256 := rfl
theorem fsize16 : fsize 16 = 65536 := rfl
theorem mN_lt8 (c : Int) (x : Nat) : mN 8 c x < 256 := by
 have := aZz (.inl rfl : (8 : Int) = 8 ∨ (8 : Int) = 16) c (x : Int)
 rw [fsize8] at this
 unfold mN; omega
theorem mN_lt16 (c : Int) (x : Nat) : mN 16 c x < 65536 := by
 have := aZz (.inr rfl : (16 : Int) = 8 ∨ (16 : Int) = 16) c (x : Int)
 rw [fsize16] at this
 unfold mN; omega
def flatN : List Nat → List Nat
 | [] => []
 | x :: r => (x % 256) :: (x / 256 % 256) :: flatN r
theorem bytes16 : ∀ (l : List Nat), bytesF 16 (castN l) = castN (flatN l)
 | [] => rfl
 | x :: r => by
  have h3 : bytesF 16 ((x : Int) :: castN r) = byteF 16 (x : Int) ++ bytesF 16 (castN r) := by unfold bytesF; rw [List.flatMap_cons]
  show bytesF 16 ((x : Int) :: castN r) = ((x % 256 : Nat) : Int) :: ((x / 256 % 256 : Nat) : Int) :: castN (flatN r)
  rw [h3, bytes16 r]
  show [(x : Int) % 256, (x : Int) / 256 % 256] ++ _ = _
  simp
theorem bytes8 : ∀ (l : List Nat), (∀ x, x ∈ l → x < 256) → bytesF 8 (castN l) = castN l
 | [], _ => rfl
 | x :: r, h => by
  have h3 : bytesF 8 ((x : Int) :: castN r) = byteF 8 (x : Int) ++ bytesF 8 (castN r) := by unfold bytesF; rw [List.flatMap_cons]
  have hx := h x (List.mem_cons_self ..)
  show bytesF 8 ((x : Int) :: castN r) = (x : Int) :: castN r
  rw [h3, bytes8 r (fun q hq => h q (List.mem_cons_of_mem _ hq))]
  show [(x : Int) % 256] ++ _ = _
  rw [show (x : Int) % 256 = (x : Int) by omega]; rfl
theorem flatN_lt : ∀ (a : List Nat) (x : Nat), x ∈ flatN a → x < 256
 | [], _, h => by simp [flatN] at h
 | u :: a, x, h => by
  rcases List.mem_cons.1 (show x ∈ (u % 256) :: (u / 256 % 256) :: flatN a from h) with rfl | h
  ·omega
  ·rcases List.mem_cons.1 h with rfl | h
   ·omega
   ·exact flatN_lt a x h
def mulN (wb c : Int) (n : List Nat) : List Nat := if wb = 8 then mapN (mN 8 c) n else flatN (mapN (mN 16 c) (pairN n))
theorem mapN_lt8 (c : Int) (n : List Nat) : ∀ x, x ∈ mapN (mN 8 c) n → x < 256 := by
 intro x hx
 obtain ⟨y, -, rfl⟩ := List.mem_map.1 hx
 exact mN_lt8 c y
theorem mulN_lt (wb c : Int) (n : List Nat) : ∀ x, x ∈ mulN wb c n → x < 256 := by
 unfold mulN
 split
 ·exact mapN_lt8 c n
 ·exact flatN_lt _
theorem words8 (n : List Nat) (hb : ∀ x, x ∈ n → x < 256) : wordsF 8 (castN n) = castN n := by
 unfold wordsF
 rw [show wN 8 = 1 from rfl, wTo_one (castN n) (fun x hx => by
  obtain ⟨y, hy, rfl⟩ := List.mem_map.1 hx
  have := hb y hy
  omega) _ (Nat.le_refl _), Nat.sub_self, List.take_length]
 simp
theorem mulB_nat {wb : Int} (hw : wb = 8 ∨ wb = 16) (c : Int) (n : List Nat) (hb : ∀ x, x ∈ n → x < 256) (he : n.length % wN wb = 0) : mulB wb c (castN n) = castN (mulN wb c n) := by
 unfold mulB mulN
 rcases hw with rfl | rfl
 ·rw [words8 n hb, mN_cast (.inl rfl), bytes8 _ (mapN_lt8 c n), if_pos rfl]
 ·rw [words16 n hb he, mN_cast (.inr rfl), bytes16, if_neg (by decide)]
end Go.Proofs.YtpdakdcmahlghaaGreat.XCo
end
