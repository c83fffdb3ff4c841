-- Joined by this work's own program (wip/tools/bundle.py) out of its texts: what this claim uses of them. Not trusted: Lean checks it.
import Derived.Test.YtelcllhibpnneaaGreatBCodecColumns6
section
namespace Go.Proofs.YtelcllhibpnneaaGreat.XCo
open Go.RowKit Go.Proofs.YtelcllhibpnneaaGreatW.PrintWords Go.Proofs.YtelcllhibpnneaaGreatW.PrintLast Go.Proofs.YtelcllhibpnneaaGreatW.PrintMore
attribute [local go_sem] max2_int min2_int max_two min_two max_three min_three max_four min_four
set_option linter.unusedVariables false
set_option linter.unusedSimpArgs false
theorem C_nums {w : World} {g : Nat} {t : TypeId} {xs : List Int} (h : w.heap[g]? = some (.cells (nums .i64 xs).toArray t (0, 0))) (hl : xs.length ≤ 9223372036854775807) : Kd.C (Kd.int .i64) w (some ⟨g, 0, none⟩) xs.length xs := by
 refine ⟨rfl, hl, fun _ => ⟨_, rfl, fun j p hp => ⟨[.int .i64 p], rfl, rfl, fun i u hu => ?_⟩⟩⟩
 obtain ⟨hj, rfl⟩ := List.getElem?_eq_some_iff.1 hp
 cases i with
 | succ i => simp at hu
 | zero =>
  obtain rfl : Value.int .i64 xs[j] = u := by simpa using hu
  have e : (⟨g, 0, none⟩ : Addr).add (j * (Kd.int .i64).sz + 0) = ⟨g, j, none⟩ := by
   show (⟨g, 0, none⟩ : Addr).add (j * 1 + 0) = _
   unfold Addr.add
   split <;> simp_all
  rw [e, blk_cell h j]
  simp [nums, hj]
theorem allIn_two (wb a b : Int) : allIn wb [a, b] = (inF wb a && inF wb b) := by simp [allIn, inF]
theorem allIn_one (wb a : Int) : allIn wb [a] = inF wb a := by simp [allIn, inF]
def fpoly (wb : Int) : Int := if wb = 8 then 285 else 69643
set_option maxRecDepth 100000 in
set_option maxHeartbeats 1600000 in
theorem gf_Mul.out (g : Nat) (S : Nat → Prop) (wb p a b : Int) (W : World) (hw : wb = 8 ∨ wb = 16) (hF : Fd W g wb p S) (h : (inF wb a && inF wb b) = false) :
  Calls Tryz.prog 95 #[.pointer (some ⟨g, 0, none⟩), .int .i64 a, .int .i64 b] W fun e w' => e = .returned (.int .i64 (gmul wb a b)) ∧ Fd w' g wb p S ∧ BB W w' g := by
 rw [gmul_out h]
 have HC := Aside0.mk (gf_in.calls g wb p S (some ⟨W.heap.size, 0, none⟩) 2 [a, b] _ (hF.alloc (.cells #[.int .i64 a, .int .i64 b] 3)) hw (C_nums (t := 3) (heap_alloc_new _ _) (by simp)) (by simp))
 rw [allIn_two, h] at HC
 have HF := Aside0.mk hF
 clear hF h
 go_enter Tryz.func95, Tryz.ntmps95
 go_wp2_with (first | (go_at_call 141; refine HC.out.mono ?_; rintro e w9 ⟨rfl, m9, rfl⟩))
 go_ret
 exact ⟨rfl, (HF.out.alloc _).drewN _, ((BB.refl _ _).alloc _).drewN _⟩
set_option maxRecDepth 100000 in
set_option maxHeartbeats 1600000 in
theorem gf_Mul.zero (g : Nat) (S : Nat → Prop) (wb p a b : Int) (W : World) (hw : wb = 8 ∨ wb = 16) (hF : Fd W g wb p S) (h : (inF wb a && inF wb b) = true) (h0 : a = 0 ∨ (a ≠ 0 ∧ b = 0)) :
  Calls Tryz.prog 95 #[.pointer (some ⟨g, 0, none⟩), .int .i64 a, .int .i64 b] W fun e w' => e = .returned (.int .i64 (gmul wb a b)) ∧ Fd w' g wb p S ∧ BB W w' g := by
 have HC := Aside0.mk (gf_in.calls g wb p S (some ⟨W.heap.size, 0, none⟩) 2 [a, b] _ (hF.alloc (.cells #[.int .i64 a, .int .i64 b] 3)) hw (C_nums (t := 3) (heap_alloc_new _ _) (by simp)) (by simp))
 rw [allIn_two, h] at HC
 have HF := Aside0.mk hF
 clear hF h
 rcases h0 with rfl | ⟨ha, rfl⟩
 ·rw [gmul_zero_left]
  go_enter Tryz.func95, Tryz.ntmps95
  go_wp2_with (first | (go_at_call 141; refine HC.out.mono ?_; rintro e w9 ⟨rfl, m9, rfl⟩))
  go_ret
  exact ⟨rfl, (HF.out.alloc _).drewN _, ((BB.refl _ _).alloc _).drewN _⟩
 ·rw [gmul_zero_right]
  have hb : (a == 0) = false := beq_eq_false_iff_ne.2 ha
  clear ha
  go_enter Tryz.func95, Tryz.ntmps95
  go_wp2_with (first | (go_at_call 141; refine HC.out.mono ?_; rintro e w9 ⟨rfl, m9, rfl⟩))
  go_ret
  exact ⟨rfl, (HF.out.alloc _).drewN _, ((BB.refl _ _).alloc _).drewN _⟩
set_option maxRecDepth 100000 in
set_option maxHeartbeats 1600000 in
theorem gf_Mul.in16 (g : Nat) (S : Nat → Prop) (a b : Int) (W : World) (hF : Fd W g 16 69643 S) (ha : 0 < a) (ha' : a < 65536) (hb : 0 < b) (hb' : b < 65536) :
  Calls Tryz.prog 95 #[.pointer (some ⟨g, 0, none⟩), .int .i64 a, .int .i64 b] W fun e w' => e = .returned (.int .i64 (gmul 16 a b)) ∧ Fd w' g 16 69643 S ∧ BB W w' g := by
 have hin : (inF 16 a && inF 16 b) = true := by simp [inF, fsize]; omega
 have HC := Aside0.mk (gf_in.calls g 16 69643 S (some ⟨W.heap.size, 0, none⟩) 2 [a, b] _ (hF.alloc (.cells #[.int .i64 a, .int .i64 b] 3)) (.inr rfl) (C_nums (t := 3) (heap_alloc_new _ _) (by simp)) (by simp))
 rw [allIn_two, hin] at HC
 have hm := poly_mulmod16 a.toNat b.toNat (by omega) (by omega)
 rw [Int.toNat_of_nonneg (by omega), Int.toNat_of_nonneg (by omega)] at hm
 have hg : gmul 16 a b = ((gm 15 69643 a.toNat b.toNat : Nat) : Int) := by simp [gmul, hin, gmN]
 have hlt : gm 15 69643 a.toNat b.toNat < 2 ^ (15 + 1) := gf16.toGf.lt (by omega)
 rw [hg]
 generalize gm 15 69643 a.toNat b.toNat = q at hm hlt
 have hlt' : (q : Int) < 65536 := by omega
 have HM := Aside0.mk hm
 have HF := Aside0.mk (hF.alloc (.cells #[.int .i64 a, .int .i64 b] 3))
 have z1 : (a == 0) = false := beq_eq_false_iff_ne.2 (by omega)
 have z2 : (b == 0) = false := beq_eq_false_iff_ne.2 (by omega)
 have c0 := hF.bits
 have c1 := hF.poly
 have hl := hF.lt
 have c0' : (W.alloc (.cells #[.int .i64 a, .int .i64 b] 3)).cell? ⟨g, 0, none⟩ = some (.int .i64 16) := (World.cell?_alloc_past _ _ _ hl).trans c0
 have c1' : (W.alloc (.cells #[.int .i64 a, .int .i64 b] 3)).cell? ⟨g, 1, none⟩ = some (.int .u32 69643) := (World.cell?_alloc_past _ _ _ hl).trans c1
 clear hF hin hm hg hlt
 go_enter Tryz.func95, Tryz.ntmps95
 go_wp2_with (first | (go_at_call 141; refine HC.out.mono ?_; rintro e w9 ⟨rfl, m9, rfl⟩) | (go_at_call 142; refine (poly_MulMod.calls 40 _ _ _ _ _ HM.out).mono ?_; rintro e w9 ⟨rfl, hB⟩))
 go_ret
 exact ⟨rfl, (HF.out.drewN _).below hB, (((BB.refl _ _).alloc _).drewN _).trans (BB.of_below hB _)⟩
set_option maxRecDepth 100000 in
set_option maxHeartbeats 1600000 in
theorem gf_Mul.in8 (g : Nat) (S : Nat → Prop) (a b : Int) (W : World) (hF : Fd W g 8 285 S) (hS : ∀ k, S k → k < W.heap.size) (ha : 0 < a) (ha' : a < 256) (hb : 0 < b) (hb' : b < 256) :
  Calls Tryz.prog 95 #[.pointer (some ⟨g, 0, none⟩), .int .i64 a, .int .i64 b] W fun e w' => e = .returned (.int .i64 (gmul 8 a b)) ∧ Fd w' g 8 285 S ∧ BB W w' g := by
 have hin : (inF 8 a && inF 8 b) = true := by simp [inF, fsize]; omega
 have HC := Aside0.mk (gf_in.calls g 8 285 S (some ⟨W.heap.size, 0, none⟩) 2 [a, b] _ (hF.alloc (.cells #[.int .i64 a, .int .i64 b] 3)) (.inl rfl) (C_nums (t := 3) (heap_alloc_new _ _) (by simp)) (by simp))
 rw [allIn_two, hin] at HC
 obtain ⟨a, rfl⟩ := Int.eq_ofNat_of_zero_le (show 0 ≤ a by omega)
 obtain ⟨b, rfl⟩ := Int.eq_ofNat_of_zero_le (show 0 ≤ b by omega)
 obtain ⟨i, j, hi, hj, e1, e2, e3⟩ := tab_mul a b (by omega) (by omega) (by omega) (by omega)
 have hg : gmul 8 a b = ((gm 7 285 a b : Nat) : Int) := by simp [gmul, hin, gmN]
 rw [hg, ← e3]
 have HF := Aside0.mk (hF.alloc (.cells #[.int .i64 a, .int .i64 b] 3))
 have z1 : ((a : Int) == 0) = false := beq_eq_false_iff_ne.2 (by omega)
 have z2 : ((b : Int) == 0) = false := beq_eq_false_iff_ne.2 (by omega)
 have c0 := hF.bits
 have hl := hF.lt
 have c0' : (W.alloc (.cells #[.int .i64 a, .int .i64 b] 3)).cell? ⟨g, 0, none⟩ = some (.int .i64 8) := (World.cell?_alloc_past _ _ _ hl).trans c0
 have HS := Aside0.mk (show ∀ k, S k → k < (W.alloc (.cells #[.int .i64 a, .int .i64 b] 3)).heap.size from fun k hk => by have := hS k hk; simp; omega)
 have i1 : (0 : Int) ≤ (a : Int) := by omega
 have i2 : (0 : Int) ≤ (b : Int) := by omega
 have E1 := Aside0.mk e1
 have E2 := Aside0.mk e2
 have hsum : IntKind.i64.wrap ((i : Int) + (j : Int)) = ((i + j : Nat) : Int) := by rw [IntKind.wrap_i64]; omega
 clear hF hin hg hS e1 e2 e3
 go_enter Tryz.func95, Tryz.ntmps95
 go_wp2_with (first | (go_at_call 141; refine HC.out.mono ?_; rintro e w9 ⟨rfl, m9, rfl⟩) | (go_at_call 143; refine (gf_ready.calls g S _ (HF.out.drewN _) HS.out).mono ?_; rintro e w1 ⟨rfl, ⟨ta, tb, k1, k2, k3⟩, k4, k5, -⟩))
 have c6 : w1.cell? ⟨g, 6, none⟩ = some (.slice (some ⟨tb, 0, none⟩) 256 256) := (blk_cell k1 6).trans rfl
 have l1 : w1.cell? ⟨tb, a, none⟩ = some (.int .i64 (i : Int)) := by rw [log_cell k3 a (by omega), E1.out]
 have l2 : w1.cell? ⟨tb, b, none⟩ = some (.int .i64 (j : Int)) := by rw [log_cell k3 b (by omega), E2.out]
 have C2 := Aside0.mk (show w1.cell? ⟨g, 2, none⟩ = some (.int .u32 1) from (blk_cell k1 2).trans rfl)
 have K4 := Aside0.mk k4
 have K5 := Aside0.mk k5
 clear k1 k2 k3 k4 k5 c0 c0'
 go_region_held3 (fun W' => W'.cell? ⟨g, 6, none⟩ = some (.slice (some ⟨tb, 0, none⟩) 256 256) ∧ W'.cell? ⟨tb, a, none⟩ = some (.int .i64 (i : Int)) ∧ W'.cell? ⟨tb, b, none⟩ = some (.int .i64 (j : Int))) (first | exact ⟨c6, l1, l2⟩ | exact ⟨pw_cell_below q6 c6, pw_cell_below q6 l1, pw_cell_below q6 l2⟩) (first | (go_at_call 144; refine (gf_Exp.calls g S (i + j) _ (by omega) (K4.out.drewN 1) (fun k hk => Nat.lt_of_lt_of_le (HS.out k hk) K5.out.size)).mono ?_; rintro e w3 ⟨rfl, q4, q5, q6'⟩; have q6 := q6' C2.out; clear q6'))
 have Q4 := Aside0.mk q4
 have Q5 := Aside0.mk (((BB.refl W g).alloc (.cells #[.int .i64 a, .int .i64 b] 3)).drewN m9 |>.trans K5.out |>.trans (show BB w1 w3 g from ⟨q5.os, q5.tape, q5.output, q5.size, q5.block⟩))
 clear q4 q5 q6 c6 l1 l2
 go_wp2
 go_ret
 exact ⟨rfl, Q4.out, Q5.out⟩
theorem gf_Mul.calls (g : Nat) (S : Nat → Prop) (wb a b : Int) (W : World) (hw : wb = 8 ∨ wb = 16) (hF : Fd W g wb (fpoly wb) S) (hS : ∀ k, S k → k < W.heap.size) :
  Calls Tryz.prog 95 #[.pointer (some ⟨g, 0, none⟩), .int .i64 a, .int .i64 b] W fun e w' => e = .returned (.int .i64 (gmul wb a b)) ∧ Fd w' g wb (fpoly wb) S ∧ BB W w' g := by
 by_cases h : (inF wb a && inF wb b) = true
 ·by_cases ha : a = 0
  ·exact gf_Mul.zero g S wb _ a b W hw hF h (.inl ha)
  ·by_cases hb : b = 0
   ·exact gf_Mul.zero g S wb _ a b W hw hF h (.inr ⟨ha, hb⟩)
   ·simp only [Bool.and_eq_true, inF, decide_eq_true_eq] at h
    rcases hw with rfl | rfl
    ·exact gf_Mul.in8 g S a b W hF hS (by omega) h.1.2 (by omega) h.2.2
    ·exact gf_Mul.in16 g S a b W hF (by omega) h.1.2 (by omega) h.2.2
 ·exact gf_Mul.out g S wb _ a b W hw hF (by simpa using h)
end Go.Proofs.YtelcllhibpnneaaGreat.XCo
end
section
namespace Go.Proofs.YtelcllhibpnneaaGreat.XCo
open Go.RowKit Go.Proofs.YtelcllhibpnneaaGreatW.PrintWords Go.Proofs.YtelcllhibpnneaaGreatW.PrintLast Go.Proofs.YtelcllhibpnneaaGreatW.PrintMore
attribute [local go_sem] max2_int min2_int max_two min_two max_three min_three max_four min_four
set_option linter.unusedVariables false
set_option linter.unusedSimpArgs false
mutual
def poly_divisors.l0 : Nat → Int → List Int → Int → Option (List Int)
 | 0, _, _, _ => none
 | k + 1, x0, x3, x4 => if x0 > 1 then (if x4 = 0 then (none) else (if (Int.tmod x0 x4) = 0 then (if x3.length < 17592186044416 then (poly_divisors.j1 k x0 (x3 ++ [x4]) x4) else (none)) else (poly_divisors.j1 k x0 x3 x4))) else (some x3)
def poly_divisors.j1 : Nat → Int → List Int → Int → Option (List Int)
 | 0, _, _, _ => none
 | k + 1, x0, x3, x4 => poly_divisors.l1 k x0 x3 x4
def poly_divisors.l1 : Nat → Int → List Int → Int → Option (List Int)
 | 0, _, _, _ => none
 | k + 1, x0, x3, x4 => if x4 = 0 then (none) else (if (Int.tmod x0 x4) = 0 then (poly_divisors.l1 k (wrap64 (Int.tdiv x0 x4)) x3 x4) else (poly_divisors.l0 k x0 x3 (wrap64 (x4 + 1))))
end
def poly_divisors.f (k : Nat) (a0 : Int) : Option (List Int) := poly_divisors.l0 k a0 ([] : List Int) 2
set_option maxHeartbeats 8000000 in
set_option maxRecDepth 100000 in
theorem poly_divisors.calls (k : Nat) (a0 : Int) (r : List Int) (w : World) (h : poly_divisors.f k a0 = some r) :
  Calls Tryz.prog 155 #[.int .i64 a0] w fun e w' => ∃ v0_ : Value, e = .returned (v0_) ∧ Kd.R (Kd.int .i64) 3 w' w.heap.size (fun _ => True) v0_ r ∧ Below w.heap.size w w' := by
 have HB := Aside0.mk (Below.refl w.heap.size w)
 have H : (poly_divisors.l0 k a0 ([] : List Int) 2) = some r := h
 clear h
 have H' := Aside0.mk H
 clear H
 go_enter Tryz.func155, Tryz.ntmps155
 go_wp2
 go_loopg [0, 3, 4] k (fun kq v0 v3 v4 w' => ∃ (x0_1 : Int) (x3_1 : List Int) (x4_1 : Int), v0 = .int .i64 x0_1 ∧ v4 = .int .i64 x4_1 ∧ Aside0 (poly_divisors.l0 kq x0_1 x3_1 x4_1 = some r) ∧ Aside0 (kq ≤ k) ∧ Aside0 (Kd.R (Kd.int .i64) 3 w' w.heap.size (fun _ => True) v3 x3_1) ∧ Aside0 (Below w.heap.size w w'))
 case atStart => exact ⟨(a0), (([] : List Int)), (2), (by first | rfl | (simp; done) | (simp [*]; done)), (by first | rfl | (simp; done) | (simp [*]; done)), H', ⟨Nat.le_refl _⟩, ⟨by first | exact Kd.R_nil _ _ _ _ _ | exact Kd.N_nil _ _ _ _ _ | exact Kd.V_nil _ _ _ _ _ | exact Kd.Q_nil _ _ _ _ _ | exact Kd.S_nil _ _ _ _ _⟩, ⟨by repeat (first | (with_reducible first | exact HB.out | apply below_alloc | apply pw_below_drewN | apply below_drew1) | exact HB.out)⟩⟩
 case round =>
  clear H'
  try clear c1
  obtain ⟨x0_1, x3_1, x4_1, rfl, rfl, HA, HK1, HO_3, HB⟩ := hrel
  cases gk with
  | zero => exact absurd HA.out (by simp [poly_divisors.l0])
  | succ k1 =>
   have H := HA.out
   clear HA
   simp only [poly_divisors.l0] at H
   by_cases c2 : x0_1 > 1
   ·rw [if_pos c2] at H
    have c2b0 : decide (1 < x0_1) = true := decide_eq_true c2
    clear c2
    by_cases c3 : x4_1 = 0
    ·rw [if_pos c3] at H
     exact absurd H (by simp)
    ·rw [if_neg c3] at H
     have c3b0 : (x4_1 == 0) = false := beq_eq_false_iff_ne.mpr c3
     have c3b1 : (x4_1 != 0) = true := bne_iff_ne.mpr c3
     have HC4 := Aside0.mk H
     clear H
     go_upto_if 12 with (fail)
     go_cut [3] (fun v3 wc => ∃ (kq : Nat) (x3_3 : List Int), Aside0 (poly_divisors.j1 kq x0_1 x3_3 x4_1 = some r) ∧ Aside0 (kq ≤ k1) ∧ Aside0 (Kd.R (Kd.int .i64) 3 wc w.heap.size (fun _ => True) v3 x3_3) ∧ Aside0 (Below w.heap.size w wc))
     case first =>
      have H := HC4.out
      clear HC4
      by_cases c5 : (Int.tmod x0_1 x4_1) = 0
      ·rw [if_pos c5] at H
       have c5b0 : ((Int.tmod x0_1 x4_1) == 0) = true := beq_iff_eq.mpr c5
       have c5b1 : ((Int.tmod x0_1 x4_1) != 0) = false := bne_eq_false_iff_eq.mpr c5
       clear c5
       (first | rw [c5b0] | (simp only [i64_w, i32_w]; rw [c5b0]) | skip)
       by_cases c6 : x3_1.length < 17592186044416
       ·rw [if_pos c6] at H
        have LMc6 := Aside0.mk c6
        clear c6
        obtain ⟨y677, hy677⟩ : ∃ y_ : List Int, y_ = (x3_1 ++ [x4_1]) := ⟨_, rfl⟩
        replace H : (poly_divisors.j1 k1 x0_1 y677 x4_1) = some r := by first | (rw [hy677]; with_reducible exact H) | (have H2_ := (Option.bind_some _ _).symm.trans H; rw [hy677]; with_reducible exact H2_) | (have H2_ := (Option.bind_some _ _).symm.trans H; with_reducible exact H2_) | with_reducible exact H | (rw [hy677]; exact H) | exact H
        have Ny677 := Aside0.mk hy677
        clear hy677
        have H' := Aside0.mk H
        clear H
        go_wp2_with (first | ((with_reducible refine gate_builtin (b := .append) (xs := #[.tmp 13, .tmp 15]) rfl ?_); at_builtin; refine Kd.R_append (Kd.int .i64) (w0 := w) w.heap.size rfl (.tmp 13) (.tmp 15) 66 3 (.int .i64 0) 8 rfl Tryz.underlying66 info3 rfl (by decide) (by omega) u3 x3_1 x4_1 [.int .i64 x4_1] (fun _ => True) (fun _ => False) rfl rfl ?aP (fun _ hk => hk.elim) ?aF ?aO ?aB ?aS ?aL ?_; (case aP => exact rfl); (case aB => exact (by repeat (first | (with_reducible first | exact HB.out | apply below_alloc | apply pw_below_drewN | apply below_drew1) | exact HB.out))); (case aF => exact (fun _ _ => trivial)); (case aO => exact (by (with_reducible repeat (first | apply Kd.R_alloc | apply Kd.R_drewN | apply Kd.R_drew)); exact HO_3.out)); (case aS => exact (below_size (by repeat (first | (with_reducible first | exact HB.out | apply below_alloc | apply pw_below_drewN | apply below_drew1) | exact HB.out)))); (case aL => have := LMc6.out; omega); intro v678 w7 ho hb hg hat; rw [← Ny677.out] at ho; have n0_ := Aside0.mk (hb); have n1_ := Aside0.mk (ho); clear HB; clear HO_3; have HB := n0_; have HO679 := n1_; clear n0_ n1_; clear ho hb hg hat))
        go_meet
        case rel => exact ⟨_, (y677), H', ⟨by have := HK1.out; first | omega | exact Nat.le_refl _⟩, ⟨by (with_reducible repeat (first | apply Kd.R_alloc | apply Kd.R_drewN | apply Kd.R_drew)); exact HO679.out⟩, ⟨by repeat (first | (with_reducible first | exact HB.out | apply below_alloc | apply pw_below_drewN | apply below_drew1) | exact HB.out)⟩⟩
       ·rw [if_neg c6] at H
        exact absurd H (by simp)
      ·rw [if_neg c5] at H
       have c5b0 : ((Int.tmod x0_1 x4_1) == 0) = false := beq_eq_false_iff_ne.mpr c5
       have c5b1 : ((Int.tmod x0_1 x4_1) != 0) = true := bne_iff_ne.mpr c5
       (first | rw [c5b0] | (simp only [i64_w, i32_w]; rw [c5b0]) | skip)
       have H' := Aside0.mk H
       clear H
       go_wp2
       go_meet
       case rel => exact ⟨_, (x3_1), H', ⟨by have := HK1.out; first | omega | exact Nat.le_refl _⟩, ⟨by (with_reducible repeat (first | apply Kd.R_alloc | apply Kd.R_drewN | apply Kd.R_drew)); exact HO_3.out⟩, ⟨by repeat (first | (with_reducible first | exact HB.out | apply below_alloc | apply pw_below_drewN | apply below_drew1) | exact HB.out)⟩⟩
     case rest =>
      clear HC4
      try clear c1
      try clear c2
      try clear c2b0
      try clear p2
      try clear c3
      try clear c3b0
      try clear c3b1
      try clear c5
      try clear c5b0
      try clear c5b1
      try clear c6
      obtain ⟨kq, x3_3, HA, HJ3, HO_3, HB⟩ := hcut
      cases kq with
      | zero => exact absurd HA.out (by simp [poly_divisors.j1])
      | succ kj3 =>
       have H := HA.out
       clear HA
       simp only [poly_divisors.j1] at H
       have H' := Aside0.mk H
       clear H
       go_wp2
       go_loopg [0] kj3 (fun kq v0 w' => ∃ (x0_3 : Int), v0 = .int .i64 x0_3 ∧ Aside0 (poly_divisors.l1 kq x0_3 x3_3 x4_1 = some r) ∧ Aside0 (kq ≤ kj3) ∧ Aside0 (Kd.R (Kd.int .i64) 3 w' w.heap.size (fun _ => True) u3 x3_3) ∧ Aside0 (Below w.heap.size w w'))
       case atStart => exact ⟨(x0_1), (by first | rfl | (simp; done) | (simp [*]; done)), H', ⟨Nat.le_refl _⟩, ⟨by (with_reducible repeat (first | apply Kd.R_alloc | apply Kd.R_drewN | apply Kd.R_drew)); exact HO_3.out⟩, ⟨by repeat (first | (with_reducible first | exact HB.out | apply below_alloc | apply pw_below_drewN | apply below_drew1) | exact HB.out)⟩⟩
       case round =>
        clear H'
        try clear c1
        try clear c2
        try clear c2b0
        try clear p2
        try clear c3
        try clear c3b0
        try clear c3b1
        try clear c5
        try clear c5b0
        try clear c5b1
        try clear c6
        try clear p2
        obtain ⟨x0_3, rfl, HA, HK3, HO_3, HB⟩ := hrel
        cases gk with
        | zero => exact absurd HA.out (by simp [poly_divisors.l1])
        | succ k3 =>
         have H := HA.out
         clear HA
         simp only [poly_divisors.l1] at H
         by_cases c8 : x4_1 = 0
         ·rw [if_pos c8] at H
          exact absurd H (by simp)
         ·rw [if_neg c8] at H
          have c8b0 : (x4_1 == 0) = false := beq_eq_false_iff_ne.mpr c8
          have c8b1 : (x4_1 != 0) = true := bne_iff_ne.mpr c8
          by_cases c9 : (Int.tmod x0_3 x4_1) = 0
          ·rw [if_pos c9] at H
           have c9b0 : ((Int.tmod x0_3 x4_1) == 0) = true := beq_iff_eq.mpr c9
           have c9b1 : ((Int.tmod x0_3 x4_1) != 0) = false := bne_eq_false_iff_eq.mpr c9
           clear c9
           have H' := Aside0.mk H
           clear H
           go_wp2
           go_roundg k3
           case measure => have := HK1.out; have := HJ3.out; have := HK3.out; omega
           case rel => exact ⟨(wrap64 (Int.tdiv x0_3 x4_1)), (by first | rfl | (simp; done) | (simp [*]; done)), H', ⟨by have := HK1.out; have := HJ3.out; have := HK3.out; omega⟩, ⟨by (with_reducible repeat (first | apply Kd.R_alloc | apply Kd.R_drewN | apply Kd.R_drew)); exact HO_3.out⟩, ⟨by repeat (first | (with_reducible first | exact HB.out | apply below_alloc | apply pw_below_drewN | apply below_drew1) | exact HB.out)⟩⟩
          ·rw [if_neg c9] at H
           have c9b0 : ((Int.tmod x0_3 x4_1) == 0) = false := beq_eq_false_iff_ne.mpr c9
           have c9b1 : ((Int.tmod x0_3 x4_1) != 0) = true := bne_iff_ne.mpr c9
           have H' := Aside0.mk H
           clear H
           go_wp2
           go_roundg k3
           case measure => have := HK1.out; have := HJ3.out; have := HK3.out; omega
           case rel => exact ⟨(x0_3), (x3_3), (wrap64 (x4_1 + 1)), (by first | rfl | (simp; done) | (simp [*]; done)), (by first | rfl | (simp; done) | (simp [*]; done)), H', ⟨by have := HK1.out; have := HJ3.out; have := HK3.out; omega⟩, ⟨by (with_reducible repeat (first | apply Kd.R_alloc | apply Kd.R_drewN | apply Kd.R_drew)); exact HO_3.out⟩, ⟨by repeat (first | (with_reducible first | exact HB.out | apply below_alloc | apply pw_below_drewN | apply below_drew1) | exact HB.out)⟩⟩
   ·rw [if_neg c2] at H
    have c2b0 : decide (1 < x0_1) = false := decide_eq_false c2
    clear c2
    obtain rfl := Option.some.inj H
    go_wp2
    go_ret
    exact ⟨_, by first | rfl | (simp [errW_none, errW_some] <;> rfl) | (simp [*, errW_none, errW_some] <;> rfl), by (with_reducible repeat (first | apply Kd.R_alloc | apply Kd.R_drewN | apply Kd.R_drew)); exact HO_3.out, by repeat (first | (with_reducible first | exact HB.out | apply below_alloc | apply pw_below_drewN | apply below_drew1) | exact HB.out)⟩
def poly_power.l0 : Nat → Int → Int → Int → Int → Option (Int)
 | 0, _, _, _, _ => none
 | k + 1, x0, x1, x2, x7 => if x1 > 0 then (if (Go.bits .and .i64 x1 1) = 1 then ((poly_MulMod.f k x7 x0 x2).bind fun t681 => ((poly_MulMod.f k x0 x0 x2).bind fun t682 => (poly_power.l0 k t682 (x1 / 2) x2 t681))) else ((poly_MulMod.f k x0 x0 x2).bind fun t683 => (poly_power.l0 k t683 (x1 / 2) x2 x7))) else (some x7)
def poly_power.f (k : Nat) (a0 : Int) (a1 : Int) (a2 : Int) : Option (Int) := (poly_Mod.f k 1 a2).bind fun t680 => (poly_power.l0 k a0 a1 a2 t680)
set_option maxHeartbeats 8000000 in
set_option maxRecDepth 100000 in
theorem poly_power.calls (k : Nat) (a0 : Int) (a1 : Int) (a2 : Int) (r : Int) (w : World) (h : poly_power.f k a0 a1 a2 = some r) :
  Calls Tryz.prog 156 #[.int .u32 a0, .int .i64 a1, .int .u32 a2] w fun e w' => e = .returned (.int .u32 r) ∧ Below w.heap.size w w' := by
 have HB := Aside0.mk (Below.refl w.heap.size w)
 have H : ((poly_Mod.f k 1 a2).bind fun t680 => (poly_power.l0 k a0 a1 a2 t680)) = some r := h
 clear h
 replace H := Option.bind_eq_some_iff.mp H
 obtain ⟨t680, A40, H⟩ := H
 replace H : (poly_power.l0 k a0 a1 a2 t680) = some r := H
 have A4 := Aside0.mk A40
 clear A40
 have H' := Aside0.mk H
 clear H
 go_enter Tryz.func156, Tryz.ntmps156
 go_wp2_with (first | ((with_reducible refine gate_callee (f := 154) rfl ?_); refine goesL_ (some 9) rfl rfl Tryz.func154 (by kernel_rfl) rfl #[.int .u64 1, .int .u32 a2] rfl (by (try simp only [List.map_toArray, List.map_cons, List.map_nil]); first | done | rfl | (simp only [List.length_drop, List.length_take]; rfl)) ?_; (with_reducible refine (poly_Mod.calls k 1 a2 t680 _ A4.out).mono ?_); rintro e w' ⟨rfl, ⟨nd, rfl⟩⟩; refine ⟨_, rfl, ?_⟩))
 go_loopg [0, 1, 7] k (fun kq v0 v1 v7 w' => ∃ (x0_1 : Int) (x1_1 : Int) (x7_1 : Int), v0 = .int .u32 x0_1 ∧ v1 = .int .i64 x1_1 ∧ v7 = .int .u32 x7_1 ∧ Aside0 (poly_power.l0 kq x0_1 x1_1 a2 x7_1 = some r) ∧ Aside0 (kq ≤ k) ∧ Aside0 (Below w.heap.size w w'))
 case atStart => exact ⟨(a0), (a1), (t680), (by first | rfl | (simp; done) | (simp [*]; done)), (by first | rfl | (simp; done) | (simp [*]; done)), (by first | rfl | (simp; done) | (simp [*]; done)), H', ⟨Nat.le_refl _⟩, ⟨by repeat (first | (with_reducible first | exact HB.out | apply below_alloc | apply pw_below_drewN | apply below_drew1) | exact HB.out)⟩⟩
 case round =>
  clear H'
  try clear c1
  try clear p2
  obtain ⟨x0_1, x1_1, x7_1, rfl, rfl, rfl, HA, HK1, HB⟩ := hrel
  cases gk with
  | zero => exact absurd HA.out (by simp [poly_power.l0])
  | succ k1 =>
   have H := HA.out
   clear HA
   simp only [poly_power.l0] at H
   by_cases c5 : x1_1 > 0
   ·rw [if_pos c5] at H
    have c5b0 : decide (0 < x1_1) = true := decide_eq_true c5
    clear c5
    by_cases c6 : (Go.bits .and .i64 x1_1 1) = 1
    ·rw [if_pos c6] at H
     have c6b0 : ((Go.bits .and .i64 x1_1 1) == 1) = true := beq_iff_eq.mpr c6
     have c6b1 : ((Go.bits .and .i64 x1_1 1) != 1) = false := bne_eq_false_iff_eq.mpr c6
     clear c6
     replace H := Option.bind_eq_some_iff.mp H
     obtain ⟨t681, A70, H⟩ := H
     replace H : ((poly_MulMod.f k1 x0_1 x0_1 a2).bind fun t682 => (poly_power.l0 k1 t682 (x1_1 / 2) a2 t681)) = some r := H
     have A7 := Aside0.mk A70
     clear A70
     replace H := Option.bind_eq_some_iff.mp H
     obtain ⟨t682, A80, H⟩ := H
     replace H : (poly_power.l0 k1 t682 (x1_1 / 2) a2 t681) = some r := H
     have A8 := Aside0.mk A80
     clear A80
     have H' := Aside0.mk H
     clear H
     go_wp2_with (first | ((with_reducible refine gate_callee (f := 142) rfl ?_); refine goesL_ (some 20) rfl rfl Tryz.func142 (by kernel_rfl) rfl #[.int .u32 x7_1, .int .u32 x0_1, .int .u32 a2] rfl (by (try simp only [List.map_toArray, List.map_cons, List.map_nil]); first | done | rfl | (simp only [List.length_drop, List.length_take]; rfl)) ?_; (with_reducible refine (poly_MulMod.calls k1 x7_1 x0_1 a2 t681 _ A7.out).mono ?_); rintro e w9 ⟨rfl, hb⟩; refine ⟨_, rfl, ?_⟩; have n0_ := Aside0.mk (below_step (by repeat (first | (with_reducible first | exact HB.out | apply below_alloc | apply pw_below_drewN | apply below_drew1) | exact HB.out)) hb); clear HB; have HB := n0_; clear n0_; (try clear hb); (try clear hb2); (try clear hk); (try clear hi)) | ((with_reducible refine gate_callee (f := 142) rfl ?_); refine goesL_ (some 24) rfl rfl Tryz.func142 (by kernel_rfl) rfl #[.int .u32 x0_1, .int .u32 x0_1, .int .u32 a2] rfl (by (try simp only [List.map_toArray, List.map_cons, List.map_nil]); first | done | rfl | (simp only [List.length_drop, List.length_take]; rfl)) ?_; (with_reducible refine (poly_MulMod.calls k1 x0_1 x0_1 a2 t682 _ A8.out).mono ?_); rintro e w10 ⟨rfl, hb⟩; refine ⟨_, rfl, ?_⟩; have n0_ := Aside0.mk (below_step (by repeat (first | (with_reducible first | exact HB.out | apply below_alloc | apply pw_below_drewN | apply below_drew1) | exact HB.out)) hb); clear HB; have HB := n0_; clear n0_; (try clear hb); (try clear hb2); (try clear hk); (try clear hi)))
     go_roundg k1
     case measure => have := HK1.out; omega
     case rel => exact ⟨(t682), (x1_1 / 2), (t681), (by first | rfl | (simp; done) | (simp [*]; done)), (by first | rfl | (simp; done) | (simp [*]; done)), (by first | rfl | (simp; done) | (simp [*]; done)), H', ⟨by have := HK1.out; omega⟩, ⟨by repeat (first | (with_reducible first | exact HB.out | apply below_alloc | apply pw_below_drewN | apply below_drew1) | exact HB.out)⟩⟩
    ·rw [if_neg c6] at H
     have c6b0 : ((Go.bits .and .i64 x1_1 1) == 1) = false := beq_eq_false_iff_ne.mpr c6
     have c6b1 : ((Go.bits .and .i64 x1_1 1) != 1) = true := bne_iff_ne.mpr c6
     replace H := Option.bind_eq_some_iff.mp H
     obtain ⟨t683, A110, H⟩ := H
     replace H : (poly_power.l0 k1 t683 (x1_1 / 2) a2 x7_1) = some r := H
     have A11 := Aside0.mk A110
     clear A110
     have H' := Aside0.mk H
     clear H
     go_wp2_with (first | ((with_reducible refine gate_callee (f := 142) rfl ?_); refine goesL_ (some 24) rfl rfl Tryz.func142 (by kernel_rfl) rfl #[.int .u32 x0_1, .int .u32 x0_1, .int .u32 a2] rfl (by (try simp only [List.map_toArray, List.map_cons, List.map_nil]); first | done | rfl | (simp only [List.length_drop, List.length_take]; rfl)) ?_; (with_reducible refine (poly_MulMod.calls k1 x0_1 x0_1 a2 t683 _ A11.out).mono ?_); rintro e w12 ⟨rfl, hb⟩; refine ⟨_, rfl, ?_⟩; have n0_ := Aside0.mk (below_step (by repeat (first | (with_reducible first | exact HB.out | apply below_alloc | apply pw_below_drewN | apply below_drew1) | exact HB.out)) hb); clear HB; have HB := n0_; clear n0_; (try clear hb); (try clear hb2); (try clear hk); (try clear hi)))
     go_roundg k1
     case measure => have := HK1.out; omega
     case rel => exact ⟨(t683), (x1_1 / 2), (x7_1), (by first | rfl | (simp; done) | (simp [*]; done)), (by first | rfl | (simp; done) | (simp [*]; done)), (by first | rfl | (simp; done) | (simp [*]; done)), H', ⟨by have := HK1.out; omega⟩, ⟨by repeat (first | (with_reducible first | exact HB.out | apply below_alloc | apply pw_below_drewN | apply below_drew1) | exact HB.out)⟩⟩
   ·rw [if_neg c5] at H
    have c5b0 : decide (0 < x1_1) = false := decide_eq_false c5
    clear c5
    obtain rfl := Option.some.inj H
    go_wp2
    go_ret
    exact ⟨by first | rfl | (simp [errW_none, errW_some] <;> rfl) | (simp [*, errW_none, errW_some] <;> rfl), by repeat (first | (with_reducible first | exact HB.out | apply below_alloc | apply pw_below_drewN | apply below_drew1) | exact HB.out)⟩
end Go.Proofs.YtelcllhibpnneaaGreat.XCo
end
section
namespace Go.Proofs.YtelcllhibpnneaaGreat.XCo
open Go.RowKit Go.Proofs.YtelcllhibpnneaaGreatW.PrintWords Go.Proofs.YtelcllhibpnneaaGreatW.PrintLast Go.Proofs.YtelcllhibpnneaaGreatW.PrintMore
attribute [local go_sem] max2_int min2_int max_two min_two max_three min_three max_four min_four
set_option linter.unusedVariables false
set_option linter.unusedSimpArgs false
mutual
def poly_Primitive.j0 : Nat → Int → Bool → Option (Bool)
 | 0, _, _ => none
 | k + 1, x0, x13 => if x13 = true then (some false) else ((poly_Deg.f (IntKind.u64.wrap (x0))).bind fun t686 => (if 0 ≤ t686 then ((poly_divisors.f k (wrap64 ((shl .i64 1 t686) - 1))).bind fun t687 => (poly_Primitive.l0 k x0 (wrap64 ((shl .i64 1 t686) - 1)) t687 (t687.length : Int) 0)) else (none)))
def poly_Primitive.l0 : Nat → Int → Int → List Int → Int → Int → Option (Bool)
 | 0, _, _, _, _, _ => none
 | k + 1, x0, x3, x20, x21, x22 => if x22 < x21 then (if 0 ≤ x22 then (if x22 < (x20.length : Int) then (if (rd x20 x22) = 0 then (none) else ((poly_power.f k 2 (wrap64 (Int.tdiv x3 (rd x20 x22))) x0).bind fun t691 => (if t691 = 1 then (some false) else (poly_Primitive.l0 k x0 x3 x20 x21 (wrap64 (x22 + 1)))))) else (none)) else (none)) else (some true)
end
def poly_Primitive.f (k : Nat) (a0 : Int) : Option (Bool) := (poly_Irreducible.f k a0).bind fun t684 => (if t684 = true then ((poly_Mod.f k 2 a0).bind fun t685 => (poly_Primitive.j0 k a0 (t685 == 0))) else (poly_Primitive.j0 k a0 true))
set_option maxHeartbeats 8000000 in
set_option maxRecDepth 100000 in
theorem poly_Primitive.calls (k : Nat) (a0 : Int) (r : Bool) (w : World) (h : poly_Primitive.f k a0 = some r) :
  Calls Tryz.prog 116 #[.int .u32 a0] w fun e w' => e = .returned (.bool r) ∧ Below w.heap.size w w' := by
 have HB := Aside0.mk (Below.refl w.heap.size w)
 have H : ((poly_Irreducible.f k a0).bind fun t684 => (if t684 = true then ((poly_Mod.f k 2 a0).bind fun t685 => (poly_Primitive.j0 k a0 (t685 == 0))) else (poly_Primitive.j0 k a0 true))) = some r := h
 clear h
 have HC2 := Aside0.mk H
 clear H
 go_enter Tryz.func116, Tryz.ntmps116
 go_upto_region 1 with (fail)
 go_cut [13] (fun v13 wc => ∃ (kq : Nat) (x13_1 : Bool), v13 = .bool x13_1 ∧ Aside0 (poly_Primitive.j0 kq a0 x13_1 = some r) ∧ Aside0 (kq ≤ k) ∧ Aside0 (Below w.heap.size w wc))
 case first =>
  have H := HC2.out
  clear HC2
  replace H := Option.bind_eq_some_iff.mp H
  obtain ⟨t684, A30, H⟩ := H
  replace H : (if t684 = true then ((poly_Mod.f k 2 a0).bind fun t685 => (poly_Primitive.j0 k a0 (t685 == 0))) else (poly_Primitive.j0 k a0 true)) = some r := H
  have A3 := Aside0.mk A30
  clear A30
  by_cases c4 : t684 = true
  ·subst c4
   have H1 : ((poly_Mod.f k 2 a0).bind fun t685 => (poly_Primitive.j0 k a0 (t685 == 0))) = some r := by rw [if_pos rfl] at H; exact H
   clear H
   have H := H1
   clear H1
   replace H := Option.bind_eq_some_iff.mp H
   obtain ⟨t685, A50, H⟩ := H
   replace H : (poly_Primitive.j0 k a0 (t685 == 0)) = some r := H
   have A5 := Aside0.mk A50
   clear A50
   have H' := Aside0.mk H
   clear H
   go_wp2_with (first | ((with_reducible refine gate_callee (f := 153) rfl ?_); refine goesL_ (some 7) rfl rfl Tryz.func153 (by kernel_rfl) rfl #[.int .u32 a0] rfl (by (try simp only [List.map_toArray, List.map_cons, List.map_nil]); first | done | rfl | (simp only [List.length_drop, List.length_take]; rfl)) ?_; (with_reducible refine (poly_Irreducible.calls k a0 true _ A3.out).mono ?_); rintro e w6 ⟨rfl, hb⟩; refine ⟨_, rfl, ?_⟩; have n0_ := Aside0.mk (below_step (by repeat (first | (with_reducible first | exact HB.out | apply below_alloc | apply pw_below_drewN | apply below_drew1) | exact HB.out)) hb); clear HB; have HB := n0_; clear n0_; (try clear hb); (try clear hb2); (try clear hk); (try clear hi)) | (go_at_call 154; (with_reducible refine (poly_Mod.calls k 2 a0 t685 _ A5.out).mono ?_); rintro e w' ⟨rfl, ⟨nd, rfl⟩⟩))
   go_meet
   case rel => exact ⟨_, ((t685 == 0)), (by first | rfl | (simp; done) | (simp [*]; done)), H', ⟨by first | omega | exact Nat.le_refl _⟩, ⟨by repeat (first | (with_reducible first | exact HB.out | apply below_alloc | apply pw_below_drewN | apply below_drew1) | exact HB.out)⟩⟩
  ·replace c4 := Bool.eq_false_iff.mpr c4
   subst c4
   have H1 : (poly_Primitive.j0 k a0 true) = some r := by rw [if_neg (show ¬ (false = true) by decide)] at H; exact H
   clear H
   have H := H1
   clear H1
   have H' := Aside0.mk H
   clear H
   go_wp2_with (first | ((with_reducible refine gate_callee (f := 153) rfl ?_); refine goesL_ (some 7) rfl rfl Tryz.func153 (by kernel_rfl) rfl #[.int .u32 a0] rfl (by (try simp only [List.map_toArray, List.map_cons, List.map_nil]); first | done | rfl | (simp only [List.length_drop, List.length_take]; rfl)) ?_; (with_reducible refine (poly_Irreducible.calls k a0 false _ A3.out).mono ?_); rintro e w7 ⟨rfl, hb⟩; refine ⟨_, rfl, ?_⟩; have n0_ := Aside0.mk (below_step (by repeat (first | (with_reducible first | exact HB.out | apply below_alloc | apply pw_below_drewN | apply below_drew1) | exact HB.out)) hb); clear HB; have HB := n0_; clear n0_; (try clear hb); (try clear hb2); (try clear hk); (try clear hi)))
   go_meet
   case rel => exact ⟨_, (true), (by first | rfl | (simp; done) | (simp [*]; done)), H', ⟨by first | omega | exact Nat.le_refl _⟩, ⟨by repeat (first | (with_reducible first | exact HB.out | apply below_alloc | apply pw_below_drewN | apply below_drew1) | exact HB.out)⟩⟩
 case rest =>
  clear HC2
  try clear c1
  try clear p2
  try clear c4
  obtain ⟨kq, x13_1, rfl, HA, HJ1, HB⟩ := hcut
  cases kq with
  | zero => exact absurd HA.out (by simp [poly_Primitive.j0])
  | succ kj1 =>
   have H := HA.out
   clear HA
   simp only [poly_Primitive.j0] at H
   by_cases c8 : x13_1 = true
   ·subst c8
    have H1 : (some false) = some r := by rw [if_pos rfl] at H; exact H
    clear H
    have H := H1
    clear H1
    obtain rfl := Option.some.inj H
    go_wp2
    go_ret
    exact ⟨by first | rfl | (simp [errW_none, errW_some] <;> rfl) | (simp [*, errW_none, errW_some] <;> rfl), by repeat (first | (with_reducible first | exact HB.out | apply below_alloc | apply pw_below_drewN | apply below_drew1) | exact HB.out)⟩
   ·replace c8 := Bool.eq_false_iff.mpr c8
    subst c8
    have H1 : ((poly_Deg.f (IntKind.u64.wrap (a0))).bind fun t686 => (if 0 ≤ t686 then ((poly_divisors.f kj1 (wrap64 ((shl .i64 1 t686) - 1))).bind fun t687 => (poly_Primitive.l0 kj1 a0 (wrap64 ((shl .i64 1 t686) - 1)) t687 (t687.length : Int) 0)) else (none))) = some r := by rw [if_neg (show ¬ (false = true) by decide)] at H; exact H
    clear H
    have H := H1
    clear H1
    replace H := Option.bind_eq_some_iff.mp H
    obtain ⟨t686, A90, H⟩ := H
    replace H : (if 0 ≤ t686 then ((poly_divisors.f kj1 (wrap64 ((shl .i64 1 t686) - 1))).bind fun t687 => (poly_Primitive.l0 kj1 a0 (wrap64 ((shl .i64 1 t686) - 1)) t687 (t687.length : Int) 0)) else (none)) = some r := H
    have A9 := Aside0.mk A90
    clear A90
    by_cases c10 : 0 ≤ t686
    ·rw [if_pos c10] at H
     have c10b0 := eq_true c10
     have c10b1 : decide (0 ≤ t686) = true := decide_eq_true c10
     clear c10
     obtain ⟨ji11, hji11⟩ : ∃ j_ : Int, (shl .i64 1 t686) = j_ := ⟨_, rfl⟩
     replace H : ((poly_divisors.f kj1 (wrap64 ((ji11) - 1))).bind fun t687 => (poly_Primitive.l0 kj1 a0 (wrap64 ((ji11) - 1)) t687 (t687.length : Int) 0)) = some r := by first | (rw [hji11] at H; exact H) | (simp only [hji11] at H ⊢; exact H)
     (try rw [hji11] at A9)
     have hji11_ : (IntKind.i64.wrap (1 * 2 ^ min t686.toNat 64)) = ji11 := hji11
     have hji11z : t686 ≤ 64 → (IntKind.i64.wrap (1 * 2 ^ t686.toNat)) = ji11 := shl_small hji11
     have hji11u : (IntKind.i64.wrap (2 ^ min t686.toNat 64)) = ji11 := by have h_ := hji11_; rw [Int.one_mul] at h_; exact h_
     have hji11v : t686 ≤ 64 → (IntKind.i64.wrap (2 ^ t686.toNat)) = ji11 := fun hle_ => by have h_ := hji11z hle_; rw [Int.one_mul] at h_; exact h_
     have hji11y : (wrap64 (1 * 2 ^ min t686.toNat 64)) = ji11 := (i64_w _).symm.trans hji11_
     have hji11x : t686 ≤ 64 → (wrap64 (1 * 2 ^ t686.toNat)) = ji11 := fun h_ => (i64_w _).symm.trans (hji11z h_)
     replace H := Option.bind_eq_some_iff.mp H
     obtain ⟨t687, A120, H⟩ := H
     replace H : (poly_Primitive.l0 kj1 a0 (wrap64 ((ji11) - 1)) t687 (t687.length : Int) 0) = some r := H
     have A12 := Aside0.mk A120
     clear A120
     have H' := Aside0.mk H
     clear H
     go_wp2_with (first | ((with_reducible refine gate_callee (f := 115) rfl ?_); refine goesL_ (some 16) rfl rfl Tryz.func115 (by kernel_rfl) rfl #[.int .u64 (IntKind.u64.wrap (a0))] rfl (by (try simp only [List.map_toArray, List.map_cons, List.map_nil]); first | done | rfl | (simp only [List.length_drop, List.length_take]; rfl)) ?_; (with_reducible refine (poly_Deg.calls (IntKind.u64.wrap (a0)) t686 _ A9.out).mono ?_); rintro e w' ⟨rfl, ⟨nd, rfl⟩⟩; refine ⟨_, rfl, ?_⟩) | ((with_reducible refine gate_callee (f := 155) rfl ?_); refine goesL_ (some 20) rfl rfl Tryz.func155 (by kernel_rfl) rfl #[.int .i64 (wrap64 ((ji11) - 1))] rfl (by (try simp only [List.map_toArray, List.map_cons, List.map_nil]); first | done | (simp only [hji11]; rfl) | rfl | (simp only [List.length_drop, List.length_take]; rfl)) ?_; (with_reducible refine (poly_divisors.calls kj1 (wrap64 ((ji11) - 1)) t687 _ A12.out).mono ?_); rintro e w13 ⟨v688, rfl, ho0, hb⟩; refine ⟨_, rfl, ?_⟩; have n0_ := Aside0.mk (Kd.R_lower ho0 (below_size (by repeat (first | (with_reducible first | exact HB.out | apply below_alloc | apply pw_below_drewN | apply below_drew1) | exact HB.out)))); have n1_ := Aside0.mk (below_step (by repeat (first | (with_reducible first | exact HB.out | apply below_alloc | apply pw_below_drewN | apply below_drew1) | exact HB.out)) hb); clear HB; have HO689 := n0_; have HB := n1_; clear n0_ n1_; (try clear hb); (try clear hb2); (try clear hk); (try clear hi); (try clear ho0); obtain ⟨Ao14, co14, eo14⟩ := Kd.R_slice HO689.out; subst eo14))
     go_loopg [22] kj1 (fun kq v22 w' => ∃ (x22_2 : Int), v22 = .int .i64 x22_2 ∧ Aside0 (poly_Primitive.l0 kq a0 (wrap64 ((ji11) - 1)) t687 (t687.length : Int) x22_2 = some r) ∧ Aside0 (kq ≤ kj1) ∧ Aside0 (Kd.R (Kd.int .i64) 3 w' w.heap.size (fun _ => True) (.slice Ao14 t687.length co14) t687) ∧ Aside0 (Below w.heap.size w w'))
     case atStart => exact ⟨(0), (by first | rfl | (simp; done) | (simp [*]; done)), H', ⟨Nat.le_refl _⟩, ⟨by (with_reducible repeat (first | apply Kd.R_alloc | apply Kd.R_drewN | apply Kd.R_drew)); exact HO689.out⟩, ⟨by repeat (first | (with_reducible first | exact HB.out | apply below_alloc | apply pw_below_drewN | apply below_drew1) | exact HB.out)⟩⟩
     case round =>
      clear H'
      try clear c1
      try clear p2
      try clear c4
      try clear p6
      try clear c8
      try clear c10
      try clear c10b0
      try clear c10b1
      try clear c11
      try clear p2
      obtain ⟨x22_2, rfl, HA, HK2, HO_20, HB⟩ := hrel
      cases gk with
      | zero => exact absurd HA.out (by simp [poly_Primitive.l0])
      | succ k2 =>
       have H := HA.out
       clear HA
       simp only [poly_Primitive.l0] at H
       by_cases c15 : x22_2 < (t687.length : Int)
       ·rw [if_pos c15] at H
        have c15b0 : decide (x22_2 < (t687.length : Int)) = true := decide_eq_true c15
        clear c15
        by_cases c16 : 0 ≤ x22_2
        ·rw [if_pos c16] at H
         have c16b0 : decide (0 ≤ x22_2) = true := decide_eq_true c16
         clear c16
         by_cases c17 : x22_2 < (t687.length : Int)
         ·rw [if_pos c17] at H
          have c17b0 : decide (x22_2 < (t687.length : Int)) = true := decide_eq_true c17
          clear c17
          by_cases c18 : (rd t687 x22_2) = 0
          ·rw [if_pos c18] at H
           exact absurd H (by simp)
          ·rw [if_neg c18] at H
           have c18b0 : ((rd t687 x22_2) == 0) = false := beq_eq_false_iff_ne.mpr c18
           have c18b1 : ((rd t687 x22_2) != 0) = true := bne_iff_ne.mpr c18
           replace H := Option.bind_eq_some_iff.mp H
           obtain ⟨t691, A190, H⟩ := H
           replace H : (if t691 = 1 then (some false) else (poly_Primitive.l0 k2 a0 (wrap64 ((ji11) - 1)) t687 (t687.length : Int) (wrap64 (x22_2 + 1)))) = some r := H
           have A19 := Aside0.mk A190
           clear A190
           by_cases c20 : t691 = 1
           ·rw [if_pos c20] at H
            have c20b0 : (t691 == 1) = true := beq_iff_eq.mpr c20
            have c20b1 : (t691 != 1) = false := bne_eq_false_iff_eq.mpr c20
            clear c20
            obtain rfl := Option.some.inj H
            have p690 : 0 ≤ (x22_2 : Int) := of_decide_eq_true (by first | (with_reducible assumption) | assumption)
            have q690 : x22_2 < (t687.length : Int) := of_decide_eq_true (by first | (with_reducible assumption) | assumption)
            obtain ⟨ad690, e690, hx690_0⟩ := Kd.at_int (Kd.R_reads' HO_20.out).2.2 x22_2 p690 q690
            cases e690
            replace p690 := eq_true p690
            replace q690 := eq_true q690
            go_wp2_with (first | ((with_reducible refine gate_callee (f := 156) rfl ?_); refine goesL_ (some 30) rfl rfl Tryz.func156 (by kernel_rfl) rfl #[.int .u32 2, .int .i64 (wrap64 (Int.tdiv (wrap64 ((ji11) - 1)) (rd t687 x22_2))), .int .u32 a0] rfl (by (try simp only [List.map_toArray, List.map_cons, List.map_nil]); first | done | (simp only [hji11]; rfl) | rfl | (simp only [List.length_drop, List.length_take]; rfl)) ?_; (with_reducible refine (poly_power.calls k2 2 (wrap64 (Int.tdiv (wrap64 ((ji11) - 1)) (rd t687 x22_2))) a0 t691 _ A19.out).mono ?_); rintro e w21 ⟨rfl, hb⟩; refine ⟨_, rfl, ?_⟩; have n0_ := Aside0.mk (Kd.R_below (by (with_reducible repeat (first | apply Kd.R_alloc | apply Kd.R_drewN | apply Kd.R_drew)); exact HO_20.out) hb); have n1_ := Aside0.mk (below_step (by repeat (first | (with_reducible first | exact HB.out | apply below_alloc | apply pw_below_drewN | apply below_drew1) | exact HB.out)) hb); clear HO_20; clear HB; have HO_20 := n0_; have HB := n1_; clear n0_ n1_; (try clear hb); (try clear hb2); (try clear hk); (try clear hi)))
            go_ret
            exact ⟨by first | rfl | (simp [errW_none, errW_some] <;> rfl) | (simp only [← hji11]; first | rfl | (simp [errW_none, errW_some] <;> rfl)) | (simp [*, errW_none, errW_some] <;> rfl), by repeat (first | (with_reducible first | exact HB.out | apply below_alloc | apply pw_below_drewN | apply below_drew1) | exact HB.out)⟩
           ·rw [if_neg c20] at H
            have c20b0 : (t691 == 1) = false := beq_eq_false_iff_ne.mpr c20
            have c20b1 : (t691 != 1) = true := bne_iff_ne.mpr c20
            have H' := Aside0.mk H
            clear H
            have p690 : 0 ≤ (x22_2 : Int) := of_decide_eq_true (by first | (with_reducible assumption) | assumption)
            have q690 : x22_2 < (t687.length : Int) := of_decide_eq_true (by first | (with_reducible assumption) | assumption)
            obtain ⟨ad690, e690, hx690_0⟩ := Kd.at_int (Kd.R_reads' HO_20.out).2.2 x22_2 p690 q690
            cases e690
            replace p690 := eq_true p690
            replace q690 := eq_true q690
            go_wp2_with (first | ((with_reducible refine gate_callee (f := 156) rfl ?_); refine goesL_ (some 30) rfl rfl Tryz.func156 (by kernel_rfl) rfl #[.int .u32 2, .int .i64 (wrap64 (Int.tdiv (wrap64 ((ji11) - 1)) (rd t687 x22_2))), .int .u32 a0] rfl (by (try simp only [List.map_toArray, List.map_cons, List.map_nil]); first | done | (simp only [hji11]; rfl) | rfl | (simp only [List.length_drop, List.length_take]; rfl)) ?_; (with_reducible refine (poly_power.calls k2 2 (wrap64 (Int.tdiv (wrap64 ((ji11) - 1)) (rd t687 x22_2))) a0 t691 _ A19.out).mono ?_); rintro e w22 ⟨rfl, hb⟩; refine ⟨_, rfl, ?_⟩; have n0_ := Aside0.mk (Kd.R_below (by (with_reducible repeat (first | apply Kd.R_alloc | apply Kd.R_drewN | apply Kd.R_drew)); exact HO_20.out) hb); have n1_ := Aside0.mk (below_step (by repeat (first | (with_reducible first | exact HB.out | apply below_alloc | apply pw_below_drewN | apply below_drew1) | exact HB.out)) hb); clear HO_20; clear HB; have HO_20 := n0_; have HB := n1_; clear n0_ n1_; (try clear hb); (try clear hb2); (try clear hk); (try clear hi)))
            (first | go_roundg k2 | (subst hji11; go_roundg k2))
            case measure => have := HJ1.out; have := HK2.out; omega
            case rel => exact ⟨(wrap64 (x22_2 + 1)), (by first | rfl | (simp; done) | (simp [*]; done)), H', ⟨by have := HJ1.out; have := HK2.out; omega⟩, ⟨by (with_reducible repeat (first | apply Kd.R_alloc | apply Kd.R_drewN | apply Kd.R_drew)); exact HO_20.out⟩, ⟨by repeat (first | (with_reducible first | exact HB.out | apply below_alloc | apply pw_below_drewN | apply below_drew1) | exact HB.out)⟩⟩
         ·rw [if_neg c17] at H
          exact absurd H (by simp)
        ·rw [if_neg c16] at H
         exact absurd H (by simp)
       ·rw [if_neg c15] at H
        have c15b0 : decide (x22_2 < (t687.length : Int)) = false := decide_eq_false c15
        clear c15
        obtain rfl := Option.some.inj H
        go_wp2
        go_ret
        exact ⟨by first | rfl | (simp [errW_none, errW_some] <;> rfl) | (simp only [← hji11]; first | rfl | (simp [errW_none, errW_some] <;> rfl)) | (simp [*, errW_none, errW_some] <;> rfl), by repeat (first | (with_reducible first | exact HB.out | apply below_alloc | apply pw_below_drewN | apply below_drew1) | exact HB.out)⟩
    ·rw [if_neg c10] at H
     exact absurd H (by simp)
def cauchy_within.f (a0 : Int) : Option (Bool) := if a0 ≥ 1 then (some (decide (a0 ≤ 20))) else (some false)
set_option maxHeartbeats 8000000 in
set_option maxRecDepth 100000 in
theorem cauchy_within.calls (a0 : Int) (r : Bool) (w : World) (h : cauchy_within.f a0 = some r) :
  Calls Tryz.prog 106 #[.int .i64 a0] w fun e w' => e = .returned (.bool r) ∧ Drawn0 w w' := by
 have H : (if a0 ≥ 1 then (some (decide (a0 ≤ 20))) else (some false)) = some r := h
 clear h
 by_cases c2 : a0 ≥ 1
 ·rw [if_pos c2] at H
  have c2b0 : decide (1 ≤ a0) = true := decide_eq_true c2
  clear c2
  obtain rfl := Option.some.inj H
  go_enter Tryz.func106, Tryz.ntmps106
  go_wp2
  go_ret
  exact ⟨by first | rfl | (simp; done) | (simp [*]; done), by repeat (first | exact Drawn0.refl _ | apply Drawn0.step)⟩
 ·rw [if_neg c2] at H
  have c2b0 : decide (1 ≤ a0) = false := decide_eq_false c2
  clear c2
  obtain rfl := Option.some.inj H
  go_enter Tryz.func106, Tryz.ntmps106
  go_wp2
  go_ret
  exact ⟨by first | rfl | (simp; done) | (simp [*]; done), by repeat (first | exact Drawn0.refl _ | apply Drawn0.step)⟩
end Go.Proofs.YtelcllhibpnneaaGreat.XCo
end
section
namespace Go.Proofs.YtelcllhibpnneaaGreat.XCo
open Go.RowKit Go.Proofs.YtelcllhibpnneaaGreatW.PrintWords Go.Proofs.YtelcllhibpnneaaGreatW.PrintLast Go.Proofs.YtelcllhibpnneaaGreatW.PrintMore
attribute [local go_sem] max2_int min2_int max_two min_two max_three min_three max_four min_four
set_option linter.unusedVariables false
set_option linter.unusedSimpArgs false
theorem prim8 : poly_Primitive.f 400 285 = some true := by kernel_rfl
theorem prim16 : poly_Primitive.f 1500 69643 = some true := by kernel_rfl
theorem deg8 : poly_Deg.f 285 = some 8 := by kernel_rfl
theorem deg16 : poly_Deg.f 69643 = some 16 := by kernel_rfl
def Fresh (w : World) (g : Nat) (wb : Int) : Prop := w.heap[g]? = some (.cells (freshF wb (fpoly wb)) 165 (0, 0))
theorem Fresh.fd {w : World} {g : Nat} {wb : Int} (h : Fresh w g wb) (S : Nat → Prop) (hg : ¬ S g) : Fd w g wb (fpoly wb) S := ⟨hg, .inl h⟩
set_option maxRecDepth 100000 in
set_option maxHeartbeats 1600000 in
theorem gf_New.calls (wb : Int) (hw : wb = 8 ∨ wb = 16) (W : World) :
  Calls Tryz.prog 74 #[.int .i64 wb, .int .u32 (fpoly wb)] W fun e w' => ∃ g : Nat, e = .returned (.pointer (some ⟨g, 0, none⟩)) ∧ Fresh w' g wb ∧ W.heap.size ≤ g ∧ Below W.heap.size W w' := by
 rcases hw with rfl | rfl
 ·have HP := Aside0.mk prim8
  have HD := Aside0.mk deg8
  show Calls Tryz.prog 74 #[.int .i64 8, .int .u32 285] W _
  go_enter Tryz.func74, Tryz.ntmps74
  go_wp2_with (first | (go_at_call 115; refine (poly_Deg.calls _ _ _ HD.out).mono ?_; rintro e w9 ⟨rfl, m9, rfl⟩) | (go_at_call 116; refine (poly_Primitive.calls 400 _ _ _ HP.out).mono ?_; rintro e w9 ⟨rfl, hB⟩))
  go_ret
  exact ⟨_, rfl, heap_alloc_new _ _, hB.size, below_alloc (w := W) ⟨hB.os, hB.tape, hB.output, hB.size, hB.block⟩ _⟩
 ·have HP := Aside0.mk prim16
  have HD := Aside0.mk deg16
  show Calls Tryz.prog 74 #[.int .i64 16, .int .u32 69643] W _
  go_enter Tryz.func74, Tryz.ntmps74
  go_wp2_with (first | (go_at_call 115; refine (poly_Deg.calls _ _ _ HD.out).mono ?_; rintro e w9 ⟨rfl, m9, rfl⟩) | (go_at_call 116; refine (poly_Primitive.calls 1500 _ _ _ HP.out).mono ?_; rintro e w9 ⟨rfl, hB⟩))
  go_ret
  exact ⟨_, rfl, heap_alloc_new _ _, hB.size, below_alloc (w := W) ⟨hB.os, hB.tape, hB.output, hB.size, hB.block⟩ _⟩
def pbits (p : Int) : Int := if p = 2 then 16 else 8
theorem pbits_or (p : Int) : pbits p = 8 ∨ pbits p = 16 := by unfold pbits; split <;> simp
theorem profile_told {p : Int} (h : 1 ≤ p ∧ p ≤ 6) : ∃ s l m, profile_Of.f p = some (s, pbits p, fpoly (pbits p), l, m, true) := by
 obtain ⟨h1, h2⟩ := h
 have : p = 1 ∨ p = 2 ∨ p = 3 ∨ p = 4 ∨ p = 5 ∨ p = 6 := by omega
 rcases this with rfl | rfl | rfl | rfl | rfl | rfl <;> exact ⟨_, _, _, rfl⟩
set_option maxRecDepth 100000 in
set_option maxHeartbeats 1600000 in
theorem profile_Field.calls (p : Int) (h : 1 ≤ p ∧ p ≤ 6) (W : World) :
  Calls Tryz.prog 36 #[.int .i64 p] W fun e w' => ∃ g : Nat, e = .returned (.pointer (some ⟨g, 0, none⟩)) ∧ Fresh w' g (pbits p) ∧ W.heap.size ≤ g ∧ Below W.heap.size W w' := by
 obtain ⟨s, l, m, h0⟩ := profile_told h
 have H0 := Aside0.mk h0
 have HN := Aside0.mk (gf_New.calls (pbits p) (pbits_or p))
 generalize pbits p = wb at H0 HN ⊢
 generalize fpoly wb = q at H0 HN
 clear h h0
 go_enter Tryz.func36, Tryz.ntmps36
 go_wp2_with (first | (go_at_call 73; refine (profile_Of.calls p _ _ _ _ _ _ _ H0.out).mono ?_; rintro e w9 ⟨rfl, hB⟩) | (go_at_call 74; refine (HN.out _).mono ?_; rintro e w8 ⟨g, rfl, q1, q2, q3⟩))
 go_ret
 have e1 := hB.size
 exact ⟨g, rfl, q1, by simp at q2; omega, (below_alloc hB _).trans (q3.mono (by simp; omega))⟩
end Go.Proofs.YtelcllhibpnneaaGreat.XCo
end
section
namespace Go.Proofs.YtelcllhibpnneaaGreat.XCo
open Go.RowKit Go.Proofs.YtelcllhibpnneaaGreatW.PrintWords Go.Proofs.YtelcllhibpnneaaGreatW.PrintLast Go.Proofs.YtelcllhibpnneaaGreatW.PrintMore
attribute [local go_sem] max2_int min2_int max_two min_two max_three min_three max_four min_four
set_option linter.unusedVariables false
set_option linter.unusedSimpArgs false
def cauchy_run.l0 : Nat → Int → List Int → Int → Int → Option (List Int)
 | 0, _, _, _, _ => none
 | k + 1, x0, x5, x10, x11 => if x11 < x10 then (if 0 ≤ x11 then (if x11 < (x5.length : Int) then (cauchy_run.l0 k x0 (x5.set (x11 : Int).toNat (wrap64 (x0 + x11))) x10 (wrap64 (x11 + 1))) else (none)) else (none)) else (some x5)
def cauchy_run.f (k : Nat) (a0 : Int) (a1 : Int) : Option (List Int) := if 0 ≤ a1 then (if (a1 : Int).toNat ≤ 35184372088832 then ((some (List.replicate (a1 : Int).toNat 0 : List Int)).bind fun y703 => (cauchy_run.l0 k a0 y703 (y703.length : Int) 0)) else (none)) else (none)
set_option maxHeartbeats 8000000 in
set_option maxRecDepth 100000 in
theorem cauchy_run.calls (k : Nat) (a0 : Int) (a1 : Int) (r : List Int) (w : World) (h : cauchy_run.f k a0 a1 = some r) :
  Calls Tryz.prog 108 #[.int .i64 a0, .int .i64 a1] w fun e w' => ∃ v0_ : Value, e = .returned (v0_) ∧ Kd.R (Kd.int .i64) 3 w' w.heap.size (fun _ => True) v0_ r ∧ Below w.heap.size w w' := by
 have HB := Aside0.mk (Below.refl w.heap.size w)
 have H : (if 0 ≤ a1 then (if (a1 : Int).toNat ≤ 35184372088832 then ((some (List.replicate (a1 : Int).toNat 0 : List Int)).bind fun y703 => (cauchy_run.l0 k a0 y703 (y703.length : Int) 0)) else (none)) else (none)) = some r := h
 clear h
 by_cases c3 : 0 ≤ a1
 ·rw [if_pos c3] at H
  have c3b0 := eq_true c3
  have c3b1 : decide (0 ≤ a1) = true := decide_eq_true c3
  clear c3
  by_cases c4 : (a1 : Int).toNat ≤ 35184372088832
  ·rw [if_pos c4] at H
   have c4b0 := eq_true c4
   have c4b1 : decide ((a1 : Int).toNat ≤ 35184372088832) = true := decide_eq_true c4
   clear c4
   obtain ⟨y703, hy703⟩ : ∃ y_ : List Int, y_ = (List.replicate (a1 : Int).toNat 0) := ⟨_, rfl⟩
   replace H : (cauchy_run.l0 k a0 y703 (y703.length : Int) 0) = some r := by first | (rw [hy703]; with_reducible exact H) | (have H2_ := (Option.bind_some _ _).symm.trans H; rw [hy703]; with_reducible exact H2_) | (have H2_ := (Option.bind_some _ _).symm.trans H; with_reducible exact H2_) | with_reducible exact H | (rw [hy703]; exact H) | exact H
   have Ny703 := Aside0.mk hy703
   clear hy703
   have H' := Aside0.mk H
   clear H
   go_enter Tryz.func108, Tryz.ntmps108
   go_wp2_with (first | ((with_reducible refine gate_dst (N := 8) rfl ?_); refine Kd.R_make (Kd.int .i64) _ 3 rfl (N := 8) rfl 66 _ _ rfl a1 rfl rfl Tryz.underlying66 (.int .i64 0) 8 info3 rfl (by decide) (by omega) 0 (ok := fun _ => True) (okp := fun _ => True) rfl (fun _ hk => hk) trivial (of_decide_eq_true (by first | (with_reducible assumption) | assumption)) (Nat.le_trans (Nat.mul_le_mul_right _ (of_decide_eq_true (by first | (with_reducible assumption) | assumption) : a1.toNat ≤ 35184372088832)) (by omega)) (Below.refl _ _) (Nat.le_refl _) ?_; intro v704 w5 ho6 hb hg_ hnew_; clear hg_ hnew_; (first | rw [← Ny703.out] at ho6 | (simp only [Int.reduceToNat] at ho6; rw [← Ny703.out] at ho6)); have n0_ := Aside0.mk (Kd.R_lower ho6 (below_size (by repeat (first | (with_reducible first | exact HB.out | apply below_alloc | apply pw_below_drewN | apply below_drew1) | exact HB.out)))); have n1_ := Aside0.mk (below_step (by repeat (first | (with_reducible first | exact HB.out | apply below_alloc | apply pw_below_drewN | apply below_drew1) | exact HB.out)) hb); clear HB; have HO705 := n0_; have HB := n1_; clear n0_ n1_; clear hb ho6; obtain ⟨Ao7, co7, eo7⟩ := Kd.R_slice HO705.out; subst eo7))
   go_loopg [11] k (fun kq v11 w' => ∃ (x5_1 : List Int) (x11_1 : Int), v11 = .int .i64 x11_1 ∧ Aside0 (cauchy_run.l0 kq a0 x5_1 (y703.length : Int) x11_1 = some r) ∧ Aside0 (kq ≤ k) ∧ Aside0 (Kd.R (Kd.int .i64) 3 w' w.heap.size (fun _ => True) (.slice Ao7 y703.length co7) x5_1) ∧ Aside0 (Below w.heap.size w w'))
   case atStart => exact ⟨(y703), (0), (by first | rfl | (simp; done) | (simp [*]; done)), H', ⟨Nat.le_refl _⟩, ⟨by (with_reducible repeat (first | apply Kd.R_alloc | apply Kd.R_drewN | apply Kd.R_drew)); exact HO705.out⟩, ⟨by repeat (first | (with_reducible first | exact HB.out | apply below_alloc | apply pw_below_drewN | apply below_drew1) | exact HB.out)⟩⟩
   case round =>
    clear H'
    try clear c1
    try clear p2
    try clear c3
    try clear c3b0
    try clear c3b1
    try clear c4
    try clear c4b0
    try clear c4b1
    obtain ⟨x5_1, x11_1, rfl, HA, HK1, HO_5, HB⟩ := hrel
    have hl5_1 := (Kd.R_reads' HO_5.out).1
    rw [hl5_1] at HO_5
    (try simp only [hl5_1])
    cases gk with
    | zero => exact absurd HA.out (by simp [cauchy_run.l0])
    | succ k1 =>
     have H := HA.out
     clear HA
     simp only [cauchy_run.l0] at H
     by_cases c8 : x11_1 < (y703.length : Int)
     ·rw [if_pos c8] at H
      have c8b0 : decide (x11_1 < (y703.length : Int)) = true := decide_eq_true c8
      clear c8
      by_cases c9 : 0 ≤ x11_1
      ·rw [if_pos c9] at H
       have c9b0 : decide (0 ≤ x11_1) = true := decide_eq_true c9
       clear c9
       by_cases c10 : x11_1 < (x5_1.length : Int)
       ·rw [if_pos c10] at H
        have c10b0 : decide (x11_1 < (x5_1.length : Int)) = true := decide_eq_true c10
        clear c10
        obtain ⟨y706, hy706⟩ : ∃ y_ : List Int, y_ = (x5_1.set (x11_1 : Int).toNat (wrap64 (a0 + x11_1))) := ⟨_, rfl⟩
        replace H : (cauchy_run.l0 k1 a0 y706 (y703.length : Int) (wrap64 (x11_1 + 1))) = some r := by first | (rw [hy706]; with_reducible exact H) | (have H2_ := (Option.bind_some _ _).symm.trans H; rw [hy706]; with_reducible exact H2_) | (have H2_ := (Option.bind_some _ _).symm.trans H; with_reducible exact H2_) | with_reducible exact H | (rw [hy706]; exact H) | exact H
        have Ny706 := Aside0.mk hy706
        clear hy706
        have H' := Aside0.mk H
        clear H
        have p11 : 0 ≤ (x11_1 : Int) := of_decide_eq_true (by first | (with_reducible assumption) | assumption)
        have q11 : (x11_1 : Int) < ((x5_1.length : Int) : Int) := of_decide_eq_true (by first | (with_reducible assumption) | assumption)
        obtain ⟨go11, co11, eo11, gb11, gl11, cl11, HG11⟩ := Kd.R_form HO_5.out (by omega)
        (first | cases eo11 | (injection eo11 with ea_ en_ ec_; (first | subst ea_ | (injection ea_ with ea_; subst ea_)); subst ec_; clear en_))
        have GB11 := Aside0.mk gb11
        have GG11 := Aside0.mk HG11
        clear gb11 gl11 HG11
        obtain ⟨hx11_0, hf11_0⟩ := Kd.R_celln 0 HO_5.out (x11_1 : Int) p11 q11
        replace p11 := eq_true p11
        replace q11 := eq_true q11
        have HP12 := Kd.R_putg HO_5.out (x11_1 : Int) (wrap64 (a0 + x11_1))
        go_wp2_with (first | ((with_reducible refine gate_store (t := 3) (p := 19) rfl ?_); refine store_event (t := 3) (p := 19) (v := ?vo_w13) (w1 := (wr.setCell ⟨go11, (x11_1 : Int).toNat, none⟩ (.int .i64 (wrap64 (a0 + x11_1))))) ?hg ?ho ?hn ?hr ?_; (case ho => rfl); (case hg => rfl); (case hn => rfl); (case hr => first | (go_simp; done) | (go_simp; rfl)); intro w13 hw; have hg : wr.grownBy w13 (some go11) := (by rw [hw]; exact HP12.2); have hp_ : Kd.R (Kd.int .i64) 3 w13 w.heap.size (fun _ => True) (.slice (some ⟨go11, 0, none⟩) x5_1.length co7) y706 := (by rw [hw, Ny706.out]; exact HP12.1); clear HP12; have n0_ := Aside0.mk (hp_); have n1_ := Aside0.mk ((by rw [hw]; exact below_set (HB.out) GB11.out : Below w.heap.size w w13)); clear HO_5; clear HB; have HO_5 := n0_; have HB := n1_; clear n0_ n1_; clear hg hw hp_))
        (try simp only [← hl5_1])
        go_roundg k1
        case measure => have := HK1.out; omega
        case rel => exact ⟨(y706), (wrap64 (x11_1 + 1)), (by first | rfl | (simp; done) | (simp [*]; done)), H', ⟨by have := HK1.out; omega⟩, ⟨by (try simp only [hl5_1]); (with_reducible repeat (first | apply Kd.R_alloc | apply Kd.R_drewN | apply Kd.R_drew)); exact HO_5.out⟩, ⟨by repeat (first | (with_reducible first | exact HB.out | apply below_alloc | apply pw_below_drewN | apply below_drew1) | exact HB.out)⟩⟩
       ·rw [if_neg c10] at H
        exact absurd H (by simp)
      ·rw [if_neg c9] at H
       exact absurd H (by simp)
     ·rw [if_neg c8] at H
      have c8b0 : decide (x11_1 < (y703.length : Int)) = false := decide_eq_false c8
      (first | (rw [hl5_1] at c8b0) | skip)
      clear c8
      obtain rfl := Option.some.inj H
      go_wp2
      go_ret
      exact ⟨_, by first | rfl | (simp [errW_none, errW_some] <;> rfl) | (simp [*, errW_none, errW_some] <;> rfl), by (with_reducible repeat (first | apply Kd.R_alloc | apply Kd.R_drewN | apply Kd.R_drew)); exact HO_5.out, by repeat (first | (with_reducible first | exact HB.out | apply below_alloc | apply pw_below_drewN | apply below_drew1) | exact HB.out)⟩
  ·rw [if_neg c4] at H
   exact absurd H (by simp)
 ·rw [if_neg c3] at H
  exact absurd H (by simp)
def matrix_within.f (a0 : Int) : Option (Bool) := if a0 ≥ 1 then (some (decide (a0 ≤ 20))) else (some false)
set_option maxHeartbeats 8000000 in
set_option maxRecDepth 100000 in
theorem matrix_within.calls (a0 : Int) (r : Bool) (w : World) (h : matrix_within.f a0 = some r) :
  Calls Tryz.prog 129 #[.int .i64 a0] w fun e w' => e = .returned (.bool r) ∧ Drawn0 w w' := by
 have H : (if a0 ≥ 1 then (some (decide (a0 ≤ 20))) else (some false)) = some r := h
 clear h
 by_cases c2 : a0 ≥ 1
 ·rw [if_pos c2] at H
  have c2b0 : decide (1 ≤ a0) = true := decide_eq_true c2
  clear c2
  obtain rfl := Option.some.inj H
  go_enter Tryz.func129, Tryz.ntmps129
  go_wp2
  go_ret
  exact ⟨by first | rfl | (simp; done) | (simp [*]; done), by repeat (first | exact Drawn0.refl _ | apply Drawn0.step)⟩
 ·rw [if_neg c2] at H
  have c2b0 : decide (1 ≤ a0) = false := decide_eq_false c2
  clear c2
  obtain rfl := Option.some.inj H
  go_enter Tryz.func129, Tryz.ntmps129
  go_wp2
  go_ret
  exact ⟨by first | rfl | (simp; done) | (simp [*]; done), by repeat (first | exact Drawn0.refl _ | apply Drawn0.step)⟩
def matrix_Identity.l0 : Nat → Int → List (List Int) → Int → Int → Option ((List (List Int)))
 | 0, _, _, _, _ => none
 | k + 1, x0, x3, x9, x10 => if x10 < x9 then (if 0 ≤ x0 then (if (x0 : Int).toNat ≤ 35184372088832 then ((some (List.replicate (x0 : Int).toNat 0 : List Int)).bind fun y708 => (if 0 ≤ x10 then (if x10 < (y708.length : Int) then (if x3.length < 5864062014805 then (matrix_Identity.l0 k x0 (x3 ++ [(y708.set (x10 : Int).toNat 1)]) x9 (wrap64 (x10 + 1))) else (none)) else (none)) else (none))) else (none)) else (none)) else (some x3)
def matrix_Identity.f (k : Nat) (a0 : Int) : Option ((List (List Int))) := (matrix_within.f a0).bind fun t707 => (if t707 = true then (matrix_Identity.l0 k a0 ([] : List (List Int)) a0 0) else (some ([] : List (List Int))))
set_option maxHeartbeats 8000000 in
set_option maxRecDepth 100000 in
theorem matrix_Identity.calls (k : Nat) (a0 : Int) (r : List (List Int)) (w : World) (h : matrix_Identity.f k a0 = some r) :
  Calls Tryz.prog 87 #[.int .i64 a0] w fun e w' => ∃ v0_ : Value, e = .returned (v0_) ∧ Kd.S (Kd.slice 3 (Kd.int .i64)) 66 w' w.heap.size (fun _ => True) v0_ r ∧ Below w.heap.size w w' := by
 have HB := Aside0.mk (Below.refl w.heap.size w)
 have H : ((matrix_within.f a0).bind fun t707 => (if t707 = true then (matrix_Identity.l0 k a0 ([] : List (List Int)) a0 0) else (some ([] : List (List Int))))) = some r := h
 clear h
 replace H := Option.bind_eq_some_iff.mp H
 obtain ⟨t707, A20, H⟩ := H
 replace H : (if t707 = true then (matrix_Identity.l0 k a0 ([] : List (List Int)) a0 0) else (some ([] : List (List Int)))) = some r := H
 have A2 := Aside0.mk A20
 clear A20
 by_cases c3 : t707 = true
 ·subst c3
  have H1 : (matrix_Identity.l0 k a0 ([] : List (List Int)) a0 0) = some r := by rw [if_pos rfl] at H; exact H
  clear H
  have H := H1
  clear H1
  have H' := Aside0.mk H
  clear H
  go_enter Tryz.func87, Tryz.ntmps87
  go_wp2_with (first | ((with_reducible refine gate_callee (f := 129) rfl ?_); refine goesL_ (some 7) rfl rfl Tryz.func129 (by kernel_rfl) rfl #[.int .i64 a0] rfl (by (try simp only [List.map_toArray, List.map_cons, List.map_nil]); first | done | rfl | (simp only [List.length_drop, List.length_take]; rfl)) ?_; (with_reducible refine (matrix_within.calls a0 true _ A2.out).mono ?_); rintro e w' ⟨rfl, ⟨nd, rfl⟩⟩; refine ⟨_, rfl, ?_⟩))
  go_loopg [3, 10] k (fun kq v3 v10 w' => ∃ (x3_1 : List (List Int)) (x10_1 : Int), v10 = .int .i64 x10_1 ∧ Aside0 (matrix_Identity.l0 kq a0 x3_1 a0 x10_1 = some r) ∧ Aside0 (kq ≤ k) ∧ Aside0 (Kd.S (Kd.slice 3 (Kd.int .i64)) 66 w' w.heap.size (fun _ => True) v3 x3_1) ∧ Aside0 (Below w.heap.size w w'))
  case atStart => exact ⟨(([] : List (List Int))), (0), (by first | rfl | (simp; done) | (simp [*]; done)), H', ⟨Nat.le_refl _⟩, ⟨by first | exact Kd.S_nil _ _ _ _ _ | exact Kd.N_nil _ _ _ _ _ | exact Kd.V_nil _ _ _ _ _ | exact Kd.Q_nil _ _ _ _ _ | exact Kd.R_nil _ _ _ _ _⟩, ⟨by repeat (first | (with_reducible first | exact HB.out | apply below_alloc | apply pw_below_drewN | apply below_drew1) | exact HB.out)⟩⟩
  case round =>
   clear H'
   try clear c1
   try clear p2
   try clear c3
   obtain ⟨x3_1, x10_1, rfl, HA, HK1, HO_3, HB⟩ := hrel
   cases gk with
   | zero => exact absurd HA.out (by simp [matrix_Identity.l0])
   | succ k1 =>
    have H := HA.out
    clear HA
    simp only [matrix_Identity.l0] at H
    by_cases c4 : x10_1 < a0
    ·rw [if_pos c4] at H
     have c4b0 : decide (x10_1 < a0) = true := decide_eq_true c4
     clear c4
     by_cases c5 : 0 ≤ a0
     ·rw [if_pos c5] at H
      have c5b0 := eq_true c5
      have c5b1 : decide (0 ≤ a0) = true := decide_eq_true c5
      clear c5
      by_cases c6 : (a0 : Int).toNat ≤ 35184372088832
      ·rw [if_pos c6] at H
       have c6b0 := eq_true c6
       have c6b1 : decide ((a0 : Int).toNat ≤ 35184372088832) = true := decide_eq_true c6
       clear c6
       obtain ⟨y708, hy708⟩ : ∃ y_ : List Int, y_ = (List.replicate (a0 : Int).toNat 0) := ⟨_, rfl⟩
       replace H : (if 0 ≤ x10_1 then (if x10_1 < (y708.length : Int) then (if x3_1.length < 5864062014805 then (matrix_Identity.l0 k1 a0 (x3_1 ++ [(y708.set (x10_1 : Int).toNat 1)]) a0 (wrap64 (x10_1 + 1))) else (none)) else (none)) else (none)) = some r := by first | (rw [hy708]; with_reducible exact H) | (have H2_ := (Option.bind_some _ _).symm.trans H; rw [hy708]; with_reducible exact H2_) | (have H2_ := (Option.bind_some _ _).symm.trans H; with_reducible exact H2_) | with_reducible exact H | (rw [hy708]; exact H) | exact H
       have Ny708 := Aside0.mk hy708
       clear hy708
       by_cases c7 : 0 ≤ x10_1
       ·rw [if_pos c7] at H
        have c7b0 : decide (0 ≤ x10_1) = true := decide_eq_true c7
        clear c7
        by_cases c8 : x10_1 < (y708.length : Int)
        ·rw [if_pos c8] at H
         have c8b0 : decide (x10_1 < (y708.length : Int)) = true := decide_eq_true c8
         clear c8
         obtain ⟨y711, hy711⟩ : ∃ y_ : List Int, y_ = (y708.set (x10_1 : Int).toNat 1) := ⟨_, rfl⟩
         replace H : (if x3_1.length < 5864062014805 then (matrix_Identity.l0 k1 a0 (x3_1 ++ [y711]) a0 (wrap64 (x10_1 + 1))) else (none)) = some r := by first | (rw [hy711]; with_reducible exact H) | (have H2_ := (Option.bind_some _ _).symm.trans H; rw [hy711]; with_reducible exact H2_) | (have H2_ := (Option.bind_some _ _).symm.trans H; with_reducible exact H2_) | with_reducible exact H | (rw [hy711]; exact H) | exact H
         have Ny711 := Aside0.mk hy711
         clear hy711
         by_cases c10 : x3_1.length < 5864062014805
         ·rw [if_pos c10] at H
          have LMc10 := Aside0.mk c10
          clear c10
          obtain ⟨y712, hy712⟩ : ∃ y_ : List (List Int), y_ = (x3_1 ++ [y711]) := ⟨_, rfl⟩
          replace H : (matrix_Identity.l0 k1 a0 y712 a0 (wrap64 (x10_1 + 1))) = some r := by first | (rw [hy712]; with_reducible exact H) | (have H2_ := (Option.bind_some _ _).symm.trans H; rw [hy712]; with_reducible exact H2_) | (have H2_ := (Option.bind_some _ _).symm.trans H; with_reducible exact H2_) | with_reducible exact H | (rw [hy712]; exact H) | exact H
          have Ny712 := Aside0.mk hy712
          clear hy712
          have H' := Aside0.mk H
          clear H
          go_wp2_with (first | ((with_reducible refine gate_dst (N := 14) rfl ?_); refine Kd.R_make (Kd.int .i64) _ 3 rfl (N := 14) rfl 66 _ _ rfl a0 rfl rfl Tryz.underlying66 (.int .i64 0) 8 info3 rfl (by decide) (by omega) 0 (ok := fun _ => True) (okp := fun _ => True) rfl (fun _ hk => hk) trivial (of_decide_eq_true (by first | (with_reducible assumption) | assumption)) (Nat.le_trans (Nat.mul_le_mul_right _ (of_decide_eq_true (by first | (with_reducible assumption) | assumption) : a0.toNat ≤ 35184372088832)) (by omega)) (Below.refl _ _) (Nat.le_refl _) ?_; intro v709 w11 ho12 hb hg_ hnew_; clear hg_ hnew_; (first | rw [← Ny708.out] at ho12 | (simp only [Int.reduceToNat] at ho12; rw [← Ny708.out] at ho12)); have n0_ := Aside0.mk (Kd.S_elder' (by (with_reducible repeat (first | apply Kd.S_alloc | apply Kd.S_drewN | apply Kd.S_drew)); exact HO_3.out) (Kd.R_base ho12) hb); have n1_ := Aside0.mk (Kd.R_lower ho12 (below_size (by repeat (first | (with_reducible first | exact HB.out | apply below_alloc | apply pw_below_drewN | apply below_drew1) | exact HB.out)))); have n2_ := Aside0.mk (below_step (by repeat (first | (with_reducible first | exact HB.out | apply below_alloc | apply pw_below_drewN | apply below_drew1) | exact HB.out)) hb); clear HO_3; clear HB; have HO_3 := n0_; have HO710 := n1_; have HB := n2_; clear n0_ n1_ n2_; clear hb ho12; have p9 : 0 ≤ (x10_1 : Int) := of_decide_eq_true (by first | (with_reducible assumption) | assumption); have q9 : (x10_1 : Int) < ((y708.length : Int) : Int) := of_decide_eq_true (by first | (with_reducible assumption) | assumption); obtain ⟨go9, co9, eo9, gb9, gl9, cl9, HG9⟩ := Kd.R_form HO710.out (by omega); (first | cases eo9 | (injection eo9 with ea_ en_ ec_; (first | subst ea_ | (injection ea_ with ea_; subst ea_)); subst ec_; clear en_)); have GB9 := Aside0.mk gb9; have GG9 := Aside0.mk HG9; clear gb9 gl9 HG9; obtain ⟨hx9_0, hf9_0⟩ := Kd.R_celln 0 HO710.out (x10_1 : Int) p9 q9; replace p9 := eq_true p9; replace q9 := eq_true q9; obtain ⟨hy13_, hz13_⟩ := Kd.R_celln 0 HO710.out (x10_1 : Int) (of_decide_eq_true (by first | (with_reducible assumption) | assumption)) (of_decide_eq_true (by first | (with_reducible assumption) | assumption)); have HP13 := Kd.R_putg HO710.out (x10_1 : Int) 1) | ((with_reducible refine gate_store (t := 3) (p := 17) rfl ?_); refine store_event (t := 3) (p := 17) (v := ?vo_w14) (w1 := (w11.setCell ⟨go9, (x10_1 : Int).toNat, none⟩ (.int .i64 1))) ?hg ?ho ?hn ?hr ?_; (case ho => rfl); (case hg => rfl); (case hn => rfl); (case hr => first | (go_simp; done) | (go_simp; rfl)); intro w14 hw; have hg : w11.grownBy w14 (some go9) := (by rw [hw]; exact HP13.2); have hp_ : Kd.R (Kd.int .i64) 3 w14 w.heap.size (fun _ => True) (.slice (some ⟨go9, 0, none⟩) y708.length co9) y711 := (by rw [hw, Ny711.out]; exact HP13.1); clear HP13; have n0_ := Aside0.mk (Kd.S_after (v := (.slice (some ⟨go9, 0, none⟩) y708.length co9)) (v1 := (.slice (some ⟨go9, 0, none⟩) y708.length co9)) (ok := (fun _ => True)) (by (with_reducible repeat (first | apply Kd.S_alloc | apply Kd.S_drewN | apply Kd.S_drew)); exact HO_3.out) hg (.inl rfl)); have n1_ := Aside0.mk (hp_); have n2_ := Aside0.mk ((by rw [hw]; exact below_set (HB.out) GB9.out : Below w.heap.size w w14)); clear HO_3; clear HO710; clear HB; have HO_3 := n0_; have HO710 := n1_; have HB := n2_; clear n0_ n1_ n2_; clear hg hw hp_) | ((with_reducible refine gate_builtin (b := .append) (xs := #[.tmp 18, .tmp 20]) rfl ?_); at_builtin; refine Kd.S_append (Kd.slice 3 (Kd.int .i64)) (w0 := w) w.heap.size rfl (.tmp 18) (.tmp 20) 61 66 (.slice none 0 0) 24 rfl Tryz.underlying61 info66 rfl (by decide) (by omega) u3 x3_1 y711 [.slice (some ⟨go9, 0, none⟩) y708.length co9] (fun _ => True) (fun k_ => some k_ = (.slice (some ⟨go9, 0, none⟩) y708.length co9 : Value).ownBlock) rfl rfl ?aP (fun k_ hk_ => ((Kd.R_mono (ok' := fun k_ => ((fun _ => True)) k_ ∧ some k_ ≠ (u3 : Value).ownBlock) (Kd.R_apart' (HO710.out) (Kd.S_typed HO_3.out) (by decide)) (fun k_ hk => ⟨trivial, hk.2⟩))).1 k_ hk_.symm) ?aF ?aO ?aB ?aS ?aL ?_; (case aP => exact Kd.M_row (Kd.R_mono (Kd.R_tight rfl (Kd.R_mono (ok' := fun k_ => ((fun _ => True)) k_ ∧ some k_ ≠ (u3 : Value).ownBlock) (Kd.R_apart' (HO710.out) (Kd.S_typed HO_3.out) (by decide)) (fun k_ hk => ⟨trivial, hk.2⟩))) (fun _ h_ => h_))); (case aB => exact (by repeat (first | (with_reducible first | exact HB.out | apply below_alloc | apply pw_below_drewN | apply below_drew1) | exact HB.out))); (case aF => exact (fun _ _ => trivial)); (case aO => exact (by (with_reducible repeat (first | apply Kd.S_alloc | apply Kd.S_drewN | apply Kd.S_drew)); exact Kd.S_mono HO_3.out (fun k_ hk => ⟨trivial, fun e_ => hk.2 e_⟩))); (case aS => exact (below_size (by repeat (first | (with_reducible first | exact HB.out | apply below_alloc | apply pw_below_drewN | apply below_drew1) | exact HB.out)))); (case aL => have := LMc10.out; omega); intro v713 w15 ho hb hg hat; rw [← Ny712.out] at ho; have n0_ := Aside0.mk (hb); have n1_ := Aside0.mk (ho); clear HB; clear HO_3; clear HO710; have HB := n0_; have HO714 := n1_; clear n0_ n1_; clear ho hb hg hat))
          go_roundg k1
          case measure => have := HK1.out; omega
          case rel => exact ⟨(y712), (wrap64 (x10_1 + 1)), (by first | rfl | (simp; done) | (simp [*]; done)), H', ⟨by have := HK1.out; omega⟩, ⟨by (with_reducible repeat (first | apply Kd.S_alloc | apply Kd.S_drewN | apply Kd.S_drew)); exact HO714.out⟩, ⟨by repeat (first | (with_reducible first | exact HB.out | apply below_alloc | apply pw_below_drewN | apply below_drew1) | exact HB.out)⟩⟩
         ·rw [if_neg c10] at H
          exact absurd H (by simp)
        ·rw [if_neg c8] at H
         exact absurd H (by simp)
       ·rw [if_neg c7] at H
        exact absurd H (by simp)
      ·rw [if_neg c6] at H
       exact absurd H (by simp)
     ·rw [if_neg c5] at H
      exact absurd H (by simp)
    ·rw [if_neg c4] at H
     have c4b0 : decide (x10_1 < a0) = false := decide_eq_false c4
     clear c4
     obtain rfl := Option.some.inj H
     go_wp2
     go_ret
     exact ⟨_, by first | rfl | (simp [errW_none, errW_some] <;> rfl) | (simp [*, errW_none, errW_some] <;> rfl), by (with_reducible repeat (first | apply Kd.S_alloc | apply Kd.S_drewN | apply Kd.S_drew)); exact HO_3.out, by repeat (first | (with_reducible first | exact HB.out | apply below_alloc | apply pw_below_drewN | apply below_drew1) | exact HB.out)⟩
 ·replace c3 := Bool.eq_false_iff.mpr c3
  subst c3
  have H1 : (some ([] : List (List Int))) = some r := by rw [if_neg (show ¬ (false = true) by decide)] at H; exact H
  clear H
  have H := H1
  clear H1
  obtain rfl := Option.some.inj H
  go_enter Tryz.func87, Tryz.ntmps87
  go_wp2_with (first | ((with_reducible refine gate_callee (f := 129) rfl ?_); refine goesL_ (some 7) rfl rfl Tryz.func129 (by kernel_rfl) rfl #[.int .i64 a0] rfl (by (try simp only [List.map_toArray, List.map_cons, List.map_nil]); first | done | rfl | (simp only [List.length_drop, List.length_take]; rfl)) ?_; (with_reducible refine (matrix_within.calls a0 false _ A2.out).mono ?_); rintro e w' ⟨rfl, ⟨nd, rfl⟩⟩; refine ⟨_, rfl, ?_⟩))
  go_ret
  exact ⟨_, by first | rfl | (simp [errW_none, errW_some] <;> rfl) | (simp [*, errW_none, errW_some] <;> rfl), by first | exact Kd.S_nil _ _ _ _ _ | exact Kd.N_nil _ _ _ _ _ | exact Kd.V_nil _ _ _ _ _ | exact Kd.Q_nil _ _ _ _ _ | exact Kd.R_nil _ _ _ _ _, by repeat (first | (with_reducible first | exact HB.out | apply below_alloc | apply pw_below_drewN | apply below_drew1) | exact HB.out)⟩
end Go.Proofs.YtelcllhibpnneaaGreat.XCo
end
section
namespace Go.Proofs.YtelcllhibpnneaaGreat.XCo
open Go.RowKit Go.Proofs.YtelcllhibpnneaaGreatW.PrintWords Go.Proofs.YtelcllhibpnneaaGreatW.PrintLast Go.Proofs.YtelcllhibpnneaaGreatW.PrintMore
attribute [local go_sem] max2_int min2_int max_two min_two max_three min_three max_four min_four
set_option linter.unusedVariables false
set_option linter.unusedSimpArgs false
def idxF {α : Type} (p : α → Bool) : List α → Int
 | [] => -1
 | x :: l => if p x then 0 else if idxF p l < 0 then -1 else idxF p l + 1
theorem idxF_ge {α : Type} (p : α → Bool) : ∀ l : List α, -1 ≤ idxF p l ∧ idxF p l < l.length ∧ (idxF p l < 0 ↔ l.any p = false)
 | [] => by simp [idxF]
 | x :: l => by
  have h := idxF_ge p l
  unfold idxF
  cases hx : p x with
  | true => simp [hx]
  | false =>
   simp only [Bool.false_eq_true, if_false, List.any_cons, hx, Bool.false_or, List.length_cons]
   refine ⟨?_, ?_, ?_⟩
   ·split <;> omega
   ·split <;> omega
   ·rw [← h.2.2]; split <;> omega
theorem idxF_any {α : Type} (p : α → Bool) (l : List α) : decide (0 ≤ idxF p l) = l.any p := by
  have h := idxF_ge p l
  cases ha : l.any p with
  | true => have : ¬ idxF p l < 0 := fun hh => by rw [h.2.2.1 hh] at ha; cases ha
            exact decide_eq_true (by omega)
  | false => exact decide_eq_false (by have := h.2.2.2 ha; omega)
theorem idxF_at {α : Type} (p : α → Bool) : ∀ (l : List α) (k : Nat) (x : α), l[k]? = some x → (l.take k).any p = false → p x = true → idxF p l = k
 | [], k, x, h, _, _ => by simp at h
 | y :: l, 0, x, h, _, hp => by
  obtain rfl : y = x := by simpa using h
  simp [idxF, hp]
 | y :: l, k + 1, x, h, ha, hp => by
  simp only [List.take_succ_cons, List.any_cons, Bool.or_eq_false_iff] at ha
  have := idxF_at p l k x (by simpa using h) ha.2 hp
  unfold idxF
  rw [ha.1, this]
  simp only [Bool.false_eq_true, if_false]
  rw [if_neg (by omega)]
  omega
theorem idxF_none {α : Type} (p : α → Bool) (l : List α) (h : l.any p = false) : idxF p l = -1 := by
 have h1 := idxF_ge p l
 have := h1.2.2.2 h
 omega
theorem any_take_snoc {α : Type} (p : α → Bool) (l : List α) (k : Nat) (x : α) (h : l[k]? = some x) : (l.take (k + 1)).any p = ((l.take k).any p || p x) := by
 rw [List.take_add_one, h]; simp
theorem row_at {α : Type} {d : Kd α} {e : Nat} {W : World} {A : Option Addr} {rows : List (List α)} (h : Kd.C (Kd.slice e d) W A rows.length rows) (k : Nat) (x : List α) (hx : rows[k]? = some x) :
  ∃ ad A' c', A = some ad ∧ W.cell? (ad.add k) = some (.slice A' x.length c') ∧ x.length ≤ c' ∧ Kd.C d W A' x.length x := by
 have hlt := (List.getElem?_eq_some_iff.1 hx).1
 obtain ⟨ad, c, hA, hl, hK, hc⟩ := Kd.C_get h ([] : List α) (k : Int) (by omega) (by omega)
 rw [Int.toNat_natCast, List.getD_eq_getElem?_getD, hx] at hK
 obtain ⟨A', c', rfl, hle, hC⟩ := hK
 refine ⟨ad, A', c', hA, ?_, hle, hC⟩
 have := hc 0 _ rfl
 rwa [show (k : Int).toNat * (Kd.slice e d).sz + 0 = k from by show (k : Int).toNat * 1 + 0 = k; omega] at this
theorem int_at {k : IntKind} {W : World} {A : Option Addr} {l : List Int} (h : Kd.C (Kd.int k) W A l.length l) (j : Nat) (x : Int) (hx : l[j]? = some x) : ∃ ad, A = some ad ∧ W.cell? (ad.add j) = some (.int k x) := by
 have hlt := (List.getElem?_eq_some_iff.1 hx).1
 obtain ⟨ad, c, hA, hl, hK, hc⟩ := Kd.C_get h 0 (j : Int) (by omega) (by omega)
 rw [Int.toNat_natCast, List.getD_eq_getElem?_getD, hx] at hK
 refine ⟨ad, hA, ?_⟩
 have hK' : c = [.int k x] := hK
 subst hK'
 have := hc 0 _ rfl
 rwa [show (j : Int).toNat * (Kd.int k).sz + 0 = j from by show (j : Int).toNat * 1 + 0 = j; omega] at this
set_option maxRecDepth 100000 in
set_option maxHeartbeats 1600000 in
theorem idx_May11.calls (p : Int → Bool) (q0 : Value) (A : Option Addr) (c : Nat) (l : List Int) (W : World) (hr : Kd.C (Kd.int .i64) W A l.length l) (hl : l.length ≤ 1000000)
  (hp : ∀ (m : Nat) (x : Int), x ∈ l → Calls Tryz.prog 162 #[.int .i64 x, q0] (W.drewN m) fun e w' => e = .returned (.bool (p x)) ∧ Drawn0 (W.drewN m) w') :
  Calls Tryz.prog 178 #[.slice A l.length c, .func (.func 162) #[] #[q0]] W fun e w' => e = .returned (.int .i64 (idxF p l)) ∧ Drawn0 W w' := by
 have HR := Aside0.mk hr
 have HP := Aside0.mk hp
 clear hr hp
 go_enter Tryz.func178, Tryz.ntmps178
 go_wp2
 go_loopw [8] (fun i wr => ∃ k m : Nat, k ≤ l.length ∧ i = .int .i64 k ∧ wr = W.drewN m ∧ Aside0 ((l.take k).any p = false)) (fun i _ => l.length - (intOf i).toNat)
 case atStart => exact ⟨0, 0, Nat.zero_le _, rfl, rfl, ⟨rfl⟩⟩
 case round =>
  obtain ⟨k, m, hk, rfl, rfl, HA⟩ := hrel
  by_cases hlt : k < l.length
  ·obtain ⟨x, hx⟩ : ∃ x, l[k]? = some x := ⟨_, List.getElem?_eq_getElem hlt⟩
   obtain ⟨ad, rfl, hcell⟩ := int_at HR.out k x hx
   have HX := Aside0.mk hx
   clear hx
   cases hpx : p x with
   | true =>
    have HI := Aside0.mk (idxF_at p l k x HX.out HA.out hpx)
    have HPX := Aside0.mk hpx
    clear hpx
    go_wp2_with (first | (go_at_call 162; refine (HP.out _ x (List.mem_of_getElem? HX.out)).mono ?_; rintro e w9 ⟨rfl, m9, rfl⟩; rw [HPX.out]))
    go_ret
    refine ⟨?_, by repeat (first | exact Drawn0.refl _ | apply Drawn0.step)⟩
    rw [HI.out]; rfl
   | false =>
    have HA1 := Aside0.mk (show (l.take (k + 1)).any p = false by rw [any_take_snoc p l k x HX.out, HA.out, hpx]; rfl)
    have HPX := Aside0.mk hpx
    clear hpx
    go_wp2_with (first | (go_at_call 162; refine (HP.out _ x (List.mem_of_getElem? HX.out)).mono ?_; rintro e w9 ⟨rfl, m9, rfl⟩; rw [HPX.out]))
    go_roundw
    case rel => exact ⟨k + 1, m + m9, by omega, by go_num, by simp [World.drewN_drewN], HA1⟩
    case measure => simp [intOf]; omega
  ·obtain rfl : k = l.length := by omega
   have HI := Aside0.mk (idxF_none p l (by have := HA.out; rwa [List.take_length] at this))
   go_wp2
   go_ret
   refine ⟨?_, by repeat (first | exact Drawn0.refl _ | apply Drawn0.step)⟩
   rw [HI.out]; rfl
set_option maxRecDepth 100000 in
set_option maxHeartbeats 1600000 in
theorem con_May11.calls (p : Int → Bool) (q0 : Value) (A : Option Addr) (c : Nat) (l : List Int) (W : World) (hr : Kd.C (Kd.int .i64) W A l.length l) (hl : l.length ≤ 1000000)
  (hp : ∀ (m : Nat) (x : Int), x ∈ l → Calls Tryz.prog 162 #[.int .i64 x, q0] (W.drewN m) fun e w' => e = .returned (.bool (p x)) ∧ Drawn0 (W.drewN m) w') :
  Calls Tryz.prog 161 #[.slice A l.length c, .func (.func 162) #[] #[q0]] W fun e w' => e = .returned (.bool (l.any p)) ∧ Drawn0 W w' := by
 have HC := Aside0.mk (idx_May11.calls p q0 A c l W hr hl hp)
 have HA := Aside0.mk (idxF_any p l)
 clear hr hp
 obtain ⟨z, hz⟩ : ∃ z, idxF p l = z := ⟨_, rfl⟩
 rw [hz] at HC HA
 rw [← HA.out]
 clear hz HA
 go_enter Tryz.func161, Tryz.ntmps161
 go_wp2_with (first | (go_at_call 178; refine HC.out.mono ?_; rintro e w9 ⟨rfl, m9, rfl⟩))
 go_ret
 exact ⟨rfl, by repeat (first | exact Drawn0.refl _ | apply Drawn0.step)⟩
set_option maxRecDepth 100000 in
set_option maxHeartbeats 1600000 in
theorem idx_May1.calls (p : List Int → Bool) (q0 q1 : Value) (A : Option Addr) (c : Nat) (l : List (List Int)) (W : World) (hr : Kd.C (Kd.slice 3 (Kd.int .i64)) W A l.length l) (hl : l.length ≤ 1000000)
  (hp : ∀ (m : Nat) (x : List Int) (A' : Option Addr) (c' : Nat), x ∈ l → x.length ≤ c' → Kd.C (Kd.int .i64) W A' x.length x → Calls Tryz.prog 160 #[.slice A' x.length c', q0, q1] (W.drewN m) fun e w' => e = .returned (.bool (p x)) ∧ Drawn0 (W.drewN m) w') :
  Calls Tryz.prog 164 #[.slice A l.length c, .func (.func 160) #[] #[q0, q1]] W fun e w' => e = .returned (.int .i64 (idxF p l)) ∧ Drawn0 W w' := by
 have HR := Aside0.mk hr
 have HP := Aside0.mk hp
 clear hr hp
 go_enter Tryz.func164, Tryz.ntmps164
 go_wp2
 go_loopw [8] (fun i wr => ∃ k m : Nat, k ≤ l.length ∧ i = .int .i64 k ∧ wr = W.drewN m ∧ Aside0 ((l.take k).any p = false)) (fun i _ => l.length - (intOf i).toNat)
 case atStart => exact ⟨0, 0, Nat.zero_le _, rfl, rfl, ⟨rfl⟩⟩
 case round =>
  obtain ⟨k, m, hk, rfl, rfl, HA⟩ := hrel
  by_cases hlt : k < l.length
  ·obtain ⟨x, hx⟩ : ∃ x, l[k]? = some x := ⟨_, List.getElem?_eq_getElem hlt⟩
   obtain ⟨ad, A', c', rfl, hcell, hle, hC⟩ := row_at HR.out k x hx
   have HC := Aside0.mk hC
   have HLE := Aside0.mk hle
   clear hC hle
   have HX := Aside0.mk hx
   clear hx
   cases hpx : p x with
   | true =>
    have HI := Aside0.mk (idxF_at p l k x HX.out HA.out hpx)
    have HPX := Aside0.mk hpx
    clear hpx
    go_wp2_with (first | (go_at_call 160; refine (HP.out _ x A' c' (List.mem_of_getElem? HX.out) HLE.out HC.out).mono ?_; rintro e w9 ⟨rfl, m9, rfl⟩; rw [HPX.out]))
    go_ret
    refine ⟨?_, by repeat (first | exact Drawn0.refl _ | apply Drawn0.step)⟩
    rw [HI.out]; rfl
   | false =>
    have HA1 := Aside0.mk (show (l.take (k + 1)).any p = false by rw [any_take_snoc p l k x HX.out, HA.out, hpx]; rfl)
    have HPX := Aside0.mk hpx
    clear hpx
    go_wp2_with (first | (go_at_call 160; refine (HP.out _ x A' c' (List.mem_of_getElem? HX.out) HLE.out HC.out).mono ?_; rintro e w9 ⟨rfl, m9, rfl⟩; rw [HPX.out]))
    go_roundw
    case rel => exact ⟨k + 1, m + m9, by omega, by go_num, by simp [World.drewN_drewN], HA1⟩
    case measure => simp [intOf]; omega
  ·obtain rfl : k = l.length := by omega
   have HI := Aside0.mk (idxF_none p l (by have := HA.out; rwa [List.take_length] at this))
   go_wp2
   go_ret
   refine ⟨?_, by repeat (first | exact Drawn0.refl _ | apply Drawn0.step)⟩
   rw [HI.out]; rfl
set_option maxRecDepth 100000 in
set_option maxHeartbeats 1600000 in
theorem con_May1.calls (p : List Int → Bool) (q0 q1 : Value) (A : Option Addr) (c : Nat) (l : List (List Int)) (W : World) (hr : Kd.C (Kd.slice 3 (Kd.int .i64)) W A l.length l) (hl : l.length ≤ 1000000)
  (hp : ∀ (m : Nat) (x : List Int) (A' : Option Addr) (c' : Nat), x ∈ l → x.length ≤ c' → Kd.C (Kd.int .i64) W A' x.length x → Calls Tryz.prog 160 #[.slice A' x.length c', q0, q1] (W.drewN m) fun e w' => e = .returned (.bool (p x)) ∧ Drawn0 (W.drewN m) w') :
  Calls Tryz.prog 159 #[.slice A l.length c, .func (.func 160) #[] #[q0, q1]] W fun e w' => e = .returned (.bool (l.any p)) ∧ Drawn0 W w' := by
 have HC := Aside0.mk (idx_May1.calls p q0 q1 A c l W hr hl hp)
 have HA := Aside0.mk (idxF_any p l)
 clear hr hp
 obtain ⟨z, hz⟩ : ∃ z, idxF p l = z := ⟨_, rfl⟩
 rw [hz] at HC HA
 rw [← HA.out]
 clear hz HA
 go_enter Tryz.func159, Tryz.ntmps159
 go_wp2_with (first | (go_at_call 164; refine HC.out.mono ?_; rintro e w9 ⟨rfl, m9, rfl⟩))
 go_ret
 exact ⟨rfl, by repeat (first | exact Drawn0.refl _ | apply Drawn0.step)⟩
set_option maxRecDepth 100000 in
set_option maxHeartbeats 1600000 in
theorem idx_reduce2.calls (p : List Int → Bool) (q0 : Value) (A : Option Addr) (c : Nat) (l : List (List Int)) (W : World) (hr : Kd.C (Kd.slice 3 (Kd.int .i64)) W A l.length l) (hl : l.length ≤ 1000000)
  (hp : ∀ (m : Nat) (x : List Int) (A' : Option Addr) (c' : Nat), x ∈ l → x.length ≤ c' → Kd.C (Kd.int .i64) W A' x.length x → Calls Tryz.prog 165 #[.slice A' x.length c', q0] (W.drewN m) fun e w' => e = .returned (.bool (p x)) ∧ Drawn0 (W.drewN m) w') :
  Calls Tryz.prog 164 #[.slice A l.length c, .func (.func 165) #[] #[q0]] W fun e w' => e = .returned (.int .i64 (idxF p l)) ∧ Drawn0 W w' := by
 have HR := Aside0.mk hr
 have HP := Aside0.mk hp
 clear hr hp
 go_enter Tryz.func164, Tryz.ntmps164
 go_wp2
 go_loopw [8] (fun i wr => ∃ k m : Nat, k ≤ l.length ∧ i = .int .i64 k ∧ wr = W.drewN m ∧ Aside0 ((l.take k).any p = false)) (fun i _ => l.length - (intOf i).toNat)
 case atStart => exact ⟨0, 0, Nat.zero_le _, rfl, rfl, ⟨rfl⟩⟩
 case round =>
  obtain ⟨k, m, hk, rfl, rfl, HA⟩ := hrel
  by_cases hlt : k < l.length
  ·obtain ⟨x, hx⟩ : ∃ x, l[k]? = some x := ⟨_, List.getElem?_eq_getElem hlt⟩
   obtain ⟨ad, A', c', rfl, hcell, hle, hC⟩ := row_at HR.out k x hx
   have HC := Aside0.mk hC
   have HLE := Aside0.mk hle
   clear hC hle
   have HX := Aside0.mk hx
   clear hx
   cases hpx : p x with
   | true =>
    have HI := Aside0.mk (idxF_at p l k x HX.out HA.out hpx)
    have HPX := Aside0.mk hpx
    clear hpx
    go_wp2_with (first | (go_at_call 165; refine (HP.out _ x A' c' (List.mem_of_getElem? HX.out) HLE.out HC.out).mono ?_; rintro e w9 ⟨rfl, m9, rfl⟩; rw [HPX.out]))
    go_ret
    refine ⟨?_, by repeat (first | exact Drawn0.refl _ | apply Drawn0.step)⟩
    rw [HI.out]; rfl
   | false =>
    have HA1 := Aside0.mk (show (l.take (k + 1)).any p = false by rw [any_take_snoc p l k x HX.out, HA.out, hpx]; rfl)
    have HPX := Aside0.mk hpx
    clear hpx
    go_wp2_with (first | (go_at_call 165; refine (HP.out _ x A' c' (List.mem_of_getElem? HX.out) HLE.out HC.out).mono ?_; rintro e w9 ⟨rfl, m9, rfl⟩; rw [HPX.out]))
    go_roundw
    case rel => exact ⟨k + 1, m + m9, by omega, by go_num, by simp [World.drewN_drewN], HA1⟩
    case measure => simp [intOf]; omega
  ·obtain rfl : k = l.length := by omega
   have HI := Aside0.mk (idxF_none p l (by have := HA.out; rwa [List.take_length] at this))
   go_wp2
   go_ret
   refine ⟨?_, by repeat (first | exact Drawn0.refl _ | apply Drawn0.step)⟩
   rw [HI.out]; rfl
end Go.Proofs.YtelcllhibpnneaaGreat.XCo
end
