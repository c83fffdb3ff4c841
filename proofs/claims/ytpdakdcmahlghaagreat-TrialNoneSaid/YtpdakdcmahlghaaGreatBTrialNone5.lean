-- Joined by this work's own program (wip/tools/bundle.py) out of its texts: what this claim uses of them. Not trusted: Lean checks it.
import Derived.WalkSpells
import Derived.Deep.DeepMust
import Derived.RangeFuncNested
import Derived.RangeFuncBound
import Derived.RangeFuncCalls
import Derived.RangeFuncLeaves
import Derived.Test.YtpdakdcmahlghaaGreatBTrialNone4
section
namespace Go.Proofs.YtpdakdcmahlghaaGreat.XCo
open Go.RowKit Go.Proofs.YtpdakdcmahlghaaGreatW.PrintWords Go.Proofs.YtpdakdcmahlghaaGreatW.PrintLast Go.Proofs.YtpdakdcmahlghaaGreatW.PrintMore
attribute [local go_sem] aDz aEz aLz aMz auz avz aFz aGz
set_option linter.unusedVariables false
set_option linter.unusedSimpArgs false
mutual
def atz.l0 : Nat → Int → List Int → Int → Option (List Int)
 | 0, _, _, _ => none
 | k + 1, x0, x3, x4 => if x0 > 1 then (if x4 = 0 then (none) else (if (Int.tmod x0 x4) = 0 then (if x3.length < 17592186044416 then (atz.j1 k x0 (x3 ++ [x4]) x4) else (none)) else (atz.j1 k x0 x3 x4))) else (some x3)
def atz.j1 : Nat → Int → List Int → Int → Option (List Int)
 | 0, _, _, _ => none
 | k + 1, x0, x3, x4 => atz.l1 k x0 x3 x4
def atz.l1 : Nat → Int → List Int → Int → Option (List Int)
 | 0, _, _, _ => none
 | k + 1, x0, x3, x4 => if x4 = 0 then (none) else (if (Int.tmod x0 x4) = 0 then (atz.l1 k (wrap64 (Int.tdiv x0 x4)) x3 x4) else (atz.l0 k x0 x3 (wrap64 (x4 + 1))))
end
def atz.f (k : Nat) (a0 : Int) : Option (List Int) := atz.l0 k a0 ([] : List Int) 2
set_option maxHeartbeats 8000000 in
set_option maxRecDepth 100000 in
theorem atz.calls (k : Nat) (a0 : Int) (r : List Int) (w : World) (h : atz.f k a0 = some r) :
  Calls Tryz.prog 165 #[.int .i64 a0] w fun e w' => ∃ v0_ : Value, e = .returned (v0_) ∧ Kd.R (Kd.int .i64) 3 w' w.heap.size (fun _ => True) v0_ r ∧ Below w.heap.size w w' := by
 have HB := Aside0.mk (Below.refl w.heap.size w)
 have H := h
 clear h
 unfold atz.f at H
 have H' := Aside0.mk H
 clear H
 go_enter Tryz.func165, Tryz.ntmps165
 go_wp2
 go_loopg [0, 3, 4] k (fun kq v0 v3 v4 w' => ∃ (x0_1 : Int) (x3_1 : List Int) (x4_1 : Int), v0 = .int .i64 x0_1 ∧ v4 = .int .i64 x4_1 ∧ Aside0 (atz.l0 kq x0_1 x3_1 x4_1 = some r) ∧ Aside0 (kq ≤ k) ∧ Aside0 (Kd.R (Kd.int .i64) 3 w' w.heap.size (fun _ => True) v3 x3_1) ∧ Aside0 (Below w.heap.size w w'))
 case atStart => exact ⟨(a0), (([] : List Int)), (2), sd_, sd_, H', ⟨Nat.le_refl _⟩, ⟨nl_⟩, ⟨bl_⟩⟩
 clear H'
 try clear c1
 obtain ⟨x0_1, x3_1, x4_1, rfl, rfl, HA, HK1, HO_3, HB⟩ := hrel
 rcases gk with _ | k1
 ·exact absurd HA.out (by simp [atz.l0])
 have H := HA.out
 clear HA
 simp only [atz.l0] at H
 by_cases c2 : x0_1 > 1
 rotate_left
 ·rw [if_neg c2] at H
  have c2b0 : decide (1 < x0_1) = false := decide_eq_false c2
  clear c2
  obtain rfl := Option.some.inj H
  go_wp2
  go_ret
  exact ⟨_, er_, xd_ HO_3.out, bl_⟩
 rw [if_pos c2] at H
 have c2b0 : decide (1 < x0_1) = true := decide_eq_true c2
 clear c2
 by_cases c3 : x4_1 = 0
 ·rw [if_pos c3] at H
  exact absurd H (by simp)
 ·rw [if_neg c3] at H
  have c3b0 : (x4_1 == 0) = false := beq_eq_false_iff_ne.mpr c3
  have c3b1 : (x4_1 != 0) = true := bne_iff_ne.mpr c3
  have HC4 := Aside0.mk H
  clear H
  go_upto_if 12 with (fail)
  go_cut [3] (fun v3 wc => ∃ (kq : Nat) (x3_3 : List Int), Aside0 (atz.j1 kq x0_1 x3_3 x4_1 = some r) ∧ Aside0 (kq ≤ k1) ∧ Aside0 (Kd.R (Kd.int .i64) 3 wc w.heap.size (fun _ => True) v3 x3_3) ∧ Aside0 (Below w.heap.size w wc))
  case first =>
   have H := HC4.out
   clear HC4
   by_cases c5 : (Int.tmod x0_1 x4_1) = 0
   rotate_left
   ·rw [if_neg c5] at H
    have c5b0 : ((Int.tmod x0_1 x4_1) == 0) = false := beq_eq_false_iff_ne.mpr c5
    have c5b1 : ((Int.tmod x0_1 x4_1) != 0) = true := bne_iff_ne.mpr c5
    (first | rw [c5b0] | (simp only [i64_w, i32_w]; rw [c5b0]) | skip)
    have H' := Aside0.mk H
    clear H
    go_wp2
    go_meet
    case rel => exact ⟨_, (x3_1), H', ⟨by have := HK1.out; first | omega | exact Nat.le_refl _⟩, ⟨xd_ HO_3.out⟩, ⟨bl_⟩⟩
   rw [if_pos c5] at H
   have c5b0 : ((Int.tmod x0_1 x4_1) == 0) = true := beq_iff_eq.mpr c5
   have c5b1 : ((Int.tmod x0_1 x4_1) != 0) = false := bne_eq_false_iff_eq.mpr c5
   clear c5
   (first | rw [c5b0] | (simp only [i64_w, i32_w]; rw [c5b0]) | skip)
   by_cases c6 : x3_1.length < 17592186044416
   rotate_left
   ·rw [if_neg c6] at H
    exact absurd H (by simp)
   rw [if_pos c6] at H
   have LMc6 := Aside0.mk c6
   clear c6
   obtain ⟨y294, hy294⟩ : ∃ y_ : List Int, y_ = (x3_1 ++ [x4_1]) := ⟨_, rfl⟩
   first | rw [Option.bind_some, ← hy294] at H | rw [← hy294] at H
   (try dsimp only at H)
   have Ny294 := Aside0.mk hy294
   clear hy294
   have H' := Aside0.mk H
   clear H
   go_wp2_with (first | ((with_reducible refine aqz (b := .append) (xs := #[.tmp 13, .tmp 15]) rfl ?_); at_builtin; refine Kd.bzz (Kd.int .i64) (w0 := w) w.heap.size rfl (.tmp 13) (.tmp 15) 57 3 (.int .i64 0) 8 rfl Tryz.underlying57 info3 rfl (by decide) (by omega) u3 x3_1 x4_1 [.int .i64 x4_1] (fun _ => True) (fun _ => False) rfl rfl ?aP (fun _ hk => hk.elim) ?aF ?aO ?aB ?aS ?aL ?_; (case aP => exact rfl); (case aB => exact bl_); (case aF => exact (fun _ _ => trivial)); (case aO => exact (xd_ HO_3.out)); (case aS => exact (aVz bl_)); (case aL => have := LMc6.out; omega); intro v295 w7 ho hb hg hat; rw [← Ny294.out] at ho; have n_ := And.intro (Aside0.mk (hb)) (Aside0.mk (ho)); clear HB HO_3; obtain ⟨HB, HO296⟩ := n_; clear ho hb hg hat))
   go_meet
   case rel => exact ⟨_, (y294), H', ⟨by have := HK1.out; first | omega | exact Nat.le_refl _⟩, ⟨xd_ HO296.out⟩, ⟨bl_⟩⟩
  case rest =>
   clear HC4
   try clear c1
   try clear c2
   try clear c2b0
   try clear p2
   try clear c3
   try clear c3b0
   try clear c3b1
   try clear c5
   try clear c5b0
   try clear c5b1
   try clear c6
   obtain ⟨kq, x3_3, HA, HJ3, HO_3, HB⟩ := hcut
   rcases kq with _ | kj3
   ·exact absurd HA.out (by simp [atz.j1])
   have H := HA.out
   clear HA
   simp only [atz.j1] at H
   have H' := Aside0.mk H
   clear H
   go_wp2
   go_loopg [0] kj3 (fun kq v0 w' => ∃ (x0_3 : Int), v0 = .int .i64 x0_3 ∧ Aside0 (atz.l1 kq x0_3 x3_3 x4_1 = some r) ∧ Aside0 (kq ≤ kj3) ∧ Aside0 (Kd.R (Kd.int .i64) 3 w' w.heap.size (fun _ => True) u3 x3_3) ∧ Aside0 (Below w.heap.size w w'))
   case atStart => exact ⟨(x0_1), sd_, H', ⟨Nat.le_refl _⟩, ⟨xd_ HO_3.out⟩, ⟨bl_⟩⟩
   clear H'
   try clear c1
   try clear c2
   try clear c2b0
   try clear p2
   try clear c3
   try clear c3b0
   try clear c3b1
   try clear c5
   try clear c5b0
   try clear c5b1
   try clear c6
   try clear p2
   obtain ⟨x0_3, rfl, HA, HK3, HO_3, HB⟩ := hrel
   rcases gk with _ | k3
   ·exact absurd HA.out (by simp [atz.l1])
   have H := HA.out
   clear HA
   simp only [atz.l1] at H
   by_cases c8 : x4_1 = 0
   ·rw [if_pos c8] at H
    exact absurd H (by simp)
   ·rw [if_neg c8] at H
    have c8b0 : (x4_1 == 0) = false := beq_eq_false_iff_ne.mpr c8
    have c8b1 : (x4_1 != 0) = true := bne_iff_ne.mpr c8
    by_cases c9 : (Int.tmod x0_3 x4_1) = 0
    ·rw [if_pos c9] at H
     have c9b0 : ((Int.tmod x0_3 x4_1) == 0) = true := beq_iff_eq.mpr c9
     have c9b1 : ((Int.tmod x0_3 x4_1) != 0) = false := bne_eq_false_iff_eq.mpr c9
     clear c9
     have H' := Aside0.mk H
     clear H
     go_wp2
     go_roundg k3
     case measure => have := HK1.out; have := HJ3.out; have := HK3.out; omega
     case rel => exact ⟨(wrap64 (Int.tdiv x0_3 x4_1)), sd_, H', ⟨by have := HK1.out; have := HJ3.out; have := HK3.out; omega⟩, ⟨xd_ HO_3.out⟩, ⟨bl_⟩⟩
    ·rw [if_neg c9] at H
     have c9b0 : ((Int.tmod x0_3 x4_1) == 0) = false := beq_eq_false_iff_ne.mpr c9
     have c9b1 : ((Int.tmod x0_3 x4_1) != 0) = true := bne_iff_ne.mpr c9
     have H' := Aside0.mk H
     clear H
     go_wp2
     go_roundg k3
     case measure => have := HK1.out; have := HJ3.out; have := HK3.out; omega
     case rel => exact ⟨(x0_3), (x3_3), (wrap64 (x4_1 + 1)), sd_, sd_, H', ⟨by have := HK1.out; have := HJ3.out; have := HK3.out; omega⟩, ⟨xd_ HO_3.out⟩, ⟨bl_⟩⟩
def a9z.l0 : Nat → Int → Int → Int → Int → Option (Int)
 | 0, _, _, _, _ => none
 | k + 1, x0, x1, x2, x7 => if x1 > 0 then (if (Go.bits .and .i64 x1 1) = 1 then ((aYz.f k x7 x0 x2).bind fun t298 => ((aYz.f k x0 x0 x2).bind fun t299 => (a9z.l0 k t299 (x1 / 2) x2 t298))) else ((aYz.f k x0 x0 x2).bind fun t300 => (a9z.l0 k t300 (x1 / 2) x2 x7))) else (some x7)
def a9z.f (k : Nat) (a0 : Int) (a1 : Int) (a2 : Int) : Option (Int) := (aJz.f k 1 a2).bind fun t297 => (a9z.l0 k a0 a1 a2 t297)
set_option maxHeartbeats 8000000 in
set_option maxRecDepth 100000 in
theorem a9z.calls (k : Nat) (a0 : Int) (a1 : Int) (a2 : Int) (r : Int) (w : World) (h : a9z.f k a0 a1 a2 = some r) :
  Calls Tryz.prog 166 #[.int .u32 a0, .int .i64 a1, .int .u32 a2] w fun e w' => e = .returned (.int .u32 r) ∧ Below w.heap.size w w' := by
 have HB := Aside0.mk (Below.refl w.heap.size w)
 have H := h
 clear h
 unfold a9z.f at H
 obtain ⟨t297, A4, H⟩ := ob_ H
 (try dsimp only at H)
 have H' := Aside0.mk H
 clear H
 go_enter Tryz.func166, Tryz.ntmps166
 go_wp2_with (first | ((with_reducible refine acz (f := 164) rfl ?_); refine gl_ (some 9) Tryz.func164 #[.int .u64 1, .int .u32 a2] ?_; (with_reducible refine (aJz.calls k 1 a2 t297 _ A4.out).mono ?_); rintro e w' ⟨rfl, ⟨nd, rfl⟩⟩; refine ⟨_, rfl, ?_⟩))
 go_loopg [0, 1, 7] k (fun kq v0 v1 v7 w' => ∃ (x0_1 : Int) (x1_1 : Int) (x7_1 : Int), v0 = .int .u32 x0_1 ∧ v1 = .int .i64 x1_1 ∧ v7 = .int .u32 x7_1 ∧ Aside0 (a9z.l0 kq x0_1 x1_1 a2 x7_1 = some r) ∧ Aside0 (kq ≤ k) ∧ Aside0 (Below w.heap.size w w'))
 case atStart => exact ⟨(a0), (a1), (t297), sd_, sd_, sd_, H', ⟨Nat.le_refl _⟩, ⟨bl_⟩⟩
 clear H'
 try clear c1
 try clear p2
 obtain ⟨x0_1, x1_1, x7_1, rfl, rfl, rfl, HA, HK1, HB⟩ := hrel
 rcases gk with _ | k1
 ·exact absurd HA.out (by simp [a9z.l0])
 have H := HA.out
 clear HA
 simp only [a9z.l0] at H
 by_cases c5 : x1_1 > 0
 rotate_left
 ·rw [if_neg c5] at H
  have c5b0 : decide (0 < x1_1) = false := decide_eq_false c5
  clear c5
  obtain rfl := Option.some.inj H
  go_wp2
  go_ret
  exact ⟨er_, bl_⟩
 rw [if_pos c5] at H
 have c5b0 : decide (0 < x1_1) = true := decide_eq_true c5
 clear c5
 by_cases c6 : (Go.bits .and .i64 x1_1 1) = 1
 rotate_left
 ·rw [if_neg c6] at H
  have c6b0 : ((Go.bits .and .i64 x1_1 1) == 1) = false := beq_eq_false_iff_ne.mpr c6
  have c6b1 : ((Go.bits .and .i64 x1_1 1) != 1) = true := bne_iff_ne.mpr c6
  obtain ⟨t300, A11, H⟩ := ob_ H
  (try dsimp only at H)
  have H' := Aside0.mk H
  clear H
  go_wp2_with (first | ((with_reducible refine acz (f := 152) rfl ?_); refine gl_ (some 24) Tryz.func152 #[.int .u32 x0_1, .int .u32 x0_1, .int .u32 a2] ?_; (with_reducible refine (aYz.calls k1 x0_1 x0_1 a2 t300 _ A11.out).mono ?_); rintro e w12 ⟨rfl, hb⟩; refine ⟨_, rfl, ?_⟩; have n0_ := hs_ HB hb; clear HB; have HB := n0_; clear n0_; (try clear hb)))
  go_roundg k1
  case measure => have := HK1.out; omega
  case rel => exact ⟨(t300), (x1_1 / 2), (x7_1), sd_, sd_, sd_, H', ⟨by have := HK1.out; omega⟩, ⟨bl_⟩⟩
 rw [if_pos c6] at H
 have c6b0 : ((Go.bits .and .i64 x1_1 1) == 1) = true := beq_iff_eq.mpr c6
 have c6b1 : ((Go.bits .and .i64 x1_1 1) != 1) = false := bne_eq_false_iff_eq.mpr c6
 clear c6
 obtain ⟨t298, A7, H⟩ := ob_ H
 (try dsimp only at H)
 obtain ⟨t299, A8, H⟩ := ob_ H
 (try dsimp only at H)
 have H' := Aside0.mk H
 clear H
 go_wp2_with (first | ((with_reducible refine acz (f := 152) rfl ?_); refine gl_ (some 20) Tryz.func152 #[.int .u32 x7_1, .int .u32 x0_1, .int .u32 a2] ?_; (with_reducible refine (aYz.calls k1 x7_1 x0_1 a2 t298 _ A7.out).mono ?_); rintro e w9 ⟨rfl, hb⟩; refine ⟨_, rfl, ?_⟩; have n0_ := hs_ HB hb; clear HB; have HB := n0_; clear n0_; (try clear hb)) | ((with_reducible refine acz (f := 152) rfl ?_); refine gl_ (some 24) Tryz.func152 #[.int .u32 x0_1, .int .u32 x0_1, .int .u32 a2] ?_; (with_reducible refine (aYz.calls k1 x0_1 x0_1 a2 t299 _ A8.out).mono ?_); rintro e w10 ⟨rfl, hb⟩; refine ⟨_, rfl, ?_⟩; have n0_ := hs_ HB hb; clear HB; have HB := n0_; clear n0_; (try clear hb)))
 go_roundg k1
 case measure => have := HK1.out; omega
 case rel => exact ⟨(t299), (x1_1 / 2), (t298), sd_, sd_, sd_, H', ⟨by have := HK1.out; omega⟩, ⟨bl_⟩⟩
mutual
def aAz.j0 : Nat → Int → Bool → Option (Bool)
 | 0, _, _ => none
 | k + 1, x0, x13 => if x13 = true then (some false) else ((a8z.f (IntKind.u64.wrap (x0))).bind fun t303 => (if 0 ≤ t303 then ((atz.f k (wrap64 ((shl .i64 1 t303) - 1))).bind fun t304 => (aAz.l0 k x0 (wrap64 ((shl .i64 1 t303) - 1)) t304 (t304.length : Int) 0)) else (none)))
def aAz.l0 : Nat → Int → Int → List Int → Int → Int → Option (Bool)
 | 0, _, _, _, _, _ => none
 | k + 1, x0, x3, x20, x21, x22 => if x22 < x21 then (if 0 ≤ x22 then (if x22 < (x20.length : Int) then (if (rd x20 x22) = 0 then (none) else ((a9z.f k 2 (wrap64 (Int.tdiv x3 (rd x20 x22))) x0).bind fun t308 => (if t308 = 1 then (some false) else (aAz.l0 k x0 x3 x20 x21 (wrap64 (x22 + 1)))))) else (none)) else (none)) else (some true)
end
def aAz.f (k : Nat) (a0 : Int) : Option (Bool) := (awz.f k a0).bind fun t301 => (if t301 = true then ((aJz.f k 2 a0).bind fun t302 => (aAz.j0 k a0 (t302 == 0))) else (aAz.j0 k a0 true))
set_option maxHeartbeats 8000000 in
set_option maxRecDepth 100000 in
theorem aAz.calls (k : Nat) (a0 : Int) (r : Bool) (w : World) (h : aAz.f k a0 = some r) :
  Calls Tryz.prog 125 #[.int .u32 a0] w fun e w' => e = .returned (.bool r) ∧ Below w.heap.size w w' := by
 have HB := Aside0.mk (Below.refl w.heap.size w)
 have H := h
 clear h
 unfold aAz.f at H
 have HC2 := Aside0.mk H
 clear H
 go_enter Tryz.func125, Tryz.ntmps125
 go_upto_region 1 with (fail)
 go_cut [13] (fun v13 wc => ∃ (kq : Nat) (x13_1 : Bool), v13 = .bool x13_1 ∧ Aside0 (aAz.j0 kq a0 x13_1 = some r) ∧ Aside0 (kq ≤ k) ∧ Aside0 (Below w.heap.size w wc))
 case first =>
  have H := HC2.out
  clear HC2
  obtain ⟨t301, A3, H⟩ := ob_ H
  (try dsimp only at H)
  by_cases c4 : t301 = true
  ·subst c4
   rw [if_pos rfl] at H
   obtain ⟨t302, A5, H⟩ := ob_ H
   (try dsimp only at H)
   have H' := Aside0.mk H
   clear H
   go_wp2_with (first | ((with_reducible refine acz (f := 163) rfl ?_); refine gl_ (some 7) Tryz.func163 #[.int .u32 a0] ?_; (with_reducible refine (awz.calls k a0 true _ A3.out).mono ?_); rintro e w6 ⟨rfl, hb⟩; refine ⟨_, rfl, ?_⟩; have n0_ := hs_ HB hb; clear HB; have HB := n0_; clear n0_; (try clear hb)) | (go_at_call 164; (with_reducible refine (aJz.calls k 2 a0 t302 _ A5.out).mono ?_); rintro e w' ⟨rfl, ⟨nd, rfl⟩⟩))
   go_meet
   case rel => exact ⟨_, ((t302 == 0)), sd_, H', ⟨by first | omega | exact Nat.le_refl _⟩, ⟨bl_⟩⟩
  ·replace c4 := Bool.eq_false_iff.mpr c4
   subst c4
   rw [if_neg (show ¬ (false = true) by decide)] at H
   have H' := Aside0.mk H
   clear H
   go_wp2_with (first | ((with_reducible refine acz (f := 163) rfl ?_); refine gl_ (some 7) Tryz.func163 #[.int .u32 a0] ?_; (with_reducible refine (awz.calls k a0 false _ A3.out).mono ?_); rintro e w7 ⟨rfl, hb⟩; refine ⟨_, rfl, ?_⟩; have n0_ := hs_ HB hb; clear HB; have HB := n0_; clear n0_; (try clear hb)))
   go_meet
   case rel => exact ⟨_, (true), sd_, H', ⟨by first | omega | exact Nat.le_refl _⟩, ⟨bl_⟩⟩
 case rest =>
  clear HC2
  try clear c1
  try clear p2
  try clear c4
  obtain ⟨kq, x13_1, rfl, HA, HJ1, HB⟩ := hcut
  rcases kq with _ | kj1
  ·exact absurd HA.out (by simp [aAz.j0])
  have H := HA.out
  clear HA
  simp only [aAz.j0] at H
  by_cases c8 : x13_1 = true
  ·subst c8
   rw [if_pos rfl] at H
   obtain rfl := Option.some.inj H
   go_wp2
   go_ret
   exact ⟨er_, bl_⟩
  ·replace c8 := Bool.eq_false_iff.mpr c8
   subst c8
   rw [if_neg (show ¬ (false = true) by decide)] at H
   obtain ⟨t303, A9, H⟩ := ob_ H
   (try dsimp only at H)
   by_cases c10 : 0 ≤ t303
   rotate_left
   ·rw [if_neg c10] at H
    exact absurd H (by simp)
   rw [if_pos c10] at H
   have c10b0 := eq_true c10
   have c10b1 := decide_eq_true c10
   clear c10
   obtain ⟨ji11, hji11⟩ : ∃ j_ : Int, (shl .i64 1 t303) = j_ := ⟨_, rfl⟩
   replace H : ((atz.f kj1 (wrap64 ((ji11) - 1))).bind fun t304 => (aAz.l0 kj1 a0 (wrap64 ((ji11) - 1)) t304 (t304.length : Int) 0)) = some r := by first | (rw [hji11] at H; exact H) | (simp only [hji11] at H ⊢; exact H)
   (try rw [hji11] at A9)
   have hji11_ : (IntKind.i64.wrap (1 * 2 ^ min t303.toNat 64)) = ji11 := hji11
   have hji11z : t303 ≤ 64 → (IntKind.i64.wrap (1 * 2 ^ t303.toNat)) = ji11 := shl_small hji11
   have hji11u : (IntKind.i64.wrap (2 ^ min t303.toNat 64)) = ji11 := by have h_ := hji11_; rw [Int.one_mul] at h_; exact h_
   have hji11v : t303 ≤ 64 → (IntKind.i64.wrap (2 ^ t303.toNat)) = ji11 := fun hle_ => by have h_ := hji11z hle_; rw [Int.one_mul] at h_; exact h_
   have hji11y : (wrap64 (1 * 2 ^ min t303.toNat 64)) = ji11 := (i64_w _).symm.trans hji11_
   have hji11x : t303 ≤ 64 → (wrap64 (1 * 2 ^ t303.toNat)) = ji11 := fun h_ => (i64_w _).symm.trans (hji11z h_)
   obtain ⟨t304, A12, H⟩ := ob_ H
   (try dsimp only at H)
   have H' := Aside0.mk H
   clear H
   go_wp2_with (first | ((with_reducible refine acz (f := 124) rfl ?_); refine gl_ (some 16) Tryz.func124 #[.int .u64 (IntKind.u64.wrap (a0))] ?_; (with_reducible refine (a8z.calls (IntKind.u64.wrap (a0)) t303 _ A9.out).mono ?_); rintro e w' ⟨rfl, ⟨nd, rfl⟩⟩; refine ⟨_, rfl, ?_⟩) | ((with_reducible refine acz (f := 165) rfl ?_); refine goesL_ (some 20) rfl rfl Tryz.func165 kr_ rfl #[.int .i64 (wrap64 ((ji11) - 1))] rfl (by (try simp only [List.map_toArray, List.map_cons, List.map_nil]); first | done | (simp only [hji11]; rfl) | rfl | (simp only [List.length_drop, List.length_take]; rfl)) ?_; (with_reducible refine (atz.calls kj1 (wrap64 ((ji11) - 1)) t304 _ A12.out).mono ?_); rintro e w13 ⟨v305, rfl, ho0, hb⟩; refine ⟨_, rfl, ?_⟩; have n_ := And.intro (Aside0.mk (Kd.baz ho0 (aVz bl_))) (hs_ HB hb); clear HB; obtain ⟨HO306, HB⟩ := n_; clear hb ho0; obtain ⟨Ao14, co14, eo14⟩ := Kd.aWz HO306.out; subst eo14))
   go_loopg [22] kj1 (fun kq v22 w' => ∃ (x22_2 : Int), v22 = .int .i64 x22_2 ∧ Aside0 (aAz.l0 kq a0 (wrap64 ((ji11) - 1)) t304 (t304.length : Int) x22_2 = some r) ∧ Aside0 (kq ≤ kj1) ∧ Aside0 (Kd.R (Kd.int .i64) 3 w' w.heap.size (fun _ => True) (.slice Ao14 t304.length co14) t304) ∧ Aside0 (Below w.heap.size w w'))
   case atStart => exact ⟨(0), sd_, H', ⟨Nat.le_refl _⟩, ⟨xd_ HO306.out⟩, ⟨bl_⟩⟩
   clear H'
   try clear c1
   try clear p2
   try clear c4
   try clear p6
   try clear c8
   try clear c10
   try clear c10b0
   try clear c10b1
   try clear c12
   try clear p2
   obtain ⟨x22_2, rfl, HA, HK2, HO_20, HB⟩ := hrel
   rcases gk with _ | k2
   ·exact absurd HA.out (by simp [aAz.l0])
   have H := HA.out
   clear HA
   simp only [aAz.l0] at H
   by_cases c15 : x22_2 < (t304.length : Int)
   rotate_left
   ·rw [if_neg c15] at H
    have c15b0 := decide_eq_false c15
    clear c15
    obtain rfl := Option.some.inj H
    go_wp2
    go_ret
    exact ⟨by first | rfl | (simp [brz, bsz] <;> rfl) | (simp only [← hji11]; first | rfl | (simp [brz, bsz] <;> rfl)) | (simp [*, brz, bsz] <;> rfl), bl_⟩
   rw [if_pos c15] at H
   have c15b0 := decide_eq_true c15
   clear c15
   by_cases c16 : 0 ≤ x22_2
   rotate_left
   ·rw [if_neg c16] at H
    exact absurd H (by simp)
   rw [if_pos c16] at H
   have c16b0 := decide_eq_true c16
   clear c16
   by_cases c17 : x22_2 < (t304.length : Int)
   rotate_left
   ·rw [if_neg c17] at H
    exact absurd H (by simp)
   rw [if_pos c17] at H
   have c17b0 := decide_eq_true c17
   clear c17
   by_cases c18 : (rd t304 x22_2) = 0
   ·rw [if_pos c18] at H
    exact absurd H (by simp)
   ·rw [if_neg c18] at H
    have c18b0 : ((rd t304 x22_2) == 0) = false := beq_eq_false_iff_ne.mpr c18
    have c18b1 : ((rd t304 x22_2) != 0) = true := bne_iff_ne.mpr c18
    obtain ⟨t308, A19, H⟩ := ob_ H
    (try dsimp only at H)
    by_cases c20 : t308 = 1
    ·rw [if_pos c20] at H
     have c20b0 : (t308 == 1) = true := beq_iff_eq.mpr c20
     have c20b1 : (t308 != 1) = false := bne_eq_false_iff_eq.mpr c20
     clear c20
     obtain rfl := Option.some.inj H
     have p307 : 0 ≤ (x22_2 : Int) := of_decide_eq_true as_
     have q307 : x22_2 < (t304.length : Int) := of_decide_eq_true as_
     obtain ⟨ad307, e307, hx307_0⟩ := Kd.bTz (Kd.aQz HO_20.out).2.2 x22_2 p307 q307
     cases e307
     replace p307 := eq_true p307
     replace q307 := eq_true q307
     go_wp2_with (first | ((with_reducible refine acz (f := 166) rfl ?_); refine goesL_ (some 30) rfl rfl Tryz.func166 kr_ rfl #[.int .u32 2, .int .i64 (wrap64 (Int.tdiv (wrap64 ((ji11) - 1)) (rd t304 x22_2))), .int .u32 a0] rfl (by (try simp only [List.map_toArray, List.map_cons, List.map_nil]); first | done | (simp only [hji11]; rfl) | rfl | (simp only [List.length_drop, List.length_take]; rfl)) ?_; (with_reducible refine (a9z.calls k2 2 (wrap64 (Int.tdiv (wrap64 ((ji11) - 1)) (rd t304 x22_2))) a0 t308 _ A19.out).mono ?_); rintro e w21 ⟨rfl, hb⟩; refine ⟨_, rfl, ?_⟩; have n_ := And.intro (Aside0.mk (Kd.cKz (xd_ HO_20.out) hb)) (hs_ HB hb); clear HO_20 HB; obtain ⟨HO_20, HB⟩ := n_; (try clear hb)))
     go_ret
     exact ⟨by first | rfl | (simp [brz, bsz] <;> rfl) | (simp only [← hji11]; first | rfl | (simp [brz, bsz] <;> rfl)) | (simp [*, brz, bsz] <;> rfl), bl_⟩
    ·rw [if_neg c20] at H
     have c20b0 : (t308 == 1) = false := beq_eq_false_iff_ne.mpr c20
     have c20b1 : (t308 != 1) = true := bne_iff_ne.mpr c20
     have H' := Aside0.mk H
     clear H
     have p307 : 0 ≤ (x22_2 : Int) := of_decide_eq_true as_
     have q307 : x22_2 < (t304.length : Int) := of_decide_eq_true as_
     obtain ⟨ad307, e307, hx307_0⟩ := Kd.bTz (Kd.aQz HO_20.out).2.2 x22_2 p307 q307
     cases e307
     replace p307 := eq_true p307
     replace q307 := eq_true q307
     go_wp2_with (first | ((with_reducible refine acz (f := 166) rfl ?_); refine goesL_ (some 30) rfl rfl Tryz.func166 kr_ rfl #[.int .u32 2, .int .i64 (wrap64 (Int.tdiv (wrap64 ((ji11) - 1)) (rd t304 x22_2))), .int .u32 a0] rfl (by (try simp only [List.map_toArray, List.map_cons, List.map_nil]); first | done | (simp only [hji11]; rfl) | rfl | (simp only [List.length_drop, List.length_take]; rfl)) ?_; (with_reducible refine (a9z.calls k2 2 (wrap64 (Int.tdiv (wrap64 ((ji11) - 1)) (rd t304 x22_2))) a0 t308 _ A19.out).mono ?_); rintro e w22 ⟨rfl, hb⟩; refine ⟨_, rfl, ?_⟩; have n_ := And.intro (Aside0.mk (Kd.cKz (xd_ HO_20.out) hb)) (hs_ HB hb); clear HO_20 HB; obtain ⟨HO_20, HB⟩ := n_; (try clear hb)))
     (first | go_roundg k2 | (subst hji11; go_roundg k2))
     case measure => have := HJ1.out; have := HK2.out; omega
     case rel => exact ⟨(wrap64 (x22_2 + 1)), sd_, H', ⟨by have := HJ1.out; have := HK2.out; omega⟩, ⟨xd_ HO_20.out⟩, ⟨bl_⟩⟩
def a2z.f (a0 : Int) : Option (Bool) := if a0 ≥ 1 then (some (decide (a0 ≤ 20))) else (some false)
set_option maxHeartbeats 8000000 in
set_option maxRecDepth 100000 in
theorem a2z.calls (a0 : Int) (r : Bool) (w : World) (h : a2z.f a0 = some r) :
  Calls Tryz.prog 139 #[.int .i64 a0] w fun e w' => e = .returned (.bool r) ∧ Drawn0 w w' := by
 have H := h
 clear h
 unfold a2z.f at H
 by_cases c2 : a0 ≥ 1
 ·rw [if_pos c2] at H
  have c2b0 : decide (1 ≤ a0) = true := decide_eq_true c2
  clear c2
  obtain rfl := Option.some.inj H
  go_enter Tryz.func139, Tryz.ntmps139
  go_wp2
  go_ret
  exact ⟨sd_, dn_⟩
 ·rw [if_neg c2] at H
  have c2b0 : decide (1 ≤ a0) = false := decide_eq_false c2
  clear c2
  obtain rfl := Option.some.inj H
  go_enter Tryz.func139, Tryz.ntmps139
  go_wp2
  go_ret
  exact ⟨sd_, dn_⟩
def a1z.l0 : Nat → Int → List (List Int) → Int → Int → Option ((List (List Int)))
 | 0, _, _, _, _ => none
 | k + 1, x0, x3, x9, x10 => if x10 < x9 then (if 0 ≤ x0 then (if (x0 : Int).toNat ≤ 35184372088832 then ((some (List.replicate (x0 : Int).toNat 0 : List Int)).bind fun y310 => (if 0 ≤ x10 then (if x10 < (y310.length : Int) then (if x3.length < 5864062014805 then (a1z.l0 k x0 (x3 ++ [(y310.set (x10 : Int).toNat 1)]) x9 (wrap64 (x10 + 1))) else (none)) else (none)) else (none))) else (none)) else (none)) else (some x3)
def a1z.f (k : Nat) (a0 : Int) : Option ((List (List Int))) := (a2z.f a0).bind fun t309 => (if t309 = true then (a1z.l0 k a0 ([] : List (List Int)) a0 0) else (some ([] : List (List Int))))
set_option maxHeartbeats 8000000 in
set_option maxRecDepth 100000 in
theorem a1z.calls (k : Nat) (a0 : Int) (r : List (List Int)) (w : World) (h : a1z.f k a0 = some r) :
  Calls Tryz.prog 95 #[.int .i64 a0] w fun e w' => ∃ v0_ : Value, e = .returned (v0_) ∧ Kd.S (Kd.slice 3 (Kd.int .i64)) 57 w' w.heap.size (fun _ => True) v0_ r ∧ Below w.heap.size w w' := by
 have HB := Aside0.mk (Below.refl w.heap.size w)
 have H := h
 clear h
 unfold a1z.f at H
 obtain ⟨t309, A2, H⟩ := ob_ H
 (try dsimp only at H)
 by_cases c3 : t309 = true
 rotate_left
 ·replace c3 := Bool.eq_false_iff.mpr c3
  subst c3
  rw [if_neg (show ¬ (false = true) by decide)] at H
  obtain rfl := Option.some.inj H
  go_enter Tryz.func95, Tryz.ntmps95
  go_wp2_with (first | ((with_reducible refine acz (f := 139) rfl ?_); refine gl_ (some 7) Tryz.func139 #[.int .i64 a0] ?_; (with_reducible refine (a2z.calls a0 false _ A2.out).mono ?_); rintro e w' ⟨rfl, ⟨nd, rfl⟩⟩; refine ⟨_, rfl, ?_⟩))
  go_ret
  exact ⟨_, er_, nl_, bl_⟩
 subst c3
 rw [if_pos rfl] at H
 have H' := Aside0.mk H
 clear H
 go_enter Tryz.func95, Tryz.ntmps95
 go_wp2_with (first | ((with_reducible refine acz (f := 139) rfl ?_); refine gl_ (some 7) Tryz.func139 #[.int .i64 a0] ?_; (with_reducible refine (a2z.calls a0 true _ A2.out).mono ?_); rintro e w' ⟨rfl, ⟨nd, rfl⟩⟩; refine ⟨_, rfl, ?_⟩))
 go_loopg [3, 10] k (fun kq v3 v10 w' => ∃ (x3_1 : List (List Int)) (x10_1 : Int), v10 = .int .i64 x10_1 ∧ Aside0 (a1z.l0 kq a0 x3_1 a0 x10_1 = some r) ∧ Aside0 (kq ≤ k) ∧ Aside0 (Kd.S (Kd.slice 3 (Kd.int .i64)) 57 w' w.heap.size (fun _ => True) v3 x3_1) ∧ Aside0 (Below w.heap.size w w'))
 case atStart => exact ⟨(([] : List (List Int))), (0), sd_, H', ⟨Nat.le_refl _⟩, ⟨nl_⟩, ⟨bl_⟩⟩
 clear H'
 try clear c1
 try clear p2
 try clear c3
 obtain ⟨x3_1, x10_1, rfl, HA, HK1, HO_3, HB⟩ := hrel
 rcases gk with _ | k1
 ·exact absurd HA.out (by simp [a1z.l0])
 have H := HA.out
 clear HA
 simp only [a1z.l0] at H
 by_cases c4 : x10_1 < a0
 rotate_left
 ·rw [if_neg c4] at H
  have c4b0 := decide_eq_false c4
  clear c4
  obtain rfl := Option.some.inj H
  go_wp2
  go_ret
  exact ⟨_, er_, xd_ HO_3.out, bl_⟩
 rw [if_pos c4] at H
 have c4b0 := decide_eq_true c4
 clear c4
 by_cases c5 : 0 ≤ a0
 rotate_left
 ·rw [if_neg c5] at H
  exact absurd H (by simp)
 rw [if_pos c5] at H
 have c5b0 := eq_true c5
 have c5b1 := decide_eq_true c5
 clear c5
 by_cases c6 : (a0 : Int).toNat ≤ 35184372088832
 rotate_left
 ·rw [if_neg c6] at H
  exact absurd H (by simp)
 rw [if_pos c6] at H
 have c6b0 := eq_true c6
 have c6b1 := decide_eq_true c6
 clear c6
 obtain ⟨y310, hy310⟩ : ∃ y_ : List Int, y_ = (List.replicate (a0 : Int).toNat 0) := ⟨_, rfl⟩
 first | rw [Option.bind_some, ← hy310] at H | rw [← hy310] at H
 (try dsimp only at H)
 have Ny310 := Aside0.mk hy310
 clear hy310
 by_cases c7 : 0 ≤ x10_1
 rotate_left
 ·rw [if_neg c7] at H
  exact absurd H (by simp)
 rw [if_pos c7] at H
 have c7b0 := decide_eq_true c7
 clear c7
 by_cases c8 : x10_1 < (y310.length : Int)
 rotate_left
 ·rw [if_neg c8] at H
  exact absurd H (by simp)
 rw [if_pos c8] at H
 have c8b0 := decide_eq_true c8
 clear c8
 obtain ⟨y313, hy313⟩ : ∃ y_ : List Int, y_ = (y310.set (x10_1 : Int).toNat 1) := ⟨_, rfl⟩
 first | rw [Option.bind_some, ← hy313] at H | rw [← hy313] at H
 (try dsimp only at H)
 have Ny313 := Aside0.mk hy313
 clear hy313
 by_cases c10 : x3_1.length < 5864062014805
 rotate_left
 ·rw [if_neg c10] at H
  exact absurd H (by simp)
 rw [if_pos c10] at H
 have LMc10 := Aside0.mk c10
 clear c10
 obtain ⟨y314, hy314⟩ : ∃ y_ : List (List Int), y_ = (x3_1 ++ [y313]) := ⟨_, rfl⟩
 first | rw [Option.bind_some, ← hy314] at H | rw [← hy314] at H
 (try dsimp only at H)
 have Ny314 := Aside0.mk hy314
 clear hy314
 have H' := Aside0.mk H
 clear H
 go_wp2_with (first | ((with_reducible refine aCz (N := 14) rfl ?_); refine Kd.R_make (Kd.int .i64) _ 3 rfl (N := 14) rfl 57 _ _ rfl a0 rfl rfl Tryz.underlying57 (.int .i64 0) 8 info3 rfl (by decide) (by omega) 0 (ok := fun _ => True) (okp := fun _ => True) rfl (fun _ hk => hk) trivial (of_decide_eq_true as_) (Nat.le_trans (Nat.mul_le_mul_right _ (of_decide_eq_true as_ : a0.toNat ≤ 35184372088832)) (by omega)) (Below.refl _ _) (Nat.le_refl _) ?_; intro v311 w11 ho12 hb hg_ hnew_; clear hg_ hnew_; (first | rw [← Ny310.out] at ho12 | (simp only [Int.reduceToNat] at ho12; rw [← Ny310.out] at ho12)); have n_ := And.intro (Aside0.mk (Kd.S_elder' (xd_ HO_3.out) (Kd.cuz ho12) hb)) (And.intro (Aside0.mk (Kd.baz ho12 (aVz bl_))) (hs_ HB hb)); clear HO_3 HB; obtain ⟨HO_3, HO312, HB⟩ := n_; clear hb ho12; have p9 : 0 ≤ (x10_1 : Int) := of_decide_eq_true as_; have q9 : (x10_1 : Int) < ((y310.length : Int) : Int) := of_decide_eq_true as_; obtain ⟨go9, co9, eo9, gb9, gl9, cl9, HG9⟩ := Kd.b7z HO312.out (by omega); (first | cases eo9 | (injection eo9 with ea_ en_ ec_; (first | subst ea_ | (injection ea_ with ea_; subst ea_)); subst ec_; clear en_)); have GB9 := Aside0.mk gb9; have GG9 := Aside0.mk HG9; clear gb9 gl9 HG9; obtain ⟨hx9_0, hf9_0⟩ := Kd.R_celln 0 HO312.out (x10_1 : Int) p9 q9; replace p9 := eq_true p9; replace q9 := eq_true q9; obtain ⟨hy13_, hz13_⟩ := Kd.R_celln 0 HO312.out (x10_1 : Int) (of_decide_eq_true as_) (of_decide_eq_true as_); have HP13 := Kd.R_putg HO312.out (x10_1 : Int) 1) | ((with_reducible refine bnz (t := 3) (p := 17) rfl ?_); refine dcz (t := 3) (p := 17) (v := ?vo_w14) (w1 := (w11.setCell ⟨go9, (x10_1 : Int).toNat, none⟩ (.int .i64 1))) ?hg ?ho ?hn ?hr ?_; (case ho => rfl); (case hg => rfl); (case hn => rfl); (case hr => first | (go_simp; done) | (go_simp; rfl)); intro w14 hw; have hg : w11.grownBy w14 (some go9) := (by rw [hw]; exact HP13.2); have hp_ : Kd.R (Kd.int .i64) 3 w14 w.heap.size (fun _ => True) (.slice (some ⟨go9, 0, none⟩) y310.length co9) y313 := (by rw [hw, Ny313.out]; exact HP13.1); clear HP13; have n_ := And.intro (Aside0.mk (Kd.S_after (v := (.slice (some ⟨go9, 0, none⟩) y310.length co9)) (v1 := (.slice (some ⟨go9, 0, none⟩) y310.length co9)) (ok := (fun _ => True)) (xd_ HO_3.out) hg (.inl rfl))) (And.intro (Aside0.mk (hp_)) (Aside0.mk ((by rw [hw]; exact cvz (HB.out) GB9.out : Below w.heap.size w w14)))); clear HO_3 HO312 HB; obtain ⟨HO_3, HO312, HB⟩ := n_; clear hg hw hp_) | ((with_reducible refine aqz (b := .append) (xs := #[.tmp 18, .tmp 20]) rfl ?_); at_builtin; refine Kd.bAz (Kd.slice 3 (Kd.int .i64)) (w0 := w) w.heap.size rfl (.tmp 18) (.tmp 20) 69 57 (.slice none 0 0) 24 rfl Tryz.underlying69 info57 rfl (by decide) (by omega) u3 x3_1 y313 [.slice (some ⟨go9, 0, none⟩) y310.length co9] (fun _ => True) (fun k_ => some k_ = (.slice (some ⟨go9, 0, none⟩) y310.length co9 : Value).ownBlock) rfl rfl ?aP (fun k_ hk_ => ((Kd.a0z (ok' := fun k_ => ((fun _ => True)) k_ ∧ some k_ ≠ (u3 : Value).ownBlock) (Kd.R_apart' (HO312.out) (Kd.cOz HO_3.out) (by decide)) (fun k_ hk => ⟨trivial, hk.2⟩))).1 k_ hk_.symm) ?aF ?aO ?aB ?aS ?aL ?_; (case aP => exact Kd.M_row (Kd.a0z (Kd.cLz rfl (Kd.a0z (ok' := fun k_ => ((fun _ => True)) k_ ∧ some k_ ≠ (u3 : Value).ownBlock) (Kd.R_apart' (HO312.out) (Kd.cOz HO_3.out) (by decide)) (fun k_ hk => ⟨trivial, hk.2⟩))) (fun _ h_ => h_))); (case aB => exact bl_); (case aF => exact (fun _ _ => trivial)); (case aO => exact (sm_ HO_3)); (case aS => exact (aVz bl_)); (case aL => have := LMc10.out; omega); intro v315 w15 ho hb hg hat; rw [← Ny314.out] at ho; have n_ := And.intro (Aside0.mk (hb)) (Aside0.mk (ho)); clear HB HO_3 HO312; obtain ⟨HB, HO316⟩ := n_; clear ho hb hg hat))
 go_roundg k1
 case measure => have := HK1.out; omega
 case rel => exact ⟨(y314), (wrap64 (x10_1 + 1)), sd_, H', ⟨by have := HK1.out; omega⟩, ⟨xd_ HO316.out⟩, ⟨bl_⟩⟩
theorem prim8 : aAz.f 400 285 = some true := by kernel_rfl
theorem prim16 : aAz.f 1500 69643 = some true := by kernel_rfl
theorem deg8 : a8z.f 285 = some 8 := by kernel_rfl
theorem deg16 : a8z.f 69643 = some 16 := by kernel_rfl
def Fresh (w : World) (g : Nat) (wb : Int) : Prop := w.heap[g]? = some (.cells (freshF wb (fpoly wb)) 172 (0, 0))
theorem Fresh.fd {w : World} {g : Nat} {wb : Int} (h : Fresh w g wb) (S : Nat → Prop) (hg : ¬ S g) : Fd w g wb (fpoly wb) S := ⟨hg, .inl h⟩
set_option maxRecDepth 100000 in
set_option maxHeartbeats 1600000 in
theorem gf_New.calls (wb : Int) (hw : wb = 8 ∨ wb = 16) (W : World) :
  Calls Tryz.prog 81 #[.int .i64 wb, .int .u32 (fpoly wb)] W fun e w' => ∃ g : Nat, e = .returned (.pointer (some ⟨g, 0, none⟩)) ∧ Fresh w' g wb ∧ W.heap.size ≤ g ∧ Below W.heap.size W w' := by
 rcases hw with rfl | rfl
 ·have HP := Aside0.mk prim8
  have HD := Aside0.mk deg8
  show Calls Tryz.prog 81 #[.int .i64 8, .int .u32 285] W _
  go_enter Tryz.func81, Tryz.ntmps81
  go_wp2_with (first | (go_at_call 124; refine (a8z.calls _ _ _ HD.out).mono ?_; rintro e w9 ⟨rfl, m9, rfl⟩) | (go_at_call 125; refine (aAz.calls 400 _ _ _ HP.out).mono ?_; rintro e w9 ⟨rfl, hB⟩))
  go_ret
  exact ⟨_, rfl, heap_alloc_new _ _, hB.size, abz (w := W) ⟨hB.os, hB.tape, hB.output, hB.size, hB.block⟩ _⟩
 ·have HP := Aside0.mk prim16
  have HD := Aside0.mk deg16
  show Calls Tryz.prog 81 #[.int .i64 16, .int .u32 69643] W _
  go_enter Tryz.func81, Tryz.ntmps81
  go_wp2_with (first | (go_at_call 124; refine (a8z.calls _ _ _ HD.out).mono ?_; rintro e w9 ⟨rfl, m9, rfl⟩) | (go_at_call 125; refine (aAz.calls 1500 _ _ _ HP.out).mono ?_; rintro e w9 ⟨rfl, hB⟩))
  go_ret
  exact ⟨_, rfl, heap_alloc_new _ _, hB.size, abz (w := W) ⟨hB.os, hB.tape, hB.output, hB.size, hB.block⟩ _⟩
def pbits (p : Int) : Int := if p = 2 then 16 else 8
theorem pbits_or (p : Int) : pbits p = 8 ∨ pbits p = 16 := by unfold pbits; split <;> simp
theorem profile_told {p : Int} (h : 1 ≤ p ∧ p ≤ 6) : ∃ s l m, alz.f p = some (s, pbits p, fpoly (pbits p), l, m, true) := by
 obtain ⟨h1, h2⟩ := h
 have : p = 1 ∨ p = 2 ∨ p = 3 ∨ p = 4 ∨ p = 5 ∨ p = 6 := by omega
 rcases this with rfl | rfl | rfl | rfl | rfl | rfl <;> exact ⟨_, _, _, rfl⟩
set_option maxRecDepth 100000 in
set_option maxHeartbeats 1600000 in
theorem bwz.calls (p : Int) (h : 1 ≤ p ∧ p ≤ 6) (W : World) :
  Calls Tryz.prog 45 #[.int .i64 p] W fun e w' => ∃ g : Nat, e = .returned (.pointer (some ⟨g, 0, none⟩)) ∧ Fresh w' g (pbits p) ∧ W.heap.size ≤ g ∧ Below W.heap.size W w' := by
 obtain ⟨s, l, m, h0⟩ := profile_told h
 have H0 := Aside0.mk h0
 have HN := Aside0.mk (gf_New.calls (pbits p) (pbits_or p))
 generalize pbits p = wb at H0 HN ⊢
 generalize fpoly wb = q at H0 HN
 clear h h0
 go_enter Tryz.func45, Tryz.ntmps45
 go_wp2_with (first | (go_at_call 75; refine (alz.calls p _ _ _ _ _ _ _ H0.out).mono ?_; rintro e w9 ⟨rfl, hB⟩) | (go_at_call 81; refine (HN.out _).mono ?_; rintro e w8 ⟨g, rfl, q1, q2, q3⟩))
 go_ret
 have e1 := hB.size
 exact ⟨g, rfl, q1, by simp at q2; omega, (abz hB _).trans (q3.mono (by simp; omega))⟩
def idxF {α : Type} (p : α → Bool) : List α → Int
 | [] => -1
 | x :: l => if p x then 0 else if idxF p l < 0 then -1 else idxF p l + 1
theorem b5z {α : Type} (p : α → Bool) : ∀ l : List α, -1 ≤ idxF p l ∧ idxF p l < l.length ∧ (idxF p l < 0 ↔ l.any p = false)
 | [] => by simp [idxF]
 | x :: l => by
  have h := b5z p l
  unfold idxF
  cases hx : p x with
  | true => simp [hx]
  | false =>
   simp only [Bool.false_eq_true, if_false, List.any_cons, hx, Bool.false_or, List.length_cons]
   refine ⟨?_, ?_, ?_⟩
   ·split <;> omega
   ·split <;> omega
   ·rw [← h.2.2]; split <;> omega
theorem idxF_any {α : Type} (p : α → Bool) (l : List α) : decide (0 ≤ idxF p l) = l.any p := by
  have h := b5z p l
  cases ha : l.any p with
  | true => have : ¬ idxF p l < 0 := fun hh => by rw [h.2.2.1 hh] at ha; cases ha
            exact decide_eq_true (by omega)
  | false => exact decide_eq_false (by have := h.2.2.2 ha; omega)
theorem idxF_at {α : Type} (p : α → Bool) : ∀ (l : List α) (k : Nat) (x : α), l[k]? = some x → (l.take k).any p = false → p x = true → idxF p l = k
 | [], k, x, h, _, _ => by simp at h
 | y :: l, 0, x, h, _, hp => by
  obtain rfl : y = x := by simpa using h
  simp [idxF, hp]
 | y :: l, k + 1, x, h, ha, hp => by
  simp only [List.take_succ_cons, List.any_cons, Bool.or_eq_false_iff] at ha
  have := idxF_at p l k x (by simpa using h) ha.2 hp
  unfold idxF
  rw [ha.1, this]
  simp only [Bool.false_eq_true, if_false]
  rw [if_neg (by omega)]
  omega
theorem idxF_none {α : Type} (p : α → Bool) (l : List α) (h : l.any p = false) : idxF p l = -1 := by
 have h1 := b5z p l
 have := h1.2.2.2 h
 omega
theorem cDz {α : Type} (p : α → Bool) (l : List α) (k : Nat) (x : α) (h : l[k]? = some x) : (l.take (k + 1)).any p = ((l.take k).any p || p x) := by
 rw [List.take_add_one, h]; simp
theorem bhz {α : Type} {d : Kd α} {e : Nat} {W : World} {A : Option Addr} {rows : List (List α)} (h : Kd.C (Kd.slice e d) W A rows.length rows) (k : Nat) (x : List α) (hx : rows[k]? = some x) :
  ∃ ad A' c', A = some ad ∧ W.cell? (ad.add k) = some (.slice A' x.length c') ∧ x.length ≤ c' ∧ Kd.C d W A' x.length x := by
 have hlt := (List.getElem?_eq_some_iff.1 hx).1
 obtain ⟨ad, c, hA, hl, hK, hc⟩ := Kd.C_get h ([] : List α) (k : Int) (by omega) (by omega)
 rw [Int.toNat_natCast, List.getD_eq_getElem?_getD, hx] at hK
 obtain ⟨A', c', rfl, hle, hC⟩ := hK
 refine ⟨ad, A', c', hA, ?_, hle, hC⟩
 have := hc 0 _ rfl
 rwa [show (k : Int).toNat * (Kd.slice e d).sz + 0 = k from by show (k : Int).toNat * 1 + 0 = k; omega] at this
theorem buz {k : IntKind} {W : World} {A : Option Addr} {l : List Int} (h : Kd.C (Kd.int k) W A l.length l) (j : Nat) (x : Int) (hx : l[j]? = some x) : ∃ ad, A = some ad ∧ W.cell? (ad.add j) = some (.int k x) := by
 have hlt := (List.getElem?_eq_some_iff.1 hx).1
 obtain ⟨ad, c, hA, hl, hK, hc⟩ := Kd.C_get h 0 (j : Int) (by omega) (by omega)
 rw [Int.toNat_natCast, List.getD_eq_getElem?_getD, hx] at hK
 refine ⟨ad, hA, ?_⟩
 have hK' : c = [.int k x] := hK
 subst hK'
 have := hc 0 _ rfl
 rwa [show (j : Int).toNat * (Kd.int k).sz + 0 = j from by show (j : Int).toNat * 1 + 0 = j; omega] at this
set_option maxRecDepth 100000 in
set_option maxHeartbeats 1600000 in
theorem idx_May11.calls (p : Int → Bool) (q0 : Value) (A : Option Addr) (c : Nat) (l : List Int) (W : World) (hr : Kd.C (Kd.int .i64) W A l.length l) (hl : l.length ≤ 1000000)
  (hp : ∀ (m : Nat) (x : Int), x ∈ l → Calls Tryz.prog 173 #[.int .i64 x, q0] (W.drewN m) fun e w' => e = .returned (.bool (p x)) ∧ Drawn0 (W.drewN m) w') :
  Calls Tryz.prog 189 #[.slice A l.length c, .func (.func 173) #[] #[q0]] W fun e w' => e = .returned (.int .i64 (idxF p l)) ∧ Drawn0 W w' := by
 have HR := Aside0.mk hr
 have HP := Aside0.mk hp
 clear hr hp
 go_enter Tryz.func189, Tryz.ntmps189
 go_wp2
 go_loopw [8] (fun i wr => ∃ k m : Nat, k ≤ l.length ∧ i = .int .i64 k ∧ wr = W.drewN m ∧ Aside0 ((l.take k).any p = false)) (fun i _ => l.length - (intOf i).toNat)
 case atStart => exact ⟨0, 0, Nat.zero_le _, rfl, rfl, ⟨rfl⟩⟩
 obtain ⟨k, m, hk, rfl, rfl, HA⟩ := hrel
 by_cases hlt : k < l.length
 ·obtain ⟨x, hx⟩ : ∃ x, l[k]? = some x := ⟨_, List.getElem?_eq_getElem hlt⟩
  obtain ⟨ad, rfl, hcell⟩ := buz HR.out k x hx
  have HX := Aside0.mk hx
  clear hx
  cases hpx : p x with
  | true =>
   have HI := Aside0.mk (idxF_at p l k x HX.out HA.out hpx)
   have HPX := Aside0.mk hpx
   clear hpx
   go_wp2_with (first | (go_at_call 173; refine (HP.out _ x (List.mem_of_getElem? HX.out)).mono ?_; rintro e w9 ⟨rfl, m9, rfl⟩; rw [HPX.out]))
   go_ret
   refine ⟨?_, dn_⟩
   rw [HI.out]; rfl
  | false =>
   have HA1 := Aside0.mk (show (l.take (k + 1)).any p = false by rw [cDz p l k x HX.out, HA.out, hpx]; rfl)
   have HPX := Aside0.mk hpx
   clear hpx
   go_wp2_with (first | (go_at_call 173; refine (HP.out _ x (List.mem_of_getElem? HX.out)).mono ?_; rintro e w9 ⟨rfl, m9, rfl⟩; rw [HPX.out]))
   go_roundw
   case rel => exact ⟨k + 1, m + m9, by omega, by go_num, by simp [World.drewN_drewN], HA1⟩
   case measure => simp [intOf]; omega
 ·obtain rfl : k = l.length := by omega
  have HI := Aside0.mk (idxF_none p l (by have := HA.out; rwa [List.take_length] at this))
  go_wp2
  go_ret
  refine ⟨?_, dn_⟩
  rw [HI.out]; rfl
set_option maxRecDepth 100000 in
set_option maxHeartbeats 1600000 in
theorem con_May11.calls (p : Int → Bool) (q0 : Value) (A : Option Addr) (c : Nat) (l : List Int) (W : World) (hr : Kd.C (Kd.int .i64) W A l.length l) (hl : l.length ≤ 1000000)
  (hp : ∀ (m : Nat) (x : Int), x ∈ l → Calls Tryz.prog 173 #[.int .i64 x, q0] (W.drewN m) fun e w' => e = .returned (.bool (p x)) ∧ Drawn0 (W.drewN m) w') :
  Calls Tryz.prog 172 #[.slice A l.length c, .func (.func 173) #[] #[q0]] W fun e w' => e = .returned (.bool (l.any p)) ∧ Drawn0 W w' := by
 have HC := Aside0.mk (idx_May11.calls p q0 A c l W hr hl hp)
 have HA := Aside0.mk (idxF_any p l)
 clear hr hp
 obtain ⟨z, hz⟩ : ∃ z, idxF p l = z := ⟨_, rfl⟩
 rw [hz] at HC HA
 rw [← HA.out]
 clear hz HA
 go_enter Tryz.func172, Tryz.ntmps172
 go_wp2_with (first | (go_at_call 189; refine HC.out.mono ?_; rintro e w9 ⟨rfl, m9, rfl⟩))
 go_ret
 exact ⟨rfl, dn_⟩
set_option maxRecDepth 100000 in
set_option maxHeartbeats 1600000 in
theorem idx_May1.calls (p : List Int → Bool) (q0 q1 : Value) (A : Option Addr) (c : Nat) (l : List (List Int)) (W : World) (hr : Kd.C (Kd.slice 3 (Kd.int .i64)) W A l.length l) (hl : l.length ≤ 1000000)
  (hp : ∀ (m : Nat) (x : List Int) (A' : Option Addr) (c' : Nat), x ∈ l → x.length ≤ c' → Kd.C (Kd.int .i64) W A' x.length x → Calls Tryz.prog 171 #[.slice A' x.length c', q0, q1] (W.drewN m) fun e w' => e = .returned (.bool (p x)) ∧ Drawn0 (W.drewN m) w') :
  Calls Tryz.prog 175 #[.slice A l.length c, .func (.func 171) #[] #[q0, q1]] W fun e w' => e = .returned (.int .i64 (idxF p l)) ∧ Drawn0 W w' := by
 have HR := Aside0.mk hr
 have HP := Aside0.mk hp
 clear hr hp
 go_enter Tryz.func175, Tryz.ntmps175
 go_wp2
 go_loopw [8] (fun i wr => ∃ k m : Nat, k ≤ l.length ∧ i = .int .i64 k ∧ wr = W.drewN m ∧ Aside0 ((l.take k).any p = false)) (fun i _ => l.length - (intOf i).toNat)
 case atStart => exact ⟨0, 0, Nat.zero_le _, rfl, rfl, ⟨rfl⟩⟩
 obtain ⟨k, m, hk, rfl, rfl, HA⟩ := hrel
 by_cases hlt : k < l.length
 ·obtain ⟨x, hx⟩ : ∃ x, l[k]? = some x := ⟨_, List.getElem?_eq_getElem hlt⟩
  obtain ⟨ad, A', c', rfl, hcell, hle, hC⟩ := bhz HR.out k x hx
  have HC := Aside0.mk hC
  have HLE := Aside0.mk hle
  clear hC hle
  have HX := Aside0.mk hx
  clear hx
  cases hpx : p x with
  | true =>
   have HI := Aside0.mk (idxF_at p l k x HX.out HA.out hpx)
   have HPX := Aside0.mk hpx
   clear hpx
   go_wp2_with (first | (go_at_call 171; refine (HP.out _ x A' c' (List.mem_of_getElem? HX.out) HLE.out HC.out).mono ?_; rintro e w9 ⟨rfl, m9, rfl⟩; rw [HPX.out]))
   go_ret
   refine ⟨?_, dn_⟩
   rw [HI.out]; rfl
  | false =>
   have HA1 := Aside0.mk (show (l.take (k + 1)).any p = false by rw [cDz p l k x HX.out, HA.out, hpx]; rfl)
   have HPX := Aside0.mk hpx
   clear hpx
   go_wp2_with (first | (go_at_call 171; refine (HP.out _ x A' c' (List.mem_of_getElem? HX.out) HLE.out HC.out).mono ?_; rintro e w9 ⟨rfl, m9, rfl⟩; rw [HPX.out]))
   go_roundw
   case rel => exact ⟨k + 1, m + m9, by omega, by go_num, by simp [World.drewN_drewN], HA1⟩
   case measure => simp [intOf]; omega
 ·obtain rfl : k = l.length := by omega
  have HI := Aside0.mk (idxF_none p l (by have := HA.out; rwa [List.take_length] at this))
  go_wp2
  go_ret
  refine ⟨?_, dn_⟩
  rw [HI.out]; rfl
set_option maxRecDepth 100000 in
set_option maxHeartbeats 1600000 in
theorem con_May1.calls (p : List Int → Bool) (q0 q1 : Value) (A : Option Addr) (c : Nat) (l : List (List Int)) (W : World) (hr : Kd.C (Kd.slice 3 (Kd.int .i64)) W A l.length l) (hl : l.length ≤ 1000000)
  (hp : ∀ (m : Nat) (x : List Int) (A' : Option Addr) (c' : Nat), x ∈ l → x.length ≤ c' → Kd.C (Kd.int .i64) W A' x.length x → Calls Tryz.prog 171 #[.slice A' x.length c', q0, q1] (W.drewN m) fun e w' => e = .returned (.bool (p x)) ∧ Drawn0 (W.drewN m) w') :
  Calls Tryz.prog 170 #[.slice A l.length c, .func (.func 171) #[] #[q0, q1]] W fun e w' => e = .returned (.bool (l.any p)) ∧ Drawn0 W w' := by
 have HC := Aside0.mk (idx_May1.calls p q0 q1 A c l W hr hl hp)
 have HA := Aside0.mk (idxF_any p l)
 clear hr hp
 obtain ⟨z, hz⟩ : ∃ z, idxF p l = z := ⟨_, rfl⟩
 rw [hz] at HC HA
 rw [← HA.out]
 clear hz HA
 go_enter Tryz.func170, Tryz.ntmps170
 go_wp2_with (first | (go_at_call 175; refine HC.out.mono ?_; rintro e w9 ⟨rfl, m9, rfl⟩))
 go_ret
 exact ⟨rfl, dn_⟩
set_option maxRecDepth 100000 in
set_option maxHeartbeats 1600000 in
theorem idx_reduce2.calls (p : List Int → Bool) (q0 : Value) (A : Option Addr) (c : Nat) (l : List (List Int)) (W : World) (hr : Kd.C (Kd.slice 3 (Kd.int .i64)) W A l.length l) (hl : l.length ≤ 1000000)
  (hp : ∀ (m : Nat) (x : List Int) (A' : Option Addr) (c' : Nat), x ∈ l → x.length ≤ c' → Kd.C (Kd.int .i64) W A' x.length x → Calls Tryz.prog 176 #[.slice A' x.length c', q0] (W.drewN m) fun e w' => e = .returned (.bool (p x)) ∧ Drawn0 (W.drewN m) w') :
  Calls Tryz.prog 175 #[.slice A l.length c, .func (.func 176) #[] #[q0]] W fun e w' => e = .returned (.int .i64 (idxF p l)) ∧ Drawn0 W w' := by
 have HR := Aside0.mk hr
 have HP := Aside0.mk hp
 clear hr hp
 go_enter Tryz.func175, Tryz.ntmps175
 go_wp2
 go_loopw [8] (fun i wr => ∃ k m : Nat, k ≤ l.length ∧ i = .int .i64 k ∧ wr = W.drewN m ∧ Aside0 ((l.take k).any p = false)) (fun i _ => l.length - (intOf i).toNat)
 case atStart => exact ⟨0, 0, Nat.zero_le _, rfl, rfl, ⟨rfl⟩⟩
 obtain ⟨k, m, hk, rfl, rfl, HA⟩ := hrel
 by_cases hlt : k < l.length
 ·obtain ⟨x, hx⟩ : ∃ x, l[k]? = some x := ⟨_, List.getElem?_eq_getElem hlt⟩
  obtain ⟨ad, A', c', rfl, hcell, hle, hC⟩ := bhz HR.out k x hx
  have HC := Aside0.mk hC
  have HLE := Aside0.mk hle
  clear hC hle
  have HX := Aside0.mk hx
  clear hx
  cases hpx : p x with
  | true =>
   have HI := Aside0.mk (idxF_at p l k x HX.out HA.out hpx)
   have HPX := Aside0.mk hpx
   clear hpx
   go_wp2_with (first | (go_at_call 176; refine (HP.out _ x A' c' (List.mem_of_getElem? HX.out) HLE.out HC.out).mono ?_; rintro e w9 ⟨rfl, m9, rfl⟩; rw [HPX.out]))
   go_ret
   refine ⟨?_, dn_⟩
   rw [HI.out]; rfl
  | false =>
   have HA1 := Aside0.mk (show (l.take (k + 1)).any p = false by rw [cDz p l k x HX.out, HA.out, hpx]; rfl)
   have HPX := Aside0.mk hpx
   clear hpx
   go_wp2_with (first | (go_at_call 176; refine (HP.out _ x A' c' (List.mem_of_getElem? HX.out) HLE.out HC.out).mono ?_; rintro e w9 ⟨rfl, m9, rfl⟩; rw [HPX.out]))
   go_roundw
   case rel => exact ⟨k + 1, m + m9, by omega, by go_num, by simp [World.drewN_drewN], HA1⟩
   case measure => simp [intOf]; omega
 ·obtain rfl : k = l.length := by omega
  have HI := Aside0.mk (idxF_none p l (by have := HA.out; rwa [List.take_length] at this))
  go_wp2
  go_ret
  refine ⟨?_, dn_⟩
  rw [HI.out]; rfl
theorem cyz (ad : Addr) : ad.add 0 = ad := by unfold Addr.add; split <;> simp_all
structure MayOk (wb : Int) (rows : List (List Int)) (cols : Nat) : Prop where
 n1 : 1 ≤ rows.length
 n2 : rows.length ≤ 20
 c1 : 1 ≤ cols
 c2 : cols ≤ 20
 each : ∀ row, row ∈ rows → row.length = cols ∧ ∀ x, x ∈ row → 0 ≤ x ∧ x < fsize wb
set_option maxRecDepth 100000 in
set_option maxHeartbeats 1600000 in
theorem may11.calls (g fb : Nat) (S : Nat → Prop) (wb p x : Int) (W : World) (hw : wb = 8 ∨ wb = 16) (hF : Fd W g wb p S) (hb : W.cell? ⟨fb, 0, none⟩ = some (.pointer (some ⟨g, 0, none⟩))) (hx : 0 ≤ x ∧ x < fsize wb) :
  Calls Tryz.prog 173 #[.int .i64 x, .pointer (some ⟨fb, 0, none⟩)] W fun e w' => e = .returned (.bool false) ∧ Drawn0 W w' := by
 have HF := Aside0.mk hF
 have HW := Aside0.mk hw
 have h1 : decide (x < 0) = false := decide_eq_false (by omega)
 have h2 : decide (fsize wb ≤ x) = false := decide_eq_false (by omega)
 clear hF hw hx
 go_enter Tryz.func173, Tryz.ntmps173
 go_wp2_with (first | (go_at_call 150; refine (cPz.calls g wb p S _ HF.out HW.out).mono ?_; rintro e w9 ⟨rfl, m9, rfl⟩))
 go_ret
 exact ⟨rfl, dn_⟩
set_option maxRecDepth 100000 in
set_option maxHeartbeats 1600000 in
theorem may1.calls (g fb ab : Nat) (S : Nat → Prop) (wb p : Int) (A A0 A' : Option Addr) (n0 c0 c' : Nat) (cols : Nat) (rows : List (List Int)) (x : List Int) (W : World) (hw : wb = 8 ∨ wb = 16) (hM : MayOk wb rows cols) (hF : Fd W g wb p S) (hb : W.cell? ⟨fb, 0, none⟩ = some (.pointer (some ⟨g, 0, none⟩)))
  (ha : W.cell? ⟨ab, 0, none⟩ = some (.slice A rows.length c0)) (hC : Kd.C (Kd.slice 3 (Kd.int .i64)) W A rows.length rows) (hx : x ∈ rows) (hX : Kd.C (Kd.int .i64) W A' x.length x) :
  Calls Tryz.prog 171 #[.slice A' x.length c', .pointer (some ⟨ab, 0, none⟩), .pointer (some ⟨fb, 0, none⟩)] W fun e w' => e = .returned (.bool false) ∧ Drawn0 W w' := by
 obtain ⟨r0, hr0⟩ : ∃ r, rows[0]? = some r := ⟨_, List.getElem?_eq_getElem (by have := hM.n1; omega)⟩
 obtain ⟨ad, A1, c1, rfl, hcell, hle, hC0⟩ := bhz hC 0 r0 hr0
 have l0 := (hM.each r0 (List.mem_of_getElem? hr0)).1
 have lx := (hM.each x hx).1
 have hc2 := hM.c2
 have HC := Aside0.mk (con_May11.calls (fun _ => false) (.pointer (some ⟨fb, 0, none⟩)) A' c' x W hX (by omega) (fun m y hy => may11.calls g fb S wb p y _ hw (hF.drewN m) hb ((hM.each x hx).2 y hy)))
 have hany : x.any (fun _ => false) = false := by simp
 rw [hany] at HC
 rw [l0] at hcell
 rw [lx] at HC
 rw [lx]
 have n1 : (0 : Int) < (rows.length : Int) := by have := hM.n1; omega
 have hcell' : W.cell? ad = some (.slice A1 cols c1) := by rwa [cyz] at hcell
 have hself : ((cols : Int) != (cols : Int)) = false := by simp
 have hmf : ∀ (fn : Fn) (first cap : Array Value) (w : World), (Instr.makeFunc fn first cap).run Tryz.prog w = .ok (.func fn first cap) w := fun _ _ _ _ => rfl
 generalize rows.length = nr at ha n1
 clear hM hF hC hx hX hr0 hC0 l0 lx hc2 hany hle hcell
 go_enter Tryz.func171, Tryz.ntmps171
 go_wp2_with (first | (go_at_call 172; refine HC.out.mono ?_; rintro e w9 ⟨rfl, m9, rfl⟩))
 go_ret
 exact ⟨rfl, dn_⟩
set_option maxRecDepth 100000 in
set_option maxHeartbeats 1600000 in
theorem dlz.ok (g : Nat) (S : Nat → Prop) (wb p : Int) (A : Option Addr) (c cols : Nat) (rows : List (List Int)) (W : World) (hw : wb = 8 ∨ wb = 16) (hM : MayOk wb rows cols) (hF : Fd W g wb p S) (hC : Kd.C (Kd.slice 3 (Kd.int .i64)) W A rows.length rows) :
  Calls Tryz.prog 138 #[.pointer (some ⟨g, 0, none⟩), .slice A rows.length c] W fun e w' => e = .returned (.bool true) ∧ Below W.heap.size W w' := by
 have hb1 : Below W.heap.size W ((W.alloc (.cells #[.pointer (some ⟨g, 0, none⟩)] 72)).alloc (.cells #[.slice A rows.length c] 69)) := abz (abz (Below.refl _ _) _) _
 have hF1 := hF.below hb1
 have hC1 := Kd.arz hC hb1
 have hc1 : ((W.alloc (.cells #[.pointer (some ⟨g, 0, none⟩)] 72)).alloc (.cells #[.slice A rows.length c] 69)).cell? ⟨W.heap.size, 0, none⟩ = some (.pointer (some ⟨g, 0, none⟩)) := (aaz (aiz (b0z W _) _) 0).trans rfl
 have hc2 : ((W.alloc (.cells #[.pointer (some ⟨g, 0, none⟩)] 72)).alloc (.cells #[.slice A rows.length c] 69)).cell? ⟨W.heap.size + 1, 0, none⟩ = some (.slice A rows.length c) := (aaz (bqz _ _ _ (by simp)) 0).trans rfl
 have hany : rows.any (fun _ => false) = false := by simp
 have HC := Aside0.mk (fun (m0 : Nat) => con_May1.calls (fun _ => false) (.pointer (some ⟨W.heap.size + 1, 0, none⟩)) (.pointer (some ⟨W.heap.size, 0, none⟩)) A c rows _ (Kd.b4z hC1 m0) (by have := hM.n2; omega) (fun m x A' c' hx hxc hX => may1.calls g W.heap.size (W.heap.size + 1) S wb p A A A' rows.length c c' cols rows x _ hw hM ((hF1.drewN m0).drewN m) hc1 hc2 (Kd.b4z (Kd.b4z hC1 m0) m) hx (Kd.b4z hX m)))
 rw [hany] at HC
 obtain ⟨r0, hr0⟩ : ∃ r, rows[0]? = some r := ⟨_, List.getElem?_eq_getElem (by have := hM.n1; omega)⟩
 obtain ⟨ad, A1, c1, rfl, hcell, hle, hC0⟩ := bhz hC 0 r0 hr0
 have l0 := (hM.each r0 (List.mem_of_getElem? hr0)).1
 rw [l0] at hcell
 have hcell' : W.cell? ad = some (.slice A1 cols c1) := by rwa [cyz] at hcell
 have hcell2 := akz hb1 hcell'
 have hw1 : a2z.f (rows.length : Int) = some true := by unfold a2z.f; rw [if_pos (by have := hM.n1; omega), decide_eq_true (by have := hM.n2; omega)]
 have hw2 : a2z.f (cols : Int) = some true := by unfold a2z.f; rw [if_pos (by have := hM.c1; omega), decide_eq_true (by have := hM.c2; omega)]
 have n1 : (0 : Int) < (rows.length : Int) := by have := hM.n1; omega
 have hmf : ∀ (fn : Fn) (first cap : Array Value) (w : World), (Instr.makeFunc fn first cap).run Tryz.prog w = .ok (.func fn first cap) w := fun _ _ _ _ => rfl
 have HB := Aside0.mk hb1
 have H1 := Aside0.mk hw1
 have H2 := Aside0.mk hw2
 generalize rows.length = nr at *
 clear hM hF hC hF1 hC1 hr0 hC0 l0 hany hle hcell hcell' hw1 hw2 hb1
 go_enter Tryz.func138, Tryz.ntmps138
 go_wp2_with (first | (go_at_call_of 139 (Value.int .i64 (nr : Int)); refine (a2z.calls _ _ _ H1.out).mono ?_; rintro e w9 ⟨rfl, m9, rfl⟩) | (go_at_call 139; refine (a2z.calls _ _ _ H2.out).mono ?_; rintro e w9 ⟨rfl, m8, rfl⟩) | (go_at_call 170; refine (HC.out _).mono ?_; rintro e w9 ⟨rfl, m7, rfl⟩))
 go_ret
 exact ⟨rfl, by repeat (first | exact HB.out | apply amz)⟩
theorem reads_C {k : IntKind} {W : World} {A : Option Addr} {l : List Int} (h : Kd.C (Kd.int k) W A l.length l) : ReadsInt W k A l.length l := by
 refine ⟨rfl, h.2.1, fun hn => ?_⟩
 obtain ⟨ad, hA, _⟩ := h.2.2 hn
 refine ⟨ad, hA, fun j hj => ?_⟩
 obtain ⟨ad', hA', hc⟩ := buz h j l[j] (List.getElem?_eq_getElem hj)
 rw [hA] at hA'
 cases hA'
 rw [hc, List.getD_eq_getElem?_getD, List.getElem?_eq_getElem hj]
 rfl
theorem bIz {k : IntKind} {e : Nat} {W : World} {base : Nat} {v : Value} {xs : List Int} (h : W.ownsRow base e 1 v xs.length (nums k xs)) : Kd.R (Kd.int k) e W base (fun _ => True) v xs :=
 ⟨fun _ _ => trivial, nums k xs, h, by rw [nums_length]; exact (Nat.mul_one _).symm, fun j p hj => by
  obtain ⟨hlt, rfl⟩ := List.getElem?_eq_some_iff.1 hj
  show ((nums k xs).drop (j * 1)).take 1 = [Value.int k xs[j]]
  rw [Nat.mul_one, List.drop_eq_getElem_cons (by simp [nums]; exact hlt)]
  simp [nums]⟩
theorem A_none {α : Type} {d : Kd α} {W : World} {n : Nat} {xs : List α} (h : Kd.C d W none n xs) : n = 0 := by
 rcases Nat.eq_zero_or_pos n with h0 | h0
 ·exact h0
 ·obtain ⟨ad, e, _⟩ := h.2.2 h0
  cases e
set_option maxRecDepth 100000 in
set_option maxHeartbeats 1600000 in
theorem clone_i.calls (A : Option Addr) (c : Nat) (l : List Int) (W : World) (hC : Kd.C (Kd.int .i64) W A l.length l) (hl : l.length ≤ 1000000) :
  Calls Tryz.prog 141 #[.slice A l.length c] W fun e w' => ∃ v, e = .returned v ∧ Kd.R (Kd.int .i64) 3 w' W.heap.size (fun _ => True) v l ∧ Below W.heap.size W w' := by
 cases A with
 | none =>
  obtain rfl : l = [] := List.eq_nil_of_length_eq_zero (A_none hC)
  have hnil := fun (w : World) => Lib.run_eql_slice_nil (P := Tryz.prog) w 57 3 none 0 c 0 0 Tryz.underlying57
  go_enter Tryz.func141, Tryz.ntmps141
  go_wp2
  go_ret
  exact ⟨_, rfl, Kd.R_nil _ _ _ _ _, Below.refl _ _⟩
 | some ad =>
  have HR := Aside0.mk (reads_C hC)
  clear hC
  have hnil := fun (w : World) => Lib.run_eql_slice_nil (P := Tryz.prog) w 57 3 (some ad) l.length c 0 0 Tryz.underlying57
  have HO := Aside0.mk (World.ownsRow_lit (base := W.heap.size) (e := 3) (size := 1) W #[] 0 (Nat.le_refl _) (by decide) rfl)
  have HB := Aside0.mk (abz (Below.refl W.heap.size W) (.cells #[] 3))
  go_enter Tryz.func141, Tryz.ntmps141
  go_wp2_with ((with_reducible refine aqz (b := .append) (xs := #[.tmp 5, .tmp 6]) rfl ?_); at_builtin; refine bHz (w0 := W) W.heap.size rfl (.tmp 5) (.tmp 6) 57 3 .i64 8 rfl Tryz.underlying57 kr_ (by decide) _ [] l (some ad) l.length c rfl rfl ?aO ?aR ?aB ?aS ?aL ?_; (case aO => exact HO.out); (case aR => exact HR.out.below (abz (Below.refl _ _) _)); (case aB => exact HB.out); (case aS => simp); (case aL => simp; omega); intro v1 w1 ho1 hb1 hg1 hat1; have HO1 := Aside0.mk ho1; have HB1 := Aside0.mk hb1; clear ho1 hb1 hg1 hat1)
  go_ret
  exact ⟨_, rfl, bIz HO1.out, HB1.out⟩
theorem own_cut0 {W : World} {base e size g n c : Nat} {xs : List Value} (h : W.ownsRow base e size (.slice (some ⟨g, 0, none⟩) n c) n xs) : W.ownsRow base e size (.slice (some ⟨g, 0, none⟩) 0 c) 0 [] := by
 obtain ⟨h1, h2 | ⟨g', cap, cur, he, hb, hh, h3, h4, h5, h6⟩⟩ := h
 ·cases h2.1
 ·injection he with e1 e2 e3
  injection e1 with e1
  injection e1 with e1
  subst e1
  subst e3
  exact ⟨by simp, .inr ⟨g, c, cur, rfl, hb, hh, Nat.zero_le _, h4, h5, by simp⟩⟩
set_option maxRecDepth 100000 in
set_option maxHeartbeats 1600000 in
theorem grow_i.calls (n : Nat) (W : World) (hn : n ≤ 1000000) :
  Calls Tryz.prog 182 #[.slice none 0 0, .int .i64 (n : Int)] W fun e w' => ∃ v, e = .returned v ∧ w'.ownsRow W.heap.size 3 1 v 0 [] ∧ Below W.heap.size W w' := by
 have n0 : decide ((n : Int) < 0) = false := decide_eq_false (by omega)
 by_cases h0 : n = 0
 ·subst h0
  go_enter Tryz.func182, Tryz.ntmps182
  go_wp2
  go_ret
  exact ⟨_, rfl, own_nil _ _ _ _, Below.refl _ _⟩
 ·have p0 : (0 : Int) < (n : Int) := by omega
  have p1 : ¬ ((n : Int) < 0) := by omega
  have HB := Aside0.mk (Below.refl W.heap.size W)
  go_enter Tryz.func182, Tryz.ntmps182
  go_wp2_with ((with_reducible refine aqz (b := .append) (xs := #[.tmp 20, .tmp 21]) rfl ?_); at_builtin; refine Kd.diz (Kd.int .i64) (w0 := W) W.heap.size rfl (.tmp 20) (.tmp 21) 57 3 3 (.int .i64 0) 8 rfl Tryz.underlying57 Tryz.underlying3 kr_ rfl (by decide) (by decide) _ [] 0 (n : Int) (fun _ => True) rfl rfl ?aZ (fun _ _ => trivial) (Kd.R_nil _ _ _ _ _) ?a0 HB.out (Nat.le_refl _) ?aL ?_; (case aZ => exact rfl); (case a0 => omega); (case aL => simp; omega); intro v1 w1 ho1 hb1 hg1 hat1; obtain ⟨g, cc, rfl, -, -, -⟩ := Kd.b7z ho1 (by simp; omega); obtain ⟨inner, hown⟩ := Kd.R_own ho1; have HO1 := Aside0.mk (own_cut0 hown); have HB1 := Aside0.mk hb1; have hcc : 0 ≤ cc := Nat.zero_le _; clear ho1 hb1 hg1 hat1 hown)
  go_ret
  exact ⟨_, rfl, HO1.out, HB1.out⟩
set_option maxRecDepth 100000 in
set_option maxHeartbeats 1600000 in
theorem grow_b.calls (n : Nat) (W : World) (hn : n ≤ 1000000) :
  Calls Tryz.prog 169 #[.slice none 0 0, .int .i64 (n : Int)] W fun e w' => ∃ v, e = .returned v ∧ w'.ownsRow W.heap.size 5 1 v 0 [] ∧ Below W.heap.size W w' := by
 have n0 : decide ((n : Int) < 0) = false := decide_eq_false (by omega)
 by_cases h0 : n = 0
 ·subst h0
  go_enter Tryz.func169, Tryz.ntmps169
  go_wp2
  go_ret
  exact ⟨_, rfl, own_nil _ _ _ _, Below.refl _ _⟩
 ·have p0 : (0 : Int) < (n : Int) := by omega
  have p1 : ¬ ((n : Int) < 0) := by omega
  have HB := Aside0.mk (Below.refl W.heap.size W)
  go_enter Tryz.func169, Tryz.ntmps169
  go_wp2_with ((with_reducible refine aqz (b := .append) (xs := #[.tmp 20, .tmp 21]) rfl ?_); at_builtin; refine Kd.diz (Kd.int .u8) (w0 := W) W.heap.size rfl (.tmp 20) (.tmp 21) 34 3 5 (.int .u8 0) 1 rfl Tryz.underlying34 Tryz.underlying3 kr_ rfl (by decide) (by decide) _ [] 0 (n : Int) (fun _ => True) rfl rfl ?aZ (fun _ _ => trivial) (Kd.R_nil _ _ _ _ _) ?a0 HB.out (Nat.le_refl _) ?aL ?_; (case aZ => exact rfl); (case a0 => omega); (case aL => simp; omega); intro v1 w1 ho1 hb1 hg1 hat1; obtain ⟨g, cc, rfl, -, -, -⟩ := Kd.b7z ho1 (by simp; omega); obtain ⟨inner, hown⟩ := Kd.R_own ho1; have HO1 := Aside0.mk (own_cut0 hown); have HB1 := Aside0.mk hb1; have hcc : 0 ≤ cc := Nat.zero_le _; clear ho1 hb1 hg1 hat1 hown)
  go_ret
  exact ⟨_, rfl, HO1.out, HB1.out⟩
theorem c4z (rows : List (List Int)) (k : Nat) (x : List Int) (hx : rows[k]? = some x) : (rows.take (k + 1)).flatten = (rows.take k).flatten ++ x := by
 rw [List.take_add_one, hx]; simp
theorem cQz (rows : List (List Int)) (k : Nat) : (rows.take k).flatten.length ≤ rows.flatten.length := by
 conv => rhs; rw [← List.take_append_drop k rows, List.flatten_append, List.length_append]
 omega
set_option maxRecDepth 100000 in
set_option maxHeartbeats 1600000 in
theorem concat_i.calls (A : Option Addr) (c : Nat) (rows : List (List Int)) (W : World) (hC : Kd.C (Kd.slice 3 (Kd.int .i64)) W A rows.length rows) (hr : rows.length ≤ 1000000) (hl : rows.flatten.length ≤ 1000000) :
  Calls Tryz.prog 159 #[.slice A rows.length c] W fun e w' => ∃ v, e = .returned v ∧ Kd.R (Kd.int .i64) 3 w' W.heap.size (fun _ => True) v rows.flatten ∧ Below W.heap.size W w' := by
 have HC := Aside0.mk hC
 clear hC
 go_enter Tryz.func159, Tryz.ntmps159
 go_wp2
 go_loop [3, 11] (fun s i => ∃ k z : Nat, k ≤ rows.length ∧ s = .int .i64 (z : Int) ∧ i = .int .i64 (k : Int) ∧ Aside0 (z = (rows.take k).flatten.length)) (fun _ i => rows.length - (intOf i).toNat)
 case atStart => exact ⟨0, 0, Nat.zero_le _, rfl, rfl, ⟨rfl⟩⟩
 obtain ⟨k, z, hk, rfl, rfl, HZ⟩ := hrel
 have hz : z ≤ 1000000 := by have := cQz rows k; have := HZ.out; omega
 by_cases hlt : k < rows.length
 ·obtain ⟨x, hx⟩ : ∃ x, rows[k]? = some x := ⟨_, List.getElem?_eq_getElem hlt⟩
  obtain ⟨ad, A', c', rfl, hcell, hle, hCx⟩ := bhz HC.out k x hx
  have HZ1 := Aside0.mk (show z + x.length = (rows.take (k + 1)).flatten.length by rw [c4z rows k x hx, List.length_append, ← HZ.out])
  have hz1 : z + x.length ≤ 1000000 := by have := cQz rows (k + 1); have := HZ1.out; omega
  have hn0 : decide ((z : Int) + (x.length : Int) < 0) = false := decide_eq_false (by omega)
  have hn1 : ¬ ((z : Int) + (x.length : Int) < 0) := by omega
  clear hx hCx hle
  go_wp2
  go_round
  case rel => exact ⟨k + 1, z + x.length, by omega, by go_num, by go_num, HZ1⟩
  case measure => simp [intOf]; omega
 ·obtain rfl : k = rows.length := by omega
  clear hk hlt
  have HG := Aside0.mk (grow_i.calls z W hz)
  go_wp2_with (first | (go_at_call 182; refine HG.out.mono ?_; rintro e w1 ⟨v, rfl, hv, hB⟩))
  have HV := Aside0.mk hv
  have HB := Aside0.mk hB
  clear hv hB HG
  go_loopw [6, 27] (fun v i wr => ∃ k : Nat, k ≤ rows.length ∧ i = .int .i64 (k : Int) ∧ Aside0 (wr.ownsRow W.heap.size 3 1 v (rows.take k).flatten.length (nums .i64 (rows.take k).flatten)) ∧ Aside0 (Below W.heap.size W wr)) (fun _ i _ => rows.length - (intOf i).toNat)
  case atStart => exact ⟨0, Nat.zero_le _, rfl, HV, HB⟩
  clear HV HB
  obtain ⟨k, hk, rfl, HV, HB⟩ := hrel
  by_cases hlt : k < rows.length
  ·obtain ⟨x, hx⟩ : ∃ x, rows[k]? = some x := ⟨_, List.getElem?_eq_getElem hlt⟩
   obtain ⟨ad, A', c', rfl, hcell, hle, hCx⟩ := bhz (Kd.arz HC.out HB.out) k x hx
   have HX := Aside0.mk (c4z rows k x hx)
   have HCX := Aside0.mk (reads_C hCx)
   have HL := Aside0.mk (cQz rows (k + 1))
   rw [HX.out, List.length_append] at HL
   clear hx hCx hle
   go_wp2_with ((with_reducible refine aqz (b := .append) (xs := #[.tmp 31, .tmp 32]) rfl ?_); at_builtin; refine bHz (w0 := W) W.heap.size rfl (.tmp 31) (.tmp 32) 57 3 .i64 8 rfl Tryz.underlying57 kr_ (by decide) _ _ x A' x.length c' rfl rfl HV.out HCX.out HB.out HB.out.size ?aL ?_; (case aL => have := HL.out; omega); intro v1 w1 ho1 hb1 hg1 hat1; have HV1 := Aside0.mk ho1; have HB1 := Aside0.mk hb1; clear ho1 hb1 hg1 hat1)
   go_roundw
   case rel => exact ⟨k + 1, by omega, by go_num, ⟨by rw [HX.out]; exact HV1.out⟩, HB1⟩
   case measure => simp [intOf]; omega
  ·obtain rfl : k = rows.length := by omega
   have HF := Aside0.mk (bIz HV.out)
   rw [List.take_length] at HF
   go_wp2
   go_ret
   exact ⟨_, rfl, HF.out, HB.out⟩
set_option maxRecDepth 100000 in
set_option maxHeartbeats 1600000 in
theorem concat_b.calls (A : Option Addr) (c : Nat) (rows : List (List Int)) (W : World) (hC : Kd.C (Kd.slice 5 (Kd.int .u8)) W A rows.length rows) (hr : rows.length ≤ 1000000) (hl : rows.flatten.length ≤ 1000000) :
  Calls Tryz.prog 135 #[.slice A rows.length c] W fun e w' => ∃ v, e = .returned v ∧ Kd.R (Kd.int .u8) 5 w' W.heap.size (fun _ => True) v rows.flatten ∧ Below W.heap.size W w' := by
 have HC := Aside0.mk hC
 clear hC
 go_enter Tryz.func135, Tryz.ntmps135
 go_wp2
 go_loop [3, 11] (fun s i => ∃ k z : Nat, k ≤ rows.length ∧ s = .int .i64 (z : Int) ∧ i = .int .i64 (k : Int) ∧ Aside0 (z = (rows.take k).flatten.length)) (fun _ i => rows.length - (intOf i).toNat)
 case atStart => exact ⟨0, 0, Nat.zero_le _, rfl, rfl, ⟨rfl⟩⟩
 obtain ⟨k, z, hk, rfl, rfl, HZ⟩ := hrel
 have hz : z ≤ 1000000 := by have := cQz rows k; have := HZ.out; omega
 by_cases hlt : k < rows.length
 ·obtain ⟨x, hx⟩ : ∃ x, rows[k]? = some x := ⟨_, List.getElem?_eq_getElem hlt⟩
  obtain ⟨ad, A', c', rfl, hcell, hle, hCx⟩ := bhz HC.out k x hx
  have HZ1 := Aside0.mk (show z + x.length = (rows.take (k + 1)).flatten.length by rw [c4z rows k x hx, List.length_append, ← HZ.out])
  have hz1 : z + x.length ≤ 1000000 := by have := cQz rows (k + 1); have := HZ1.out; omega
  have hn0 : decide ((z : Int) + (x.length : Int) < 0) = false := decide_eq_false (by omega)
  have hn1 : ¬ ((z : Int) + (x.length : Int) < 0) := by omega
  clear hx hCx hle
  go_wp2
  go_round
  case rel => exact ⟨k + 1, z + x.length, by omega, by go_num, by go_num, HZ1⟩
  case measure => simp [intOf]; omega
 ·obtain rfl : k = rows.length := by omega
  clear hk hlt
  have HG := Aside0.mk (grow_b.calls z W hz)
  go_wp2_with (first | (go_at_call 169; refine HG.out.mono ?_; rintro e w1 ⟨v, rfl, hv, hB⟩))
  have HV := Aside0.mk hv
  have HB := Aside0.mk hB
  clear hv hB HG
  go_loopw [6, 27] (fun v i wr => ∃ k : Nat, k ≤ rows.length ∧ i = .int .i64 (k : Int) ∧ Aside0 (wr.ownsRow W.heap.size 5 1 v (rows.take k).flatten.length (nums .u8 (rows.take k).flatten)) ∧ Aside0 (Below W.heap.size W wr)) (fun _ i _ => rows.length - (intOf i).toNat)
  case atStart => exact ⟨0, Nat.zero_le _, rfl, HV, HB⟩
  clear HV HB
  obtain ⟨k, hk, rfl, HV, HB⟩ := hrel
  by_cases hlt : k < rows.length
  ·obtain ⟨x, hx⟩ : ∃ x, rows[k]? = some x := ⟨_, List.getElem?_eq_getElem hlt⟩
   obtain ⟨ad, A', c', rfl, hcell, hle, hCx⟩ := bhz (Kd.arz HC.out HB.out) k x hx
   have HX := Aside0.mk (c4z rows k x hx)
   have HCX := Aside0.mk (reads_C hCx)
   have HL := Aside0.mk (cQz rows (k + 1))
   rw [HX.out, List.length_append] at HL
   clear hx hCx hle
   go_wp2_with ((with_reducible refine aqz (b := .append) (xs := #[.tmp 31, .tmp 32]) rfl ?_); at_builtin; refine bHz (w0 := W) W.heap.size rfl (.tmp 31) (.tmp 32) 34 5 .u8 1 rfl Tryz.underlying34 kr_ (by decide) _ _ x A' x.length c' rfl rfl HV.out HCX.out HB.out HB.out.size ?aL ?_; (case aL => have := HL.out; omega); intro v1 w1 ho1 hb1 hg1 hat1; have HV1 := Aside0.mk ho1; have HB1 := Aside0.mk hb1; clear ho1 hb1 hg1 hat1)
   go_roundw
   case rel => exact ⟨k + 1, by omega, by go_num, ⟨by rw [HX.out]; exact HV1.out⟩, HB1⟩
   case measure => simp [intOf]; omega
  ·obtain rfl : k = rows.length := by omega
   have HF := Aside0.mk (bIz HV.out)
   rw [List.take_length] at HF
   go_wp2
   go_ret
   exact ⟨_, rfl, HF.out, HB.out⟩
set_option maxRecDepth 100000 in
set_option maxHeartbeats 1600000 in
theorem square.ok (g : Nat) (S : Nat → Prop) (wb p : Int) (A : Option Addr) (c : Nat) (rows : List (List Int)) (W : World) (hw : wb = 8 ∨ wb = 16) (hM : MayOk wb rows rows.length) (hF : Fd W g wb p S) (hC : Kd.C (Kd.slice 3 (Kd.int .i64)) W A rows.length rows) :
  Calls Tryz.prog 142 #[.pointer (some ⟨g, 0, none⟩), .slice A rows.length c] W fun e w' => e = .returned (.bool true) ∧ Below W.heap.size W w' := by
 have HM := Aside0.mk (dlz.ok g S wb p A c rows.length rows W hw hM hF hC)
 obtain ⟨r0, hr0⟩ : ∃ r, rows[0]? = some r := ⟨_, List.getElem?_eq_getElem (by have := hM.n1; omega)⟩
 obtain ⟨ad, A1, c1, rfl, hcell, hle, hC0⟩ := bhz hC 0 r0 hr0
 have l0 := (hM.each r0 (List.mem_of_getElem? hr0)).1
 rw [l0, cyz] at hcell
 have n1 : (0 : Int) < (rows.length : Int) := by have := hM.n1; omega
 generalize rows.length = nr at *
 have hself : ((nr : Int) == (nr : Int)) = true := by simp
 clear hM hF hC hr0 hC0 l0 hle
 go_enter Tryz.func142, Tryz.ntmps142
 go_wp2_with (first | (go_at_call 138; refine HM.out.mono ?_; rintro e w1 ⟨rfl, hB⟩; have hcell1 := akz hB hcell; have HB := Aside0.mk hB; clear hB))
 go_ret
 exact ⟨rfl, HB.out⟩
abbrev dM (e : Nat) (k : IntKind) : Kd (List Int) := Kd.slice e (Kd.int k)
theorem S_fresh {e t : Nat} {k : IntKind} {wr w1 : World} {B : Nat} {v u : Value} {xs : List (List Int)} {row : List Int} (HO : Kd.S (dM e k) t wr B (fun _ => True) v xs) (hb : Below wr.heap.size wr w1) (hB : B ≤ wr.heap.size) (hrow : Kd.R (Kd.int k) e w1 wr.heap.size (fun _ => True) u row) :
  Kd.S (dM e k) t w1 B (fun k' => True ∧ ¬ wr.heap.size ≤ k') v xs ∧ (dM e k).M w1 B (fun k' => wr.heap.size ≤ k') row [u] ∧ (∀ k', wr.heap.size ≤ k' → True ∧ some k' ≠ v.ownBlock) := by
 refine ⟨?_, ⟨u, rfl, ?_⟩, fun k' hk => ⟨trivial, fun e' => ?_⟩⟩
 ·have h1 := Kd.bcz HO
  exact Kd.cMz (Kd.bxz h1 (fun k' hk => ⟨trivial, by have := hk.2.2.1; omega⟩)) hb
 ·exact Kd.baz (Kd.a0z (Kd.bfz hrow) (fun k' hk => hk.2.1)) hB
 ·have h1 := (Kd.bcz HO)
  obtain ⟨f, h0, -⟩ := h1
  have := (h0 k' e'.symm).2.2.1
  omega
theorem zip_take {α β γ : Type} (f : α → β → γ) : ∀ (a : List α) (b : List β), List.zipWith f a b = List.zipWith f a (b.take a.length)
 | [], _ => by simp
 | _ :: _, [] => by simp
 | x :: a, y :: b => by simp [← zip_take f a b]
theorem C_two {e t : Nat} {k : IntKind} {W : World} {g : Nat} {A B : Option Addr} {x y : List Int} {c d : Nat} (h : W.heap[g]? = some (.cells #[.slice A x.length c, .slice B y.length d] t (0, 0))) (hx : Kd.C (Kd.int k) W A x.length x) (hc : x.length ≤ c) (hy : Kd.C (Kd.int k) W B y.length y) (hd : y.length ≤ d) :
  Kd.C (dM e k) W (some ⟨g, 0, none⟩) [x, y].length [x, y] := by
 refine ⟨rfl, by simp, fun _ => ⟨_, rfl, fun j p hp => ?_⟩⟩
 have hadd : ∀ j : Nat, (⟨g, 0, none⟩ : Addr).add (j * (dM e k).sz + 0) = ⟨g, j, none⟩ := fun j => by
  show (⟨g, 0, none⟩ : Addr).add (j * 1 + 0) = _
  unfold Addr.add
  split <;> simp_all
 match j, hp with
 | 0, hp =>
  obtain rfl : x = p := by simpa using hp
  refine ⟨[.slice A x.length c], rfl, ⟨A, c, rfl, hc, hx⟩, fun i u hu => ?_⟩
  cases i with
  | succ i => simp at hu
  | zero =>
   obtain rfl : Value.slice A x.length c = u := by simpa using hu
   rw [hadd 0, aaz h 0]; rfl
 | 1, hp =>
  obtain rfl : y = p := by simpa using hp
  refine ⟨[.slice B y.length d], rfl, ⟨B, d, rfl, hd, hy⟩, fun i u hu => ?_⟩
  cases i with
  | succ i => simp at hu
  | zero =>
   obtain rfl : Value.slice B y.length d = u := by simpa using hu
   rw [hadd 1, aaz h 1]; rfl
 | j + 2, hp => simp at hp
set_option maxRecDepth 100000 in
set_option maxHeartbeats 1600000 in
theorem beside.calls (A B : Option Addr) (c1 c2 n : Nat) (a b : List (List Int)) (W : World) (hA : Kd.C (dM 3 .i64) W A a.length a) (hB : Kd.C (dM 3 .i64) W B b.length b) (hla : a.length ≤ 1000) (hlb : a.length ≤ b.length) (hr : ∀ x, x ∈ a → x.length ≤ 1000) (hr' : ∀ x, x ∈ b → x.length ≤ 1000) :
  Calls Tryz.prog 143 #[.slice A a.length c1, .slice B b.length c2] W fun e w' => ∃ v, e = .returned v ∧ Kd.S (dM 3 .i64) 57 w' W.heap.size (fun _ => True) v (List.zipWith (· ++ ·) a b) ∧ Below W.heap.size W w' := by
 have HCA := Aside0.mk hA
 have HCB := Aside0.mk hB
 have HRA := Aside0.mk hr
 have HRB := Aside0.mk hr'
 clear hA hB hr hr'
 go_enter Tryz.func143, Tryz.ntmps143
 go_wp2
 go_loopw [5, 10] (fun v i wr => ∃ k : Nat, k ≤ a.length ∧ i = .int .i64 (k : Int) ∧ Aside0 (Kd.S (dM 3 .i64) 57 wr W.heap.size (fun _ => True) v (List.zipWith (· ++ ·) (a.take k) (b.take k))) ∧ Aside0 (Below W.heap.size W wr)) (fun _ i _ => a.length - (intOf i).toNat)
 case atStart => exact ⟨0, Nat.zero_le _, rfl, ⟨Kd.S_nil _ _ _ _ _⟩, ⟨Below.refl _ _⟩⟩
 obtain ⟨k, hk, rfl, HO, HB⟩ := hrel
 by_cases hlt : k < a.length
 ·obtain ⟨x, hx⟩ : ∃ x, a[k]? = some x := ⟨_, List.getElem?_eq_getElem hlt⟩
  obtain ⟨y, hy⟩ : ∃ y, b[k]? = some y := ⟨_, List.getElem?_eq_getElem (by omega)⟩
  obtain ⟨ad, A', c', rfl, hcell, hle, hCx⟩ := bhz (Kd.arz HCA.out HB.out) k x hx
  obtain ⟨bd, B', d', rfl, hcell2, hle2, hCy⟩ := bhz (Kd.arz HCB.out HB.out) k y hy
  have HZ := Aside0.mk (show List.zipWith (· ++ ·) (a.take (k + 1)) (b.take (k + 1)) = List.zipWith (· ++ ·) (a.take k) (b.take k) ++ [x ++ y] by
   rw [List.take_add_one, List.take_add_one, hx, hy]
   rw [List.zipWith_append (by simp; omega)]
   rfl)
  have hlz : (List.zipWith (· ++ ·) (a.take k) (b.take k)).length ≤ 1000 := by simp; omega
  have HLZ := Aside0.mk hlz
  have hblk : (wr.alloc (.cells #[.slice A' x.length c', .slice B' y.length d'] 57)).heap[wr.heap.size]? = some (.cells #[.slice A' x.length c', .slice B' y.length d'] 57 (0, 0)) := heap_alloc_new _ _
  have HC2 := Aside0.mk (C_two (e := 3) hblk (Kd.arz hCx (abz (Below.refl _ _) _)) hle (Kd.arz hCy (abz (Below.refl _ _) _)) hle2)
  have HCC := Aside0.mk (concat_i.calls (some ⟨wr.heap.size, 0, none⟩) 2 [x, y] _ HC2.out (by simp) (by have := HRA.out x (List.mem_of_getElem? hx); have := HRB.out y (List.mem_of_getElem? hy); simp; omega))
  have hltb : k < b.length := by omega
  clear hx hy hCx hCy hle hle2 hblk hlz
  go_wp2_with fail
  refine HCC.out.mono ?_
  rintro e w1 ⟨u, rfl, hu, hb1⟩
  rw [show [x, y].flatten = x ++ y by simp] at hu
  obtain ⟨ua, uc, rfl⟩ := Kd.aWz hu
  generalize (x ++ y).length = nn at hu ⊢
  have hsf := S_fresh (Kd.cNz HO.out (.cells #[.slice A' x.length c', .slice B' y.length d'] 57)) hb1 (Nat.le_trans HB.out.size (by simp)) hu
  have HS1 := Aside0.mk hsf.1
  have HM1 := Aside0.mk hsf.2.1
  have HOK := Aside0.mk hsf.2.2
  have HB1 := Aside0.mk (HB.out.trans ((b8z (abz (Below.refl _ _) _) hb1).mono HB.out.size))
  have HSZ := Aside0.mk hb1.size
  clear hu hb1 hsf
  go_wp2_with ((with_reducible refine aqz (b := .append) (xs := #[.tmp 15, .tmp 23]) rfl ?_); go_must (at_builtin; refine Kd.bAz (dM 3 .i64) (w0 := W) W.heap.size rfl (.tmp 15) (.tmp 23) 69 57 (.slice none 0 0) 24 rfl Tryz.underlying69 kr_ rfl (by decide) (by decide) _ _ (x ++ y) [.slice ua nn uc] (fun _ => True) (fun k' => (wr.alloc (.cells #[.slice A' x.length c', .slice B' y.length d'] 57)).heap.size ≤ k') rfl rfl HM1.out HOK.out (fun _ _ => trivial) HS1.out HB1.out HB1.out.size ?aL ?_; (case aL => have := HLZ.out; omega)); intro v2 w2 ho2 hb2 hg2 hat2; have HO2 := Aside0.mk ho2; have HB2 := Aside0.mk hb2; clear ho2 hb2 hg2 hat2)
  go_roundw
  case rel => exact ⟨k + 1, by omega, by go_num, ⟨by rw [HZ.out]; exact HO2.out⟩, HB2⟩
  case measure => simp [intOf]; omega
 ·obtain rfl : k = a.length := by omega
  have HF := Aside0.mk HO.out
  rw [List.take_length] at HF
  go_wp2
  go_ret
  refine ⟨_, rfl, ?_, HB.out⟩
  rw [zip_take]
  exact HF.out
def dotF (wb : Int) : List Int → List Int → Int → Int
 | x :: a, y :: b, s => dotF wb a b (Go.bits .xor .i64 s (gmul wb x y))
 | _, _, s => s
theorem dotF_drop (wb : Int) (a b : List Int) (s : Int) (k : Nat) (x y : Int) (hx : a[k]? = some x) (hy : b[k]? = some y) : dotF wb (a.drop k) (b.drop k) s = dotF wb (a.drop (k + 1)) (b.drop (k + 1)) (Go.bits .xor .i64 s (gmul wb x y)) := by
 obtain ⟨h1, rfl⟩ := List.getElem?_eq_some_iff.1 hx
 obtain ⟨h2, rfl⟩ := List.getElem?_eq_some_iff.1 hy
 rw [List.drop_eq_getElem_cons h1, List.drop_eq_getElem_cons h2, dotF]
theorem dotF_end (wb : Int) (a b : List Int) (s : Int) : dotF wb (a.drop a.length) b s = s := by
 rw [List.drop_length]; cases b <;> rfl
abbrev NotG (g : Nat) : Nat → Prop := fun k => k ≠ g
theorem F_bb {α : Type} {d : Kd α} {W W1 : World} {g : Nat} {A : Option Addr} {n : Nat} {xs : List α} (h : Kd.F d W (NotG g) A n xs) (hb : BB W W1 g) : Kd.F d W1 (NotG g) A n xs := Kd.F_keep h hb.keep (fun _ hk => hk)
set_option maxRecDepth 100000 in
set_option maxHeartbeats 1600000 in
theorem matrix_dot.calls (g : Nat) (S : Nat → Prop) (wb : Int) (A B : Option Addr) (ca cb : Nat) (a b : List Int) (W : World) (hw : wb = 8 ∨ wb = 16) (hF : Fd W g wb (fpoly wb) S) (hS : ∀ k, S k → k < W.heap.size) (hla : a.length ≤ 1000) (hlb : a.length ≤ b.length)
  (ha : Kd.F (Kd.int .i64) W (NotG g) A a.length a) (hb : Kd.F (Kd.int .i64) W (NotG g) B b.length b) :
  Calls Tryz.prog 185 #[.pointer (some ⟨g, 0, none⟩), .slice A a.length ca, .slice B b.length cb] W fun e w' => e = .returned (.int .i64 (dotF wb a b 0)) ∧ Fd w' g wb (fpoly wb) S ∧ BB W w' g := by
 have HF := Aside0.mk hF
 have HS := Aside0.mk hS
 have HW := Aside0.mk hw
 have HA := Aside0.mk ha
 have HB := Aside0.mk hb
 obtain ⟨R, hR⟩ : ∃ R, dotF wb a b 0 = R := ⟨_, rfl⟩
 rw [hR]
 have HR := Aside0.mk (show dotF wb (a.drop 0) (b.drop 0) 0 = R from hR)
 clear hF hS hw ha hb hR
 go_enter Tryz.func185, Tryz.ntmps185
 go_wp2
 go_loopw [7, 12] (fun s i wr => ∃ (k : Nat) (z : Int), k ≤ a.length ∧ s = .int .i64 z ∧ i = .int .i64 k ∧ Aside0 (dotF wb (a.drop k) (b.drop k) z = R) ∧ Aside0 (Fd wr g wb (fpoly wb) S) ∧ Aside0 (BB W wr g)) (fun _ i _ => a.length - (intOf i).toNat)
 case atStart => exact ⟨0, 0, Nat.zero_le _, rfl, rfl, HR, HF, ⟨BB.refl _ _⟩⟩
 clear HR HF
 obtain ⟨k, z, hk, rfl, rfl, HR, HF, HBB⟩ := hrel
 by_cases hlt : k < a.length
 ·obtain ⟨x, hx⟩ : ∃ x, a[k]? = some x := ⟨_, List.getElem?_eq_getElem hlt⟩
  obtain ⟨y, hy⟩ : ∃ y, b[k]? = some y := ⟨_, List.getElem?_eq_getElem (by omega)⟩
  obtain ⟨ad, rfl, hc1⟩ := buz (Kd.F_now (F_bb HA.out HBB.out)) k x hx
  obtain ⟨bd, rfl, hc2⟩ := buz (Kd.F_now (F_bb HB.out HBB.out)) k y hy
  have HR1 := Aside0.mk ((dotF_drop wb a b z k x y hx hy).symm.trans HR.out)
  have hltb : k < b.length := by omega
  clear hx hy
  go_wp2_with (first | (go_at_call 103; refine (btz.calls g S wb x y _ HW.out HF.out (fun k hk => Nat.lt_of_lt_of_le (HS.out k hk) HBB.out.size)).mono ?_; rintro e w3 ⟨rfl, q1, q2⟩))
  go_roundw
  case rel => exact ⟨k + 1, _, by omega, rfl, by go_num, HR1, ⟨q1⟩, ⟨HBB.out.trans q2⟩⟩
  case measure => simp [intOf]; omega
 ·obtain rfl : k = a.length := by omega
  have HE := Aside0.mk ((dotF_end wb a (b.drop a.length) z).symm.trans HR.out)
  go_wp2
  go_ret
  refine ⟨?_, HF.out, HBB.out⟩
  rw [← HE.out]; rfl
theorem append_int_run {W : World} {base : Nat} {v : Value} {xs : List Int} (z : Int) (HO : (Kd.int .i64).R 3 W base (fun _ => True) v xs) (hb : base ≤ W.heap.size) (hl : xs.length ≤ 1000) :
  ∃ v1 w1, (Builtin.append_ #[57, 57] 57 #[v, .slice (some ⟨W.heap.size, 0, none⟩) 1 1]).run Tryz.prog (W.alloc (.cells #[.int .i64 z] 3)) = .ok v1 w1 ∧ (Kd.int .i64).R 3 w1 base (fun _ => True) v1 (xs ++ [z]) ∧ W.grownBy w1 v.ownBlock ∧ (v1.ownBlock = v.ownBlock ∨ ∃ b, v1.ownBlock = some b ∧ W.heap.size ≤ b) := by
 obtain ⟨h0, inner, hown, hr⟩ := HO
 obtain ⟨i0, hi, hz0, hz1, hz2⟩ := info_parts info3
 have hcell : (W.alloc (.cells #[.int .i64 z] 3)).heap[W.heap.size]? = some (.cells #[.int .i64 z] 3 (0, 0)) := heap_alloc_new _ _
 obtain ⟨v1, w1, hrun, h1, h2, -, h4⟩ := run_append_own_at (P := Tryz.prog) (w := W.alloc (.cells #[.int .i64 z] 3)) base 57 57 3 i0 (.int .i64 0) 1 8 Tryz.underlying57 hi hz0 hz1 hz2 rfl (by decide) v xs.length inner (dwz hown (abz (Below.refl _ _) _)) ⟨W.heap.size, 0, none⟩ 1 1 [.int .i64 z] rfl
  (fun j u hu => by
   cases j with
   | succ j => simp at hu
   | zero =>
    obtain rfl : Value.int .i64 z = u := by simpa using hu
    exact (aaz hcell 0).trans rfl) (by simp [Value.oneCell']) (by unfold maxLen; omega) (by omega) (by simp; omega)
 have hgW : W.grownBy w1 v.ownBlock := (World.grownBy_alloc W _ _).trans h2
 have hat : v1.ownBlock = v.ownBlock ∨ ∃ b, v1.ownBlock = some b ∧ W.heap.size ≤ b := by
  rcases h4 with h4 | h4
  ·exact .inl h4
  ·exact .inr ⟨_, h4, by simp⟩
 exact ⟨v1, w1, hrun, Kd.R_appended h0 hr (okp := fun _ => False) (show (Kd.int .i64).M W base (fun _ => False) z [.int .i64 z] from rfl) (fun _ h => h.elim) (fun _ _ => trivial) h1 hgW hat, hgW, hat⟩
theorem R_noncells {X Y : World} {row : Option Nat} {base : Nat} {ok : Nat → Prop} {v : Value} {xs : List Int} {e : Nat} (h : (Kd.int .i64).R e X base ok v xs) (hg : X.grownBy Y row) (hr : ∀ r, row = some r → ∃ o : Obj, X.heap[r]? = some o ∧ o.isCells = false) : (Kd.int .i64).R e Y base ok v xs := by
 refine Kd.a0z (Kd.bMz (Kd.bfz h) (fun k hk => ?_)) (fun k hk => hk.1)
 obtain ⟨-, -, hlt, q, -, cells, hc⟩ := hk
 exact grownBy_keeps_cells hg hr hc rfl
theorem Fd_noncells {X Y : World} {row : Option Nat} {g : Nat} {wb p : Int} {S : Nat → Prop} (h : Fd X g wb p S) (hg : X.grownBy Y row) (hr : ∀ r, row = some r → ∃ o : Obj, X.heap[r]? = some o ∧ o.isCells = false) : Fd Y g wb p S := by
 obtain ⟨h1, h2 | ⟨h8, hp, a, b, h3, ha, hb, na, nb⟩⟩ := h
 ·exact ⟨h1, .inl ((grownBy_keeps_cells hg hr h2 rfl).trans h2)⟩
 ·exact ⟨h1, .inr ⟨h8, hp, a, b, (grownBy_keeps_cells hg hr h3 rfl).trans h3, (grownBy_keeps_cells hg hr ha rfl).trans ha, (grownBy_keeps_cells hg hr hb rfl).trans hb, na, nb⟩⟩
theorem row_atF {α : Type} {d : Kd α} {e : Nat} {W : World} {ok : Nat → Prop} {ad : Addr} {rows : List (List α)} (h : Kd.F (Kd.slice e d) W ok (some ad) rows.length rows) (k : Nat) (x : List α) (hx : rows[k]? = some x) :
  ∃ A' c', W.cell? (ad.add k) = some (.slice A' x.length c') ∧ x.length ≤ c' ∧ Kd.F d W ok A' x.length x := by
 have hlt := (List.getElem?_eq_some_iff.1 hx).1
 obtain ⟨ad', c, hA, hl, hK, hc, -⟩ := Kd.F_get h ([] : List α) (k : Int) (by omega) (by omega)
 obtain rfl : ad = ad' := Option.some.inj hA
 rw [Int.toNat_natCast, List.getD_eq_getElem?_getD, hx] at hK
 obtain ⟨A', c', rfl, hle, hF⟩ := Kd.FK_slice_open hK
 refine ⟨A', c', ?_, hle, hF⟩
 have := hc 0 _ rfl
 simpa [Kd.slice] using this
theorem cWz {P : Program} {fn : Func} {tmps : Array Value} {R : Ending → World → Prop} {n : Nat} : ∀ (Ds : List Nat) (w : World), Ds.Nodup → (∀ D, D ∈ Ds → w.heap[D]? = some (.deferred (some []))) →
  (∀ w', (∀ k, k < w.heap.size → k ∉ Ds → w'.heap[k]? = w.heap[k]?) → w'.heap.size = w.heap.size → w'.os = w.os → w'.tape = w.tape → w'.output = w.output → LeavesInM Fence.wide n P fn tmps R [] .returning w') →
  LeavesInM Fence.wide n P fn tmps R (Ds.map fun D => { target := .collected D, args := #[] }) .returning w
 | [], w, _, _, h => h w (fun _ _ _ => rfl) rfl rfl rfl rfl
 | D :: Ds, w, hn, hd, h => by
  have h1 := hd D (List.mem_cons_self ..)
  have hlt := (Array.getElem?_eq_some_iff.1 h1).1
  refine ⟨by simp, .inl ⟨D, _, rfl, run_takeDeferred h1, ?_⟩⟩
  have hn' := List.nodup_cons.1 hn
  refine cWz Ds _ hn'.2 (fun D' hD' => (World.putObj_heap_other (fun e => hn'.1 (by rw [← e]; exact hD'))).trans (hd D' (List.mem_cons_of_mem _ hD'))) (fun w' hk hs h3 h4 h5 => ?_)
  have hsz : (w.putObj D (.deferred none)).heap.size = w.heap.size := by simp [World.putObj]
  exact h w' (fun k hk1 hk2 => (hk k (by rw [hsz]; exact hk1) (fun e => hk2 (List.mem_cons_of_mem _ e))).trans (World.putObj_heap_other (fun e => hk2 (by simp [e])))) (hs.trans hsz) (h3.trans rfl) (h4.trans rfl) (h5.trans rfl)
theorem Fd.cells {W : World} {g : Nat} {wb p : Int} {S : Nat → Prop} (h : Fd W g wb p S) : ∃ cs, W.heap[g]? = some (.cells cs 172 (0, 0)) := by
 obtain ⟨-, h | ⟨-, -, a, b, h, -⟩⟩ := h
 ·exact ⟨_, h⟩
 ·exact ⟨_, h⟩
theorem Fd.grow {X Y : World} {g : Nat} {wb p : Int} {S : Nat → Prop} {row : Option Nat} (h : Fd X g wb p S) (hr : ∀ k, row = some k → S k) (hg : X.grownBy Y row) : Fd Y g wb p (fun k => S k ∨ X.heap.size ≤ k) :=
 h.more.move (fun k hk hlt => hg.block k hlt (fun e => hk (.inl (hr k e.symm))))
theorem F_block {W : World} {g c t : Nat} {cs : Array Value} {xs : List Int} (hg : W.heap[g]? = some (.cells cs t (0, 0))) (ht : 3 ≠ t) (hc : W.heap[c]? = some (.cells (nums .i64 xs).toArray 3 (0, 0))) (hl : xs.length ≤ 1000) : Kd.F (Kd.int .i64) W (NotG g) (some ⟨c, 0, none⟩) xs.length xs := by
 have hne : c ≠ g := by
  rintro rfl
  rw [hc] at hg
  injection hg with hg
  injection hg with _ hg
  exact ht hg
 intro W' hW
 have hc' := (hW c hne (apz hc)).trans hc
 refine ⟨rfl, by omega, fun _ => ⟨_, rfl, fun j x hx => ⟨[.int .i64 x], rfl, rfl, fun i' u hu => ?_⟩⟩⟩
 cases i' with
 | succ i' => simp at hu
 | zero =>
  obtain rfl : Value.int .i64 x = u := by simpa using hu
  have e : (⟨c, 0, none⟩ : Addr).add (j * (Kd.int .i64).sz + 0) = ⟨c, j, none⟩ := by
   show (⟨c, 0, none⟩ : Addr).add (j * 1 + 0) = _
   unfold Addr.add; split <;> simp_all
  rw [e, aaz hc' _]
  simp [nums, hx]
theorem Fd_keepC {X Y : World} {g : Nat} {wb p : Int} {S : Nat → Prop} (h : Fd X g wb p S) (hm : ∀ (k : Nat) (o : Obj), X.heap[k]? = some o → o.isCells = true → Y.heap[k]? = X.heap[k]?) : Fd Y g wb p S := by
 obtain ⟨h1, h2 | ⟨h8, hp, a, b, h3, ha, hb, na, nb⟩⟩ := h
 ·exact ⟨h1, .inl ((hm _ _ h2 rfl).trans h2)⟩
 ·exact ⟨h1, .inr ⟨h8, hp, a, b, (hm _ _ h3 rfl).trans h3, (hm _ _ ha rfl).trans ha, (hm _ _ hb rfl).trans hb, na, nb⟩⟩
theorem S_keepC {X Y : World} {base : Nat} {ok : Nat → Prop} {v : Value} {xs : List (List Int)} {e t : Nat} (h : Kd.S (dM e .i64) t X base ok v xs) (hm : ∀ (k : Nat) (o : Obj), X.heap[k]? = some o → o.isCells = true → Y.heap[k]? = X.heap[k]?) : Kd.S (dM e .i64) t Y base ok v xs := by
 refine Kd.bxz (Kd.S_move (Kd.bcz h) (fun k hk => ?_)) (fun k hk => hk.1)
 obtain ⟨-, -, hlt, q, -, cells, hc⟩ := hk
 exact hm _ _ hc rfl
end Go.Proofs.YtpdakdcmahlghaaGreat.XCo
end
