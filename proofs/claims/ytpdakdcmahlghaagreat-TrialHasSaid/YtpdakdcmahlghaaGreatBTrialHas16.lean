-- Joined by this work's own program (wip/tools/bundle.py) out of its texts: what this claim uses of them. Not trusted: Lean checks it.
import Derived.Test.YtpdakdcmahlghaaGreatBTrialHas15
section
namespace Go.Proofs.YtpdakdcmahlghaaGreat.XCo
open Go.RowKit Go.Proofs.YtpdakdcmahlghaaGreatW.PrintWords Go.Proofs.YtpdakdcmahlghaaGreatW.PrintLast Go.Proofs.YtpdakdcmahlghaaGreatW.PrintMore
attribute [local go_sem] azz aAz aJz aKz avz awz aBz aCz
set_option linter.unusedVariables false
set_option linter.unusedSimpArgs false
def afz.l0 : Nat → Bool → List (List Int) → Int → List Int → Int → Int → Int → Int → Option (Bool)
 | 0, _, _, _, _, _, _, _, _ => none
 | k + 1, x5, x7, x8, x9, x10, x182000, x182001, x182002 => if x10 < (x9.length : Int) then (if 0 ≤ x10 then ((agz.f (rd x9 x10) x182001 x182002).bind fun t192 => (if t192 = true then ((aLz.f k (rd x9 x10) x182001 x182002 x7).bind fun t193 => (if t193 = true then (if x10 > 0 then (if 0 ≤ (wrap64 (x10 - 1)) then (if (wrap64 (x10 - 1)) < (x9.length : Int) then (if (rd x9 (wrap64 (x10 - 1))) ≥ (rd x9 x10) then (some false) else (afz.l0 k x5 x7 x8 x9 (wrap64 (x10 + 1)) x182000 x182001 x182002)) else (none)) else (none)) else (afz.l0 k x5 x7 x8 x9 (wrap64 (x10 + 1)) x182000 x182001 x182002)) else (some false))) else (some false))) else (none)) else (if x5 = true then (if x8 = 0 then ((aIz.f k x9 x182000).bind fun t189 => (some t189)) else (some false)) else (some false))
def afz.f (k : Nat) (a0_0 : Int) (a0_1 : Int) (a0_2 : Int) (l1 : List Int) : Option (Bool) := (bgz.f k).bind fun t177 => (if (l1.length : Int) > 300 then (some t177) else ((bdz.f a0_0 a0_1 a0_2).bind fun bt178 => ((bjz.f k bt178.1 bt178.2.1 bt178.2.2 l1).bind fun bt182 => ((aEz.f k bt182.1 bt178.2.1).bind fun t186 => (afz.l0 k t177 bt182.1 bt182.2 t186 0 bt178.1 bt178.2.1 bt178.2.2)))))
def afz.T10 : Bool × List (List Nat × List Nat) := (true, [([], []), ([], []), ([0, 1], [0, 1]), ([2], [2]), ([], []), ([4], [4]), ([], []), ([6], [6]), ([3, 5, 7], [3, 5, 7]), ([], []), ([9, 8, 0, 1, 2, 3, 4, 5, 6, 7, 8, 9], [8, 9])])
def afz.B10 : List Nat := [0, 0, 3, 7, 0, 16, 0, 64, 255, 0, 1023]
theorem afz.tab10 : rtab .any (opsOf Tryz.f9 10) = afz.T10 := by kernel_rfl
theorem afz.bits10 : waitsOk afz.T10.2 afz.B10 = true := by kernel_rfl
def afz.T11 : Bool × List (List Nat × List Nat) := (true, [([], []), ([0], [0]), ([1], [1]), ([2, 1], [2]), ([3], [3]), ([3], [3]), ([4, 5, 3, 3], [3, 4, 5]), ([6, 3], [3, 6]), ([3, 7], [3, 7]), ([8, 6], [8]), ([9], [9]), ([10, 9], [9, 10]), ([11, 9, 9], [9, 11]), ([12], [12]), ([12], [12]), ([14, 12], [12, 14]), ([13, 15, 12], [12, 13, 15]), ([16, 12], [12, 16]), ([12], [12]), ([12], [12]), ([18, 19, 12], [12, 18, 19]), ([20, 12], [12, 20]), ([17, 21, 12], [12, 17, 21]), ([12, 22, 9], [9, 12, 22]), ([9, 23], [9, 23])])
def afz.B11 : List Nat := [0, 1, 3, 7, 15, 15, 63, 127, 255, 511, 1023, 2047, 4095, 8191, 8191, 24575, 65535, 131071, 8191, 8191, 794623, 1843199, 4194303, 8388607, 16777215]
theorem afz.tab11 : rtab .any (opsOf Tryz.f9 11) = afz.T11 := by kernel_rfl
theorem afz.bits11 : waitsOk afz.T11.2 afz.B11 = true := by kernel_rfl
set_option maxHeartbeats 8000000 in
set_option maxRecDepth 100000 in
theorem afz.calls (k : Nat) (a0_0 : Int) (a0_1 : Int) (a0_2 : Int) (A1 : Option Addr) (c1 : Nat) (l1 : List Int) (r : Bool) (w : World) (hr_ : Aside0 (r = true)) (hr1 : Kd.C (Kd.int .u8) w A1 l1.length l1) (hc1 : l1.length ≤ c1) (h : afz.f k a0_0 a0_1 a0_2 l1 = some r) :
  Calls Tryz.prog 9 #[.agg #[.int .u8 a0_0, .int .u8 a0_1, .int .u8 a0_2], .slice A1 l1.length c1] w fun e w' => e = .returned (.bool r) ∧ Below w.heap.size w w' := by
 have hu42 := Tryz.underlying42
 have hu23 := Tryz.underlying23
 have HR1 := Aside0.mk hr1
 have HC1 := Aside0.mk hc1
 clear hr1 hc1
 have HB := Aside0.mk (Below.refl w.heap.size w)
 have H := h
 clear h
 unfold afz.f at H
 obtain ⟨t177, A3, H⟩ := ob_ H
 (try dsimp only at H)
 by_cases c4 : (l1.length : Int) > 300
 ·rw [if_pos c4] at H
  have c4b0 : decide (300 < (l1.length : Int)) = true := decide_eq_true c4
  have c4b1 : decide (300 < l1.length) = true := decide_eq_true (by omega)
  clear c4
  obtain rfl := Option.some.inj H
  go_enter Tryz.func9, Tryz.ntmps9
  go_wp2_with (first | ((with_reducible refine apz (N := 2) rfl ?_); refine bx_ 2 #[.int .u8 a0_0, .int .u8 a0_1, .int .u8 a0_2] 42 ?_; intro gb176 hg w5 hbox hb; have n_ := And.intro (hs_ HB hb) (And.intro (Aside0.mk (hbox)) (And.intro (ag_ HB gb176) (ag_ HB gb176))); clear HB; obtain ⟨HB, BK176, GW176, GE176⟩ := n_; clear hb hbox hg) | ((with_reducible refine ahz (f := 35) rfl ?_); refine gl_ (some 12) Tryz.func35 #[] ?_; (with_reducible refine (bgz.calls k  t177 _ A3.out).mono ?_); rintro e w6 ⟨rfl, hb⟩; refine ⟨_, rfl, ?_⟩; have n_ := And.intro (bb_ BK176 hb) (hs_ HB hb); clear BK176 HB; obtain ⟨BK176, HB⟩ := n_; (try clear hb)))
  go_ret
  exact ⟨er_, bl_⟩
 ·rw [if_neg c4] at H
  have c4b0 : decide (300 < (l1.length : Int)) = false := decide_eq_false c4
  have c4b1 : decide (300 < l1.length) = false := decide_eq_false (by omega)
  clear c4
  obtain ⟨⟨t178, t179, t180⟩, A7, H⟩ := ob_ H
  (try dsimp only at H)
  obtain ⟨⟨t182, t185⟩, A8, H⟩ := ob_ H
  (try dsimp only at H)
  obtain ⟨t186, A9, H⟩ := ob_ H
  (try dsimp only at H)
  have H' := Aside0.mk H
  clear H
  go_enter Tryz.func9, Tryz.ntmps9
  go_wp2_with (first | ((with_reducible refine apz (N := 2) rfl ?_); refine bx_ 2 #[.int .u8 a0_0, .int .u8 a0_1, .int .u8 a0_2] 42 ?_; intro gb176 hg w10 hbox hb; have n_ := And.intro (hs_ HB hb) (And.intro (Aside0.mk (hbox)) (And.intro (ag_ HB gb176) (ag_ HB gb176))); clear HB; obtain ⟨HB, BK176, GW176, GE176⟩ := n_; clear hb hbox hg) | ((with_reducible refine ahz (f := 35) rfl ?_); refine gl_ (some 12) Tryz.func35 #[] ?_; (with_reducible refine (bgz.calls k  t177 _ A3.out).mono ?_); rintro e w11 ⟨rfl, hb⟩; refine ⟨_, rfl, ?_⟩; have n_ := And.intro (bb_ BK176 hb) (hs_ HB hb); clear BK176 HB; obtain ⟨BK176, HB⟩ := n_; (try clear hb); obtain ⟨hcz12_0, hfz12_0, hcz12_1, hfz12_1, hcz12_2, hfz12_2⟩ := bc3_ BK176.out) | ((with_reducible refine ahz (f := 31) rfl ?_); refine gl_ (some 18) Tryz.func31 #[.agg #[.int .u8 a0_0, .int .u8 a0_1, .int .u8 a0_2]] ?_; (with_reducible refine (bdz.calls a0_0 a0_1 a0_2 t178 t179 t180 _ A7.out).mono ?_); rintro e w13 ⟨rfl, hb⟩; refine ⟨_, rfl, ?_⟩; have n_ := And.intro (bb_ BK176 hb) (hs_ HB hb); clear BK176 HB; obtain ⟨BK176, HB⟩ := n_; (try clear hb)) | ((with_reducible refine apz (N := 6) rfl ?_); refine bx_ 6 #[.int .i64 0, .int .i64 0, .int .i64 0] 23 ?_; intro gb181 hg w14 hbox hb; have n_ := And.intro (bb_ BK176 hb) (And.intro (hs_ HB hb) (And.intro (Aside0.mk (hbox)) (And.intro (ag_ HB gb181) (And.intro (ag_ HB gb181) (And.intro (n1_ BK176 gb181) (n2_ BK176 gb181)))))); clear BK176 HB; obtain ⟨BK176, HB, BK181, GW181, GE181, NB176_181, NB181_176⟩ := n_; clear hb hbox hg; have hnb15 := NB181_176.out; have hnc15 := NB176_181.out; obtain ⟨hcz16_0, hfz16_0, hcz16_1, hfz16_1, hcz16_2, hfz16_2⟩ := bc3_ BK181.out) | ((with_reducible refine ahz (f := 24) rfl ?_); refine gl_ (some 22) Tryz.func24 #[.agg #[.int .i64 t178, .int .i64 t179, .int .i64 t180], .slice A1 l1.length c1] ?_; (with_reducible refine (bjz.calls k t178 t179 t180 _ _ l1 t182 t185 _ (Kd.aFz HR1.out bl_) (HC1.out) A8.out).mono ?_); rintro e w17 ⟨v183, rfl, ho0, hb⟩; refine ⟨_, rfl, ?_⟩; have n_ := And.intro (Aside0.mk (Kd.N_lower (Kd.bLz (ok' := fun k_ => k_ ≠ gb176 ∧ k_ ≠ gb181) ho0 (fun k_ hk_ => ⟨(Kd.freshB (g := gb176) (o := .cells #[.int .u8 a0_0, .int .u8 a0_1, .int .u8 a0_2] 42 (0, 0)) (by (with_reducible repeat (first | refine acz ?_ _ | refine adz ?_ | refine abz ?_ _)); refine ajz ?_ NB176_181.out _; (with_reducible repeat (first | refine acz ?_ _ | refine adz ?_ | refine abz ?_ _)); refine ajz ?_ NB176_181.out _; (with_reducible repeat (first | refine acz ?_ _ | refine adz ?_ | refine abz ?_ _)); refine ajz ?_ NB176_181.out _; (with_reducible repeat (first | refine acz ?_ _ | refine adz ?_ | refine abz ?_ _)); exact BK176.out) k_ hk_), (Kd.freshB (g := gb181) (o := .cells #[.int .i64 t178, .int .i64 t179, .int .i64 t180] 23 (0, 0)) (by (with_reducible repeat (first | refine acz ?_ _ | refine adz ?_ | refine abz ?_ _)); refine akz (cs := #[.int .i64 t178, .int .i64 t179, .int .i64 0]) ?_ 2 _ rfl; (with_reducible repeat (first | refine acz ?_ _ | refine adz ?_ | refine abz ?_ _)); refine akz (cs := #[.int .i64 t178, .int .i64 0, .int .i64 0]) ?_ 1 _ rfl; (with_reducible repeat (first | refine acz ?_ _ | refine adz ?_ | refine abz ?_ _)); refine akz (cs := #[.int .i64 0, .int .i64 0, .int .i64 0]) ?_ 0 _ rfl; (with_reducible repeat (first | refine acz ?_ _ | refine adz ?_ | refine abz ?_ _)); exact BK181.out) k_ hk_)⟩)) (aRz bl_))) (And.intro (Aside0.mk (aiz (g := gb176) (o := .cells #[.int .u8 a0_0, .int .u8 a0_1, .int .u8 a0_2] 42 (0, 0)) (by (with_reducible repeat (first | refine acz ?_ _ | refine adz ?_ | refine abz ?_ _)); refine ajz ?_ NB176_181.out _; (with_reducible repeat (first | refine acz ?_ _ | refine adz ?_ | refine abz ?_ _)); refine ajz ?_ NB176_181.out _; (with_reducible repeat (first | refine acz ?_ _ | refine adz ?_ | refine abz ?_ _)); refine ajz ?_ NB176_181.out _; (with_reducible repeat (first | refine acz ?_ _ | refine adz ?_ | refine abz ?_ _)); exact BK176.out) hb)) (And.intro (Aside0.mk (aiz (g := gb181) (o := .cells #[.int .i64 t178, .int .i64 t179, .int .i64 t180] 23 (0, 0)) (by (with_reducible repeat (first | refine acz ?_ _ | refine adz ?_ | refine abz ?_ _)); refine akz (cs := #[.int .i64 t178, .int .i64 t179, .int .i64 0]) ?_ 2 _ rfl; (with_reducible repeat (first | refine acz ?_ _ | refine adz ?_ | refine abz ?_ _)); refine akz (cs := #[.int .i64 t178, .int .i64 0, .int .i64 0]) ?_ 1 _ rfl; (with_reducible repeat (first | refine acz ?_ _ | refine adz ?_ | refine abz ?_ _)); refine akz (cs := #[.int .i64 0, .int .i64 0, .int .i64 0]) ?_ 0 _ rfl; (with_reducible repeat (first | refine acz ?_ _ | refine adz ?_ | refine abz ?_ _)); exact BK181.out) hb)) (hs_ HB hb))); clear BK176 BK181 HB; obtain ⟨HO184, BK176, BK181, HB⟩ := n_; clear hb ho0; obtain ⟨hcz18_0, hfz18_0, hcz18_1, hfz18_1, hcz18_2, hfz18_2⟩ := bc3_ BK181.out; obtain ⟨Ao19, co19, eo19⟩ := Kd.N_slice HO184.out; subst eo19) | ((with_reducible refine ahz (f := 39) rfl ?_); refine gl_ (some 28) Tryz.func39 #[.slice Ao19 t182.length co19, .int .i64 t179] ?_; (with_reducible refine (aEz.calls k _ _ t182 t179 t186 _ (xd_ (Kd.bIz HO184.out).2.2) ((Kd.bIz HO184.out).2.1) A9.out).mono ?_); rintro e w20 ⟨v187, rfl, ho0, hb⟩; refine ⟨_, rfl, ?_⟩; have n_ := And.intro (Aside0.mk (Kd.N_elder' (xd_ HO184.out) (Kd.cez ho0) hb)) (And.intro (Aside0.mk (Kd.bbz ho0 (aRz bl_))) (And.intro (bb_ BK176 hb) (And.intro (bb_ BK181 hb) (hs_ HB hb)))); clear HO184 BK176 BK181 HB; obtain ⟨HO184, HO188, BK176, BK181, HB⟩ := n_; clear hb ho0))
  go_loopg [10] k (fun kq v10 w' => ∃ (x10_1 : Int), v10 = .int .i64 x10_1 ∧ Aside0 (afz.l0 kq t177 t182 t185 t186 x10_1 t178 t179 t180 = some r) ∧ Aside0 (kq ≤ k) ∧ Aside0 (Kd.N (Kd.slice 5 (Kd.int .u8)) 34 w' w.heap.size (fun k_ => some k_ ≠ (v187 : Value).ownBlock ∧ k_ ≠ gb176 ∧ k_ ≠ gb181) (.slice Ao19 t182.length co19) t182) ∧ Aside0 (Kd.R (Kd.int .i64) 3 w' w.heap.size (fun _ => True) v187 t186) ∧ Aside0 (w'.heap[gb176]? = some (.cells #[.int .u8 a0_0, .int .u8 a0_1, .int .u8 a0_2] 42 (0, 0))) ∧ Aside0 (w'.heap[gb181]? = some (.cells #[.int .i64 t178, .int .i64 t179, .int .i64 t180] 23 (0, 0))) ∧ Aside0 (Below w.heap.size w w'))
  case atStart => exact ⟨(0), sd_, H', ⟨Nat.le_refl _⟩, ⟨nm_ HO184⟩, ⟨xd_ HO188.out⟩, ⟨bk_⟩, ⟨bk_⟩, ⟨bl_⟩⟩
  clear H'
  try clear c1
  try clear c2
  try clear p2
  try clear c3
  try clear c4
  try clear c4b0
  try clear c4b1
  try clear c9
  try clear c15
  try clear hcz12_0
  try clear hcz12_1
  try clear hcz12_2
  try clear hcz16_0
  try clear hcz16_1
  try clear hcz16_2
  try clear hcz18_0
  try clear hcz18_1
  try clear hcz18_2
  try clear hfz12_0
  try clear hfz12_1
  try clear hfz12_2
  try clear hfz16_0
  try clear hfz16_1
  try clear hfz16_2
  try clear hfz18_0
  try clear hfz18_1
  try clear hfz18_2
  obtain ⟨x10_1, rfl, HA, HK1, HO_7, HO_9, BK176, BK181, HB⟩ := hrel
  rcases gk with _ | k1
  ·exact absurd HA.out (by simp [afz.l0])
  have H := HA.out
  clear HA
  simp only [afz.l0] at H
  by_cases c21 : x10_1 < (t186.length : Int)
  rotate_left
  ·rw [if_neg c21] at H
   have c21b0 := decide_eq_false c21
   clear c21
   by_cases c52 : t177 = true
   rotate_left
   ·replace c52 := Bool.eq_false_iff.mpr c52
    subst c52
    rw [if_neg (show ¬ (false = true) by decide)] at H
    exact absurd ((Option.some.inj H).trans hr_.out) (by simp)
   subst c52
   rw [if_pos rfl] at H
   by_cases c53 : t185 = 0
   rotate_left
   ·rw [if_neg c53] at H
    have c53b0 : (t185 == 0) = false := beq_eq_false_iff_ne.mpr c53
    have c53b1 : (t185 != 0) = true := bne_iff_ne.mpr c53
    exact absurd ((Option.some.inj H).trans hr_.out) (by simp)
   rw [if_pos c53] at H
   have c53b0 : (t185 == 0) = true := beq_iff_eq.mpr c53
   have c53b1 : (t185 != 0) = false := bne_eq_false_iff_eq.mpr c53
   clear c53
   obtain ⟨t189, A54, H⟩ := ob_ H
   (try dsimp only at H)
   obtain rfl := Option.some.inj H
   obtain ⟨Ao55, co55, eo55⟩ := Kd.aXz HO_9.out
   subst eo55
   have hnb56 := NB181_176.out
   have hnc56 := NB176_181.out
   obtain ⟨hcz57_0, hfz57_0, hcz57_1, hfz57_1, hcz57_2, hfz57_2⟩ := bc3_ BK181.out
   go_wp2_with (first | (go_at_call 42; (with_reducible refine (aIz.calls k1 _ _ t186 t178 t189 _ (xd_ (Kd.aPz HO_9.out).2.2) ((Kd.aPz HO_9.out).2.1) A54.out).mono ?_); rintro e w' ⟨rfl, ⟨nd, rfl⟩⟩))
   go_ret
   exact ⟨er_, bl_⟩
  rw [if_pos c21] at H
  have c21b0 := decide_eq_true c21
  clear c21
  by_cases c22 : 0 ≤ x10_1
  rotate_left
  ·rw [if_neg c22] at H
   exact absurd H (by simp)
  rw [if_pos c22] at H
  have c22b0 := decide_eq_true c22
  clear c22
  obtain ⟨t192, A23, H⟩ := ob_ H
  (try dsimp only at H)
  by_cases c24 : t192 = true
  rotate_left
  ·replace c24 := Bool.eq_false_iff.mpr c24
   subst c24
   rw [if_neg (show ¬ (false = true) by decide)] at H
   exact absurd ((Option.some.inj H).trans hr_.out) (by simp)
  subst c24
  rw [if_pos rfl] at H
  obtain ⟨t193, A25, H⟩ := ob_ H
  (try dsimp only at H)
  by_cases c26 : t193 = true
  rotate_left
  ·replace c26 := Bool.eq_false_iff.mpr c26
   subst c26
   rw [if_neg (show ¬ (false = true) by decide)] at H
   exact absurd ((Option.some.inj H).trans hr_.out) (by simp)
  subst c26
  rw [if_pos rfl] at H
  by_cases c27 : x10_1 > 0
  rotate_left
  ·rw [if_neg c27] at H
   have c27b0 : decide (0 < x10_1) = false := decide_eq_false c27
   clear c27
   have H' := Aside0.mk H
   clear H
   obtain ⟨Ao42, co42, eo42⟩ := Kd.aXz HO_9.out
   subst eo42
   try go_wp2
   have n_ := And.intro (Aside0.mk (Kd.cGz HO_7.out)) (And.intro (Aside0.mk (Kd.b6z HO_9.out)) (And.intro (Aside0.mk (adz BK176.out)) (And.intro (Aside0.mk (adz BK181.out)) (Aside0.mk (bVz HB.out)))))
   clear HO_7 HO_9 BK176 BK181 HB
   obtain ⟨HO_7, HO_9, BK176, BK181, HB⟩ := n_
   have p190 : 0 ≤ (x10_1 : Int) := of_decide_eq_true as_
   have q190 : x10_1 < (t186.length : Int) := of_decide_eq_true as_
   obtain ⟨ad190, e190, hx190_0⟩ := Kd.byz (Kd.aPz HO_9.out).2.2 x10_1 p190 q190
   cases e190
   replace p190 := eq_true p190
   replace q190 := eq_true q190
   refine a8z (n := 11) (S := fun w' => w'.cell? ⟨gb181, 0, none⟩ = some (.int .i64 t178) ∧ w'.cell? ⟨gb181, 1, none⟩ = some (.int .i64 t179) ∧ w'.cell? ⟨gb181, 2, none⟩ = some (.int .i64 t180) ∧ w'.cell? (ad190.add (x10_1).toNat) = some (.int .i64 (rd t186 x10_1))) (ds := []) (bA 11 0) kr_ rfl rfl ⟨(aaz BK181.out 0).trans rfl, (aaz BK181.out 1).trans rfl, (aaz BK181.out 2).trans rfl, hx190_0⟩ (fun hHeld => ?_); refine ddz afz.tab10 afz.bits10 (fun HT_ HW_ => ?_)
   generalize wr.drew = w43 at HO_7 HO_9 BK176 BK181 HB hx190_0 hHeld ⊢
   refine pv_ 0 35 1 HT_ ?_
   refine pv_ 1 36 3 HT_ ?_
   refine pv_ 2 37 7 HT_ ?_
   refine pv_ 4 39 23 HT_ ?_
   refine pv_ 6 41 87 HT_ ?_
   refine tw_ 3 38 95 HT_ HW_ hHeld ?_
   refine tw_ 5 40 127 HT_ HW_ hHeld ?_
   refine tw_ 7 42 255 HT_ HW_ hHeld ?_
   refine pv_ 8 43 511 HT_ ?_
   refine one_ (i := 9) (N := some 11) (bA 11 1023) rfl rfl (cEz HT_.out kr_) (by decide) (fun K hK => ?_)
   refine box_step ?hg (N := 11) ?hd (cs := #[.int .i64 0, .int .i64 0, .int .i64 0]) (t := 23) ?hr ?_; (case hd => rfl); (case hg => rfl); (case hr => first | (go_simp; done) | (go_simp; rfl))
   intro gb191 hg w44 hbox hb
   have HS3_ := (hb.cell (World.block_lt_of_cell? _ _ (hHeld.2.2.2))).trans (hHeld.2.2.2)
   have n_ := And.intro (Aside0.mk (Kd.bXz (Kd.N_elderB (xd_ HO_7.out) gb191 (Nat.le_of_eq hg.symm)) hb)) (And.intro (Aside0.mk (Kd.bDz (xd_ HO_9.out) hb)) (And.intro (bb_ BK176 hb) (And.intro (bb_ BK181 hb) (And.intro (hs_ HB hb) (And.intro (Aside0.mk (hbox)) (And.intro (ag_ HB gb191) (And.intro (ag_ HB gb191) (And.intro (n1_ BK176 gb191) (And.intro (n2_ BK176 gb191) (And.intro (n1_ BK181 gb191) (n2_ BK181 gb191)))))))))))
   clear HO_7 HO_9 BK176 BK181 HB
   obtain ⟨HO_7, HO_9, BK176, BK181, HB, BK191, GW191, GE191, NB176_191, NB191_176, NB181_191, NB191_181⟩ := n_
   clear hb hbox hg
   refine hK.out _ _ ⟨(aaz BK181.out 0).trans rfl, (aaz BK181.out 1).trans rfl, (aaz BK181.out 2).trans rfl, HS3_⟩ (fun hHeld => ?_)
   clear hK K
   refine norm_ (a' := ?_) ?_ ?_
   rotate_left
   ·show Act.put _ (some 11) _ = _
    simp only [Act.put, List.setIfInBounds_toArray, List.set_cons_zero, List.set_cons_succ, i64_w, i32_w]
    rfl
   refine one_ (i := 10) (N := none) (bA 11 2047) rfl rfl (cEz HT_.out kr_) (by decide) (fun K hK => ?_)
   have hs45 : w44.cell? ⟨gb191, 0, none⟩ = some (.int .i64 0) := (aaz BK191.out 0).trans rfl
   have hfs45 := auz BK191.out 0
   have hns45_0 := NB176_191.out
   have hns45_1 := NB181_191.out
   have hms45_0 := NB191_176.out
   have hms45_1 := NB191_181.out
   have hs46 : w44.cell? ⟨gb191, 1, none⟩ = some (.int .i64 0) := (aaz BK191.out 1).trans rfl
   have hfs46 := auz BK191.out 1
   have hns46_0 := NB176_191.out
   have hns46_1 := NB181_191.out
   have hms46_0 := NB191_176.out
   have hms46_1 := NB191_181.out
   have hs47 : w44.cell? ⟨gb191, 2, none⟩ = some (.int .i64 0) := (aaz BK191.out 2).trans rfl
   have hfs47 := auz BK191.out 2
   have hns47_0 := NB176_191.out
   have hns47_1 := NB181_191.out
   have hms47_0 := NB191_176.out
   have hms47_1 := NB191_181.out
   refine skip_ (w1 := ?_) (by rfl) rfl ?_ ?_
   rotate_left
   ·go_simp
    rfl
   refine hK.out _ _ ⟨((cell_far (p := ⟨gb191, _, none⟩) NB181_191.out _).trans (((cell_far (p := ⟨gb191, _, none⟩) NB181_191.out _).trans (((cell_far (p := ⟨gb191, _, none⟩) NB181_191.out _).trans (hHeld.1)))))), ((cell_far (p := ⟨gb191, _, none⟩) NB181_191.out _).trans (((cell_far (p := ⟨gb191, _, none⟩) NB181_191.out _).trans (((cell_far (p := ⟨gb191, _, none⟩) NB181_191.out _).trans (hHeld.2.1)))))), ((cell_far (p := ⟨gb191, _, none⟩) NB181_191.out _).trans (((cell_far (p := ⟨gb191, _, none⟩) NB181_191.out _).trans (((cell_far (p := ⟨gb191, _, none⟩) NB181_191.out _).trans (hHeld.2.2.1)))))), ((cell_far (p := ⟨gb191, _, none⟩) (by first | exact Kd.aYz (Kd.R_ne HO_9.out BK191.out (by decide)) | (rw [add_block]; exact Kd.aYz (Kd.R_ne HO_9.out BK191.out (by decide))) | (show (Addr.add _ _).block ≠ _; rw [add_block]; exact Kd.aYz (Kd.R_ne HO_9.out BK191.out (by decide))) | (dsimp only; exact Kd.aYz (Kd.R_ne HO_9.out BK191.out (by decide)))) _).trans (((cell_far (p := ⟨gb191, _, none⟩) (by first | exact Kd.aYz (Kd.R_ne HO_9.out BK191.out (by decide)) | (rw [add_block]; exact Kd.aYz (Kd.R_ne HO_9.out BK191.out (by decide))) | (show (Addr.add _ _).block ≠ _; rw [add_block]; exact Kd.aYz (Kd.R_ne HO_9.out BK191.out (by decide))) | (dsimp only; exact Kd.aYz (Kd.R_ne HO_9.out BK191.out (by decide)))) _).trans (((cell_far (p := ⟨gb191, _, none⟩) (by first | exact Kd.aYz (Kd.R_ne HO_9.out BK191.out (by decide)) | (rw [add_block]; exact Kd.aYz (Kd.R_ne HO_9.out BK191.out (by decide))) | (show (Addr.add _ _).block ≠ _; rw [add_block]; exact Kd.aYz (Kd.R_ne HO_9.out BK191.out (by decide))) | (dsimp only; exact Kd.aYz (Kd.R_ne HO_9.out BK191.out (by decide)))) _).trans (hHeld.2.2.2))))))⟩ (fun hHeld => ?_)
   clear hK K
   refine done_ (done_of HT_.out kr_) ?_
   try go_wp2
   have n0_ : Aside0 (Kd.N (Kd.slice 5 (Kd.int .u8)) 34 (((w44.setCell ⟨gb191, 0, none⟩ (.int .i64 (rd t186 x10_1))).setCell ⟨gb191, 1, none⟩ (.int .i64 t179)).setCell ⟨gb191, 2, none⟩ (.int .i64 t180)) w.heap.size (fun k_ => some k_ ≠ (.slice (some ad190) t186.length co42 : Value).ownBlock ∧ k_ ≠ gb176 ∧ k_ ≠ gb181 ∧ k_ ≠ gb191) (.slice Ao19 t182.length co19) t182) := ⟨by (with_reducible repeat (first | apply Kd.N_alloc | apply Kd.N_drewN | apply Kd.cGz)); exact Kd.bLz (Kd.N_far (p := ⟨gb191, 2, none⟩) (Kd.N_far (p := ⟨gb191, 1, none⟩) (Kd.N_far (p := ⟨gb191, 0, none⟩) (Kd.bLz HO_7.out (fun k_ hk => (⟨hk, hk.2⟩ : _ ∧ k_ ≠ gb191))) (fun _ hk => hk.2) (.int .i64 (rd t186 x10_1))) (fun _ hk => hk.2) (.int .i64 t179)) (fun _ hk => hk.2) (.int .i64 t180)) (fun _ hk => ⟨hk.1.1.1, ⟨hk.1.1.2.1, ⟨hk.1.1.2.2, hk.1.2⟩⟩⟩)⟩
   have n1_ : Aside0 (Kd.R (Kd.int .i64) 3 (((w44.setCell ⟨gb191, 0, none⟩ (.int .i64 (rd t186 x10_1))).setCell ⟨gb191, 1, none⟩ (.int .i64 t179)).setCell ⟨gb191, 2, none⟩ (.int .i64 t180)) w.heap.size (fun _ => True) (.slice (some ad190) t186.length co42) t186) := ⟨by (with_reducible repeat (first | apply Kd.cSz | apply Kd.bTz | apply Kd.b6z)); exact Kd.a0z (Kd.R_far (p := ⟨gb191, 2, none⟩) (Kd.R_far (p := ⟨gb191, 1, none⟩) (Kd.R_far (p := ⟨gb191, 0, none⟩) (Kd.bSz HO_9.out BK191.out (by decide)) (fun _ hk => hk.2) (.int .i64 (rd t186 x10_1))) (fun _ hk => hk.2) (.int .i64 t179)) (fun _ hk => hk.2) (.int .i64 t180)) (fun _ hk => trivial)⟩
   have n2_ : Aside0 ((((w44.setCell ⟨gb191, 0, none⟩ (.int .i64 (rd t186 x10_1))).setCell ⟨gb191, 1, none⟩ (.int .i64 t179)).setCell ⟨gb191, 2, none⟩ (.int .i64 t180)).heap[gb176]? = some (.cells #[.int .u8 a0_0, .int .u8 a0_1, .int .u8 a0_2] 42 (0, 0))) := ⟨by (with_reducible repeat (first | refine acz ?_ _ | refine adz ?_ | refine abz ?_ _)); refine ajz ?_ NB176_191.out _; (with_reducible repeat (first | refine acz ?_ _ | refine adz ?_ | refine abz ?_ _)); refine ajz ?_ NB176_191.out _; (with_reducible repeat (first | refine acz ?_ _ | refine adz ?_ | refine abz ?_ _)); refine ajz ?_ NB176_191.out _; (with_reducible repeat (first | refine acz ?_ _ | refine adz ?_ | refine abz ?_ _)); exact BK176.out⟩
   have n3_ : Aside0 ((((w44.setCell ⟨gb191, 0, none⟩ (.int .i64 (rd t186 x10_1))).setCell ⟨gb191, 1, none⟩ (.int .i64 t179)).setCell ⟨gb191, 2, none⟩ (.int .i64 t180)).heap[gb181]? = some (.cells #[.int .i64 t178, .int .i64 t179, .int .i64 t180] 23 (0, 0))) := ⟨by (with_reducible repeat (first | refine acz ?_ _ | refine adz ?_ | refine abz ?_ _)); refine ajz ?_ NB181_191.out _; (with_reducible repeat (first | refine acz ?_ _ | refine adz ?_ | refine abz ?_ _)); refine ajz ?_ NB181_191.out _; (with_reducible repeat (first | refine acz ?_ _ | refine adz ?_ | refine abz ?_ _)); refine ajz ?_ NB181_191.out _; (with_reducible repeat (first | refine acz ?_ _ | refine adz ?_ | refine abz ?_ _)); exact BK181.out⟩
   have n4_ : Aside0 ((((w44.setCell ⟨gb191, 0, none⟩ (.int .i64 (rd t186 x10_1))).setCell ⟨gb191, 1, none⟩ (.int .i64 t179)).setCell ⟨gb191, 2, none⟩ (.int .i64 t180)).heap[gb191]? = some (.cells #[.int .i64 (rd t186 x10_1), .int .i64 t179, .int .i64 t180] 23 (0, 0))) := ⟨by (with_reducible repeat (first | refine acz ?_ _ | refine adz ?_ | refine abz ?_ _)); refine akz (cs := #[.int .i64 (rd t186 x10_1), .int .i64 t179, .int .i64 0]) ?_ 2 _ rfl; (with_reducible repeat (first | refine acz ?_ _ | refine adz ?_ | refine abz ?_ _)); refine akz (cs := #[.int .i64 (rd t186 x10_1), .int .i64 0, .int .i64 0]) ?_ 1 _ rfl; (with_reducible repeat (first | refine acz ?_ _ | refine adz ?_ | refine abz ?_ _)); refine akz (cs := #[.int .i64 0, .int .i64 0, .int .i64 0]) ?_ 0 _ rfl; (with_reducible repeat (first | refine acz ?_ _ | refine adz ?_ | refine abz ?_ _)); exact BK191.out⟩
   have n5_ : Aside0 (Below w.heap.size w (((w44.setCell ⟨gb191, 0, none⟩ (.int .i64 (rd t186 x10_1))).setCell ⟨gb191, 1, none⟩ (.int .i64 t179)).setCell ⟨gb191, 2, none⟩ (.int .i64 t180))) := ⟨bl_⟩
   (try clear HO_7)
   (try clear HO_9)
   (try clear BK176)
   (try clear BK181)
   (try clear BK191)
   (try clear HB)
   generalize (((w44.setCell ⟨gb191, 0, none⟩ (.int .i64 (rd t186 x10_1))).setCell ⟨gb191, 1, none⟩ (.int .i64 t179)).setCell ⟨gb191, 2, none⟩ (.int .i64 t180)) = w48 at n0_ n1_ n2_ n3_ n4_ n5_ ⊢
   have HO_7 := n0_
   have HO_9 := n1_
   have BK176 := n2_
   have BK181 := n3_
   have BK191 := n4_
   have HB := n5_
   clear n0_ n1_ n2_ n3_ n4_ n5_
   have n_ := And.intro (Aside0.mk (Kd.cGz HO_7.out)) (And.intro (Aside0.mk (Kd.b6z HO_9.out)) (And.intro (Aside0.mk (adz BK176.out)) (And.intro (Aside0.mk (adz BK181.out)) (And.intro (Aside0.mk (adz BK191.out)) (Aside0.mk (bVz HB.out))))))
   clear HO_7 HO_9 BK176 BK181 BK191 HB
   obtain ⟨HO_7, HO_9, BK176, BK181, BK191, HB⟩ := n_
   refine a8z (n := 25) (S := fun w' => w'.cell? ⟨gb191, 0, none⟩ = some (.int .i64 (rd t186 x10_1)) ∧ w'.cell? ⟨gb191, 1, none⟩ = some (.int .i64 t179) ∧ w'.cell? ⟨gb191, 2, none⟩ = some (.int .i64 t180)) (ds := []) (bA 25 0) kr_ rfl rfl ⟨(aaz BK191.out 0).trans rfl, (aaz BK191.out 1).trans rfl, (aaz BK191.out 2).trans rfl⟩ (fun hHeld => ?_); refine ddz afz.tab11 afz.bits11 (fun HT_ HW_ => ?_)
   generalize w48.drew = w49 at HO_7 HO_9 BK176 BK181 BK191 HB hHeld ⊢
   refine tw_ 0 44 1 HT_ HW_ hHeld ?_
   refine one_ (i := 1) (N := some 45) (bA 25 3) rfl rfl (cEz HT_.out kr_) (by decide) (fun K hK => ?_)
   refine goes_ Tryz.func41 kr_ rfl #[.agg #[.int .i64 (rd t186 x10_1), .int .i64 t179, .int .i64 t180]] (by rfl) rfl rfl ar_ ?_
   with_reducible refine (agz.calls (rd t186 x10_1) t179 t180 true _ A23.out).mono ?_
   rintro e w50 ⟨rfl, hb⟩
   refine ⟨_, rfl, ?_⟩
   have n_ := And.intro (Aside0.mk (Kd.bXz (xd_ HO_7.out) hb)) (And.intro (Aside0.mk (Kd.bDz (xd_ HO_9.out) hb)) (And.intro (bb_ BK176 hb) (And.intro (bb_ BK181 hb) (And.intro (bb_ BK191 hb) (hs_ HB hb)))))
   clear HO_7 HO_9 BK176 BK181 BK191 HB
   obtain ⟨HO_7, HO_9, BK176, BK181, BK191, HB⟩ := n_
   (try clear hb)
   (try clear hb2)
   (try clear hk)
   (try clear hi)
   refine hK.out _ _ ⟨(aaz BK191.out 0).trans rfl, (aaz BK191.out 1).trans rfl, (aaz BK191.out 2).trans rfl⟩ (fun hHeld => ?_)
   clear hK K
   refine norm_ (a' := ?_) ?_ ?_
   rotate_left
   ·show Act.put _ (some 45) _ = _
    simp only [Act.put, List.setIfInBounds_toArray, List.set_cons_zero, List.set_cons_succ, i64_w, i32_w]
    rfl
   refine pv_ 2 46 7 HT_ ?_
   refine pv_ 3 47 15 HT_ ?_
   refine pv_ 5 49 47 HT_ ?_
   refine tw_ 4 48 63 HT_ HW_ hHeld ?_
   refine one_ (i := 6) (N := some 50) (bA 25 127) rfl rfl (cEz HT_.out kr_) (by decide) (fun K hK => ?_)
   refine goes_ Tryz.func22 kr_ rfl #[.agg #[.int .i64 (rd t186 x10_1), .int .i64 t179, .int .i64 t180], .slice Ao19 t182.length co19] (by rfl) rfl rfl ar_ ?_
   with_reducible refine (aLz.calls k1 (rd t186 x10_1) t179 t180 _ _ t182 true _ ?side1 ?side2 A25.out).mono ?_
   (case side1 => repeat (first | exact (Kd.bIz HO_7.out).2.2 | (with_reducible refine Kd.C_alloc ?_ _) | (with_reducible refine Kd.bUz ?_ _) | (with_reducible refine Kd.C_drew ?_)))
   (case side2 => exact (Kd.bIz HO_7.out).2.1)
   rintro e w51 ⟨rfl, hb⟩
   refine ⟨_, rfl, ?_⟩
   have n_ := And.intro (Aside0.mk (Kd.bXz (xd_ HO_7.out) hb)) (And.intro (Aside0.mk (Kd.bDz (xd_ HO_9.out) hb)) (And.intro (bb_ BK176 hb) (And.intro (bb_ BK181 hb) (And.intro (bb_ BK191 hb) (hs_ HB hb)))))
   clear HO_7 HO_9 BK176 BK181 BK191 HB
   obtain ⟨HO_7, HO_9, BK176, BK181, BK191, HB⟩ := n_
   (try clear hb)
   (try clear hb2)
   (try clear hk)
   (try clear hi)
   refine hK.out _ _ ⟨(aaz BK191.out 0).trans rfl, (aaz BK191.out 1).trans rfl, (aaz BK191.out 2).trans rfl⟩ (fun hHeld => ?_)
   clear hK K
   refine norm_ (a' := ?_) ?_ ?_
   rotate_left
   ·show Act.put _ (some 50) _ = _
    simp only [Act.put, List.setIfInBounds_toArray, List.set_cons_zero, List.set_cons_succ, i64_w, i32_w]
    rfl
   refine pv_ 7 51 255 HT_ ?_
   refine pv_ 8 52 511 HT_ ?_
   refine pv_ 9 53 1023 HT_ ?_
   refine pv_ 10 54 2047 HT_ ?_
   refine pv_ 11 55 4095 HT_ ?_
   refine pv_ 12 56 8191 HT_ ?_
   refine pure_ (i := 13) (N := some 57) (v := undef) (a' := ?_) (bA 25 16383) rfl rfl (bYz HT_.out kr_) (fun _ _ _ h => h) (Or.inr ⟨by rfl, rfl⟩) ?_ ?_
   rotate_left
   ·simp only [Act.put, List.setIfInBounds_toArray, List.set_cons_zero, List.set_cons_succ, i64_w, i32_w]
    rfl
   refine pure_ (i := 14) (N := some 58) (v := undef) (a' := ?_) (bA 25 32767) rfl rfl (bYz HT_.out kr_) (fun _ _ _ h => h) (Or.inr ⟨by rfl, rfl⟩) ?_ ?_
   rotate_left
   ·simp only [Act.put, List.setIfInBounds_toArray, List.set_cons_zero, List.set_cons_succ, i64_w, i32_w]
    rfl
   refine pure_ (i := 15) (N := some 59) (v := undef) (a' := ?_) (bA 25 65535) rfl rfl (bYz HT_.out kr_) (fun _ _ _ h => h) (Or.inr ⟨by rfl, rfl⟩) ?_ ?_
   rotate_left
   ·simp only [Act.put, List.setIfInBounds_toArray, List.set_cons_zero, List.set_cons_succ, i64_w, i32_w]
    rfl
   refine pure_ (i := 16) (N := some 60) (v := undef) (a' := ?_) (bA 25 131071) rfl rfl (bYz HT_.out kr_) (fun _ _ _ h => h) (Or.inr ⟨by rfl, rfl⟩) ?_ ?_
   rotate_left
   ·simp only [Act.put, List.setIfInBounds_toArray, List.set_cons_zero, List.set_cons_succ, i64_w, i32_w]
    rfl
   refine pure_ (i := 17) (N := some 61) (v := undef) (a' := ?_) (bA 25 262143) rfl rfl (bYz HT_.out kr_) (fun _ _ _ h => h) (Or.inr ⟨by rfl, rfl⟩) ?_ ?_
   rotate_left
   ·simp only [Act.put, List.setIfInBounds_toArray, List.set_cons_zero, List.set_cons_succ, i64_w, i32_w]
    rfl
   refine pure_ (i := 18) (N := some 62) (v := undef) (a' := ?_) (bA 25 524287) rfl rfl (bYz HT_.out kr_) (fun _ _ _ h => h) (Or.inr ⟨by rfl, rfl⟩) ?_ ?_
   rotate_left
   ·simp only [Act.put, List.setIfInBounds_toArray, List.set_cons_zero, List.set_cons_succ, i64_w, i32_w]
    rfl
   refine pure_ (i := 19) (N := some 63) (v := undef) (a' := ?_) (bA 25 1048575) rfl rfl (bYz HT_.out kr_) (fun _ _ _ h => h) (Or.inr ⟨by rfl, rfl⟩) ?_ ?_
   rotate_left
   ·simp only [Act.put, List.setIfInBounds_toArray, List.set_cons_zero, List.set_cons_succ, i64_w, i32_w]
    rfl
   refine pure_ (i := 20) (N := some 64) (v := undef) (a' := ?_) (bA 25 2097151) rfl rfl (bYz HT_.out kr_) (fun _ _ _ h => h) (Or.inr ⟨by rfl, rfl⟩) ?_ ?_
   rotate_left
   ·simp only [Act.put, List.setIfInBounds_toArray, List.set_cons_zero, List.set_cons_succ, i64_w, i32_w]
    rfl
   refine pure_ (i := 21) (N := some 65) (v := undef) (a' := ?_) (bA 25 4194303) rfl rfl (bYz HT_.out kr_) (fun _ _ _ h => h) (Or.inr ⟨by rfl, rfl⟩) ?_ ?_
   rotate_left
   ·simp only [Act.put, List.setIfInBounds_toArray, List.set_cons_zero, List.set_cons_succ, i64_w, i32_w]
    rfl
   refine pure_ (i := 22) (N := some 66) (v := undef) (a' := ?_) (bA 25 8388607) rfl rfl (bYz HT_.out kr_) (fun _ _ _ h => h) (Or.inr ⟨by rfl, rfl⟩) ?_ ?_
   rotate_left
   ·simp only [Act.put, List.setIfInBounds_toArray, List.set_cons_zero, List.set_cons_succ, i64_w, i32_w]
    rfl
   refine pv_ 23 67 16777215 HT_ ?_
   refine pv_ 24 68 33554431 HT_ ?_
   refine done_ (done_of HT_.out kr_) ?_
   try go_wp2
   go_roundg k1
   case measure => have := HK1.out; omega
   case rel => exact ⟨(wrap64 (x10_1 + 1)), sd_, H', ⟨by have := HK1.out; omega⟩, ⟨nm_ HO_7⟩, ⟨xd_ HO_9.out⟩, ⟨bk_⟩, ⟨bk_⟩, ⟨bl_⟩⟩
  rw [if_pos c27] at H
  have c27b0 : decide (0 < x10_1) = true := decide_eq_true c27
  clear c27
  obtain ⟨ji28, hji28⟩ : ∃ j_ : Int, (wrap64 (x10_1 - 1)) = j_ := ⟨_, rfl⟩
  replace H : (if 0 ≤ (ji28) then (if (ji28) < (t186.length : Int) then (if (rd t186 (ji28)) ≥ (rd t186 x10_1) then (some false) else (afz.l0 k1 t177 t182 t185 t186 (wrap64 (x10_1 + 1)) t178 t179 t180)) else (none)) else (none)) = some r := by first | (rw [hji28] at H; exact H) | (simp only [hji28] at H ⊢; exact H)
  (try rw [hji28] at A23)
  (try rw [hji28] at A25)
  have hji28w : (IntKind.i64.wrap (x10_1 - 1)) = ji28 := (i64_w _).trans hji28
  by_cases c29 : 0 ≤ (ji28)
  rotate_left
  ·rw [if_neg c29] at H
   exact absurd H (by simp)
  rw [if_pos c29] at H
  have c29b0 := decide_eq_true c29
  clear c29
  by_cases c30 : (ji28) < (t186.length : Int)
  rotate_left
  ·rw [if_neg c30] at H
   exact absurd H (by simp)
  rw [if_pos c30] at H
  have c30b0 := decide_eq_true c30
  clear c30
  by_cases c31 : (rd t186 (ji28)) ≥ (rd t186 x10_1)
  ·rw [if_pos c31] at H
   have c31b0 : decide ((rd t186 x10_1) ≤ (rd t186 (ji28))) = true := decide_eq_true c31
   clear c31
   exact absurd ((Option.some.inj H).trans hr_.out) (by simp)
  ·rw [if_neg c31] at H
   have c31b0 : decide ((rd t186 x10_1) ≤ (rd t186 (ji28))) = false := decide_eq_false c31
   clear c31
   have H' := Aside0.mk H
   clear H
   obtain ⟨Ao32, co32, eo32⟩ := Kd.aXz HO_9.out
   subst eo32
   try go_wp2
   have n_ := And.intro (Aside0.mk (Kd.cGz HO_7.out)) (And.intro (Aside0.mk (Kd.b6z HO_9.out)) (And.intro (Aside0.mk (adz BK176.out)) (And.intro (Aside0.mk (adz BK181.out)) (Aside0.mk (bVz HB.out)))))
   clear HO_7 HO_9 BK176 BK181 HB
   obtain ⟨HO_7, HO_9, BK176, BK181, HB⟩ := n_
   have p190 : 0 ≤ (x10_1 : Int) := of_decide_eq_true as_
   have q190 : x10_1 < (t186.length : Int) := of_decide_eq_true as_
   obtain ⟨ad190, e190, hx190_0⟩ := Kd.byz (Kd.aPz HO_9.out).2.2 x10_1 p190 q190
   cases e190
   replace p190 := eq_true p190
   replace q190 := eq_true q190
   refine a8z (n := 11) (S := fun w' => w'.cell? ⟨gb181, 0, none⟩ = some (.int .i64 t178) ∧ w'.cell? ⟨gb181, 1, none⟩ = some (.int .i64 t179) ∧ w'.cell? ⟨gb181, 2, none⟩ = some (.int .i64 t180) ∧ w'.cell? (ad190.add (x10_1).toNat) = some (.int .i64 (rd t186 x10_1))) (ds := []) (bA 11 0) kr_ rfl rfl ⟨(aaz BK181.out 0).trans rfl, (aaz BK181.out 1).trans rfl, (aaz BK181.out 2).trans rfl, hx190_0⟩ (fun hHeld => ?_); refine ddz afz.tab10 afz.bits10 (fun HT_ HW_ => ?_)
   generalize wr.drew = w33 at HO_7 HO_9 BK176 BK181 HB hx190_0 hHeld ⊢
   refine pv_ 0 35 1 HT_ ?_
   refine pv_ 1 36 3 HT_ ?_
   refine pv_ 2 37 7 HT_ ?_
   refine pv_ 4 39 23 HT_ ?_
   refine pv_ 6 41 87 HT_ ?_
   refine tw_ 3 38 95 HT_ HW_ hHeld ?_
   refine tw_ 5 40 127 HT_ HW_ hHeld ?_
   refine tw_ 7 42 255 HT_ HW_ hHeld ?_
   refine pv_ 8 43 511 HT_ ?_
   refine one_ (i := 9) (N := some 11) (bA 11 1023) rfl rfl (cEz HT_.out kr_) (by decide) (fun K hK => ?_)
   refine box_step ?hg (N := 11) ?hd (cs := #[.int .i64 0, .int .i64 0, .int .i64 0]) (t := 23) ?hr ?_; (case hd => rfl); (case hg => rfl); (case hr => first | (go_simp; done) | (go_simp; rfl))
   intro gb191 hg w34 hbox hb
   have HS3_ := (hb.cell (World.block_lt_of_cell? _ _ (hHeld.2.2.2))).trans (hHeld.2.2.2)
   have n_ := And.intro (Aside0.mk (Kd.bXz (Kd.N_elderB (xd_ HO_7.out) gb191 (Nat.le_of_eq hg.symm)) hb)) (And.intro (Aside0.mk (Kd.bDz (xd_ HO_9.out) hb)) (And.intro (bb_ BK176 hb) (And.intro (bb_ BK181 hb) (And.intro (hs_ HB hb) (And.intro (Aside0.mk (hbox)) (And.intro (ag_ HB gb191) (And.intro (ag_ HB gb191) (And.intro (n1_ BK176 gb191) (And.intro (n2_ BK176 gb191) (And.intro (n1_ BK181 gb191) (n2_ BK181 gb191)))))))))))
   clear HO_7 HO_9 BK176 BK181 HB
   obtain ⟨HO_7, HO_9, BK176, BK181, HB, BK191, GW191, GE191, NB176_191, NB191_176, NB181_191, NB191_181⟩ := n_
   clear hb hbox hg
   refine hK.out _ _ ⟨(aaz BK181.out 0).trans rfl, (aaz BK181.out 1).trans rfl, (aaz BK181.out 2).trans rfl, HS3_⟩ (fun hHeld => ?_)
   clear hK K
   refine norm_ (a' := ?_) ?_ ?_
   rotate_left
   ·show Act.put _ (some 11) _ = _
    simp only [Act.put, List.setIfInBounds_toArray, List.set_cons_zero, List.set_cons_succ, i64_w, i32_w]
    rfl
   refine one_ (i := 10) (N := none) (bA 11 2047) rfl rfl (cEz HT_.out kr_) (by decide) (fun K hK => ?_)
   have hs35 : w34.cell? ⟨gb191, 0, none⟩ = some (.int .i64 0) := (aaz BK191.out 0).trans rfl
   have hfs35 := auz BK191.out 0
   have hns35_0 := NB176_191.out
   have hns35_1 := NB181_191.out
   have hms35_0 := NB191_176.out
   have hms35_1 := NB191_181.out
   have hs36 : w34.cell? ⟨gb191, 1, none⟩ = some (.int .i64 0) := (aaz BK191.out 1).trans rfl
   have hfs36 := auz BK191.out 1
   have hns36_0 := NB176_191.out
   have hns36_1 := NB181_191.out
   have hms36_0 := NB191_176.out
   have hms36_1 := NB191_181.out
   have hs37 : w34.cell? ⟨gb191, 2, none⟩ = some (.int .i64 0) := (aaz BK191.out 2).trans rfl
   have hfs37 := auz BK191.out 2
   have hns37_0 := NB176_191.out
   have hns37_1 := NB181_191.out
   have hms37_0 := NB191_176.out
   have hms37_1 := NB191_181.out
   refine skip_ (w1 := ?_) (by rfl) rfl ?_ ?_
   rotate_left
   ·go_simp
    rfl
   refine hK.out _ _ ⟨((cell_far (p := ⟨gb191, _, none⟩) NB181_191.out _).trans (((cell_far (p := ⟨gb191, _, none⟩) NB181_191.out _).trans (((cell_far (p := ⟨gb191, _, none⟩) NB181_191.out _).trans (hHeld.1)))))), ((cell_far (p := ⟨gb191, _, none⟩) NB181_191.out _).trans (((cell_far (p := ⟨gb191, _, none⟩) NB181_191.out _).trans (((cell_far (p := ⟨gb191, _, none⟩) NB181_191.out _).trans (hHeld.2.1)))))), ((cell_far (p := ⟨gb191, _, none⟩) NB181_191.out _).trans (((cell_far (p := ⟨gb191, _, none⟩) NB181_191.out _).trans (((cell_far (p := ⟨gb191, _, none⟩) NB181_191.out _).trans (hHeld.2.2.1)))))), ((cell_far (p := ⟨gb191, _, none⟩) (by first | exact Kd.aYz (Kd.R_ne HO_9.out BK191.out (by decide)) | (rw [add_block]; exact Kd.aYz (Kd.R_ne HO_9.out BK191.out (by decide))) | (show (Addr.add _ _).block ≠ _; rw [add_block]; exact Kd.aYz (Kd.R_ne HO_9.out BK191.out (by decide))) | (dsimp only; exact Kd.aYz (Kd.R_ne HO_9.out BK191.out (by decide)))) _).trans (((cell_far (p := ⟨gb191, _, none⟩) (by first | exact Kd.aYz (Kd.R_ne HO_9.out BK191.out (by decide)) | (rw [add_block]; exact Kd.aYz (Kd.R_ne HO_9.out BK191.out (by decide))) | (show (Addr.add _ _).block ≠ _; rw [add_block]; exact Kd.aYz (Kd.R_ne HO_9.out BK191.out (by decide))) | (dsimp only; exact Kd.aYz (Kd.R_ne HO_9.out BK191.out (by decide)))) _).trans (((cell_far (p := ⟨gb191, _, none⟩) (by first | exact Kd.aYz (Kd.R_ne HO_9.out BK191.out (by decide)) | (rw [add_block]; exact Kd.aYz (Kd.R_ne HO_9.out BK191.out (by decide))) | (show (Addr.add _ _).block ≠ _; rw [add_block]; exact Kd.aYz (Kd.R_ne HO_9.out BK191.out (by decide))) | (dsimp only; exact Kd.aYz (Kd.R_ne HO_9.out BK191.out (by decide)))) _).trans (hHeld.2.2.2))))))⟩ (fun hHeld => ?_)
   clear hK K
   refine done_ (done_of HT_.out kr_) ?_
   try go_wp2
   have n0_ : Aside0 (Kd.N (Kd.slice 5 (Kd.int .u8)) 34 (((w34.setCell ⟨gb191, 0, none⟩ (.int .i64 (rd t186 x10_1))).setCell ⟨gb191, 1, none⟩ (.int .i64 t179)).setCell ⟨gb191, 2, none⟩ (.int .i64 t180)) w.heap.size (fun k_ => some k_ ≠ (.slice (some ad190) t186.length co32 : Value).ownBlock ∧ k_ ≠ gb176 ∧ k_ ≠ gb181 ∧ k_ ≠ gb191) (.slice Ao19 t182.length co19) t182) := ⟨by (with_reducible repeat (first | apply Kd.N_alloc | apply Kd.N_drewN | apply Kd.cGz)); exact Kd.bLz (Kd.N_far (p := ⟨gb191, 2, none⟩) (Kd.N_far (p := ⟨gb191, 1, none⟩) (Kd.N_far (p := ⟨gb191, 0, none⟩) (Kd.bLz HO_7.out (fun k_ hk => (⟨hk, hk.2⟩ : _ ∧ k_ ≠ gb191))) (fun _ hk => hk.2) (.int .i64 (rd t186 x10_1))) (fun _ hk => hk.2) (.int .i64 t179)) (fun _ hk => hk.2) (.int .i64 t180)) (fun _ hk => ⟨hk.1.1.1, ⟨hk.1.1.2.1, ⟨hk.1.1.2.2, hk.1.2⟩⟩⟩)⟩
   have n1_ : Aside0 (Kd.R (Kd.int .i64) 3 (((w34.setCell ⟨gb191, 0, none⟩ (.int .i64 (rd t186 x10_1))).setCell ⟨gb191, 1, none⟩ (.int .i64 t179)).setCell ⟨gb191, 2, none⟩ (.int .i64 t180)) w.heap.size (fun _ => True) (.slice (some ad190) t186.length co32) t186) := ⟨by (with_reducible repeat (first | apply Kd.cSz | apply Kd.bTz | apply Kd.b6z)); exact Kd.a0z (Kd.R_far (p := ⟨gb191, 2, none⟩) (Kd.R_far (p := ⟨gb191, 1, none⟩) (Kd.R_far (p := ⟨gb191, 0, none⟩) (Kd.bSz HO_9.out BK191.out (by decide)) (fun _ hk => hk.2) (.int .i64 (rd t186 x10_1))) (fun _ hk => hk.2) (.int .i64 t179)) (fun _ hk => hk.2) (.int .i64 t180)) (fun _ hk => trivial)⟩
   have n2_ : Aside0 ((((w34.setCell ⟨gb191, 0, none⟩ (.int .i64 (rd t186 x10_1))).setCell ⟨gb191, 1, none⟩ (.int .i64 t179)).setCell ⟨gb191, 2, none⟩ (.int .i64 t180)).heap[gb176]? = some (.cells #[.int .u8 a0_0, .int .u8 a0_1, .int .u8 a0_2] 42 (0, 0))) := ⟨by (with_reducible repeat (first | refine acz ?_ _ | refine adz ?_ | refine abz ?_ _)); refine ajz ?_ NB176_191.out _; (with_reducible repeat (first | refine acz ?_ _ | refine adz ?_ | refine abz ?_ _)); refine ajz ?_ NB176_191.out _; (with_reducible repeat (first | refine acz ?_ _ | refine adz ?_ | refine abz ?_ _)); refine ajz ?_ NB176_191.out _; (with_reducible repeat (first | refine acz ?_ _ | refine adz ?_ | refine abz ?_ _)); exact BK176.out⟩
   have n3_ : Aside0 ((((w34.setCell ⟨gb191, 0, none⟩ (.int .i64 (rd t186 x10_1))).setCell ⟨gb191, 1, none⟩ (.int .i64 t179)).setCell ⟨gb191, 2, none⟩ (.int .i64 t180)).heap[gb181]? = some (.cells #[.int .i64 t178, .int .i64 t179, .int .i64 t180] 23 (0, 0))) := ⟨by (with_reducible repeat (first | refine acz ?_ _ | refine adz ?_ | refine abz ?_ _)); refine ajz ?_ NB181_191.out _; (with_reducible repeat (first | refine acz ?_ _ | refine adz ?_ | refine abz ?_ _)); refine ajz ?_ NB181_191.out _; (with_reducible repeat (first | refine acz ?_ _ | refine adz ?_ | refine abz ?_ _)); refine ajz ?_ NB181_191.out _; (with_reducible repeat (first | refine acz ?_ _ | refine adz ?_ | refine abz ?_ _)); exact BK181.out⟩
   have n4_ : Aside0 ((((w34.setCell ⟨gb191, 0, none⟩ (.int .i64 (rd t186 x10_1))).setCell ⟨gb191, 1, none⟩ (.int .i64 t179)).setCell ⟨gb191, 2, none⟩ (.int .i64 t180)).heap[gb191]? = some (.cells #[.int .i64 (rd t186 x10_1), .int .i64 t179, .int .i64 t180] 23 (0, 0))) := ⟨by (with_reducible repeat (first | refine acz ?_ _ | refine adz ?_ | refine abz ?_ _)); refine akz (cs := #[.int .i64 (rd t186 x10_1), .int .i64 t179, .int .i64 0]) ?_ 2 _ rfl; (with_reducible repeat (first | refine acz ?_ _ | refine adz ?_ | refine abz ?_ _)); refine akz (cs := #[.int .i64 (rd t186 x10_1), .int .i64 0, .int .i64 0]) ?_ 1 _ rfl; (with_reducible repeat (first | refine acz ?_ _ | refine adz ?_ | refine abz ?_ _)); refine akz (cs := #[.int .i64 0, .int .i64 0, .int .i64 0]) ?_ 0 _ rfl; (with_reducible repeat (first | refine acz ?_ _ | refine adz ?_ | refine abz ?_ _)); exact BK191.out⟩
   have n5_ : Aside0 (Below w.heap.size w (((w34.setCell ⟨gb191, 0, none⟩ (.int .i64 (rd t186 x10_1))).setCell ⟨gb191, 1, none⟩ (.int .i64 t179)).setCell ⟨gb191, 2, none⟩ (.int .i64 t180))) := ⟨bl_⟩
   (try clear HO_7)
   (try clear HO_9)
   (try clear BK176)
   (try clear BK181)
   (try clear BK191)
   (try clear HB)
   generalize (((w34.setCell ⟨gb191, 0, none⟩ (.int .i64 (rd t186 x10_1))).setCell ⟨gb191, 1, none⟩ (.int .i64 t179)).setCell ⟨gb191, 2, none⟩ (.int .i64 t180)) = w38 at n0_ n1_ n2_ n3_ n4_ n5_ ⊢
   have HO_7 := n0_
   have HO_9 := n1_
   have BK176 := n2_
   have BK181 := n3_
   have BK191 := n4_
   have HB := n5_
   clear n0_ n1_ n2_ n3_ n4_ n5_
   have n_ := And.intro (Aside0.mk (Kd.cGz HO_7.out)) (And.intro (Aside0.mk (Kd.b6z HO_9.out)) (And.intro (Aside0.mk (adz BK176.out)) (And.intro (Aside0.mk (adz BK181.out)) (And.intro (Aside0.mk (adz BK191.out)) (Aside0.mk (bVz HB.out))))))
   clear HO_7 HO_9 BK176 BK181 BK191 HB
   obtain ⟨HO_7, HO_9, BK176, BK181, BK191, HB⟩ := n_
   have p194 : 0 ≤ ((ji28) : Int) := of_decide_eq_true as_
   have q194 : (ji28) < (t186.length : Int) := of_decide_eq_true as_
   obtain ⟨ad194, e194, hx194_0⟩ := Kd.byz (Kd.aPz HO_9.out).2.2 (ji28) p194 q194
   obtain rfl : ad190 = ad194 := (by injection e194)
   replace p194 := eq_true p194
   replace q194 := eq_true q194
   have p195 : 0 ≤ (x10_1 : Int) := of_decide_eq_true as_
   have q195 : x10_1 < (t186.length : Int) := of_decide_eq_true as_
   obtain ⟨ad195, e195, hx195_0⟩ := Kd.byz (Kd.aPz HO_9.out).2.2 x10_1 p195 q195
   obtain rfl : ad190 = ad195 := (by injection e195)
   replace p195 := eq_true p195
   replace q195 := eq_true q195
   refine a8z (n := 25) (S := fun w' => w'.cell? ⟨gb191, 0, none⟩ = some (.int .i64 (rd t186 x10_1)) ∧ w'.cell? ⟨gb191, 1, none⟩ = some (.int .i64 t179) ∧ w'.cell? ⟨gb191, 2, none⟩ = some (.int .i64 t180) ∧ w'.cell? (ad190.add ((ji28)).toNat) = some (.int .i64 (rd t186 (ji28))) ∧ w'.cell? (ad190.add (x10_1).toNat) = some (.int .i64 (rd t186 x10_1))) (ds := []) (bA 25 0) kr_ rfl rfl ⟨(aaz BK191.out 0).trans rfl, (aaz BK191.out 1).trans rfl, (aaz BK191.out 2).trans rfl, hx194_0, hx195_0⟩ (fun hHeld => ?_); refine ddz afz.tab11 afz.bits11 (fun HT_ HW_ => ?_)
   generalize w38.drew = w39 at HO_7 HO_9 BK176 BK181 BK191 HB hx194_0 hx195_0 hHeld ⊢
   refine tw_ 0 44 1 HT_ HW_ hHeld ?_
   refine one_ (i := 1) (N := some 45) (bA 25 3) rfl rfl (cEz HT_.out kr_) (by decide) (fun K hK => ?_)
   refine goes_ Tryz.func41 kr_ rfl #[.agg #[.int .i64 (rd t186 x10_1), .int .i64 t179, .int .i64 t180]] (by rfl) rfl rfl ar_ ?_
   with_reducible refine (agz.calls (rd t186 x10_1) t179 t180 true _ A23.out).mono ?_
   rintro e w40 ⟨rfl, hb⟩
   have HS3_ := (hb.cell (World.block_lt_of_cell? _ _ (hHeld.2.2.2.1))).trans (hHeld.2.2.2.1)
   have HS4_ := (hb.cell (World.block_lt_of_cell? _ _ (hHeld.2.2.2.2))).trans (hHeld.2.2.2.2)
   refine ⟨_, rfl, ?_⟩
   have n_ := And.intro (Aside0.mk (Kd.bXz (xd_ HO_7.out) hb)) (And.intro (Aside0.mk (Kd.bDz (xd_ HO_9.out) hb)) (And.intro (bb_ BK176 hb) (And.intro (bb_ BK181 hb) (And.intro (bb_ BK191 hb) (hs_ HB hb)))))
   clear HO_7 HO_9 BK176 BK181 BK191 HB
   obtain ⟨HO_7, HO_9, BK176, BK181, BK191, HB⟩ := n_
   (try clear hb)
   (try clear hb2)
   (try clear hk)
   (try clear hi)
   refine hK.out _ _ ⟨(aaz BK191.out 0).trans rfl, (aaz BK191.out 1).trans rfl, (aaz BK191.out 2).trans rfl, HS3_, HS4_⟩ (fun hHeld => ?_)
   clear hK K
   refine norm_ (a' := ?_) ?_ ?_
   rotate_left
   ·show Act.put _ (some 45) _ = _
    simp only [Act.put, List.setIfInBounds_toArray, List.set_cons_zero, List.set_cons_succ, i64_w, i32_w]
    rfl
   refine pv_ 2 46 7 HT_ ?_
   refine pv_ 3 47 15 HT_ ?_
   refine pv_ 5 49 47 HT_ ?_
   refine tw_ 4 48 63 HT_ HW_ hHeld ?_
   refine one_ (i := 6) (N := some 50) (bA 25 127) rfl rfl (cEz HT_.out kr_) (by decide) (fun K hK => ?_)
   refine goes_ Tryz.func22 kr_ rfl #[.agg #[.int .i64 (rd t186 x10_1), .int .i64 t179, .int .i64 t180], .slice Ao19 t182.length co19] (by rfl) rfl rfl ar_ ?_
   with_reducible refine (aLz.calls k1 (rd t186 x10_1) t179 t180 _ _ t182 true _ ?side1 ?side2 A25.out).mono ?_
   (case side1 => repeat (first | exact (Kd.bIz HO_7.out).2.2 | (with_reducible refine Kd.C_alloc ?_ _) | (with_reducible refine Kd.bUz ?_ _) | (with_reducible refine Kd.C_drew ?_)))
   (case side2 => exact (Kd.bIz HO_7.out).2.1)
   rintro e w41 ⟨rfl, hb⟩
   have HS3_ := (hb.cell (World.block_lt_of_cell? _ _ (hHeld.2.2.2.1))).trans (hHeld.2.2.2.1)
   have HS4_ := (hb.cell (World.block_lt_of_cell? _ _ (hHeld.2.2.2.2))).trans (hHeld.2.2.2.2)
   refine ⟨_, rfl, ?_⟩
   have n_ := And.intro (Aside0.mk (Kd.bXz (xd_ HO_7.out) hb)) (And.intro (Aside0.mk (Kd.bDz (xd_ HO_9.out) hb)) (And.intro (bb_ BK176 hb) (And.intro (bb_ BK181 hb) (And.intro (bb_ BK191 hb) (hs_ HB hb)))))
   clear HO_7 HO_9 BK176 BK181 BK191 HB
   obtain ⟨HO_7, HO_9, BK176, BK181, BK191, HB⟩ := n_
   (try clear hb)
   (try clear hb2)
   (try clear hk)
   (try clear hi)
   refine hK.out _ _ ⟨(aaz BK191.out 0).trans rfl, (aaz BK191.out 1).trans rfl, (aaz BK191.out 2).trans rfl, HS3_, HS4_⟩ (fun hHeld => ?_)
   clear hK K
   refine norm_ (a' := ?_) ?_ ?_
   rotate_left
   ·show Act.put _ (some 50) _ = _
    simp only [Act.put, List.setIfInBounds_toArray, List.set_cons_zero, List.set_cons_succ, i64_w, i32_w]
    rfl
   refine pv_ 7 51 255 HT_ ?_
   refine pv_ 8 52 511 HT_ ?_
   refine pv_ 9 53 1023 HT_ ?_
   refine pv_ 10 54 2047 HT_ ?_
   refine pv_ 11 55 4095 HT_ ?_
   refine pv_ 12 56 8191 HT_ ?_
   refine pv_ 13 57 16383 HT_ ?_
   refine pv_ 14 58 32767 HT_ ?_
   refine pv_ 15 59 65535 HT_ ?_
   refine pv_ 16 60 131071 HT_ ?_
   refine pv_ 18 62 393215 HT_ ?_
   refine pv_ 19 63 917503 HT_ ?_
   refine pv_ 20 64 1966079 HT_ ?_
   refine tw_ 17 61 2097151 HT_ HW_ hHeld ?_
   refine tw_ 21 65 4194303 HT_ HW_ hHeld ?_
   refine pv_ 22 66 8388607 HT_ ?_
   refine pv_ 23 67 16777215 HT_ ?_
   refine pv_ 24 68 33554431 HT_ ?_
   refine done_ (done_of HT_.out kr_) ?_
   try go_wp2
   go_roundg k1
   case measure => have := HK1.out; omega
   case rel => exact ⟨(wrap64 (x10_1 + 1)), sd_, H', ⟨by have := HK1.out; omega⟩, ⟨nm_ HO_7⟩, ⟨xd_ HO_9.out⟩, ⟨bk_⟩, ⟨bk_⟩, ⟨bl_⟩⟩
theorem u8_wf {x : Int} (h : (Lit.int .u8 x).wf = true) : 0 ≤ x ∧ x ≤ 255 := by
 simp [Lit.wf, IntKind.has] at h
 have h1 : IntKind.min .u8 = 0 := rfl
 have h2 : IntKind.max .u8 = 255 := rfl
 omega
theorem enc_of (p : Int) (K M : Nat) (b : List Int) (hmay : agz.f p (K : Int) (M : Int) = some true) (hn : b.length ≤ 4096) (data : List (List Int)) (q1 : data.length = K) (q2 : ∀ r, r ∈ data → r.length = sizeN p K b.length) (q4 : Ev (fun k => aGz.f k p (K : Int) (M : Int) b) (data, 0)) :
  Ev (fun k => bjz.f k p (K : Int) (M : Int) b) (data ++ parV (sizeN p K b.length) p K M data, 0) := by
 obtain ⟨p1, p2, k1, k2, m1, m2⟩ := bJz hmay
 have h2 := par_ev p K M (sizeN p K b.length) data hmay q1 (by have := dCz p K b.length (by omega) (by omega) hn; omega) (sizeN_even p K b.length) q2
 have hl := parV_len (sizeN p K b.length) p K M data hmay
 refine Ev.bind q4 ?_
 refine Ev.congr (f := fun k => (anz.f k p (K : Int) (M : Int) data).bind fun t => if data.length + t.1.length < 5864062014805 then some (data ++ t.1, t.2) else none) (fun k => by dsimp only; rw [if_pos rfl]) ?_
 refine Ev.bind h2 ?_
 refine Ev.congr (fun k => ?_) (Ev.now _)
 dsimp only
 rw [if_pos (by omega)]
end Go.Proofs.YtpdakdcmahlghaaGreat.XCo
end
