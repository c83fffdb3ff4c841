-- Joined by this work's own program (wip/tools/bundle.py) out of its texts: what this claim uses of them. Not trusted: Lean checks it.
import Derived.Test.YtpdakdcmahlghaaGreatBTrialOdd16
section
namespace Go.Proofs.YtpdakdcmahlghaaGreat.XCo
open Go.RowKit Go.Proofs.YtpdakdcmahlghaaGreatW.PrintWords Go.Proofs.YtpdakdcmahlghaaGreatW.PrintLast Go.Proofs.YtpdakdcmahlghaaGreatW.PrintMore
attribute [local go_sem] ayz azz aJz aKz auz avz aAz aBz
set_option linter.unusedVariables false
set_option linter.unusedSimpArgs false
def afz.j0 : Nat → Bool → List (List Int) → Bool → Int → Int → Int → Int → Int → Int → Option (Bool)
 | 0, _, _, _, _, _, _, _, _, _ => none
 | k + 1, x7, x9, x38, x198000, x198001, x198002, x203000, x203001, x203002 => if x38 = true then (some false) else ((some (([] : List (List Int)) : List (List Int))).bind fun y207 => (if y207.length + x9.length < 5864062014805 then ((some (y207 ++ x9 : List (List Int))).bind fun y210 => (if (x9.length : Int) = 0 then (none) else (if 0 ≤ (Int.tmod (wrap64 (x198000)) (x9.length : Int)) then (if (Int.tmod (wrap64 (x198000)) (x9.length : Int)) < (x9.length : Int) then (if ((rd_L1 x9 (Int.tmod (wrap64 (x198000)) (x9.length : Int))).length : Int) = 0 then (some false) else ((some (([] : List Int) : List Int)).bind fun y214 => (if y214.length + (rd_L1 x9 (Int.tmod (wrap64 (x198000)) (x9.length : Int))).length < 140737488355328 then ((some (y214 ++ (rd_L1 x9 (Int.tmod (wrap64 (x198000)) (x9.length : Int))) : List Int)).bind fun y218 => (if (y218.length : Int) = 0 then (none) else (if 0 ≤ (Int.tmod (wrap64 (x198001)) (y218.length : Int)) then (if (Int.tmod (wrap64 (x198001)) (y218.length : Int)) < (y218.length : Int) then (if (Int.tmod (wrap64 (x198000)) (x9.length : Int)) < (y210.length : Int) then (if x7 = true then ((axz.f k (y210.set ((Int.tmod (wrap64 (x198000)) (x9.length : Int)) : Int).toNat (y218.set ((Int.tmod (wrap64 (x198001)) (y218.length : Int)) : Int).toNat (Go.bits .xor .u8 (rd y218 (Int.tmod (wrap64 (x198001)) (y218.length : Int))) ((1 + (Int.tmod x198002 255)) % 256)))) x203001).bind fun t224 => ((aFz.f k t224 x203000).bind fun t227 => (some (!t227)))) else (some false)) else (none)) else (none)) else (none)))) else (none)))) else (none)) else (none)))) else (none)))
def afz.f (k : Nat) (a0_0 : Int) (a0_1 : Int) (a0_2 : Int) (l1 : List Int) (a2_0 : Int) (a2_1 : Int) (a2_2 : Int) : Option (Bool) := (biz.f k).bind fun t198 => (if (l1.length : Int) > 300 then (some t198) else ((bdz.f a0_0 a0_1 a0_2).bind fun bt199 => ((bnz.f k bt199.1 bt199.2.1 bt199.2.2 l1).bind fun bt203 => (if bt203.2 = 0 then (afz.j0 k t198 bt203.1 ((bt203.1.length : Int) != (wrap64 (bt199.2.1 + bt199.2.2))) a2_0 a2_1 a2_2 bt199.1 bt199.2.1 bt199.2.2) else (afz.j0 k t198 bt203.1 true a2_0 a2_1 a2_2 bt199.1 bt199.2.1 bt199.2.2)))))
def afz.T13 : Bool × List (List Nat × List Nat) := (true, [([], []), ([], []), ([1], [1]), ([2], [2]), ([], []), ([4], [4]), ([3, 5], [3, 5]), ([], []), ([], []), ([8], [8]), ([9], [9]), ([], []), ([11], [11]), ([10, 12], [10, 12]), ([7, 13], [7, 13]), ([14], [14]), ([], []), ([16], [16]), ([17], [17]), ([18], [18]), ([15, 19], [15, 19]), ([0, 6, 0, 1, 2, 3, 4, 5, 6, 7, 8, 9, 10, 11, 12, 13, 14, 15, 16, 17, 18, 19, 20], [0, 6]), ([21, 20, 0, 1, 2, 3, 4, 5, 6, 7, 8, 9, 10, 11, 12, 13, 14, 15, 16, 17, 18, 19, 20], [20, 21])])
def afz.B13 : List Nat := [0, 0, 2, 6, 0, 16, 62, 0, 0, 256, 768, 0, 2048, 7936, 16256, 32640, 0, 65536, 196608, 458752, 1048448, 2097151, 4194303]
theorem afz.tab13 : rtab .any (opsOf Tryz.f10 13) = afz.T13 := by kernel_rfl
theorem afz.bits13 : waitsOk afz.T13.2 afz.B13 = true := by kernel_rfl
def afz.T15 : Bool × List (List Nat × List Nat) := (true, [([], []), ([0], [0]), ([1], [1]), ([1], [1]), ([3, 1], [1, 3]), ([2, 4, 1, 1], [1, 2, 4]), ([1], [1]), ([6, 1], [1, 6]), ([5, 7, 5, 1], [1, 5, 7]), ([8, 1], [1, 8]), ([1, 9], [1, 9]), ([10, 8, 0, 1, 2, 3, 4, 5, 6, 7, 8, 9, 10], [10])])
def afz.B15 : List Nat := [0, 1, 3, 3, 11, 31, 3, 67, 255, 511, 1023, 2047]
theorem afz.tab15 : rtab .any (opsOf Tryz.f10 15) = afz.T15 := by kernel_rfl
theorem afz.bits15 : waitsOk afz.T15.2 afz.B15 = true := by kernel_rfl
set_option maxHeartbeats 8000000 in
set_option maxRecDepth 100000 in
theorem afz.calls (k : Nat) (a0_0 : Int) (a0_1 : Int) (a0_2 : Int) (A1 : Option Addr) (c1 : Nat) (l1 : List Int) (a2_0 : Int) (a2_1 : Int) (a2_2 : Int) (r : Bool) (w : World) (hr_ : Aside0 (r = true)) (hr1 : Kd.C (Kd.int .u8) w A1 l1.length l1) (hc1 : l1.length ≤ c1) (h : afz.f k a0_0 a0_1 a0_2 l1 a2_0 a2_1 a2_2 = some r) :
  Calls Tryz.prog 10 #[.agg #[.int .u8 a0_0, .int .u8 a0_1, .int .u8 a0_2], .slice A1 l1.length c1, .agg #[.int .u8 a2_0, .int .u8 a2_1, .int .u8 a2_2]] w fun e w' => e = .returned (.bool r) ∧ Below w.heap.size w w' := by
 have hu42 := Tryz.underlying42
 have hu23 := Tryz.underlying23
 have HR1 := Aside0.mk hr1
 have HC1 := Aside0.mk hc1
 clear hr1 hc1
 have HB := Aside0.mk (Below.refl w.heap.size w)
 have H := h
 clear h
 unfold afz.f at H
 obtain ⟨t198, A4, H⟩ := ob_ H
 (try dsimp only at H)
 by_cases c5 : (l1.length : Int) > 300
 ·rw [if_pos c5] at H
  have c5b0 : decide (300 < (l1.length : Int)) = true := decide_eq_true c5
  have c5b1 : decide (300 < l1.length) = true := decide_eq_true (by omega)
  clear c5
  obtain rfl := Option.some.inj H
  go_enter Tryz.func10, Tryz.ntmps10
  go_wp2_with (first | ((with_reducible refine anz (N := 3) rfl ?_); (try (refine bDz (by rfl) ?_; dsimp only)); refine bx_ 3 #[.int .u8 a0_0, .int .u8 a0_1, .int .u8 a0_2] 42 ?_; intro gb196 hg w6 hbox hb; have n_ := And.intro (hs_ HB hb) (And.intro (Aside0.mk (hbox)) (And.intro (ag_ HB gb196) (ag_ HB gb196))); clear HB; obtain ⟨HB, BK196, GW196, GE196⟩ := n_; clear hb hbox hg) | ((with_reducible refine anz (N := 5) rfl ?_); (try (refine bDz (by rfl) ?_; dsimp only)); refine bx_ 5 #[.int .u8 a2_0, .int .u8 a2_1, .int .u8 a2_2] 42 ?_; intro gb197 hg w7 hbox hb; have n_ := And.intro (bb_ BK196 hb) (And.intro (hs_ HB hb) (And.intro (Aside0.mk (hbox)) (And.intro (ag_ HB gb197) (And.intro (ag_ HB gb197) (And.intro (n1_ BK196 gb197) (n2_ BK196 gb197)))))); clear BK196 HB; obtain ⟨BK196, HB, BK197, GW197, GE197, NB196_197, NB197_196⟩ := n_; clear hb hbox hg) | ((with_reducible refine ahz (f := 35) rfl ?_); refine gl_ (some 14) Tryz.func35 #[] ?_; (with_reducible refine (biz.calls k  t198 _ A4.out).mono ?_); rintro e w8 ⟨rfl, hb⟩; refine ⟨_, rfl, ?_⟩; have n_ := And.intro (bb_ BK196 hb) (And.intro (bb_ BK197 hb) (hs_ HB hb)); clear BK196 BK197 HB; obtain ⟨BK196, BK197, HB⟩ := n_; (try clear hb)))
  go_ret
  exact ⟨er_, bl_⟩
 ·rw [if_neg c5] at H
  have c5b0 : decide (300 < (l1.length : Int)) = false := decide_eq_false c5
  have c5b1 : decide (300 < l1.length) = false := decide_eq_false (by omega)
  clear c5
  obtain ⟨⟨t199, t200, t201⟩, A9, H⟩ := ob_ H
  (try dsimp only at H)
  obtain ⟨⟨t203, t206⟩, A10, H⟩ := ob_ H
  (try dsimp only at H)
  have HC11 := Aside0.mk H
  clear H
  go_enter Tryz.func10, Tryz.ntmps10
  go_upto_region 6 with (first | ((with_reducible refine anz (N := 3) rfl ?_); (try (refine bDz (by rfl) ?_; dsimp only)); refine bx_ 3 #[.int .u8 a0_0, .int .u8 a0_1, .int .u8 a0_2] 42 ?_; intro gb196 hg w12 hbox hb; have n_ := And.intro (hs_ HB hb) (And.intro (Aside0.mk (hbox)) (And.intro (ag_ HB gb196) (ag_ HB gb196))); clear HB; obtain ⟨HB, BK196, GW196, GE196⟩ := n_; clear hb hbox hg) | ((with_reducible refine anz (N := 5) rfl ?_); (try (refine bDz (by rfl) ?_; dsimp only)); refine bx_ 5 #[.int .u8 a2_0, .int .u8 a2_1, .int .u8 a2_2] 42 ?_; intro gb197 hg w13 hbox hb; have n_ := And.intro (bb_ BK196 hb) (And.intro (hs_ HB hb) (And.intro (Aside0.mk (hbox)) (And.intro (ag_ HB gb197) (And.intro (ag_ HB gb197) (And.intro (n1_ BK196 gb197) (n2_ BK196 gb197)))))); clear BK196 HB; obtain ⟨BK196, HB, BK197, GW197, GE197, NB196_197, NB197_196⟩ := n_; clear hb hbox hg) | ((with_reducible refine ahz (f := 35) rfl ?_); refine gl_ (some 14) Tryz.func35 #[] ?_; (with_reducible refine (biz.calls k  t198 _ A4.out).mono ?_); rintro e w14 ⟨rfl, hb⟩; refine ⟨_, rfl, ?_⟩; have n_ := And.intro (bb_ BK196 hb) (And.intro (bb_ BK197 hb) (hs_ HB hb)); clear BK196 BK197 HB; obtain ⟨BK196, BK197, HB⟩ := n_; (try clear hb); have hnb15 := NB196_197.out; have hnc15 := NB197_196.out; obtain ⟨hcz16_0, hfz16_0, hcz16_1, hfz16_1, hcz16_2, hfz16_2⟩ := bc3_ BK196.out) | ((with_reducible refine ahz (f := 31) rfl ?_); refine gl_ (some 20) Tryz.func31 #[.agg #[.int .u8 a0_0, .int .u8 a0_1, .int .u8 a0_2]] ?_; (with_reducible refine (bdz.calls a0_0 a0_1 a0_2 t199 t200 t201 _ A9.out).mono ?_); rintro e w17 ⟨rfl, hb⟩; refine ⟨_, rfl, ?_⟩; have n_ := And.intro (bb_ BK196 hb) (And.intro (bb_ BK197 hb) (hs_ HB hb)); clear BK196 BK197 HB; obtain ⟨BK196, BK197, HB⟩ := n_; (try clear hb)) | ((with_reducible refine anz (N := 8) rfl ?_); (try (refine bDz (by rfl) ?_; dsimp only)); refine bx_ 8 #[.int .i64 0, .int .i64 0, .int .i64 0] 23 ?_; intro gb202 hg w18 hbox hb; have n_ := And.intro (bb_ BK196 hb) (And.intro (bb_ BK197 hb) (And.intro (hs_ HB hb) (And.intro (Aside0.mk (hbox)) (And.intro (ag_ HB gb202) (And.intro (ag_ HB gb202) (And.intro (n1_ BK196 gb202) (And.intro (n2_ BK196 gb202) (And.intro (n1_ BK197 gb202) (n2_ BK197 gb202))))))))); clear BK196 BK197 HB; obtain ⟨BK196, BK197, HB, BK202, GW202, GE202, NB196_202, NB202_196, NB197_202, NB202_197⟩ := n_; clear hb hbox hg; have hnb19 := NB202_196.out; have hnc19 := NB196_202.out; have hnb20 := NB202_197.out; have hnc20 := NB197_202.out; obtain ⟨hcz21_0, hfz21_0, hcz21_1, hfz21_1, hcz21_2, hfz21_2⟩ := bc3_ BK202.out) | ((with_reducible refine ahz (f := 24) rfl ?_); refine gl_ (some 24) Tryz.func24 #[.agg #[.int .i64 t199, .int .i64 t200, .int .i64 t201], .slice A1 l1.length c1] ?_; (with_reducible refine (bnz.calls k t199 t200 t201 _ _ l1 t203 t206 _ (Kd.aDz HR1.out bl_) (HC1.out) A10.out).mono ?_); rintro e w22 ⟨v204, rfl, ho0, hb⟩; refine ⟨_, rfl, ?_⟩; have n_ := And.intro (Aside0.mk (Kd.N_lower (Kd.bPz (ok' := fun k_ => k_ ≠ gb196 ∧ k_ ≠ gb197 ∧ k_ ≠ gb202) ho0 (fun k_ hk_ => ⟨(Kd.freshB (g := gb196) (o := .cells #[.int .u8 a0_0, .int .u8 a0_1, .int .u8 a0_2] 42 (0, 0)) (by (with_reducible repeat (first | refine acz ?_ _ | refine aez ?_ | refine abz ?_ _)); refine ajz ?_ NB196_202.out _; (with_reducible repeat (first | refine acz ?_ _ | refine aez ?_ | refine abz ?_ _)); refine ajz ?_ NB196_202.out _; (with_reducible repeat (first | refine acz ?_ _ | refine aez ?_ | refine abz ?_ _)); refine ajz ?_ NB196_202.out _; (with_reducible repeat (first | refine acz ?_ _ | refine aez ?_ | refine abz ?_ _)); exact BK196.out) k_ hk_), (Kd.freshB (g := gb197) (o := .cells #[.int .u8 a2_0, .int .u8 a2_1, .int .u8 a2_2] 42 (0, 0)) (by (with_reducible repeat (first | refine acz ?_ _ | refine aez ?_ | refine abz ?_ _)); refine ajz ?_ NB197_202.out _; (with_reducible repeat (first | refine acz ?_ _ | refine aez ?_ | refine abz ?_ _)); refine ajz ?_ NB197_202.out _; (with_reducible repeat (first | refine acz ?_ _ | refine aez ?_ | refine abz ?_ _)); refine ajz ?_ NB197_202.out _; (with_reducible repeat (first | refine acz ?_ _ | refine aez ?_ | refine abz ?_ _)); exact BK197.out) k_ hk_), (Kd.freshB (g := gb202) (o := .cells #[.int .i64 t199, .int .i64 t200, .int .i64 t201] 23 (0, 0)) (by (with_reducible repeat (first | refine acz ?_ _ | refine aez ?_ | refine abz ?_ _)); refine akz (cs := #[.int .i64 t199, .int .i64 t200, .int .i64 0]) ?_ 2 _ rfl; (with_reducible repeat (first | refine acz ?_ _ | refine aez ?_ | refine abz ?_ _)); refine akz (cs := #[.int .i64 t199, .int .i64 0, .int .i64 0]) ?_ 1 _ rfl; (with_reducible repeat (first | refine acz ?_ _ | refine aez ?_ | refine abz ?_ _)); refine akz (cs := #[.int .i64 0, .int .i64 0, .int .i64 0]) ?_ 0 _ rfl; (with_reducible repeat (first | refine acz ?_ _ | refine aez ?_ | refine abz ?_ _)); exact BK202.out) k_ hk_)⟩)) (aNz bl_))) (And.intro (Aside0.mk (aiz (g := gb196) (o := .cells #[.int .u8 a0_0, .int .u8 a0_1, .int .u8 a0_2] 42 (0, 0)) (by (with_reducible repeat (first | refine acz ?_ _ | refine aez ?_ | refine abz ?_ _)); refine ajz ?_ NB196_202.out _; (with_reducible repeat (first | refine acz ?_ _ | refine aez ?_ | refine abz ?_ _)); refine ajz ?_ NB196_202.out _; (with_reducible repeat (first | refine acz ?_ _ | refine aez ?_ | refine abz ?_ _)); refine ajz ?_ NB196_202.out _; (with_reducible repeat (first | refine acz ?_ _ | refine aez ?_ | refine abz ?_ _)); exact BK196.out) hb)) (And.intro (Aside0.mk (aiz (g := gb197) (o := .cells #[.int .u8 a2_0, .int .u8 a2_1, .int .u8 a2_2] 42 (0, 0)) (by (with_reducible repeat (first | refine acz ?_ _ | refine aez ?_ | refine abz ?_ _)); refine ajz ?_ NB197_202.out _; (with_reducible repeat (first | refine acz ?_ _ | refine aez ?_ | refine abz ?_ _)); refine ajz ?_ NB197_202.out _; (with_reducible repeat (first | refine acz ?_ _ | refine aez ?_ | refine abz ?_ _)); refine ajz ?_ NB197_202.out _; (with_reducible repeat (first | refine acz ?_ _ | refine aez ?_ | refine abz ?_ _)); exact BK197.out) hb)) (And.intro (Aside0.mk (aiz (g := gb202) (o := .cells #[.int .i64 t199, .int .i64 t200, .int .i64 t201] 23 (0, 0)) (by (with_reducible repeat (first | refine acz ?_ _ | refine aez ?_ | refine abz ?_ _)); refine akz (cs := #[.int .i64 t199, .int .i64 t200, .int .i64 0]) ?_ 2 _ rfl; (with_reducible repeat (first | refine acz ?_ _ | refine aez ?_ | refine abz ?_ _)); refine akz (cs := #[.int .i64 t199, .int .i64 0, .int .i64 0]) ?_ 1 _ rfl; (with_reducible repeat (first | refine acz ?_ _ | refine aez ?_ | refine abz ?_ _)); refine akz (cs := #[.int .i64 0, .int .i64 0, .int .i64 0]) ?_ 0 _ rfl; (with_reducible repeat (first | refine acz ?_ _ | refine aez ?_ | refine abz ?_ _)); exact BK202.out) hb)) (hs_ HB hb)))); clear BK196 BK197 BK202 HB; obtain ⟨HO205, BK196, BK197, BK202, HB⟩ := n_; clear hb ho0))
  (try simp only [Act.put, List.setIfInBounds_toArray, List.set_cons_zero, List.set_cons_succ])
  go_cut [38] (fun v38 wc => ∃ (kq : Nat) (x38_10 : Bool), v38 = .bool x38_10 ∧ Aside0 (afz.j0 kq t198 t203 x38_10 a2_0 a2_1 a2_2 t199 t200 t201 = some r) ∧ Aside0 (kq ≤ k) ∧ Aside0 (Kd.N (Kd.slice 5 (Kd.int .u8)) 34 wc w.heap.size (fun k_ => k_ ≠ gb196 ∧ k_ ≠ gb197 ∧ k_ ≠ gb202) v204 t203) ∧ Aside0 (wc.heap[gb196]? = some (.cells #[.int .u8 a0_0, .int .u8 a0_1, .int .u8 a0_2] 42 (0, 0))) ∧ Aside0 (wc.heap[gb197]? = some (.cells #[.int .u8 a2_0, .int .u8 a2_1, .int .u8 a2_2] 42 (0, 0))) ∧ Aside0 (wc.heap[gb202]? = some (.cells #[.int .i64 t199, .int .i64 t200, .int .i64 t201] 23 (0, 0))) ∧ Aside0 (Below w.heap.size w wc))
  case first =>
   have H := HC11.out
   clear HC11
   by_cases c23 : t206 = 0
   rotate_left
   ·rw [if_neg c23] at H
    have c23b0 : (t206 == 0) = false := beq_eq_false_iff_ne.mpr c23
    have c23b1 : (t206 != 0) = true := bne_iff_ne.mpr c23
    (first | rw [c23b0] | (simp only [i64_w, i32_w]; rw [c23b0]) | skip)
    have H' := Aside0.mk H
    clear H
    go_wp2
    go_meet
    case rel => exact ⟨_, (true), sd_, H', ⟨by first | omega | exact Nat.le_refl _⟩, ⟨xd_ HO205.out⟩, ⟨bk_⟩, ⟨bk_⟩, ⟨bk_⟩, ⟨bl_⟩⟩
   rw [if_pos c23] at H
   have c23b0 : (t206 == 0) = true := beq_iff_eq.mpr c23
   have c23b1 : (t206 != 0) = false := bne_eq_false_iff_eq.mpr c23
   clear c23
   (first | rw [c23b0] | (simp only [i64_w, i32_w]; rw [c23b0]) | skip)
   have H' := Aside0.mk H
   clear H
   obtain ⟨Ao24, co24, eo24⟩ := Kd.N_slice HO205.out
   subst eo24
   have hnb25 := NB202_196.out
   have hnc25 := NB196_202.out
   have hnb26 := NB202_197.out
   have hnc26 := NB197_202.out
   obtain ⟨hcz27_0, hfz27_0, hcz27_1, hfz27_1, hcz27_2, hfz27_2⟩ := bc3_ BK202.out
   go_wp2
   go_meet
   case rel => exact ⟨_, (((t203.length : Int) != (wrap64 (t200 + t201)))), sd_, H', ⟨by first | omega | exact Nat.le_refl _⟩, ⟨xd_ HO205.out⟩, ⟨bk_⟩, ⟨bk_⟩, ⟨bk_⟩, ⟨bl_⟩⟩
  case rest =>
   clear HC11
   try clear c1
   try clear c2
   try clear p2
   try clear c3
   try clear c5
   try clear c5b0
   try clear c5b1
   try clear p6
   try clear c10
   try clear c15
   try clear c19
   try clear c20
   try clear c23
   try clear c23b0
   try clear c23b1
   try clear c24
   try clear c25
   try clear c26
   try clear hcz16_0
   try clear hcz16_1
   try clear hcz16_2
   try clear hcz21_0
   try clear hcz21_1
   try clear hcz21_2
   try clear hcz27_0
   try clear hcz27_1
   try clear hcz27_2
   try clear hfz16_0
   try clear hfz16_1
   try clear hfz16_2
   try clear hfz21_0
   try clear hfz21_1
   try clear hfz21_2
   try clear hfz27_0
   try clear hfz27_1
   try clear hfz27_2
   obtain ⟨kq, x38_10, rfl, HA, HJ10, HO_9, BK196, BK197, BK202, HB⟩ := hcut
   rcases kq with _ | kj10
   ·exact absurd HA.out (by simp [afz.j0])
   have H := HA.out
   clear HA
   simp only [afz.j0] at H
   by_cases c28 : x38_10 = true
   ·subst c28
    rw [if_pos rfl] at H
    exact absurd ((Option.some.inj H).trans hr_.out) (by simp)
   ·replace c28 := Bool.eq_false_iff.mpr c28
    subst c28
    rw [if_neg (show ¬ (false = true) by decide)] at H
    obtain ⟨y207, hy207⟩ : ∃ y_ : List (List Int), y_ = (([] : List (List Int))) := ⟨_, rfl⟩
    first | rw [Option.bind_some, ← hy207] at H | rw [← hy207] at H
    (try dsimp only at H)
    have Ny207 := Aside0.mk hy207
    clear hy207
    by_cases c29 : y207.length + t203.length < 5864062014805
    rotate_left
    ·rw [if_neg c29] at H
     exact absurd H (by simp)
    rw [if_pos c29] at H
    have LMc29 := Aside0.mk c29
    clear c29
    obtain ⟨y210, hy210⟩ : ∃ y_ : List (List Int), y_ = (y207 ++ t203) := ⟨_, rfl⟩
    first | rw [Option.bind_some, ← hy210] at H | rw [← hy210] at H
    (try dsimp only at H)
    have Ny210 := Aside0.mk hy210
    clear hy210
    by_cases c30 : (t203.length : Int) = 0
    ·rw [if_pos c30] at H
     exact absurd H (by simp)
    ·rw [if_neg c30] at H
     have c30b0 : ((t203.length : Int) == 0) = false := beq_eq_false_iff_ne.mpr c30
     have c30b1 : ((t203.length : Int) != 0) = true := bne_iff_ne.mpr c30
     have c30b2 : ¬ (t203 = []) := fun h_ => c30 (by rw [h_]; rfl)
     obtain ⟨ji31, hji31⟩ : ∃ j_ : Int, (Int.tmod (wrap64 (a2_0)) (t203.length : Int)) = j_ := ⟨_, rfl⟩
     replace H : (if 0 ≤ (ji31) then (if (ji31) < (t203.length : Int) then (if ((rd_L1 t203 (ji31)).length : Int) = 0 then (some false) else ((some (([] : List Int) : List Int)).bind fun y214 => (if y214.length + (rd_L1 t203 (ji31)).length < 140737488355328 then ((some (y214 ++ (rd_L1 t203 (ji31)) : List Int)).bind fun y218 => (if (y218.length : Int) = 0 then (none) else (if 0 ≤ (Int.tmod (wrap64 (a2_1)) (y218.length : Int)) then (if (Int.tmod (wrap64 (a2_1)) (y218.length : Int)) < (y218.length : Int) then (if (ji31) < (y210.length : Int) then (if t198 = true then ((axz.f kj10 (y210.set ((ji31) : Int).toNat (y218.set ((Int.tmod (wrap64 (a2_1)) (y218.length : Int)) : Int).toNat (Go.bits .xor .u8 (rd y218 (Int.tmod (wrap64 (a2_1)) (y218.length : Int))) ((1 + (Int.tmod a2_2 255)) % 256)))) t200).bind fun t224 => ((aFz.f kj10 t224 t199).bind fun t227 => (some (!t227)))) else (some false)) else (none)) else (none)) else (none)))) else (none)))) else (none)) else (none)) = some r := by first | (rw [hji31] at H; exact H) | (simp only [hji31] at H ⊢; exact H)
     by_cases c32 : 0 ≤ (ji31)
     rotate_left
     ·rw [if_neg c32] at H
      exact absurd H (by simp)
     rw [if_pos c32] at H
     have c32b0 := decide_eq_true c32
     clear c32
     by_cases c33 : (ji31) < (t203.length : Int)
     rotate_left
     ·rw [if_neg c33] at H
      exact absurd H (by simp)
     rw [if_pos c33] at H
     have c33b0 := decide_eq_true c33
     clear c33
     by_cases c34 : ((rd_L1 t203 (ji31)).length : Int) = 0
     ·rw [if_pos c34] at H
      have c34b0 : (((rd_L1 t203 (ji31)).length : Int) == 0) = true := beq_iff_eq.mpr c34
      have c34b1 : (((rd_L1 t203 (ji31)).length : Int) != 0) = false := bne_eq_false_iff_eq.mpr c34
      clear c34
      exact absurd ((Option.some.inj H).trans hr_.out) (by simp)
     ·rw [if_neg c34] at H
      have c34b0 : (((rd_L1 t203 (ji31)).length : Int) == 0) = false := beq_eq_false_iff_ne.mpr c34
      have c34b1 : (((rd_L1 t203 (ji31)).length : Int) != 0) = true := bne_iff_ne.mpr c34
      have c34b2 : ¬ ((rd_L1 t203 (ji31)) = []) := fun h_ => c34 (by rw [h_]; rfl)
      obtain ⟨y214, hy214⟩ : ∃ y_ : List Int, y_ = (([] : List Int)) := ⟨_, rfl⟩
      first | rw [Option.bind_some, ← hy214] at H | rw [← hy214] at H
      (try dsimp only at H)
      have Ny214 := Aside0.mk hy214
      clear hy214
      by_cases c35 : y214.length + (rd_L1 t203 (ji31)).length < 140737488355328
      rotate_left
      ·rw [if_neg c35] at H
       exact absurd H (by simp)
      rw [if_pos c35] at H
      have LMc35 := Aside0.mk c35
      clear c35
      obtain ⟨y218, hy218⟩ : ∃ y_ : List Int, y_ = (y214 ++ (rd_L1 t203 (ji31))) := ⟨_, rfl⟩
      first | rw [Option.bind_some, ← hy218] at H | rw [← hy218] at H
      (try dsimp only at H)
      have Ny218 := Aside0.mk hy218
      clear hy218
      by_cases c36 : (y218.length : Int) = 0
      ·rw [if_pos c36] at H
       exact absurd H (by simp)
      ·rw [if_neg c36] at H
       have c36b0 : ((y218.length : Int) == 0) = false := beq_eq_false_iff_ne.mpr c36
       have c36b1 : ((y218.length : Int) != 0) = true := bne_iff_ne.mpr c36
       have c36b2 : ¬ (y218 = []) := fun h_ => c36 (by rw [h_]; rfl)
       obtain ⟨ji37, hji37⟩ : ∃ j_ : Int, (Int.tmod (wrap64 (a2_1)) (y218.length : Int)) = j_ := ⟨_, rfl⟩
       replace H : (if 0 ≤ (ji37) then (if (ji37) < (y218.length : Int) then (if (ji31) < (y210.length : Int) then (if t198 = true then ((axz.f kj10 (y210.set ((ji31) : Int).toNat (y218.set ((ji37) : Int).toNat (Go.bits .xor .u8 (rd y218 (ji37)) ((1 + (Int.tmod a2_2 255)) % 256)))) t200).bind fun t224 => ((aFz.f kj10 t224 t199).bind fun t227 => (some (!t227)))) else (some false)) else (none)) else (none)) else (none)) = some r := by first | (rw [hji37] at H; exact H) | (simp only [hji37] at H ⊢; exact H)
       by_cases c38 : 0 ≤ (ji37)
       rotate_left
       ·rw [if_neg c38] at H
        exact absurd H (by simp)
       rw [if_pos c38] at H
       have c38b0 := decide_eq_true c38
       clear c38
       by_cases c39 : (ji37) < (y218.length : Int)
       rotate_left
       ·rw [if_neg c39] at H
        exact absurd H (by simp)
       rw [if_pos c39] at H
       have c39b0 := decide_eq_true c39
       clear c39
       obtain ⟨y222, hy222⟩ : ∃ y_ : List Int, y_ = (y218.set ((ji37) : Int).toNat (Go.bits .xor .u8 (rd y218 (ji37)) ((1 + (Int.tmod a2_2 255)) % 256))) := ⟨_, rfl⟩
       first | rw [Option.bind_some, ← hy222] at H | rw [← hy222] at H
       (try dsimp only at H)
       have Ny222 := Aside0.mk hy222
       clear hy222
       by_cases c41 : (ji31) < (y210.length : Int)
       rotate_left
       ·rw [if_neg c41] at H
        exact absurd H (by simp)
       rw [if_pos c41] at H
       have c41b0 := decide_eq_true c41
       clear c41
       obtain ⟨y223, hy223⟩ : ∃ y_ : List (List Int), y_ = (y210.set ((ji31) : Int).toNat y222) := ⟨_, rfl⟩
       first | rw [Option.bind_some, ← hy223] at H | rw [← hy223] at H
       (try dsimp only at H)
       have Ny223 := Aside0.mk hy223
       clear hy223
       by_cases c43 : t198 = true
       rotate_left
       ·replace c43 := Bool.eq_false_iff.mpr c43
        subst c43
        rw [if_neg (show ¬ (false = true) by decide)] at H
        exact absurd ((Option.some.inj H).trans hr_.out) (by simp)
       subst c43
       rw [if_pos rfl] at H
       obtain ⟨t224, A44, H⟩ := ob_ H
       (try dsimp only at H)
       obtain ⟨t227, A45, H⟩ := ob_ H
       (try dsimp only at H)
       obtain rfl := Option.some.inj H
       try go_wp2_with (first | ((with_reducible refine anz (N := 39) rfl ?_); (try (refine bDz (by rfl) ?_; dsimp only)); refine Kd.N_lit (Kd.slice 5 (Kd.int .u8)) _ 34 ?hg (N' := 39) ?hd (xs := ([] : List (List Int))) (inner := []) (ok := (fun k_ => some k_ ≠ (v204 : Value).ownBlock ∧ k_ ≠ gb196 ∧ k_ ≠ gb197 ∧ k_ ≠ gb202)) (okp := (fun k_ => some k_ ≠ (v204 : Value).ownBlock ∧ k_ ≠ gb196 ∧ k_ ≠ gb197 ∧ k_ ≠ gb202)) ?hr ?hp (fun _ hk => hk) ((show ∀ k_, wc.heap.size ≤ k_ → (fun k_ => some k_ ≠ (v204 : Value).ownBlock ∧ k_ ≠ gb196 ∧ k_ ≠ gb197 ∧ k_ ≠ gb202) k_ from fun k_ hk => ⟨Kd.fresh' (Kd.N_lt (xd_ HO_9.out)) k_ hk, Kd.freshB (g := gb196) (o := .cells #[.int .u8 a0_0, .int .u8 a0_1, .int .u8 a0_2] 42 (0, 0)) bk_ k_ hk, Kd.freshB (g := gb197) (o := .cells #[.int .u8 a2_0, .int .u8 a2_1, .int .u8 a2_2] 42 (0, 0)) bk_ k_ hk, Kd.freshB (g := gb202) (o := .cells #[.int .i64 t199, .int .i64 t200, .int .i64 t201] 23 (0, 0)) bk_ k_ hk⟩) _ (Nat.le_refl _)) (Below.refl _ _) (Nat.le_refl _) (by simp) ?_; (case hd => rfl); (case hg => rfl); (case hr => first | (go_simp; done) | (go_simp; rfl)); (case hp => exact (Reps.none _ _)); intro v208 w46 ho47 hb hg_ hnew_; clear hg_ hnew_; (first | rw [← Ny207.out] at ho47 | (simp only [Int.reduceToNat] at ho47; rw [← Ny207.out] at ho47)); have n_ := And.intro (Aside0.mk (Kd.cwz (xd_ HO_9.out) (Kd.N_base ho47) hb)) (And.intro (Aside0.mk (Kd.N_lower ho47 (aNz bl_))) (And.intro (bb_ BK196 hb) (And.intro (bb_ BK197 hb) (And.intro (bb_ BK202 hb) (hs_ HB hb))))); clear HO_9 BK196 BK197 BK202 HB; obtain ⟨HO_9, HO209, BK196, BK197, BK202, HB⟩ := n_; clear hb ho47; obtain ⟨Ao49, co49, eo49⟩ := Kd.N_slice HO_9.out; subst eo49) | ((with_reducible refine atz (b := .append) (xs := #[.tmp 39, .tmp 40]) rfl ?_); (try (refine bDz (by rfl) ?_; dsimp only)); at_builtin; refine Kd.dUz (Kd.slice 5 (Kd.int .u8)) (w0 := w) w.heap.size rfl (.tmp 39) (.tmp 40) 24 34 (.slice none 0 0) 24 rfl Tryz.underlying24 info34 rfl (by decide) (by omega) v208 y207 t203 _ _ _ (fun k_ => k_ ≠ gb196 ∧ k_ ≠ gb197 ∧ k_ ≠ gb202) (fun k_ => ((fun k_ => k_ ≠ gb196 ∧ k_ ≠ gb197 ∧ k_ ≠ gb202)) k_ ∧ some k_ ≠ (v208 : Value).ownBlock) rfl rfl ?aO ?aR (fun _ hk => hk) ?aF ?aB ?aS ?aL ?_; (case aR => exact (by skip; exact Kd.N_F (Kd.bPz (ok' := (fun k_ => ((fun k_ => k_ ≠ gb196 ∧ k_ ≠ gb197 ∧ k_ ≠ gb202)) k_ ∧ some k_ ≠ (v208 : Value).ownBlock)) (HO_9.out) (fun k_ hk => ⟨⟨hk.1.1, ⟨hk.1.2.1, hk.1.2.2⟩⟩, hk.2⟩)))); (case aB => exact bl_); (case aF => exact (fun k_ hk => ⟨Kd.freshB (g := gb196) (o := .cells #[.int .u8 a0_0, .int .u8 a0_1, .int .u8 a0_2] 42 (0, 0)) bk_ k_ hk, Kd.freshB (g := gb197) (o := .cells #[.int .u8 a2_0, .int .u8 a2_1, .int .u8 a2_2] 42 (0, 0)) bk_ k_ hk, Kd.freshB (g := gb202) (o := .cells #[.int .i64 t199, .int .i64 t200, .int .i64 t201] 23 (0, 0)) bk_ k_ hk⟩)); (case aO => exact (nm_ HO209)); (case aS => exact (aNz bl_)); (case aL => have := LMc29.out; omega); intro v211 w48 ho hb hg hat; rw [← Ny210.out] at ho; have n_ := And.intro (Aside0.mk (Kd.dez (ok := (fun k_ => k_ ≠ gb196 ∧ k_ ≠ gb197 ∧ k_ ≠ gb202)) (xd_ HO_9.out) hg hat)) (And.intro (Aside0.mk (bEz (g := gb196) (o := .cells #[.int .u8 a0_0, .int .u8 a0_1, .int .u8 a0_2] 42 (0, 0)) bk_ hg (Kd.N_ne HO209.out BK196.out (by decide)))) (And.intro (Aside0.mk (bEz (g := gb197) (o := .cells #[.int .u8 a2_0, .int .u8 a2_1, .int .u8 a2_2] 42 (0, 0)) bk_ hg (Kd.N_ne HO209.out BK197.out (by decide)))) (And.intro (Aside0.mk (bEz (g := gb202) (o := .cells #[.int .i64 t199, .int .i64 t200, .int .i64 t201] 23 (0, 0)) bk_ hg (Kd.N_ne HO209.out BK202.out (by decide)))) (And.intro (Aside0.mk (hb)) (Aside0.mk (ho)))))); clear HO_9 BK196 BK197 BK202 HB HO209; obtain ⟨HO_9, BK196, BK197, BK202, HB, HO212⟩ := n_; clear ho hb hg hat; have hnb50 := NB197_196.out; have hnc50 := NB196_197.out; have hnb51 := NB197_202.out; have hnc51 := NB202_197.out; obtain ⟨hcz52_0, hfz52_0, hcz52_1, hfz52_1, hcz52_2, hfz52_2⟩ := bc3_ BK197.out; have p213 : 0 ≤ ((ji31) : Int) := of_decide_eq_true as_; have q213 : (ji31) < (t203.length : Int) := of_decide_eq_true as_; obtain ⟨ad213, A213_0, c213_0, e213, hx213_0, hl213_0, hi213_0⟩ := at_L1 (Kd.bkz HO_9.out).2.2 (ji31) p213 q213; cases e213; obtain ⟨ce213, hce213, hMe213, hcc213⟩ := Kd.N_get HO_9.out [] (ji31) p213 (by first | exact q213 | exact of_decide_eq_true as_ | (have e_ := (Kd.bkz HO_9.out).1; omega)); obtain ⟨ua213_0, uc213_0, rfl, ul213_0, ge213_0⟩ := Kd.bVz hMe213; have hv213_0 := hcc213 0 _ rfl; rw [Nat.add_zero, show ((Kd.slice 5 (Kd.int .u8))).sz = 1 from rfl, Nat.mul_one] at hv213_0; replace hv213_0 := Option.some.inj (hv213_0.symm.trans hx213_0); injection hv213_0 with hva_ hvn_ hvc_; rw [hva_] at ge213_0; rw [hvc_] at ul213_0; have HL213_0 := Aside0.mk (show Kd.V (Kd.int .u8) 5 _ w.heap.size _ _ (rd_L1 t203 (ji31)) from Kd.V_mk ul213_0 ge213_0); clear hva_ hvn_ hvc_ ge213_0 ul213_0; clear hcc213 hce213; have HR213_0 := Aside0.mk hi213_0; have HC213_0 := Aside0.mk hl213_0; clear hi213_0 hl213_0; replace p213 := eq_true p213; replace q213 := eq_true q213) | ((with_reducible refine anz (N := 54) rfl ?_); (try (refine bDz (by rfl) ?_; dsimp only)); refine Kd.R_lit (Kd.int .u8) _ 5 ?hg (N := 54) ?hd (xs := ([] : List Int)) (inner := []) (ok := fun _ => True) (okp := fun _ => True) ?hr ?hp (fun _ hk => hk) trivial (Below.refl _ _) (Nat.le_refl _) (by simp) ?_; (case hd => rfl); (case hg => rfl); (case hr => first | (go_simp; done) | (go_simp; rfl)); (case hp => exact (Reps.none _ _)); intro v215 w53 ho54 hb hg_ hnew_; clear hg_ hnew_; (first | rw [← Ny214.out] at ho54 | (simp only [Int.reduceToNat] at ho54; rw [← Ny214.out] at ho54)); have n_ := And.intro (Aside0.mk (Kd.cwz (xd_ HO_9.out) (Kd.bBz ho54) hb)) (And.intro (Aside0.mk (Kd.cwz (xd_ HO212.out) (Kd.bBz ho54) hb)) (And.intro (Aside0.mk (Kd.V_elder' (by (with_reducible repeat (first | apply Kd.bZz | apply Kd.b0z | apply Kd.bLz)); exact HL213_0.out) (Kd.bBz ho54) hb)) (And.intro (Aside0.mk (Kd.a9z ho54 (aNz bl_))) (And.intro (bb_ BK196 hb) (And.intro (bb_ BK197 hb) (And.intro (bb_ BK202 hb) (And.intro (Aside0.mk (Kd.aDz (by repeat (first | (with_reducible exact HR213_0.out) | (with_reducible refine Kd.c3z ?_ _) | (with_reducible refine Kd.bGz ?_ _) | (with_reducible refine Kd.C_drew ?_) | exact HR213_0.out)) hb)) (hs_ HB hb)))))))); clear HO_9 HO212 HL213_0 BK196 BK197 BK202 HR213_0 HB; obtain ⟨HO_9, HO212, HL213_0, HO216, BK196, BK197, BK202, HR213_0, HB⟩ := n_; clear hb ho54; have p217 : 0 ≤ ((ji31) : Int) := of_decide_eq_true as_; have q217 : (ji31) < (t203.length : Int) := of_decide_eq_true as_; obtain ⟨ad217, A217_0, c217_0, e217, hx217_0, hl217_0, hi217_0⟩ := at_L1 (Kd.bkz HO_9.out).2.2 (ji31) p217 q217; obtain rfl : ad213 = ad217 := (by injection e217); obtain ⟨ce217, hce217, hMe217, hcc217⟩ := Kd.N_get HO_9.out [] (ji31) p217 (by first | exact q217 | exact of_decide_eq_true as_ | (have e_ := (Kd.bkz HO_9.out).1; omega)); obtain ⟨ua217_0, uc217_0, rfl, ul217_0, ge217_0⟩ := Kd.bVz hMe217; have hv217_0 := hcc217 0 _ rfl; rw [Nat.add_zero, show ((Kd.slice 5 (Kd.int .u8))).sz = 1 from rfl, Nat.mul_one] at hv217_0; replace hv217_0 := Option.some.inj (hv217_0.symm.trans hx217_0); injection hv217_0 with hva_ hvn_ hvc_; rw [hva_] at ge217_0; rw [hvc_] at ul217_0; have HL217_0 := Aside0.mk (show Kd.V (Kd.int .u8) 5 _ w.heap.size _ _ (rd_L1 t203 (ji31)) from Kd.V_mk ul217_0 ge217_0); clear hva_ hvn_ hvc_ ge217_0 ul217_0; clear hcc217 hce217; have HR217_0 := Aside0.mk hi217_0; have HC217_0 := Aside0.mk hl217_0; clear hi217_0 hl217_0; replace p217 := eq_true p217; replace q217 := eq_true q217) | ((with_reducible refine atz (b := .append) (xs := #[.tmp 54, .tmp 58]) rfl ?_); (try (refine bDz (by rfl) ?_; dsimp only)); at_builtin; refine Kd.dTz (Kd.int .u8) (w0 := w) w.heap.size rfl (.tmp 54) (.tmp 58) 34 5 (.int .u8 0) 1 rfl Tryz.underlying34 info5 rfl (by decide) (by omega) v215 y214 (rd_L1 t203 (ji31)) _ _ _ (fun _ => True) (fun _ => False) rfl rfl ?aO ?aR (fun _ _ h => h) (fun _ h => h.elim) ?aF ?aB ?aS ?aL ?_; (case aR => repeat (first | exact (by repeat (first | (with_reducible exact HR217_0.out) | (with_reducible refine Kd.c3z ?_ _) | (with_reducible refine Kd.bGz ?_ _) | (with_reducible refine Kd.C_drew ?_) | exact HR217_0.out)) | (with_reducible refine Kd.c3z ?_ _) | (with_reducible refine Kd.bGz ?_ _) | (with_reducible refine Kd.C_drew ?_))); (case aB => exact bl_); (case aF => exact (fun _ _ => trivial)); (case aO => exact (xd_ HO216.out)); (case aS => exact (aNz bl_)); (case aL => have := LMc35.out; omega); intro v219 w55 ho hb hg hat; rw [← Ny218.out] at ho; have n_ := And.intro (Aside0.mk (Kd.dez (ok := (fun k_ => some k_ ≠ (v211 : Value).ownBlock ∧ k_ ≠ gb196 ∧ k_ ≠ gb197 ∧ k_ ≠ gb202)) (nm_ HO_9) hg hat)) (And.intro (Aside0.mk (bEz (g := gb196) (o := .cells #[.int .u8 a0_0, .int .u8 a0_1, .int .u8 a0_2] 42 (0, 0)) bk_ hg (Kd.R_ne HO216.out BK196.out (by decide)))) (And.intro (Aside0.mk (bEz (g := gb197) (o := .cells #[.int .u8 a2_0, .int .u8 a2_1, .int .u8 a2_2] 42 (0, 0)) bk_ hg (Kd.R_ne HO216.out BK197.out (by decide)))) (And.intro (Aside0.mk (bEz (g := gb202) (o := .cells #[.int .i64 t199, .int .i64 t200, .int .i64 t201] 23 (0, 0)) bk_ hg (Kd.R_ne HO216.out BK202.out (by decide)))) (And.intro (Aside0.mk (Kd.dez (ok := (fun k_ => k_ ≠ gb196 ∧ k_ ≠ gb197 ∧ k_ ≠ gb202)) (xd_ HO212.out) hg hat)) (And.intro (Aside0.mk (Kd.dHz (ok := (fun k_ => some k_ ≠ (.slice (some ad213) t203.length co49 : Value).ownBlock ∧ some k_ ≠ (v211 : Value).ownBlock ∧ k_ ≠ gb196 ∧ k_ ≠ gb197 ∧ k_ ≠ gb202)) (by (with_reducible repeat (first | apply Kd.bZz | apply Kd.b0z | apply Kd.bLz)); exact Kd.cNz HL213_0.out (fun _ hk => ⟨⟨hk.1.2, ⟨hk.1.1.2, ⟨hk.1.1.1.1, ⟨hk.1.1.1.2.1, hk.1.1.1.2.2⟩⟩⟩⟩, hk.2⟩)) hg hat)) (And.intro (Aside0.mk (Kd.dHz (ok := (fun k_ => some k_ ≠ (.slice (some ad213) t203.length co49 : Value).ownBlock ∧ some k_ ≠ (v211 : Value).ownBlock ∧ k_ ≠ gb196 ∧ k_ ≠ gb197 ∧ k_ ≠ gb202)) (by (with_reducible repeat (first | apply Kd.bZz | apply Kd.b0z | apply Kd.bLz)); exact Kd.cNz HL217_0.out (fun _ hk => ⟨⟨hk.2, ⟨hk.1.1.2, ⟨hk.1.1.1.1, ⟨hk.1.1.1.2.1, hk.1.1.1.2.2⟩⟩⟩⟩, hk.1.2⟩)) hg hat)) (And.intro (Aside0.mk (hb)) (Aside0.mk (ho))))))))); clear HO_9 BK196 BK197 BK202 HO212 HL213_0 HL217_0 HB HO216; obtain ⟨HO_9, BK196, BK197, BK202, HO212, HL213_0, HL217_0, HB, HO220⟩ := n_; clear ho hb hg hat))
       have n_ := And.intro (Aside0.mk (Kd.cMz HO_9.out)) (And.intro (Aside0.mk (Kd.cMz HO212.out)) (And.intro (Aside0.mk (Kd.bLz HL213_0.out)) (And.intro (Aside0.mk (Kd.bLz HL217_0.out)) (And.intro (Aside0.mk (Kd.R_drew HO220.out)) (And.intro (Aside0.mk (aez BK196.out)) (And.intro (Aside0.mk (aez BK197.out)) (And.intro (Aside0.mk (aez BK202.out)) (Aside0.mk (caz HB.out)))))))))
       clear HO_9 HO212 HL213_0 HL217_0 HO220 BK196 BK197 BK202 HB
       obtain ⟨HO_9, HO212, HL213_0, HL217_0, HO220, BK196, BK197, BK202, HB⟩ := n_
       obtain ⟨Ao57, co57, eo57⟩ := Kd.a2z HO220.out
       (first | subst eo57 | (injection eo57 with f1_ f2_ f3_; have f4_ := f1_.symm; have f5_ := f3_.symm; clear f1_ f2_ f3_; subst f4_; subst f5_))
       have p221 : 0 ≤ ((ji37) : Int) := of_decide_eq_true as_
       have q221 : (ji37) < (y218.length : Int) := of_decide_eq_true as_
       obtain ⟨ad221, e221, hx221_0⟩ := Kd.bOz (Kd.aPz HO220.out).2.2 (ji37) p221 q221
       cases e221
       replace p221 := eq_true p221
       replace q221 := eq_true q221
       have p40 : 0 ≤ ((ji37) : Int) := of_decide_eq_true as_
       have q40 : ((ji37) : Int) < ((y218.length : Int) : Int) := of_decide_eq_true as_
       obtain ⟨go40, co40, eo40, gb40, gl40, cl40, HG40⟩ := Kd.b9z HO220.out (by omega)
       (first | cases eo40 | (injection eo40 with ea_ en_ ec_; (first | subst ea_ | (injection ea_ with ea_; subst ea_)); subst ec_; clear en_))
       have GB40 := Aside0.mk gb40
       have GG40 := Aside0.mk HG40
       clear gb40 gl40 HG40
       (first | simp only [add_plain] at hx221_0 | skip)
       obtain ⟨hx40_0, hf40_0⟩ := Kd.R_celln 0 HO220.out ((ji37) : Int) p40 q40
       replace p40 := eq_true p40
       replace q40 := eq_true q40
       have HP58 := Kd.R_putn HO220.out ((ji37) : Int) (Go.bits .xor .u8 (rd y218 (ji37)) ((1 + (Int.tmod a2_2 255)) % 256))
       rw [← Ny222.out] at HP58
       have HQ58 := Aside0.mk HP58
       clear HP58
       refine bcz (n := 23) (S := fun w' => w'.cell? ⟨gb197, 0, none⟩ = some (.int .u8 a2_0) ∧ w'.cell? ⟨gb197, 1, none⟩ = some (.int .u8 a2_1) ∧ w'.cell? ⟨gb197, 2, none⟩ = some (.int .u8 a2_2) ∧ w'.cell? ⟨go40, ((ji37)).toNat, none⟩ = some (.int .u8 (rd y218 (ji37)))) (ds := [22]) (bA 23 0) kr_ rfl rfl ⟨(aaz BK197.out 0).trans rfl, (aaz BK197.out 1).trans rfl, (aaz BK197.out 2).trans rfl, hx221_0⟩ (fun hHeld => ?_); refine with_tabW afz.tab13 afz.bits13 (fun HT_ HW_ => ?_)
       generalize w55.drew = w56 at HO_9 HO212 HL213_0 HL217_0 HO220 BK196 BK197 BK202 HB GG40 HQ58 hf40_0 hx221_0 hx40_0 hHeld ⊢
       refine pv_ 0 60 1 HT_ ?_
       refine pv_ 1 61 3 HT_ ?_
       refine pv_ 4 64 19 HT_ ?_
       refine pv_ 5 65 51 HT_ ?_
       refine pv_ 7 67 179 HT_ ?_
       refine pv_ 8 68 435 HT_ ?_
       refine pv_ 11 71 2483 HT_ ?_
       refine pv_ 12 72 6579 HT_ ?_
       refine pv_ 16 76 72115 HT_ ?_
       refine tw_ 2 62 72119 HT_ HW_ hHeld ?_
       refine pv_ 3 63 72127 HT_ ?_
       refine pv_ 6 66 72191 HT_ ?_
       refine tw_ 9 69 72703 HT_ HW_ hHeld ?_
       refine pv_ 10 70 73727 HT_ ?_
       refine pv_ 13 73 81919 HT_ ?_
       refine pv_ 14 74 98303 HT_ ?_
       refine tw_ 15 75 131071 HT_ HW_ hHeld ?_
       refine tw_ 17 77 262143 HT_ HW_ hHeld ?_
       refine pv_ 18 78 524287 HT_ ?_
       refine pv_ 19 79 1048575 HT_ ?_
       refine pv_ 20 80 2097151 HT_ ?_
       refine pv_ 21 81 4194303 HT_ ?_
       refine last_ (i := 22) (N := none) (bA 23 8388607) rfl rfl (one_of HT_.out kr_) (by decide) (fun K hK => ?_)
       refine skip_ (w1 := ?_) (by rfl) rfl ?_ ?_
       rotate_left
       ·go_simp
        rfl
       refine hK.out _ _ ?_
       clear hK K
       refine done_ (done_of HT_.out kr_) ?_
       have n0_ : Aside0 (Kd.N (Kd.slice 5 (Kd.int .u8)) 34 (w56.setCell ⟨go40, ((ji37) : Int).toNat, none⟩ (.int .u8 (Go.bits .xor .u8 (rd y218 (ji37)) ((1 + (Int.tmod a2_2 255)) % 256)))) w.heap.size (fun k_ => some k_ ≠ (v211 : Value).ownBlock ∧ some k_ ≠ (.slice (some ⟨go40, 0, none⟩) y218.length co57 : Value).ownBlock ∧ k_ ≠ gb196 ∧ k_ ≠ gb197 ∧ k_ ≠ gb202) (.slice (some ad213) t203.length co49) t203) := ⟨by (with_reducible repeat (first | apply Kd.N_alloc | apply Kd.N_drewN | apply Kd.cMz)); exact Kd.bPz (Kd.N_far (p := ⟨go40, ((ji37) : Int).toNat, none⟩) (Kd.bPz HO_9.out (fun k_ hk => (⟨hk, fun e_ => hk.2 (by rw [e_]; rfl)⟩ : _ ∧ k_ ≠ go40))) (fun _ hk => hk.2) (.int .u8 (Go.bits .xor .u8 (rd y218 (ji37)) ((1 + (Int.tmod a2_2 255)) % 256)))) (fun _ hk => ⟨hk.1.1.1, ⟨hk.1.2, ⟨hk.1.1.2.1, ⟨hk.1.1.2.2.1, hk.1.1.2.2.2⟩⟩⟩⟩)⟩
       have n1_ : Aside0 (Kd.N (Kd.slice 5 (Kd.int .u8)) 34 (w56.setCell ⟨go40, ((ji37) : Int).toNat, none⟩ (.int .u8 (Go.bits .xor .u8 (rd y218 (ji37)) ((1 + (Int.tmod a2_2 255)) % 256)))) w.heap.size (fun k_ => some k_ ≠ (.slice (some ⟨go40, 0, none⟩) y218.length co57 : Value).ownBlock ∧ k_ ≠ gb196 ∧ k_ ≠ gb197 ∧ k_ ≠ gb202) v211 y210) := ⟨by (with_reducible repeat (first | apply Kd.N_alloc | apply Kd.N_drewN | apply Kd.cMz)); exact Kd.bPz (Kd.N_far (p := ⟨go40, ((ji37) : Int).toNat, none⟩) (Kd.bPz HO212.out (fun k_ hk => (⟨hk, fun e_ => hk.2 (by rw [e_]; rfl)⟩ : _ ∧ k_ ≠ go40))) (fun _ hk => hk.2) (.int .u8 (Go.bits .xor .u8 (rd y218 (ji37)) ((1 + (Int.tmod a2_2 255)) % 256)))) (fun _ hk => ⟨hk.1.2, ⟨hk.1.1.1, ⟨hk.1.1.2.1, hk.1.1.2.2⟩⟩⟩)⟩
       have n2_ : Aside0 (Kd.V (Kd.int .u8) 5 (w56.setCell ⟨go40, ((ji37) : Int).toNat, none⟩ (.int .u8 (Go.bits .xor .u8 (rd y218 (ji37)) ((1 + (Int.tmod a2_2 255)) % 256)))) w.heap.size (fun k_ => some k_ ≠ (.slice (some ad213) t203.length co49 : Value).ownBlock ∧ some k_ ≠ (v211 : Value).ownBlock ∧ some k_ ≠ (.slice (some ⟨go40, 0, none⟩) y218.length co57 : Value).ownBlock ∧ k_ ≠ gb196 ∧ k_ ≠ gb197 ∧ k_ ≠ gb202) (.slice A213_0 (rd_L1 t203 (ji31)).length c213_0) (rd_L1 t203 (ji31))) := ⟨by (with_reducible repeat (first | apply Kd.bZz | apply Kd.b0z | apply Kd.bLz)); exact Kd.cNz (Kd.V_far (p := ⟨go40, ((ji37) : Int).toNat, none⟩) (Kd.cNz HL213_0.out (fun k_ hk => (⟨hk, fun e_ => hk.2 (by rw [e_]; rfl)⟩ : _ ∧ k_ ≠ go40))) (fun _ hk => hk.2) (.int .u8 (Go.bits .xor .u8 (rd y218 (ji37)) ((1 + (Int.tmod a2_2 255)) % 256)))) (fun _ hk => ⟨hk.1.1.1, ⟨hk.1.1.2.1, ⟨hk.1.2, ⟨hk.1.1.2.2.1, ⟨hk.1.1.2.2.2.1, hk.1.1.2.2.2.2⟩⟩⟩⟩⟩)⟩
       have n3_ : Aside0 (Kd.V (Kd.int .u8) 5 (w56.setCell ⟨go40, ((ji37) : Int).toNat, none⟩ (.int .u8 (Go.bits .xor .u8 (rd y218 (ji37)) ((1 + (Int.tmod a2_2 255)) % 256)))) w.heap.size (fun k_ => some k_ ≠ (.slice (some ad213) t203.length co49 : Value).ownBlock ∧ some k_ ≠ (v211 : Value).ownBlock ∧ some k_ ≠ (.slice (some ⟨go40, 0, none⟩) y218.length co57 : Value).ownBlock ∧ k_ ≠ gb196 ∧ k_ ≠ gb197 ∧ k_ ≠ gb202) (.slice A217_0 (rd_L1 t203 (ji31)).length c217_0) (rd_L1 t203 (ji31))) := ⟨by (with_reducible repeat (first | apply Kd.bZz | apply Kd.b0z | apply Kd.bLz)); exact Kd.cNz (Kd.V_far (p := ⟨go40, ((ji37) : Int).toNat, none⟩) (Kd.cNz HL217_0.out (fun k_ hk => (⟨hk, fun e_ => hk.2 (by rw [e_]; rfl)⟩ : _ ∧ k_ ≠ go40))) (fun _ hk => hk.2) (.int .u8 (Go.bits .xor .u8 (rd y218 (ji37)) ((1 + (Int.tmod a2_2 255)) % 256)))) (fun _ hk => ⟨hk.1.1.1, ⟨hk.1.1.2.1, ⟨hk.1.2, ⟨hk.1.1.2.2.1, ⟨hk.1.1.2.2.2.1, hk.1.1.2.2.2.2⟩⟩⟩⟩⟩)⟩
       have n4_ : Aside0 (Kd.R (Kd.int .u8) 5 (w56.setCell ⟨go40, ((ji37) : Int).toNat, none⟩ (.int .u8 (Go.bits .xor .u8 (rd y218 (ji37)) ((1 + (Int.tmod a2_2 255)) % 256)))) w.heap.size (fun _ => True) (.slice (some ⟨go40, 0, none⟩) y218.length co57) y222) := ⟨by (with_reducible repeat (first | apply Kd.R_alloc | apply Kd.b6z | apply Kd.R_drew)); exact HQ58.out⟩
       have n5_ : Aside0 ((w56.setCell ⟨go40, ((ji37) : Int).toNat, none⟩ (.int .u8 (Go.bits .xor .u8 (rd y218 (ji37)) ((1 + (Int.tmod a2_2 255)) % 256)))).heap[gb196]? = some (.cells #[.int .u8 a0_0, .int .u8 a0_1, .int .u8 a0_2] 42 (0, 0))) := ⟨by (with_reducible repeat (first | refine acz ?_ _ | refine aez ?_ | refine abz ?_ _)); refine ajz ?_ (by have h_ := Kd.R_ne HO220.out BK196.out (by decide); intro e_; exact h_ (by rw [e_]; rfl)) _; (with_reducible repeat (first | refine acz ?_ _ | refine aez ?_ | refine abz ?_ _)); exact BK196.out⟩
       have n6_ : Aside0 ((w56.setCell ⟨go40, ((ji37) : Int).toNat, none⟩ (.int .u8 (Go.bits .xor .u8 (rd y218 (ji37)) ((1 + (Int.tmod a2_2 255)) % 256)))).heap[gb197]? = some (.cells #[.int .u8 a2_0, .int .u8 a2_1, .int .u8 a2_2] 42 (0, 0))) := ⟨by (with_reducible repeat (first | refine acz ?_ _ | refine aez ?_ | refine abz ?_ _)); refine ajz ?_ (by have h_ := Kd.R_ne HO220.out BK197.out (by decide); intro e_; exact h_ (by rw [e_]; rfl)) _; (with_reducible repeat (first | refine acz ?_ _ | refine aez ?_ | refine abz ?_ _)); exact BK197.out⟩
       have n7_ : Aside0 ((w56.setCell ⟨go40, ((ji37) : Int).toNat, none⟩ (.int .u8 (Go.bits .xor .u8 (rd y218 (ji37)) ((1 + (Int.tmod a2_2 255)) % 256)))).heap[gb202]? = some (.cells #[.int .i64 t199, .int .i64 t200, .int .i64 t201] 23 (0, 0))) := ⟨by (with_reducible repeat (first | refine acz ?_ _ | refine aez ?_ | refine abz ?_ _)); refine ajz ?_ (by have h_ := Kd.R_ne HO220.out BK202.out (by decide); intro e_; exact h_ (by rw [e_]; rfl)) _; (with_reducible repeat (first | refine acz ?_ _ | refine aez ?_ | refine abz ?_ _)); exact BK202.out⟩
       have n8_ : Aside0 (Below w.heap.size w (w56.setCell ⟨go40, ((ji37) : Int).toNat, none⟩ (.int .u8 (Go.bits .xor .u8 (rd y218 (ji37)) ((1 + (Int.tmod a2_2 255)) % 256))))) := ⟨by repeat (first | (with_reducible first | exact HB.out | apply adz | apply aqz | apply caz | refine bFz ?_ GB40.out | refine bFz ?_ GE196.out | refine bFz ?_ GE197.out | refine bFz ?_ GE202.out) | exact HB.out)⟩
       (try clear HO_9)
       (try clear HO212)
       (try clear HL213_0)
       (try clear HL217_0)
       (try clear HO220)
       (try clear BK196)
       (try clear BK197)
       (try clear BK202)
       (try clear HB)
       (try rw [show IntKind.u8.wrap (1 + Int.tmod a2_2 255) = (1 + (Int.tmod a2_2 255)) % 256 from rfl])
       generalize (w56.setCell ⟨go40, ((ji37) : Int).toNat, none⟩ (.int .u8 (Go.bits .xor .u8 (rd y218 (ji37)) ((1 + (Int.tmod a2_2 255)) % 256)))) = w59 at n0_ n1_ n2_ n3_ n4_ n5_ n6_ n7_ n8_ ⊢
       have HO_9 := n0_
       have HO212 := n1_
       have HL213_0 := n2_
       have HL217_0 := n3_
       have HO220 := n4_
       have BK196 := n5_
       have BK197 := n6_
       have BK202 := n7_
       have HB := n8_
       clear n0_ n1_ n2_ n3_ n4_ n5_ n6_ n7_ n8_
       have p42 : 0 ≤ ((ji31) : Int) := of_decide_eq_true as_
       have q42 : ((ji31) : Int) < ((y210.length : Int) : Int) := of_decide_eq_true as_
       obtain ⟨go42, co42, eo42, gb42, gl42, cl42, HG42⟩ := Kd.N_form HO212.out (by omega)
       (first | cases eo42 | (injection eo42 with ea_ en_ ec_; (first | subst ea_ | (injection ea_ with ea_; subst ea_)); subst ec_; clear en_))
       have GB42 := Aside0.mk gb42
       have GG42 := Aside0.mk HG42
       clear gb42 gl42 HG42
       obtain ⟨ce42, hcl42, hM42, hcc42, hfr42⟩ := Kd.N_elem HO212.out [] ((ji31) : Int) p42 q42
       obtain ⟨ua42_0, uc42_0, rfl, ul42_0, ge42_0⟩ := Kd.bVz hM42
       have hx42_0 := hcc42 0 _ rfl
       have hf42_0 := hfr42 0
       (try simp only [show ((Kd.slice 5 (Kd.int .u8))).sz = 1 from rfl, Nat.mul_one, Nat.add_zero] at hx42_0)
       (try simp only [show ((Kd.slice 5 (Kd.int .u8))).sz = 1 from rfl, Nat.mul_one, Nat.add_zero] at hf42_0)
       try clear hM42
       clear hcl42 hcc42 hfr42
       replace p42 := eq_true p42
       replace q42 := eq_true q42
       have HX60 := Aside0.mk (show Kd.N (Kd.slice 5 (Kd.int .u8)) 34 w59 w.heap.size (fun k_ => k_ ≠ gb196 ∧ k_ ≠ gb197 ∧ k_ ≠ gb202) (.slice (some ⟨go42, 0, none⟩) y210.length co42) y210 from (nm_ HO212))
       obtain ⟨ce60, hcl60, hM60, hcc60, hfr60⟩ := Kd.N_elem HX60.out [] ((ji31) : Int) (of_decide_eq_true as_) (by have h_ : ((ji31) : Int) < ((y210.length : Int) : Int) := of_decide_eq_true as_; first | exact h_ | (have e_ := (Kd.bkz HO212.out).1; omega) | simpa using h_)
       obtain ⟨ua60_0, uc60_0, rfl, ul60_0, ge60_0⟩ := Kd.bVz hM60
       have HP60 := Kd.N_seg HX60.out ((ji31) : Int) (of_decide_eq_true as_) (by have h_ : ((ji31) : Int) < ((y210.length : Int) : Int) := of_decide_eq_true as_; first | exact h_ | (have e_ := (Kd.bkz HO212.out).1; omega) | simpa using h_) (seg := [.slice (some ⟨go40, 0, none⟩) y218.length co57]) (j := 0) hcl60 hcc60 (show 1 ≤ 1 from by decide) (x' := y222) (by have hl_ := (Kd.aPz HO220.out).1; have HO220 := HO220; rw [hl_] at HO220 ⊢; exact Kd.FK_slice_mk (Kd.aPz (Kd.aYz (ok' := (fun k_ => ((fun k_ => k_ ≠ gb196 ∧ k_ ≠ gb197 ∧ k_ ≠ gb202)) k_ ∧ k_ ≠ go42)) (Kd.bxz (Kd.bxz (Kd.bxz (Kd.dGz (HO220.out) (Kd.N_typed HO212.out) (by decide)) BK196.out (by decide)) BK197.out (by decide)) BK202.out (by decide)) (fun k_ hk => ⟨⟨hk.1.1.2, ⟨hk.1.2, hk.2⟩⟩, fun e_ => (hk.1.1.1.2) (by rw [e_]; rfl)⟩))).2.1 (Kd.R_F (Kd.aYz (ok' := (fun k_ => ((fun k_ => k_ ≠ gb196 ∧ k_ ≠ gb197 ∧ k_ ≠ gb202)) k_ ∧ k_ ≠ go42)) (Kd.bxz (Kd.bxz (Kd.bxz (Kd.dGz (HO220.out) (Kd.N_typed HO212.out) (by decide)) BK196.out (by decide)) BK197.out (by decide)) BK202.out (by decide)) (fun k_ hk => ⟨⟨hk.1.1.2, ⟨hk.1.2, hk.2⟩⟩, fun e_ => (hk.1.1.1.2) (by rw [e_]; rfl)⟩)))) (fun _ hk => hk)
       have hx60_0 := hcc60 0 _ rfl
       (try simp only [show ((Kd.slice 5 (Kd.int .u8))).sz = 1 from rfl, Nat.mul_one, Nat.add_zero] at hx60_0)
       have hf60_0 := hfr60 0
       (try simp only [show ((Kd.slice 5 (Kd.int .u8))).sz = 1 from rfl, Nat.mul_one, Nat.add_zero] at hf60_0)
       try clear hM60
       clear hcl60 hcc60 hfr60
       (try simp only [show ((Kd.slice 5 (Kd.int .u8))).sz = 1 from rfl, Nat.mul_one, Nat.add_zero] at HP60)
       (try simp only [show ((Kd.slice 5 (Kd.int .u8))).sz = 1 from rfl, Nat.mul_one, Nat.add_zero] at HP60)
       try go_wp2_with (first | ((with_reducible refine bjz (t := 34) (p := 85) rfl ?_); refine cDz (t := 34) (p := 85) (v := ?vo_w61) (w1 := (w59.setCell ⟨go42, ((ji31) : Int).toNat, none⟩ (.slice (some ⟨go40, 0, none⟩) y218.length co57))) ?hg ?ho ?hn ?hr ?_; (case ho => rfl); (case hg => rfl); (case hn => rfl); (case hr => first | (go_simp; done) | (go_simp; rfl)); intro w61 hw; have hg : w59.grownBy w61 (some go42) := (by rw [hw]; exact HP60.2); have hp_ : Kd.N (Kd.slice 5 (Kd.int .u8)) 34 w61 w.heap.size (fun k_ => k_ ≠ gb196 ∧ k_ ≠ gb197 ∧ k_ ≠ gb202) (.slice (some ⟨go42, 0, none⟩) y210.length co42) y223 := (by rw [hw, Ny223.out]; exact HP60.1); clear HP60; have n_ := And.intro (Aside0.mk (Kd.dez (v := (.slice (some ⟨go42, 0, none⟩) y210.length co42)) (v1 := (.slice (some ⟨go42, 0, none⟩) y210.length co42)) (ok := (fun k_ => some k_ ≠ (.slice (some ⟨go40, 0, none⟩) y218.length co57 : Value).ownBlock ∧ k_ ≠ gb196 ∧ k_ ≠ gb197 ∧ k_ ≠ gb202)) (nm_ HO_9) hg (.inl rfl))) (And.intro (Aside0.mk (bEz (g := gb196) (o := .cells #[.int .u8 a0_0, .int .u8 a0_1, .int .u8 a0_2] 42 (0, 0)) bk_ hg (Kd.N_ne HO212.out BK196.out (by decide)))) (And.intro (Aside0.mk (bEz (g := gb197) (o := .cells #[.int .u8 a2_0, .int .u8 a2_1, .int .u8 a2_2] 42 (0, 0)) bk_ hg (Kd.N_ne HO212.out BK197.out (by decide)))) (And.intro (Aside0.mk (bEz (g := gb202) (o := .cells #[.int .i64 t199, .int .i64 t200, .int .i64 t201] 23 (0, 0)) bk_ hg (Kd.N_ne HO212.out BK202.out (by decide)))) (And.intro (Aside0.mk (hp_)) (And.intro (Aside0.mk (Kd.dHz (v := (.slice (some ⟨go42, 0, none⟩) y210.length co42)) (v1 := (.slice (some ⟨go42, 0, none⟩) y210.length co42)) (ok := (fun k_ => some k_ ≠ (.slice (some ad213) t203.length co49 : Value).ownBlock ∧ some k_ ≠ (.slice (some ⟨go40, 0, none⟩) y218.length co57 : Value).ownBlock ∧ k_ ≠ gb196 ∧ k_ ≠ gb197 ∧ k_ ≠ gb202)) (by (with_reducible repeat (first | apply Kd.bZz | apply Kd.b0z | apply Kd.bLz)); exact Kd.cNz HL213_0.out (fun _ hk => ⟨⟨hk.1, ⟨hk.2.2.1, ⟨hk.2.2.2.1, ⟨hk.2.2.2.2.1, hk.2.2.2.2.2⟩⟩⟩⟩, hk.2.1⟩)) hg (.inl rfl))) (And.intro (Aside0.mk (Kd.dHz (v := (.slice (some ⟨go42, 0, none⟩) y210.length co42)) (v1 := (.slice (some ⟨go42, 0, none⟩) y210.length co42)) (ok := (fun k_ => some k_ ≠ (.slice (some ad213) t203.length co49 : Value).ownBlock ∧ some k_ ≠ (.slice (some ⟨go40, 0, none⟩) y218.length co57 : Value).ownBlock ∧ k_ ≠ gb196 ∧ k_ ≠ gb197 ∧ k_ ≠ gb202)) (by (with_reducible repeat (first | apply Kd.bZz | apply Kd.b0z | apply Kd.bLz)); exact Kd.cNz HL217_0.out (fun _ hk => ⟨⟨hk.1, ⟨hk.2.2.1, ⟨hk.2.2.2.1, ⟨hk.2.2.2.2.1, hk.2.2.2.2.2⟩⟩⟩⟩, hk.2.1⟩)) hg (.inl rfl))) (Aside0.mk ((by rw [hw]; exact bFz (HB.out) GB42.out : Below w.heap.size w w61))))))))); clear HO_9 BK196 BK197 BK202 HO212 HL213_0 HL217_0 HB HO220; obtain ⟨HO_9, BK196, BK197, BK202, HO212, HL213_0, HL217_0, HB⟩ := n_; clear hg hw hp_))
       have n_ := And.intro (Aside0.mk (Kd.cMz HO_9.out)) (And.intro (Aside0.mk (Kd.cMz HO212.out)) (And.intro (Aside0.mk (Kd.bLz HL213_0.out)) (And.intro (Aside0.mk (Kd.bLz HL217_0.out)) (And.intro (Aside0.mk (aez BK196.out)) (And.intro (Aside0.mk (aez BK197.out)) (And.intro (Aside0.mk (aez BK202.out)) (Aside0.mk (caz HB.out))))))))
       clear HO_9 HO212 HL213_0 HL217_0 BK196 BK197 BK202 HB
       obtain ⟨HO_9, HO212, HL213_0, HL217_0, BK196, BK197, BK202, HB⟩ := n_
       refine bcz (n := 12) (S := fun w' => w'.cell? ⟨gb202, 0, none⟩ = some (.int .i64 t199) ∧ w'.cell? ⟨gb202, 1, none⟩ = some (.int .i64 t200) ∧ w'.cell? ⟨gb202, 2, none⟩ = some (.int .i64 t201)) (ds := []) (bA 12 0) kr_ rfl rfl ⟨(aaz BK202.out 0).trans rfl, (aaz BK202.out 1).trans rfl, (aaz BK202.out 2).trans rfl⟩ (fun hHeld => ?_); refine with_tabW afz.tab15 afz.bits15 (fun HT_ HW_ => ?_)
       generalize w61.drew = w62 at HO_9 HO212 HL213_0 HL217_0 BK196 BK197 BK202 HB hHeld ⊢
       refine pv_ 0 86 1 HT_ ?_
       refine pv_ 1 87 3 HT_ ?_
       refine pv_ 2 88 7 HT_ ?_
       refine pv_ 3 89 15 HT_ ?_
       refine pv_ 6 92 79 HT_ ?_
       refine tw_ 4 90 95 HT_ HW_ hHeld ?_
       refine tw_ 7 93 223 HT_ HW_ hHeld ?_
       refine one_ (i := 5) (N := some 91) (bA 12 255) rfl rfl (one_of HT_.out kr_) (by decide) (fun K hK => ?_)
       refine goes_ Tryz.func39 kr_ rfl #[.slice (some ⟨go42, 0, none⟩) y223.length co42, .int .i64 t200] (by rfl) rfl rfl (by (try simp only [List.map_toArray, List.map_cons, List.map_nil]); first | done | (rw [show y223.length = y210.length from (Kd.bkz HO212.out).1.symm] <;> rfl) | rfl | (simp only [List.length_drop, List.length_take]; rfl)) ?_
       with_reducible refine (axz.calls kj10 _ _ y223 t200 t224 _ ?side1 ?side2 A44.out).mono ?_
       (case side1 => repeat (first | exact (Kd.bkz HO212.out).2.2 | (with_reducible refine Kd.c3z ?_ _) | (with_reducible refine Kd.bGz ?_ _) | (with_reducible refine Kd.C_drew ?_)))
       (case side2 => rw [show y223.length = y210.length from (Kd.bkz HO212.out).1.symm]; exact (Kd.bkz HO212.out).2.1)
       rintro e w63 ⟨v225, rfl, ho0, hb⟩
       refine ⟨_, rfl, ?_⟩
       have n_ := And.intro (Aside0.mk (Kd.cwz (xd_ HO_9.out) (Kd.bBz ho0) hb)) (And.intro (Aside0.mk (Kd.cwz (xd_ HO212.out) (Kd.bBz ho0) hb)) (And.intro (Aside0.mk (Kd.V_elder' (by (with_reducible repeat (first | apply Kd.bZz | apply Kd.b0z | apply Kd.bLz)); exact HL213_0.out) (Kd.bBz ho0) hb)) (And.intro (Aside0.mk (Kd.V_elder' (by (with_reducible repeat (first | apply Kd.bZz | apply Kd.b0z | apply Kd.bLz)); exact HL217_0.out) (Kd.bBz ho0) hb)) (And.intro (Aside0.mk (Kd.a9z ho0 (aNz bl_))) (And.intro (bb_ BK196 hb) (And.intro (bb_ BK197 hb) (And.intro (bb_ BK202 hb) (hs_ HB hb))))))))
       clear HO_9 HO212 HL213_0 HL217_0 BK196 BK197 BK202 HB
       obtain ⟨HO_9, HO212, HL213_0, HL217_0, HO226, BK196, BK197, BK202, HB⟩ := n_
       (try clear hb)
       (try clear hb2)
       (try clear hk)
       (try clear hi)
       (try clear ho0)
       obtain ⟨Ao64, co64, eo64⟩ := Kd.a2z HO226.out
       (first | subst eo64 | (injection eo64 with f1_ f2_ f3_; have f4_ := f1_.symm; have f5_ := f3_.symm; clear f1_ f2_ f3_; subst f4_; subst f5_))
       refine hK.out _ _ ⟨(aaz BK202.out 0).trans rfl, (aaz BK202.out 1).trans rfl, (aaz BK202.out 2).trans rfl⟩ (fun hHeld => ?_)
       clear hK K
       refine norm_ (a' := ?_) ?_ ?_
       rotate_left
       ·show Act.put _ (some 91) _ = _
        simp only [Act.put, List.setIfInBounds_toArray, List.set_cons_zero, List.set_cons_succ, i64_w, i32_w]
        rfl
       refine one_ (i := 8) (N := some 94) (bA 12 511) rfl rfl (one_of HT_.out kr_) (by decide) (fun K hK => ?_)
       refine goes_ Tryz.func42 kr_ rfl #[.slice Ao64 t224.length co64, .int .i64 t199] (by rfl) rfl rfl ar_ ?_
       with_reducible refine (aFz.calls kj10 _ _ t224 t199 t227 _ ?side1 ?side2 A45.out).mono ?_
       (case side1 => repeat (first | exact (Kd.aPz HO226.out).2.2 | (with_reducible refine Kd.c3z ?_ _) | (with_reducible refine Kd.bGz ?_ _) | (with_reducible refine Kd.C_drew ?_)))
       (case side2 => exact (Kd.aPz HO226.out).2.1)
       rintro e w' ⟨rfl, ⟨nd, rfl⟩⟩
       refine ⟨_, rfl, ?_⟩
       refine hK.out _ _ ⟨(aaz BK202.out 0).trans rfl, (aaz BK202.out 1).trans rfl, (aaz BK202.out 2).trans rfl⟩ (fun hHeld => ?_)
       clear hK K
       refine norm_ (a' := ?_) ?_ ?_
       rotate_left
       ·show Act.put _ (some 94) _ = _
        simp only [Act.put, List.setIfInBounds_toArray, List.set_cons_zero, List.set_cons_succ, i64_w, i32_w]
        rfl
       refine pv_ 9 95 1023 HT_ ?_
       refine pv_ 10 96 2047 HT_ ?_
       refine pv_ 11 6 4095 HT_ ?_
       refine done_ (done_of HT_.out kr_) ?_
       try go_wp2
       go_ret
       exact ⟨by first | rfl | (simp [bez, bfz] <;> rfl) | (simp only [← hji31, ← hji37]; first | rfl | (simp [bez, bfz] <;> rfl)) | (simp [*, bez, bfz] <;> rfl), bl_⟩
theorem u8_wf {x : Int} (h : (Lit.int .u8 x).wf = true) : 0 ≤ x ∧ x ≤ 255 := by
 simp [Lit.wf, IntKind.has] at h
 have h1 : IntKind.min .u8 = 0 := rfl
 have h2 : IntKind.max .u8 = 255 := rfl
 omega
theorem foldB_nat : ∀ (A : List (List Nat)) (a : List Nat), (∀ x, x ∈ a → x < 256) → (∀ r, r ∈ A → ∀ x, x ∈ r → x < 256) → (A.map castN).foldl xorB (castN a) = castN (A.foldl xorN a)
 | [], _, _, _ => rfl
 | r :: A, a, ha, hA => by
  have hr := hA r (List.mem_cons_self ..)
  have ih := foldB_nat A (xorN a r) (xorN_lt (w := 8) a r ha hr) (fun q hq => hA q (List.mem_cons_of_mem _ hq))
  show (A.map castN).foldl xorB (xorB (castN a) (castN r)) = _
  rw [show xorB (castN a) (castN r) = castN (xorN a r) from xorB_nat a r ha hr, ih]; rfl
def dotN (S : Nat) (wb : Int) (c : List Int) (P : List (List Nat)) : List Nat := (List.zipWith (mulN wb) c P).foldl xorN (List.replicate S 0)
theorem zipM_nat {wb : Int} (hw : wb = 8 ∨ wb = 16) : ∀ (c : List Int) (P : List (List Nat)), (∀ r, r ∈ P → (∀ x, x ∈ r → x < 256) ∧ r.length % wN wb = 0) → List.zipWith (mulB wb) c (P.map castN) = (List.zipWith (mulN wb) c P).map castN
 | [], _, _ => by simp
 | _ :: _, [], _ => by simp
 | x :: c, r :: P, h => by
  have hr := h r (List.mem_cons_self ..)
  simp only [List.map_cons, List.zipWith_cons_cons]
  rw [mulB_nat hw x r hr.1 hr.2, zipM_nat hw c P (fun q hq => h q (List.mem_cons_of_mem _ hq))]
theorem dotV_nat {wb : Int} (hw : wb = 8 ∨ wb = 16) (S : Nat) (c : List Int) (P : List (List Nat)) (h : ∀ r, r ∈ P → (∀ x, x ∈ r → x < 256) ∧ r.length % wN wb = 0) : dotV S wb c (P.map castN) = castN (dotN S wb c P) := by
 unfold dotV sumB dotN
 rw [zipM_nat hw c P h, show (List.replicate S (0 : Int)) = castN (List.replicate S 0) by unfold castN; simp]
 refine foldB_nat _ _ (fun x hx => by rw [List.eq_of_mem_replicate hx]; omega) (fun r hr x hx => ?_)
 obtain ⟨i, hi, rfl⟩ := List.mem_iff_getElem.1 hr
 rw [List.getElem_zipWith] at hx
 exact mulN_lt _ _ _ x hx
theorem mN_in8 {c : Int} (h0 : 0 ≤ c) (h1 : c < 256) (x : Nat) (hx : x < 256) : mN 8 c x = gm 7 285 c.toNat x := by
 unfold mN
 rw [gmul_in h0 (by rw [fsize8]; exact h1) (by omega) (by rw [fsize8]; omega)]
 simp [gmN]
theorem mN_in16 {c : Int} (h0 : 0 ≤ c) (h1 : c < 65536) (x : Nat) (hx : x < 65536) : mN 16 c x = gm 15 69643 c.toNat x := by
 unfold mN
 rw [gmul_in h0 (by rw [fsize16]; exact h1) (by omega) (by rw [fsize16]; omega)]
 simp [gmN]
theorem mN_inv8 (c : Int) (h0 : 0 < c) (h1 : c < 256) (x : Nat) (hx : x < 256) : mN 8 (gp 7 285 c.toNat 254 : Nat) (mN 8 c x) = x := by
 have F := gf8.toGf
 have hc : c.toNat < 2 ^ (7 + 1) := by omega
 have hg := F.gp_lt hc 254
 rw [mN_in8 (by omega) h1 x hx, mN_in8 (by omega) (by omega) _ (F.lt hc), Int.toNat_natCast, ← F.assoc hg hc, F.comm hg hc, show gm 7 285 c.toNat (gp 7 285 c.toNat 254) = 1 from gf8.crz hc (by omega), F.b1z hx]
theorem mN_inv16 (c : Int) (h0 : 0 < c) (h1 : c < 65536) (x : Nat) (hx : x < 65536) : mN 16 (gp 15 69643 c.toNat 65534 : Nat) (mN 16 c x) = x := by
 have F := gf16.toGf
 have hc : c.toNat < 2 ^ (15 + 1) := by omega
 obtain ⟨e, he⟩ : ∃ e : Nat, e = 65534 := ⟨_, rfl⟩
 rw [← he]
 have hg := F.gp_lt hc e
 have hi : gm 15 69643 c.toNat (gp 15 69643 c.toNat e) = 1 := by
  have := gf16.crz hc (by omega)
  rw [show 2 ^ (15 + 1) - 2 = e by rw [he]] at this
  exact this
 rw [mN_in16 (by omega) h1 x hx, mN_in16 (by omega) (by omega) _ (F.lt hc), Int.toNat_natCast, ← F.assoc hg hc, F.comm hg hc, hi, F.b1z hx]
theorem dRz (f g : Nat → Nat) (w : Nat) (h : ∀ x, x < w → f (g x) = x) : ∀ l : List Nat, (∀ x, x ∈ l → x < w) → mapN f (mapN g l) = l := by
 intro l hl
 unfold mapN
 rw [List.map_map]
 conv => rhs; rw [← List.map_id l]
 exact List.map_congr_left (fun x hx => h x (hl x hx))
theorem pair_flat : ∀ (l : List Nat), (∀ x, x ∈ l → x < 65536) → pairN (flatN l) = l
 | [], _ => rfl
 | x :: l, hb => by
  have ih := pair_flat l (fun z hz => hb z (List.mem_cons_of_mem _ hz))
  have hx := hb x (List.mem_cons_self ..)
  simp only [flatN, pairN]
  rw [ih]
  congr 1
  omega
theorem flat_pair : ∀ (l : List Nat), l.length % 2 = 0 → (∀ x, x ∈ l → x < 256) → flatN (pairN l) = l
 | [], _, _ => rfl
 | [x], h, _ => by simp at h
 | x :: y :: l, h, hb => by
  have ih := flat_pair l (by simp at h; omega) (fun z hz => hb z (List.mem_cons_of_mem _ (List.mem_cons_of_mem _ hz)))
  have hx := hb x (List.mem_cons_self ..)
  have hy := hb y (List.mem_cons_of_mem _ (List.mem_cons_self ..))
  simp only [pairN, flatN]
  rw [ih, show (x + 256 * y) % 256 = x by omega, show (x + 256 * y) / 256 % 256 = y by omega]
theorem mulN_inj {wb : Int} (hw : wb = 8 ∨ wb = 16) (c : Int) (h0 : 0 < c) (h1 : c < fsize wb) (a b : List Nat) (ha : ∀ x, x ∈ a → x < 256) (hb : ∀ x, x ∈ b → x < 256) (ea : a.length % wN wb = 0) (eb : b.length % wN wb = 0) (h : mulN wb c a = mulN wb c b) : a = b := by
 rcases hw with rfl | rfl
 ·unfold mulN at h
  rw [if_pos rfl, if_pos rfl] at h
  have hi := fun x hx => mN_inv8 c h0 h1 x hx
  rw [← dRz _ _ 256 hi a ha, ← dRz _ _ 256 hi b hb, h]
 ·unfold mulN at h
  rw [if_neg (by decide), if_neg (by decide)] at h
  have hi := fun x hx => mN_inv16 c h0 h1 x hx
  have h2 : mapN (mN 16 c) (pairN a) = mapN (mN 16 c) (pairN b) := by
   have lt : ∀ l : List Nat, ∀ x, x ∈ mapN (mN 16 c) l → x < 65536 := fun l x hx => by
    obtain ⟨y, -, rfl⟩ := List.mem_map.1 hx
    exact mN_lt16 c y
   rw [← pair_flat (mapN (mN 16 c) (pairN a)) (lt _), h, pair_flat _ (lt _)]
  have h3 : pairN a = pairN b := by rw [← dRz _ _ 65536 hi (pairN a) (pairN_lt a ha), ← dRz _ _ 65536 hi (pairN b) (pairN_lt b hb), h2]
  have hn : wN 16 = 2 := rfl
  rw [hn] at ea eb
  rw [← flat_pair a ea ha, ← flat_pair b eb hb, h3]
theorem cRz {S : Nat} {a b : List Nat} (ha : a.length = S) (hb : b.length = S) : (xorN a b).length = S := by simp [xorN, ha, hb]
theorem cCz : ∀ (a b c : List Nat), a.length = b.length → b.length = c.length → xorN a b = xorN a c → b = c
 | [], [], [], _, _, _ => rfl
 | x :: a, y :: b, z :: c, h1, h2, h => by
  have h : (x ^^^ y) :: xorN a b = (x ^^^ z) :: xorN a c := h
  injection h with e1 e2
  have ih := cCz a b c (by simpa using h1) (by simpa using h2) e2
  have : y = z := by
   have := congrArg (x ^^^ ·) e1
   simpa [← Nat.xor_assoc] using this
  rw [this, ih]
theorem xorN_comm : ∀ (a b : List Nat), xorN a b = xorN b a := by
 intro a b
 unfold xorN
 rw [List.zipWith_comm]
 congr 1
 funext x y
 exact Nat.xor_comm _ _
theorem foldN_inj {S : Nat} : ∀ (zs : List (List Nat)) (a b : List Nat), a.length = S → b.length = S → (∀ r, r ∈ zs → r.length = S) → zs.foldl xorN a = zs.foldl xorN b → a = b
 | [], _, _, _, _, _, h => h
 | r :: rs, a, b, ha, hb, hr, h => by
  have hrl := hr r (List.mem_cons_self ..)
  have ih := foldN_inj rs (xorN a r) (xorN b r) (cRz ha hrl) (cRz hb hrl) (fun q hq => hr q (List.mem_cons_of_mem _ hq)) h
  rw [xorN_comm a r, xorN_comm b r] at ih
  exact cCz r a b (by omega) (by omega) ih
theorem foldN_set {S : Nat} : ∀ (zs : List (List Nat)) (i : Nat) (a z z' : List Nat), a.length = S → (∀ r, r ∈ zs → r.length = S) → z'.length = S → zs[i]? = some z → (zs.set i z').foldl xorN a = zs.foldl xorN a → z' = z
 | [], _, _, _, _, _, _, _, h, _ => by simp at h
 | r :: rs, 0, a, z, z', ha, hr, hz, hi, h => by
  obtain rfl : r = z := by simpa using hi
  have hrl := hr r (List.mem_cons_self ..)
  have h1 := foldN_inj rs (xorN a z') (xorN a r) (cRz ha hz) (cRz ha hrl) (fun q hq => hr q (List.mem_cons_of_mem _ hq)) h
  exact cCz a z' r (by omega) (by omega) h1
 | r :: rs, i + 1, a, z, z', ha, hr, hz, hi, h => by
  have hrl := hr r (List.mem_cons_self ..)
  exact foldN_set rs i (xorN a r) z z' (cRz ha hrl) (fun q hq => hr q (List.mem_cons_of_mem _ hq)) hz (by simpa using hi) h
theorem zip_set (f : Int → List Nat → List Nat) : ∀ (c : List Int) (P : List (List Nat)) (i : Nat) (x : Int) (r : List Nat), c[i]? = some x → List.zipWith f c (P.set i r) = (List.zipWith f c P).set i (f x r)
 | [], _, _, _, _, h => by simp at h
 | y :: c, [], i, x, r, _ => by simp
 | y :: c, q :: P, 0, x, r, h => by
  obtain rfl : y = x := by simpa using h
  rfl
 | y :: c, q :: P, i + 1, x, r, h => by
  have ih := zip_set f c P i x r (by simpa using h)
  show f y q :: List.zipWith f c (P.set i r) = f y q :: (List.zipWith f c P).set i (f x r)
  rw [ih]
theorem mulN_len {wb : Int} (hw : wb = 8 ∨ wb = 16) (c : Int) (n : List Nat) (hb : ∀ x, x ∈ n → x < 256) (he : n.length % wN wb = 0) : (mulN wb c n).length = n.length := by
 have h := mulB_len wb c (castN n) (by simpa [castN] using he)
 rw [mulB_nat hw c n hb he] at h
 simpa [castN] using h
theorem dotN_one {wb : Int} (hw : wb = 8 ∨ wb = 16) (S : Nat) (hS : S % wN wb = 0) (c : List Int) (P : List (List Nat)) (i : Nat) (x : Int) (r r' : List Nat) (hx : c[i]? = some x) (hx0 : 0 < x) (hx1 : x < fsize wb) (hP : ∀ q, q ∈ P → q.length = S ∧ ∀ z, z ∈ q → z < 256) (hr : P[i]? = some r) (hr' : r'.length = S ∧ ∀ z, z ∈ r' → z < 256)
  (h : dotN S wb c (P.set i r') = dotN S wb c P) : r' = r := by
 have hrP := hP r (List.mem_of_getElem? hr)
 unfold dotN at h
 rw [zip_set _ _ _ _ _ _ hx] at h
 have h1 := foldN_set (S := S) _ i _ (mulN wb x r) (mulN wb x r') (by simp) (fun q hq => by
  obtain ⟨j, hj, rfl⟩ := List.mem_iff_getElem.1 hq
  rw [List.getElem_zipWith]
  have := hP _ (List.getElem_mem (l := P) (n := j) (by simp at hj; omega))
  rw [mulN_len hw _ _ this.2 (by rw [this.1]; exact hS)]
  exact this.1) (by rw [mulN_len hw _ _ hr'.2 (by rw [hr'.1]; exact hS)]; exact hr'.1) (by rw [List.getElem?_zipWith, hx, hr]) h
 exact mulN_inj hw x hx0 hx1 r' r hr'.2 hrP.2 (by rw [hr'.1]; exact hS) (by rw [hrP.1]; exact hS) h1
theorem castN_inj : ∀ (a b : List Nat), castN a = castN b → a = b
 | [], [], _ => rfl
 | [], _ :: _, h => by simp [castN] at h
 | _ :: _, [], h => by simp [castN] at h
 | x :: a, y :: b, h => by
  have h : (x : Int) :: castN a = (y : Int) :: castN b := h
  injection h with h1 h2
  rw [castN_inj a b h2, show x = y by omega]
def nOf (r : List Int) : List Nat := r.map Int.toNat
theorem cSz : ∀ (r : List Int), (∀ x, x ∈ r → 0 ≤ x ∧ x ≤ 255) → castN (nOf r) = r
 | [], _ => rfl
 | x :: r, h => by
  have hx := h x (List.mem_cons_self ..)
  have ih := cSz r (fun y hy => h y (List.mem_cons_of_mem _ hy))
  show ((x.toNat : Nat) : Int) :: castN (nOf r) = x :: r
  rw [ih, Int.toNat_of_nonneg hx.1]
theorem nOf_lt (r : List Int) (h : ∀ x, x ∈ r → 0 ≤ x ∧ x ≤ 255) : ∀ x, x ∈ nOf r → x < 256 := by
 intro x hx
 obtain ⟨y, hy, rfl⟩ := List.mem_map.1 hx
 have := h y hy
 omega
theorem nOf_len (r : List Int) : (nOf r).length = r.length := by simp [nOf]
def isBL (l : List (List Int)) (S : Nat) : Prop := ∀ r, r ∈ l → r.length = S ∧ ∀ x, x ∈ r → 0 ≤ x ∧ x ≤ 255
theorem rows_nOf {l : List (List Int)} {S : Nat} (h : isBL l S) : (l.map nOf).map castN = l ∧ ∀ r, r ∈ l.map nOf → r.length = S ∧ ∀ x, x ∈ r → x < 256 := by
 constructor
 ·rw [List.map_map]
  conv => rhs; rw [← List.map_id l]
  exact List.map_congr_left (fun r hr => cSz r (h r hr).2)
 ·intro r hr
  obtain ⟨q, hq, rfl⟩ := List.mem_map.1 hr
  exact ⟨by rw [nOf_len]; exact (h q hq).1, nOf_lt q (h q hq).2⟩
theorem foldN_lt : ∀ (A : List (List Nat)) (a : List Nat), (∀ x, x ∈ a → x < 256) → (∀ r, r ∈ A → ∀ x, x ∈ r → x < 256) → ∀ x, x ∈ A.foldl xorN a → x < 256
 | [], _, h, _ => h
 | r :: rs, a, h, hr => foldN_lt rs (xorN a r) (xorN_lt (w := 8) a r h (hr r (List.mem_cons_self ..))) (fun q hq => hr q (List.mem_cons_of_mem _ hq))
theorem dotN_lt (S : Nat) (wb : Int) (c : List Int) (P : List (List Nat)) : ∀ x, x ∈ dotN S wb c P → x < 256 := by
 unfold dotN
 refine foldN_lt _ _ (fun x hx => ?_) (fun r hr => ?_)
 ·have := List.eq_of_mem_replicate hx
  omega
 ·obtain ⟨i, hi, rfl⟩ := List.mem_iff_getElem.1 hr
  rw [List.getElem_zipWith]
  exact mulN_lt _ _ _
theorem dAz (p : Int) : pbits p = 8 ∨ pbits p = 16 := by unfold pbits; split <;> simp
theorem parV_bytes (p : Int) (K M S : Nat) (data : List (List Int)) (hS : S % wN (pbits p) = 0) (h : isBL data S) : isBL (parV S p K M data) S := by
 obtain ⟨e, hb⟩ := rows_nOf h
 intro r hr
 unfold parV at hr
 obtain ⟨c, -, rfl⟩ := List.mem_map.1 hr
 refine ⟨dotV_len hS (fun r hr => (h r hr).1), ?_⟩
 rw [← e, dotV_nat (dAz p) S c _ (fun r hr => ⟨(hb r hr).2, by rw [(hb r hr).1]; exact hS⟩)]
 intro x hx
 obtain ⟨y, hy, rfl⟩ := List.mem_map.1 hx
 have := dotN_lt _ _ _ _ y hy
 omega
theorem parV_set (p : Int) (K M S : Nat) (hmay : agz.f p (K : Int) (M : Int) = some true) (data : List (List Int)) (hK : data.length = K) (hS : S % wN (pbits p) = 0) (h : isBL data S) (i : Nat) (r r' : List Int) (hr : data[i]? = some r) (hr' : r'.length = S ∧ ∀ x, x ∈ r' → 0 ≤ x ∧ x ≤ 255)
  (he : parV S p K M (data.set i r') = parV S p K M data) : r' = r := by
 obtain ⟨p1, p2, k1, k2, m1, m2⟩ := bAz hmay
 obtain ⟨c, hc, hcl, hcp⟩ := coef_pos p K M hmay
 have hg := (dxz p K M (by omega) (by omega) (by omega) (by omega)).1 c (List.mem_of_getElem? hc)
 obtain ⟨e, hb⟩ := rows_nOf h
 have hil := (List.getElem?_eq_some_iff.1 hr).1
 have hd : ∀ D, (parV S p K M D)[0]? = some (dotV S (pbits p) c D) := fun D => by unfold parV; rw [List.getElem?_map, hc]; rfl
 have h0 : dotV S (pbits p) c (data.set i r') = dotV S (pbits p) c data := by
  have := hd (data.set i r')
  rw [he, hd data] at this
  exact (Option.some.inj this).symm
 have e2 : data.set i r' = ((data.map nOf).set i (nOf r')).map castN := by
  rw [List.map_set, e, cSz r' hr'.2]
 have hrn : (nOf r').length = S ∧ ∀ x, x ∈ nOf r' → x < 256 := ⟨by rw [nOf_len]; exact hr'.1, nOf_lt r' hr'.2⟩
 have hb2 : ∀ q, q ∈ (data.map nOf).set i (nOf r') → q.length = S ∧ ∀ x, x ∈ q → x < 256 := fun q hq => by
  rcases List.mem_or_eq_of_mem_set hq with hq | rfl
  ·exact hb q hq
  ·exact hrn
 have h1 : castN (dotN S (pbits p) c ((data.map nOf).set i (nOf r'))) = castN (dotN S (pbits p) c (data.map nOf)) := by
  rw [← dotV_nat (dAz p) S c _ (fun q hq => ⟨(hb2 q hq).2, by rw [(hb2 q hq).1]; exact hS⟩), ← dotV_nat (dAz p) S c _ (fun q hq => ⟨(hb q hq).2, by rw [(hb q hq).1]; exact hS⟩), ← e2, e]
  exact h0
 obtain ⟨x, hx⟩ : ∃ x, c[i]? = some x := ⟨_, List.getElem?_eq_getElem (by omega)⟩
 have hxm := List.mem_of_getElem? hx
 have h2 := dotN_one (dAz p) S hS c (data.map nOf) i x (nOf r) (nOf r') hx (hcp x hxm) (hg.2 x hxm).2 hb (by rw [List.getElem?_map, hr]; rfl) hrn (castN_inj _ _ h1)
 rw [← cSz r' hr'.2, h2, cSz r (h r (List.mem_of_getElem? hr)).2]
theorem enc_of (p : Int) (K M : Nat) (b : List Int) (hmay : agz.f p (K : Int) (M : Int) = some true) (hn : b.length ≤ 4096) (data : List (List Int)) (q1 : data.length = K) (q2 : ∀ r, r ∈ data → r.length = sizeN p K b.length) (q4 : Ev (fun k => aGz.f k p (K : Int) (M : Int) b) (data, 0)) :
  Ev (fun k => bnz.f k p (K : Int) (M : Int) b) (data ++ parV (sizeN p K b.length) p K M data, 0) := by
 obtain ⟨p1, p2, k1, k2, m1, m2⟩ := bAz hmay
 have h2 := par_ev p K M (sizeN p K b.length) data hmay q1 (by have := dPz p K b.length (by omega) (by omega) hn; omega) (sizeN_even p K b.length) q2
 have hl := dQz (sizeN p K b.length) p K M data hmay
 refine Ev.bind q4 ?_
 refine Ev.congr (f := fun k => (aoz.f k p (K : Int) (M : Int) data).bind fun t => if data.length + t.1.length < 5864062014805 then some (data ++ t.1, t.2) else none) (fun k => by dsimp only; rw [if_pos rfl]) ?_
 refine Ev.bind h2 ?_
 refine Ev.congr (fun k => ?_) (Ev.now _)
 dsimp only
 rw [if_pos (by omega)]
theorem xor_other (x d : Nat) (hd : d ≠ 0) : x ^^^ d ≠ x := by
 intro h
 have := congrArg (x ^^^ ·) h
 simp [← Nat.xor_assoc] at this
 exact hd this
theorem odd_ev (p : Int) (K M S : Nat) (data : List (List Int)) (hmay : agz.f p (K : Int) (M : Int) = some true) (hK : data.length = K) (hL : S ≤ 1000000) (hd : S % wN (pbits p) = 0) (hb : isBL data S) (i : Nat) (hi : i < K + M) (r r' : List Int) (hr : (data ++ parV S p K M data)[i]? = some r) (hr' : r'.length = S ∧ ∀ x, x ∈ r' → 0 ≤ x ∧ x ≤ 255) (hne : r' ≠ r) :
  Ev (fun k => aSz.f k p (K : Int) (M : Int) ((data ++ parV S p K M data).set i r')) false := by
 have hpl := dQz S p K M data hmay
 by_cases hiK : i < K
 ·have hri : data[i]? = some r := by rw [List.getElem?_append_left (by omega)] at hr; exact hr
  rw [List.set_append_left _ _ (by omega)]
  have h := ver_dec p K M S (data.set i r') (parV S p K M data) hmay (by simpa using hK) hL hd (fun q hq => by
   rcases List.mem_or_eq_of_mem_set hq with hq | rfl
   ·exact (hb q hq).1
   ·exact hr'.1) hpl
  rw [decide_eq_false (fun he => hne (parV_set p K M S hmay data hK hd hb i r r' hri hr' he))] at h
  exact h
 ·have hri : (parV S p K M data)[i - K]? = some r := by rw [List.getElem?_append_right (by omega), hK] at hr; exact hr
  rw [List.set_append_right _ _ (by omega), hK]
  have h := ver_dec p K M S data ((parV S p K M data).set (i - K) r') hmay hK hL hd (fun q hq => (hb q hq).1) (by simpa using hpl)
  rw [decide_eq_false (fun he => hne (by
   have h2 := hri
   rw [he, List.getElem?_set_self (by omega)] at h2
   exact Option.some.inj h2))] at h
  exact h
end Go.Proofs.YtpdakdcmahlghaaGreat.XCo
end
