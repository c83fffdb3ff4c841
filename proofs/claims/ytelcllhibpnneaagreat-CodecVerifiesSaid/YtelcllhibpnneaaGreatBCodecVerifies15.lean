-- Joined by this work's own program (wip/tools/bundle.py) out of its texts: what this claim uses of them. Not trusted: Lean checks it.
import Derived.Test.YtelcllhibpnneaaGreatBCodecVerifies14
section
namespace Go.Proofs.YtelcllhibpnneaaGreat.XCo
open Go.RowKit Go.Proofs.YtelcllhibpnneaaGreatW.PrintWords Go.Proofs.YtelcllhibpnneaaGreatW.PrintLast Go.Proofs.YtelcllhibpnneaaGreatW.PrintMore
attribute [local go_sem] aGz aHz aMz aNz aCz aDz aIz aJz
set_option linter.unusedVariables false
set_option linter.unusedSimpArgs false
def abz.j0 : Nat → List Int → Bool → List (List Int) → Bool → Int → Int → Int → Int → Int → Int → Option (Bool)
 | 0, _, _, _, _, _, _, _, _, _, _ => none
 | k + 1, x1, x7, x9, x41, x935000, x935001, x935002, x940000, x940001, x940002 => if x41 = true then (some false) else (if 0 ≤ x940001 then (if x940001 ≤ (x9.length : Int) then ((alz.f k x940000 x940001 x940002 (x9.take (x940001 : Int).toNat) (x1.length : Int)).bind fun bt949 => (if (x9.length : Int) = 0 then (none) else (if 0 ≤ (Int.tmod (wrap64 (x935000)) (x9.length : Int)) then (if (Int.tmod (wrap64 (x935000)) (x9.length : Int)) < (x9.length : Int) then (if ((rd_L1 x9 (Int.tmod (wrap64 (x935000)) (x9.length : Int))).length : Int) = 0 then (some false) else ((some (([] : List (List Int)) : List (List Int))).bind fun y955 => (if y955.length + x9.length < 5864062014805 then ((some (y955 ++ x9 : List (List Int))).bind fun y958 => ((some (([] : List Int) : List Int)).bind fun y961 => (if y961.length + (rd_L1 x9 (Int.tmod (wrap64 (x935000)) (x9.length : Int))).length < 140737488355328 then ((some (y961 ++ (rd_L1 x9 (Int.tmod (wrap64 (x935000)) (x9.length : Int))) : List Int)).bind fun y965 => (if 0 ≤ (Int.tmod (wrap64 (x935001)) ((rd_L1 x9 (Int.tmod (wrap64 (x935000)) (x9.length : Int))).length : Int)) then (if (Int.tmod (wrap64 (x935001)) ((rd_L1 x9 (Int.tmod (wrap64 (x935000)) (x9.length : Int))).length : Int)) < (y965.length : Int) then (if (Int.tmod (wrap64 (x935000)) (x9.length : Int)) < (y958.length : Int) then (if x7 = true then ((anz.f k x940000 x940001 x940002 x9).bind fun t971 => (if t971 = true then (if bt949.2 = 0 then (if (strOfNums bt949.1).toList = (strOfNums x1).toList then ((anz.f k x940000 x940001 x940002 (y958.set ((Int.tmod (wrap64 (x935000)) (x9.length : Int)) : Int).toNat (y965.set ((Int.tmod (wrap64 (x935001)) ((rd_L1 x9 (Int.tmod (wrap64 (x935000)) (x9.length : Int))).length : Int)) : Int).toNat (Go.bits .xor .u8 (rd y965 (Int.tmod (wrap64 (x935001)) ((rd_L1 x9 (Int.tmod (wrap64 (x935000)) (x9.length : Int))).length : Int))) ((1 + (Int.tmod x935002 255)) % 256))))).bind fun t972 => (if t972 = true then (some false) else (if 1 ≤ (x9.length : Int) then ((anz.f k x940000 x940001 x940002 (x9.drop 1)).bind fun t978 => (some (!t978))) else (none)))) else (some false)) else (some false)) else (some false))) else (some false)) else (none)) else (none)) else (none))) else (none)))) else (none)))) else (none)) else (none)))) else (none)) else (none))
def abz.f (k : Nat) (a0_0 : Int) (a0_1 : Int) (a0_2 : Int) (l1 : List Int) (a2_0 : Int) (a2_1 : Int) (a2_2 : Int) : Option (Bool) := (bcz.f k).bind fun t935 => (if (l1.length : Int) > 300 then (some t935) else ((bgz.f a0_0 a0_1 a0_2).bind fun bt936 => ((bnz.f k bt936.1 bt936.2.1 bt936.2.2 l1).bind fun bt940 => (if bt940.2 = 0 then (abz.j0 k l1 t935 bt940.1 ((bt940.1.length : Int) != (wrap64 (bt936.2.1 + bt936.2.2))) a2_0 a2_1 a2_2 bt936.1 bt936.2.1 bt936.2.2) else (abz.j0 k l1 t935 bt940.1 true a2_0 a2_1 a2_2 bt936.1 bt936.2.1 bt936.2.2)))))
def abz.T8 : Bool × List (List Nat × List Nat) := (true, [([], []), ([], []), ([], []), ([2], [2]), ([1, 3], [1, 3]), ([], []), ([5], [5]), ([0, 4, 6], [0, 4, 6]), ([7], [7]), ([8], [8]), ([8], [8]), ([9, 7, 0, 1, 2, 3, 4, 5, 6, 7, 8, 9], [9]), ([10, 11, 0, 1, 2, 3, 4, 5, 6, 7, 8, 9, 10, 11], [10])])
def abz.B8 : List Nat := [0, 0, 0, 4, 14, 0, 32, 127, 255, 511, 511, 1023, 4095]
theorem abz.tab8 : rtab .any (opsOf Tryz.f11 8) = abz.T8 := by kernel_rfl
theorem abz.bits8 : waitsOk abz.T8.2 abz.B8 = true := by kernel_rfl
def abz.T12 : Bool × List (List Nat × List Nat) := (true, [([], []), ([0], [0]), ([1], [1]), ([], []), ([], []), ([3, 4], [3, 4]), ([5], [5]), ([6], [6]), ([2, 7], [2, 7]), ([8, 0, 1, 2, 3, 4, 5, 6, 7, 8], [8])])
def abz.B12 : List Nat := [0, 1, 3, 0, 0, 24, 56, 120, 255, 511]
theorem abz.tab12 : rtab .any (opsOf Tryz.f11 12) = abz.T12 := by kernel_rfl
theorem abz.bits12 : waitsOk abz.T12.2 abz.B12 = true := by kernel_rfl
def abz.T15 : Bool × List (List Nat × List Nat) := (true, [([], []), ([], []), ([], []), ([], []), ([2, 3], [2, 3]), ([4], [4]), ([], []), ([6], [6]), ([7], [7]), ([8], [8]), ([5, 9], [5, 9]), ([0, 1, 0, 1, 2, 3, 4, 5, 6, 7, 8, 9, 10], [0, 1]), ([11, 10, 0, 1, 2, 3, 4, 5, 6, 7, 8, 9, 10], [10, 11])])
def abz.B15 : List Nat := [0, 0, 0, 0, 12, 28, 0, 64, 192, 448, 1020, 2047, 4095]
theorem abz.tab15 : rtab .any (opsOf Tryz.f11 15) = abz.T15 := by kernel_rfl
theorem abz.bits15 : waitsOk abz.T15.2 abz.B15 = true := by kernel_rfl
def abz.T17 : Bool × List (List Nat × List Nat) := (true, [([], []), ([0], [0]), ([1], [1]), ([1], [1]), ([2, 3, 1, 1], [1, 2, 3]), ([1, 4], [1, 4]), ([5, 4], [5]), ([6], [6]), ([7, 6], [6, 7]), ([6, 8], [6, 8]), ([9, 6], [9]), ([10], [10]), ([11, 10], [10, 11]), ([10], [10]), ([13, 10], [10, 13]), ([12, 14, 10], [10, 12, 14]), ([10, 15], [10, 15]), ([16, 10], [16]), ([17], [17]), ([17], [17]), ([18, 19, 17, 17], [17, 18, 19]), ([20, 17], [17, 20]), ([17, 21], [17, 21]), ([22, 20], [22]), ([23], [23]), ([23], [23]), ([25, 23], [23, 25]), ([24, 26, 23, 23], [23, 24, 26]), ([27, 23], [23, 27]), ([23, 28], [23, 28]), ([29, 27, 0, 1, 2, 3, 4, 5, 6, 7, 8, 9, 10, 11, 12, 13, 14, 15, 16, 17, 18, 19, 20, 21, 22, 23, 24, 25, 26, 27, 28, 29], [29])])
def abz.B17 : List Nat := [0, 1, 3, 3, 15, 31, 63, 127, 255, 511, 1023, 2047, 4095, 2047, 10239, 32767, 65535, 131071, 262143, 262143, 1048575, 2097151, 4194303, 8388607, 16777215, 16777215, 50331647, 134217727, 268435455, 536870911, 1073741823]
theorem abz.tab17 : rtab .any (opsOf Tryz.f11 17) = abz.T17 := by kernel_rfl
theorem abz.bits17 : waitsOk abz.T17.2 abz.B17 = true := by kernel_rfl
set_option maxHeartbeats 8000000 in
set_option maxRecDepth 100000 in
theorem abz.calls (k : Nat) (a0_0 : Int) (a0_1 : Int) (a0_2 : Int) (A1 : Option Addr) (c1 : Nat) (l1 : List Int) (a2_0 : Int) (a2_1 : Int) (a2_2 : Int) (r : Bool) (w : World) (hr_ : Aside0 (r = true)) (hr1 : Kd.C (Kd.int .u8) w A1 l1.length l1) (hc1 : l1.length ≤ c1) (h : abz.f k a0_0 a0_1 a0_2 l1 a2_0 a2_1 a2_2 = some r) :
  Calls Tryz.prog 11 #[.agg #[.int .u8 a0_0, .int .u8 a0_1, .int .u8 a0_2], .slice A1 l1.length c1, .agg #[.int .u8 a2_0, .int .u8 a2_1, .int .u8 a2_2]] w fun e w' => e = .returned (.bool r) ∧ Below w.heap.size w w' := by
 have hu38 := Tryz.underlying38
 have hu23 := Tryz.underlying23
 have HR1 := Aside0.mk hr1
 have HC1 := Aside0.mk hc1
 clear hr1 hc1
 have HB := Aside0.mk (Below.refl w.heap.size w)
 have H := h
 clear h
 unfold abz.f at H
 obtain ⟨t935, A4, H⟩ := ob_ H
 (try dsimp only at H)
 by_cases c5 : (l1.length : Int) > 300
 ·rw [if_pos c5] at H
  have c5b0 : decide (300 < (l1.length : Int)) = true := decide_eq_true c5
  have c5b1 : decide (300 < l1.length) = true := decide_eq_true (by omega)
  clear c5
  obtain rfl := Option.some.inj H
  go_enter Tryz.func11, Tryz.ntmps11
  go_wp2_with (first | ((with_reducible refine ayz (N := 3) rfl ?_); (try (refine bCz (by rfl) ?_; dsimp only)); refine bx_ 3 #[.int .u8 a0_0, .int .u8 a0_1, .int .u8 a0_2] 38 ?_; intro gb933 hg w6 hbox hb; have n_ := And.intro (hs_ HB hb) (And.intro (Aside0.mk (hbox)) (And.intro (ag_ HB gb933) (ag_ HB gb933))); clear HB; obtain ⟨HB, BK933, GW933, GE933⟩ := n_; clear hb hbox hg) | ((with_reducible refine ayz (N := 5) rfl ?_); (try (refine bCz (by rfl) ?_; dsimp only)); refine bx_ 5 #[.int .u8 a2_0, .int .u8 a2_1, .int .u8 a2_2] 38 ?_; intro gb934 hg w7 hbox hb; have n_ := And.intro (bb_ BK933 hb) (And.intro (hs_ HB hb) (And.intro (Aside0.mk (hbox)) (And.intro (ag_ HB gb934) (And.intro (ag_ HB gb934) (And.intro (n1_ BK933 gb934) (n2_ BK933 gb934)))))); clear BK933 HB; obtain ⟨BK933, HB, BK934, GW934, GE934, NB933_934, NB934_933⟩ := n_; clear hb hbox hg) | ((with_reducible refine ajz (f := 15) rfl ?_); refine gl_ (some 17) Tryz.func15 #[] ?_; (with_reducible refine (bcz.calls k  t935 _ A4.out).mono ?_); rintro e w8 ⟨rfl, hb⟩; refine ⟨_, rfl, ?_⟩; have n_ := And.intro (bb_ BK933 hb) (And.intro (bb_ BK934 hb) (hs_ HB hb)); clear BK933 BK934 HB; obtain ⟨BK933, BK934, HB⟩ := n_; (try clear hb)))
  go_ret
  exact ⟨er_, bl_⟩
 ·rw [if_neg c5] at H
  have c5b0 : decide (300 < (l1.length : Int)) = false := decide_eq_false c5
  have c5b1 : decide (300 < l1.length) = false := decide_eq_false (by omega)
  clear c5
  obtain ⟨⟨t936, t937, t938⟩, A9, H⟩ := ob_ H
  (try dsimp only at H)
  obtain ⟨⟨t940, t943⟩, A10, H⟩ := ob_ H
  (try dsimp only at H)
  have HC11 := Aside0.mk H
  clear H
  go_enter Tryz.func11, Tryz.ntmps11
  go_upto_region 6 with (first | ((with_reducible refine ayz (N := 3) rfl ?_); (try (refine bCz (by rfl) ?_; dsimp only)); refine bx_ 3 #[.int .u8 a0_0, .int .u8 a0_1, .int .u8 a0_2] 38 ?_; intro gb933 hg w12 hbox hb; have n_ := And.intro (hs_ HB hb) (And.intro (Aside0.mk (hbox)) (And.intro (ag_ HB gb933) (ag_ HB gb933))); clear HB; obtain ⟨HB, BK933, GW933, GE933⟩ := n_; clear hb hbox hg) | ((with_reducible refine ayz (N := 5) rfl ?_); (try (refine bCz (by rfl) ?_; dsimp only)); refine bx_ 5 #[.int .u8 a2_0, .int .u8 a2_1, .int .u8 a2_2] 38 ?_; intro gb934 hg w13 hbox hb; have n_ := And.intro (bb_ BK933 hb) (And.intro (hs_ HB hb) (And.intro (Aside0.mk (hbox)) (And.intro (ag_ HB gb934) (And.intro (ag_ HB gb934) (And.intro (n1_ BK933 gb934) (n2_ BK933 gb934)))))); clear BK933 HB; obtain ⟨BK933, HB, BK934, GW934, GE934, NB933_934, NB934_933⟩ := n_; clear hb hbox hg) | ((with_reducible refine ajz (f := 15) rfl ?_); refine gl_ (some 17) Tryz.func15 #[] ?_; (with_reducible refine (bcz.calls k  t935 _ A4.out).mono ?_); rintro e w14 ⟨rfl, hb⟩; refine ⟨_, rfl, ?_⟩; have n_ := And.intro (bb_ BK933 hb) (And.intro (bb_ BK934 hb) (hs_ HB hb)); clear BK933 BK934 HB; obtain ⟨BK933, BK934, HB⟩ := n_; (try clear hb); have hnb15 := NB933_934.out; have hnc15 := NB934_933.out; obtain ⟨hcz16_0, hfz16_0, hcz16_1, hfz16_1, hcz16_2, hfz16_2⟩ := bc3_ BK933.out) | ((with_reducible refine ajz (f := 24) rfl ?_); refine gl_ (some 23) Tryz.func24 #[.agg #[.int .u8 a0_0, .int .u8 a0_1, .int .u8 a0_2]] ?_; (with_reducible refine (bgz.calls a0_0 a0_1 a0_2 t936 t937 t938 _ A9.out).mono ?_); rintro e w17 ⟨rfl, hb⟩; refine ⟨_, rfl, ?_⟩; have n_ := And.intro (bb_ BK933 hb) (And.intro (bb_ BK934 hb) (hs_ HB hb)); clear BK933 BK934 HB; obtain ⟨BK933, BK934, HB⟩ := n_; (try clear hb)) | ((with_reducible refine ayz (N := 8) rfl ?_); (try (refine bCz (by rfl) ?_; dsimp only)); refine bx_ 8 #[.int .i64 0, .int .i64 0, .int .i64 0] 23 ?_; intro gb939 hg w18 hbox hb; have n_ := And.intro (bb_ BK933 hb) (And.intro (bb_ BK934 hb) (And.intro (hs_ HB hb) (And.intro (Aside0.mk (hbox)) (And.intro (ag_ HB gb939) (And.intro (ag_ HB gb939) (And.intro (n1_ BK933 gb939) (And.intro (n2_ BK933 gb939) (And.intro (n1_ BK934 gb939) (n2_ BK934 gb939))))))))); clear BK933 BK934 HB; obtain ⟨BK933, BK934, HB, BK939, GW939, GE939, NB933_939, NB939_933, NB934_939, NB939_934⟩ := n_; clear hb hbox hg; have hnb19 := NB939_933.out; have hnc19 := NB933_939.out; have hnb20 := NB939_934.out; have hnc20 := NB934_939.out; obtain ⟨hcz21_0, hfz21_0, hcz21_1, hfz21_1, hcz21_2, hfz21_2⟩ := bc3_ BK939.out) | ((with_reducible refine ajz (f := 22) rfl ?_); refine gl_ (some 27) Tryz.func22 #[.agg #[.int .i64 t936, .int .i64 t937, .int .i64 t938], .slice A1 l1.length c1] ?_; (with_reducible refine (bnz.calls k t936 t937 t938 _ _ l1 t940 t943 _ (Kd.auz HR1.out bl_) (HC1.out) A10.out).mono ?_); rintro e w22 ⟨v941, rfl, ho0, hb⟩; refine ⟨_, rfl, ?_⟩; have n_ := And.intro (Aside0.mk (Kd.N_lower (Kd.bSz (ok' := fun k_ => k_ ≠ gb933 ∧ k_ ≠ gb934 ∧ k_ ≠ gb939) ho0 (fun k_ hk_ => ⟨(Kd.freshB (g := gb933) (o := .cells #[.int .u8 a0_0, .int .u8 a0_1, .int .u8 a0_2] 38 (0, 0)) (by (with_reducible repeat (first | refine aez ?_ _ | refine afz ?_ | refine adz ?_ _)); refine aqz ?_ NB933_939.out _; (with_reducible repeat (first | refine aez ?_ _ | refine afz ?_ | refine adz ?_ _)); refine aqz ?_ NB933_939.out _; (with_reducible repeat (first | refine aez ?_ _ | refine afz ?_ | refine adz ?_ _)); refine aqz ?_ NB933_939.out _; (with_reducible repeat (first | refine aez ?_ _ | refine afz ?_ | refine adz ?_ _)); exact BK933.out) k_ hk_), (Kd.freshB (g := gb934) (o := .cells #[.int .u8 a2_0, .int .u8 a2_1, .int .u8 a2_2] 38 (0, 0)) (by (with_reducible repeat (first | refine aez ?_ _ | refine afz ?_ | refine adz ?_ _)); refine aqz ?_ NB934_939.out _; (with_reducible repeat (first | refine aez ?_ _ | refine afz ?_ | refine adz ?_ _)); refine aqz ?_ NB934_939.out _; (with_reducible repeat (first | refine aez ?_ _ | refine afz ?_ | refine adz ?_ _)); refine aqz ?_ NB934_939.out _; (with_reducible repeat (first | refine aez ?_ _ | refine afz ?_ | refine adz ?_ _)); exact BK934.out) k_ hk_), (Kd.freshB (g := gb939) (o := .cells #[.int .i64 t936, .int .i64 t937, .int .i64 t938] 23 (0, 0)) (by (with_reducible repeat (first | refine aez ?_ _ | refine afz ?_ | refine adz ?_ _)); refine atz (cs := #[.int .i64 t936, .int .i64 t937, .int .i64 0]) ?_ 2 _ rfl; (with_reducible repeat (first | refine aez ?_ _ | refine afz ?_ | refine adz ?_ _)); refine atz (cs := #[.int .i64 t936, .int .i64 0, .int .i64 0]) ?_ 1 _ rfl; (with_reducible repeat (first | refine aez ?_ _ | refine afz ?_ | refine adz ?_ _)); refine atz (cs := #[.int .i64 0, .int .i64 0, .int .i64 0]) ?_ 0 _ rfl; (with_reducible repeat (first | refine aez ?_ _ | refine afz ?_ | refine adz ?_ _)); exact BK939.out) k_ hk_)⟩)) (aQz bl_))) (And.intro (Aside0.mk (ahz (g := gb933) (o := .cells #[.int .u8 a0_0, .int .u8 a0_1, .int .u8 a0_2] 38 (0, 0)) (by (with_reducible repeat (first | refine aez ?_ _ | refine afz ?_ | refine adz ?_ _)); refine aqz ?_ NB933_939.out _; (with_reducible repeat (first | refine aez ?_ _ | refine afz ?_ | refine adz ?_ _)); refine aqz ?_ NB933_939.out _; (with_reducible repeat (first | refine aez ?_ _ | refine afz ?_ | refine adz ?_ _)); refine aqz ?_ NB933_939.out _; (with_reducible repeat (first | refine aez ?_ _ | refine afz ?_ | refine adz ?_ _)); exact BK933.out) hb)) (And.intro (Aside0.mk (ahz (g := gb934) (o := .cells #[.int .u8 a2_0, .int .u8 a2_1, .int .u8 a2_2] 38 (0, 0)) (by (with_reducible repeat (first | refine aez ?_ _ | refine afz ?_ | refine adz ?_ _)); refine aqz ?_ NB934_939.out _; (with_reducible repeat (first | refine aez ?_ _ | refine afz ?_ | refine adz ?_ _)); refine aqz ?_ NB934_939.out _; (with_reducible repeat (first | refine aez ?_ _ | refine afz ?_ | refine adz ?_ _)); refine aqz ?_ NB934_939.out _; (with_reducible repeat (first | refine aez ?_ _ | refine afz ?_ | refine adz ?_ _)); exact BK934.out) hb)) (And.intro (Aside0.mk (ahz (g := gb939) (o := .cells #[.int .i64 t936, .int .i64 t937, .int .i64 t938] 23 (0, 0)) (by (with_reducible repeat (first | refine aez ?_ _ | refine afz ?_ | refine adz ?_ _)); refine atz (cs := #[.int .i64 t936, .int .i64 t937, .int .i64 0]) ?_ 2 _ rfl; (with_reducible repeat (first | refine aez ?_ _ | refine afz ?_ | refine adz ?_ _)); refine atz (cs := #[.int .i64 t936, .int .i64 0, .int .i64 0]) ?_ 1 _ rfl; (with_reducible repeat (first | refine aez ?_ _ | refine afz ?_ | refine adz ?_ _)); refine atz (cs := #[.int .i64 0, .int .i64 0, .int .i64 0]) ?_ 0 _ rfl; (with_reducible repeat (first | refine aez ?_ _ | refine afz ?_ | refine adz ?_ _)); exact BK939.out) hb)) (hs_ HB hb)))); clear BK933 BK934 BK939 HB; obtain ⟨HO942, BK933, BK934, BK939, HB⟩ := n_; clear hb ho0))
  (try simp only [Act.put, List.setIfInBounds_toArray, List.set_cons_zero, List.set_cons_succ])
  go_cut [41] (fun v41 wc => ∃ (kq : Nat) (x41_10 : Bool), v41 = .bool x41_10 ∧ Aside0 (abz.j0 kq l1 t935 t940 x41_10 a2_0 a2_1 a2_2 t936 t937 t938 = some r) ∧ Aside0 (kq ≤ k) ∧ Aside0 (Kd.N (Kd.slice 5 (Kd.int .u8)) 34 wc w.heap.size (fun k_ => k_ ≠ gb933 ∧ k_ ≠ gb934 ∧ k_ ≠ gb939) v941 t940) ∧ Aside0 (wc.heap[gb933]? = some (.cells #[.int .u8 a0_0, .int .u8 a0_1, .int .u8 a0_2] 38 (0, 0))) ∧ Aside0 (wc.heap[gb934]? = some (.cells #[.int .u8 a2_0, .int .u8 a2_1, .int .u8 a2_2] 38 (0, 0))) ∧ Aside0 (wc.heap[gb939]? = some (.cells #[.int .i64 t936, .int .i64 t937, .int .i64 t938] 23 (0, 0))) ∧ Aside0 (Below w.heap.size w wc))
  case first =>
   have H := HC11.out
   clear HC11
   by_cases c23 : t943 = 0
   rotate_left
   ·rw [if_neg c23] at H
    have c23b0 : (t943 == 0) = false := beq_eq_false_iff_ne.mpr c23
    have c23b1 : (t943 != 0) = true := bne_iff_ne.mpr c23
    (first | rw [c23b0] | (simp only [i64_w, i32_w]; rw [c23b0]) | skip)
    have H' := Aside0.mk H
    clear H
    go_wp2
    go_meet
    case rel => exact ⟨_, (true), sd_, H', ⟨by first | omega | exact Nat.le_refl _⟩, ⟨xd_ HO942.out⟩, ⟨bk_⟩, ⟨bk_⟩, ⟨bk_⟩, ⟨bl_⟩⟩
   rw [if_pos c23] at H
   have c23b0 : (t943 == 0) = true := beq_iff_eq.mpr c23
   have c23b1 : (t943 != 0) = false := bne_eq_false_iff_eq.mpr c23
   clear c23
   (first | rw [c23b0] | (simp only [i64_w, i32_w]; rw [c23b0]) | skip)
   have H' := Aside0.mk H
   clear H
   obtain ⟨Ao24, co24, eo24⟩ := Kd.N_slice HO942.out
   subst eo24
   have hnb25 := NB939_933.out
   have hnc25 := NB933_939.out
   have hnb26 := NB939_934.out
   have hnc26 := NB934_939.out
   obtain ⟨hcz27_0, hfz27_0, hcz27_1, hfz27_1, hcz27_2, hfz27_2⟩ := bc3_ BK939.out
   go_wp2
   go_meet
   case rel => exact ⟨_, (((t940.length : Int) != (wrap64 (t937 + t938)))), sd_, H', ⟨by first | omega | exact Nat.le_refl _⟩, ⟨xd_ HO942.out⟩, ⟨bk_⟩, ⟨bk_⟩, ⟨bk_⟩, ⟨bl_⟩⟩
  case rest =>
   clear HC11
   try clear c1
   try clear c2
   try clear p2
   try clear c5
   try clear c5b0
   try clear c5b1
   try clear p6
   try clear c11
   try clear c15
   try clear c19
   try clear c20
   try clear c22
   try clear c23
   try clear c23b0
   try clear c23b1
   try clear c24
   try clear c25
   try clear c26
   try clear hcz16_0
   try clear hcz16_1
   try clear hcz16_2
   try clear hcz21_0
   try clear hcz21_1
   try clear hcz21_2
   try clear hcz27_0
   try clear hcz27_1
   try clear hcz27_2
   try clear hfz16_0
   try clear hfz16_1
   try clear hfz16_2
   try clear hfz21_0
   try clear hfz21_1
   try clear hfz21_2
   try clear hfz27_0
   try clear hfz27_1
   try clear hfz27_2
   obtain ⟨kq, x41_10, rfl, HA, HJ10, HO_9, BK933, BK934, BK939, HB⟩ := hcut
   rcases kq with _ | kj10
   ·exact absurd HA.out (by simp [abz.j0])
   have H := HA.out
   clear HA
   simp only [abz.j0] at H
   by_cases c28 : x41_10 = true
   ·subst c28
    rw [if_pos rfl] at H
    exact absurd ((Option.some.inj H).trans hr_.out) (by simp)
   ·replace c28 := Bool.eq_false_iff.mpr c28
    subst c28
    rw [if_neg (show ¬ (false = true) by decide)] at H
    by_cases c29 : 0 ≤ t937
    rotate_left
    ·rw [if_neg c29] at H
     exact absurd H (by simp)
    rw [if_pos c29] at H
    have c29b0 := eq_true c29
    have c29b1 := decide_eq_true c29
    clear c29
    by_cases c30 : t937 ≤ (t940.length : Int)
    rotate_left
    ·rw [if_neg c30] at H
     exact absurd H (by simp)
    rw [if_pos c30] at H
    have c30b0 := eq_true c30
    have c30b1 := decide_eq_true c30
    clear c30
    obtain ⟨y944, hy944⟩ : ∃ y_ : List (List Int), y_ = (t940.take (t937 : Int).toNat) := ⟨_, rfl⟩
    first | rw [Option.bind_some, ← hy944] at H | rw [← hy944] at H
    (try dsimp only at H)
    have Ny944 := Aside0.mk hy944
    clear hy944
    obtain ⟨⟨t949, t952⟩, A31, H⟩ := ob_ H
    (try dsimp only at H)
    by_cases c32 : (t940.length : Int) = 0
    ·rw [if_pos c32] at H
     exact absurd H (by simp)
    ·rw [if_neg c32] at H
     have c32b0 : ((t940.length : Int) == 0) = false := beq_eq_false_iff_ne.mpr c32
     have c32b1 : ((t940.length : Int) != 0) = true := bne_iff_ne.mpr c32
     have c32b2 : ¬ (t940 = []) := fun h_ => c32 (by rw [h_]; rfl)
     obtain ⟨ji33, hji33⟩ : ∃ j_ : Int, (Int.tmod (wrap64 (a2_0)) (t940.length : Int)) = j_ := ⟨_, rfl⟩
     replace H : (if 0 ≤ (ji33) then (if (ji33) < (t940.length : Int) then (if ((rd_L1 t940 (ji33)).length : Int) = 0 then (some false) else ((some (([] : List (List Int)) : List (List Int))).bind fun y955 => (if y955.length + t940.length < 5864062014805 then ((some (y955 ++ t940 : List (List Int))).bind fun y958 => ((some (([] : List Int) : List Int)).bind fun y961 => (if y961.length + (rd_L1 t940 (ji33)).length < 140737488355328 then ((some (y961 ++ (rd_L1 t940 (ji33)) : List Int)).bind fun y965 => (if 0 ≤ (Int.tmod (wrap64 (a2_1)) ((rd_L1 t940 (ji33)).length : Int)) then (if (Int.tmod (wrap64 (a2_1)) ((rd_L1 t940 (ji33)).length : Int)) < (y965.length : Int) then (if (ji33) < (y958.length : Int) then (if t935 = true then ((anz.f kj10 t936 t937 t938 t940).bind fun t971 => (if t971 = true then (if t952 = 0 then (if (strOfNums t949).toList = (strOfNums l1).toList then ((anz.f kj10 t936 t937 t938 (y958.set ((ji33) : Int).toNat (y965.set ((Int.tmod (wrap64 (a2_1)) ((rd_L1 t940 (ji33)).length : Int)) : Int).toNat (Go.bits .xor .u8 (rd y965 (Int.tmod (wrap64 (a2_1)) ((rd_L1 t940 (ji33)).length : Int))) ((1 + (Int.tmod a2_2 255)) % 256))))).bind fun t972 => (if t972 = true then (some false) else (if 1 ≤ (t940.length : Int) then ((anz.f kj10 t936 t937 t938 (t940.drop 1)).bind fun t978 => (some (!t978))) else (none)))) else (some false)) else (some false)) else (some false))) else (some false)) else (none)) else (none)) else (none))) else (none)))) else (none)))) else (none)) else (none)) = some r := by first | (rw [hji33] at H; exact H) | (simp only [hji33] at H ⊢; exact H)
     (try rw [hji33] at A31)
     by_cases c34 : 0 ≤ (ji33)
     rotate_left
     ·rw [if_neg c34] at H
      exact absurd H (by simp)
     rw [if_pos c34] at H
     have c34b0 := decide_eq_true c34
     clear c34
     by_cases c35 : (ji33) < (t940.length : Int)
     rotate_left
     ·rw [if_neg c35] at H
      exact absurd H (by simp)
     rw [if_pos c35] at H
     have c35b0 := decide_eq_true c35
     clear c35
     by_cases c36 : ((rd_L1 t940 (ji33)).length : Int) = 0
     ·rw [if_pos c36] at H
      have c36b0 : (((rd_L1 t940 (ji33)).length : Int) == 0) = true := beq_iff_eq.mpr c36
      have c36b1 : (((rd_L1 t940 (ji33)).length : Int) != 0) = false := bne_eq_false_iff_eq.mpr c36
      clear c36
      exact absurd ((Option.some.inj H).trans hr_.out) (by simp)
     ·rw [if_neg c36] at H
      have c36b0 : (((rd_L1 t940 (ji33)).length : Int) == 0) = false := beq_eq_false_iff_ne.mpr c36
      have c36b1 : (((rd_L1 t940 (ji33)).length : Int) != 0) = true := bne_iff_ne.mpr c36
      have c36b2 : ¬ ((rd_L1 t940 (ji33)) = []) := fun h_ => c36 (by rw [h_]; rfl)
      obtain ⟨y955, hy955⟩ : ∃ y_ : List (List Int), y_ = (([] : List (List Int))) := ⟨_, rfl⟩
      first | rw [Option.bind_some, ← hy955] at H | rw [← hy955] at H
      (try dsimp only at H)
      have Ny955 := Aside0.mk hy955
      clear hy955
      by_cases c37 : y955.length + t940.length < 5864062014805
      rotate_left
      ·rw [if_neg c37] at H
       exact absurd H (by simp)
      rw [if_pos c37] at H
      have LMc37 := Aside0.mk c37
      clear c37
      obtain ⟨y958, hy958⟩ : ∃ y_ : List (List Int), y_ = (y955 ++ t940) := ⟨_, rfl⟩
      first | rw [Option.bind_some, ← hy958] at H | rw [← hy958] at H
      (try dsimp only at H)
      have Ny958 := Aside0.mk hy958
      clear hy958
      obtain ⟨y961, hy961⟩ : ∃ y_ : List Int, y_ = (([] : List Int)) := ⟨_, rfl⟩
      first | rw [Option.bind_some, ← hy961] at H | rw [← hy961] at H
      (try dsimp only at H)
      have Ny961 := Aside0.mk hy961
      clear hy961
      by_cases c38 : y961.length + (rd_L1 t940 (ji33)).length < 140737488355328
      rotate_left
      ·rw [if_neg c38] at H
       exact absurd H (by simp)
      rw [if_pos c38] at H
      have LMc38 := Aside0.mk c38
      clear c38
      obtain ⟨y965, hy965⟩ : ∃ y_ : List Int, y_ = (y961 ++ (rd_L1 t940 (ji33))) := ⟨_, rfl⟩
      first | rw [Option.bind_some, ← hy965] at H | rw [← hy965] at H
      (try dsimp only at H)
      have Ny965 := Aside0.mk hy965
      clear hy965
      obtain ⟨ji39, hji39⟩ : ∃ j_ : Int, (Int.tmod (wrap64 (a2_1)) ((rd_L1 t940 (ji33)).length : Int)) = j_ := ⟨_, rfl⟩
      replace H : (if 0 ≤ (ji39) then (if (ji39) < (y965.length : Int) then (if (ji33) < (y958.length : Int) then (if t935 = true then ((anz.f kj10 t936 t937 t938 t940).bind fun t971 => (if t971 = true then (if t952 = 0 then (if (strOfNums t949).toList = (strOfNums l1).toList then ((anz.f kj10 t936 t937 t938 (y958.set ((ji33) : Int).toNat (y965.set ((ji39) : Int).toNat (Go.bits .xor .u8 (rd y965 (ji39)) ((1 + (Int.tmod a2_2 255)) % 256))))).bind fun t972 => (if t972 = true then (some false) else (if 1 ≤ (t940.length : Int) then ((anz.f kj10 t936 t937 t938 (t940.drop 1)).bind fun t978 => (some (!t978))) else (none)))) else (some false)) else (some false)) else (some false))) else (some false)) else (none)) else (none)) else (none)) = some r := by first | (rw [hji39] at H; exact H) | (simp only [hji39] at H ⊢; exact H)
      (try rw [hji39] at A31)
      by_cases c40 : 0 ≤ (ji39)
      rotate_left
      ·rw [if_neg c40] at H
       exact absurd H (by simp)
      rw [if_pos c40] at H
      have c40b0 := decide_eq_true c40
      clear c40
      by_cases c41 : (ji39) < (y965.length : Int)
      rotate_left
      ·rw [if_neg c41] at H
       exact absurd H (by simp)
      rw [if_pos c41] at H
      have c41b0 := decide_eq_true c41
      clear c41
      obtain ⟨y969, hy969⟩ : ∃ y_ : List Int, y_ = (y965.set ((ji39) : Int).toNat (Go.bits .xor .u8 (rd y965 (ji39)) ((1 + (Int.tmod a2_2 255)) % 256))) := ⟨_, rfl⟩
      first | rw [Option.bind_some, ← hy969] at H | rw [← hy969] at H
      (try dsimp only at H)
      have Ny969 := Aside0.mk hy969
      clear hy969
      by_cases c43 : (ji33) < (y958.length : Int)
      rotate_left
      ·rw [if_neg c43] at H
       exact absurd H (by simp)
      rw [if_pos c43] at H
      have c43b0 := decide_eq_true c43
      clear c43
      obtain ⟨y970, hy970⟩ : ∃ y_ : List (List Int), y_ = (y958.set ((ji33) : Int).toNat y969) := ⟨_, rfl⟩
      first | rw [Option.bind_some, ← hy970] at H | rw [← hy970] at H
      (try dsimp only at H)
      have Ny970 := Aside0.mk hy970
      clear hy970
      by_cases c45 : t935 = true
      rotate_left
      ·replace c45 := Bool.eq_false_iff.mpr c45
       subst c45
       rw [if_neg (show ¬ (false = true) by decide)] at H
       exact absurd ((Option.some.inj H).trans hr_.out) (by simp)
      subst c45
      rw [if_pos rfl] at H
      obtain ⟨t971, A46, H⟩ := ob_ H
      (try dsimp only at H)
      by_cases c47 : t971 = true
      rotate_left
      ·replace c47 := Bool.eq_false_iff.mpr c47
       subst c47
       rw [if_neg (show ¬ (false = true) by decide)] at H
       exact absurd ((Option.some.inj H).trans hr_.out) (by simp)
      subst c47
      rw [if_pos rfl] at H
      by_cases c48 : t952 = 0
      rotate_left
      ·rw [if_neg c48] at H
       have c48b0 : (t952 == 0) = false := beq_eq_false_iff_ne.mpr c48
       have c48b1 : (t952 != 0) = true := bne_iff_ne.mpr c48
       exact absurd ((Option.some.inj H).trans hr_.out) (by simp)
      rw [if_pos c48] at H
      have c48b0 : (t952 == 0) = true := beq_iff_eq.mpr c48
      have c48b1 : (t952 != 0) = false := bne_eq_false_iff_eq.mpr c48
      clear c48
      by_cases c49 : (strOfNums t949).toList = (strOfNums l1).toList
      rotate_left
      ·rw [if_neg c49] at H
       have c49b0 : ((strOfNums t949).toList == (strOfNums l1).toList) = false := beq_eq_false_iff_ne.mpr c49
       have c49b1 : ((strOfNums t949).toList != (strOfNums l1).toList) = true := bne_iff_ne.mpr c49
       exact absurd ((Option.some.inj H).trans hr_.out) (by simp)
      rw [if_pos c49] at H
      have c49b0 : ((strOfNums t949).toList == (strOfNums l1).toList) = true := beq_iff_eq.mpr c49
      have c49b1 : ((strOfNums t949).toList != (strOfNums l1).toList) = false := bne_eq_false_iff_eq.mpr c49
      clear c49
      obtain ⟨t972, A50, H⟩ := ob_ H
      (try dsimp only at H)
      by_cases c51 : t972 = true
      ·subst c51
       rw [if_pos rfl] at H
       exact absurd ((Option.some.inj H).trans hr_.out) (by simp)
      ·replace c51 := Bool.eq_false_iff.mpr c51
       subst c51
       rw [if_neg (show ¬ (false = true) by decide)] at H
       by_cases c52 : 1 ≤ (t940.length : Int)
       rotate_left
       ·rw [if_neg c52] at H
        exact absurd H (by simp)
       rw [if_pos c52] at H
       have c52b0 := eq_true c52
       have c52b1 := decide_eq_true c52
       clear c52
       obtain ⟨y973, hy973⟩ : ∃ y_ : List (List Int), y_ = (t940.drop 1) := ⟨_, rfl⟩
       first | rw [Option.bind_some, ← hy973] at H | rw [← hy973] at H
       (try dsimp only at H)
       have Ny973 := Aside0.mk hy973
       clear hy973
       obtain ⟨t978, A53, H⟩ := ob_ H
       (try dsimp only at H)
       obtain rfl := Option.some.inj H
       try go_wp2
       have n_ := And.intro (Aside0.mk (Kd.b8z HO_9.out)) (And.intro (Aside0.mk (afz BK933.out)) (And.intro (Aside0.mk (afz BK934.out)) (And.intro (Aside0.mk (afz BK939.out)) (Aside0.mk (bOz HB.out)))))
       clear HO_9 BK933 BK934 BK939 HB
       obtain ⟨HO_9, BK933, BK934, BK939, HB⟩ := n_
       obtain ⟨Ao56, co56, eo56⟩ := Kd.N_slice HO_9.out
       (first | subst eo56 | (injection eo56 with f1_ f2_ f3_; have f4_ := f1_.symm; have f5_ := f3_.symm; clear f1_ f2_ f3_; subst f4_; subst f5_))
       have q55 : (t937 : Int) ≤ ((t940.length : Int) : Int) := of_decide_eq_true as_
       obtain ⟨i055, hi055, _, hsz55, _⟩ := info_parts info34
       have hroom55 : t940.length ≤ co56 := (Kd.a2z HO_9.out).2.1
       have hC55 : Kd.F (Kd.slice 5 (Kd.int .u8)) _ _ Ao56 t940.length t940 := (Kd.V_at (base := w.heap.size) (Kd.N_V HO_9.out)).2.2
       have hcut55 := cut_to (P := Tryz.prog) 24 34 .i64 Tryz.underlying24 hi055 Ao56 t940.length co56 t937 (of_decide_eq_true as_) q55 hroom55
       have hr55 := Kd.F_take (m := (t937 : Int).toNat) hC55 (by omega)
       have hy55 : y944.length = (t937 : Int).toNat := (by rw [Ny944.out, List.length_take]; omega)
       rw [← Ny944.out] at hr55
       rw [← hy55] at hcut55
       have HO948 := Aside0.mk (show Kd.V (Kd.slice 5 (Kd.int .u8)) 34 _ w.heap.size _ (.slice Ao56 y944.length co56) y944 from Kd.V_mk (by omega) hr55)
       have HC948 := Aside0.mk (show y944.length ≤ co56 from by omega)
       clear hr55 hC55 hroom55 hi055 hsz55
       have KY55 := Aside0.mk hy55
       clear hy55
       replace q55 := eq_true q55
       refine a5z (n := 13) (S := fun w' => w'.cell? ⟨gb939, 0, none⟩ = some (.int .i64 t936) ∧ w'.cell? ⟨gb939, 1, none⟩ = some (.int .i64 t937) ∧ w'.cell? ⟨gb939, 2, none⟩ = some (.int .i64 t938)) (ds := []) (bA 13 0) kr_ rfl rfl ⟨(aaz BK939.out 0).trans rfl, (aaz BK939.out 1).trans rfl, (aaz BK939.out 2).trans rfl⟩ (fun hHeld => ?_); refine dhz abz.tab8 abz.bits8 (fun HT_ HW_ => ?_)
       generalize wc.drew = w54 at HO_9 BK933 BK934 BK939 HB HO948 hHeld ⊢
       refine pv_ 1 44 2 HT_ ?_
       refine pv_ 2 45 6 HT_ ?_
       refine pv_ 5 48 38 HT_ ?_
       refine pv_ 6 49 102 HT_ ?_
       refine tw_ 0 43 103 HT_ HW_ hHeld ?_
       refine tw_ 3 46 111 HT_ HW_ hHeld ?_
       refine pv_ 4 47 127 HT_ ?_
       refine one_ (i := 7) (N := some 50) (bA 13 255) rfl rfl (one_of HT_.out kr_) (by decide) (fun K hK => ?_)
       refine goes_ Tryz.func33 kr_ rfl #[.agg #[.int .i64 t936, .int .i64 t937, .int .i64 t938], .slice Ao56 y944.length co56, .int .i64 (l1.length : Int)] (by rfl) rfl rfl ar_ ?_
       with_reducible refine (alz.calls kj10 t936 t937 t938 _ _ y944 (l1.length : Int) t949 t952 _ ?side1 ?side2 A31.out).mono ?_
       (case side1 => repeat (first | exact (Kd.dAz HO948.out).2.2 | (with_reducible refine Kd.b5z ?_ _) | (with_reducible refine Kd.aYz ?_ _) | (with_reducible refine Kd.bWz ?_)))
       (case side2 => exact (Kd.dAz HO948.out).2.1)
       rintro e w57 ⟨v950, rfl, ho0, hb⟩
       refine ⟨_, rfl, ?_⟩
       have n_ := And.intro (Aside0.mk (Kd.c3z (xd_ HO_9.out) (Kd.bvz ho0) hb)) (And.intro (Aside0.mk (Kd.caz (xd_ HO948.out) (Kd.bvz ho0) hb)) (And.intro (Aside0.mk (Kd.bkz ho0 (aQz bl_))) (And.intro (bb_ BK933 hb) (And.intro (bb_ BK934 hb) (And.intro (bb_ BK939 hb) (hs_ HB hb))))))
       clear HO_9 HO948 BK933 BK934 BK939 HB
       obtain ⟨HO_9, HO948, HO951, BK933, BK934, BK939, HB⟩ := n_
       (try clear hb)
       (try clear hb2)
       (try clear hk)
       (try clear hi)
       (try clear ho0)
       refine hK.out _ _ ⟨(aaz BK939.out 0).trans rfl, (aaz BK939.out 1).trans rfl, (aaz BK939.out 2).trans rfl⟩ (fun hHeld => ?_)
       clear hK K
       refine norm_ (a' := ?_) ?_ ?_
       rotate_left
       ·show Act.put _ (some 50) _ = _
        simp only [Act.put, List.setIfInBounds_toArray, List.set_cons_zero, List.set_cons_succ, i64_w, i32_w]
        rfl
       refine pv_ 8 42 511 HT_ ?_
       refine pv_ 9 51 1023 HT_ ?_
       refine pv_ 10 52 2047 HT_ ?_
       refine pv_ 11 11 4095 HT_ ?_
       refine pv_ 12 12 8191 HT_ ?_
       refine done_ (done_of HT_.out kr_) ?_
       have hnb58 := NB934_933.out
       have hnc58 := NB933_934.out
       have hnb59 := NB934_939.out
       have hnc59 := NB939_934.out
       obtain ⟨hcz60_0, hfz60_0, hcz60_1, hfz60_1, hcz60_2, hfz60_2⟩ := bc3_ BK934.out
       have p953 : 0 ≤ ((ji33) : Int) := of_decide_eq_true as_
       have q953 : (ji33) < (t940.length : Int) := of_decide_eq_true as_
       obtain ⟨ad953, A953_0, c953_0, e953, hx953_0, hl953_0, hi953_0⟩ := at_L1 (Kd.a2z HO_9.out).2.2 (ji33) p953 q953
       cases e953
       obtain ⟨ce953, hce953, hMe953, hcc953⟩ := Kd.N_get HO_9.out [] (ji33) p953 (by first | exact q953 | exact of_decide_eq_true as_ | (have e_ := (Kd.a2z HO_9.out).1; omega))
       obtain ⟨ua953_0, uc953_0, rfl, ul953_0, ge953_0⟩ := Kd.bKz hMe953
       have hv953_0 := hcc953 0 _ rfl
       rw [Nat.add_zero, show ((Kd.slice 5 (Kd.int .u8))).sz = 1 from rfl, Nat.mul_one] at hv953_0
       replace hv953_0 := Option.some.inj (hv953_0.symm.trans hx953_0)
       injection hv953_0 with hva_ hvn_ hvc_
       rw [hva_] at ge953_0
       rw [hvc_] at ul953_0
       have HL953_0 := Aside0.mk (show Kd.V (Kd.int .u8) 5 _ w.heap.size _ _ (rd_L1 t940 (ji33)) from Kd.V_mk ul953_0 ge953_0)
       clear hva_ hvn_ hvc_ ge953_0 ul953_0
       clear hcc953 hce953
       have HR953_0 := Aside0.mk hi953_0
       have HC953_0 := Aside0.mk hl953_0
       clear hi953_0 hl953_0
       replace p953 := eq_true p953
       replace q953 := eq_true q953
       try go_wp2
       have n_ := And.intro (Aside0.mk (Kd.b8z HO_9.out)) (And.intro (Aside0.mk (Kd.aPz HO948.out)) (And.intro (Aside0.mk (Kd.b1z HO951.out)) (And.intro (Aside0.mk (Kd.aPz HL953_0.out)) (And.intro (Aside0.mk (afz BK933.out)) (And.intro (Aside0.mk (afz BK934.out)) (And.intro (Aside0.mk (afz BK939.out)) (And.intro (Aside0.mk (Kd.bWz HR953_0.out)) (Aside0.mk (bOz HB.out)))))))))
       clear HO_9 HO948 HO951 HL953_0 BK933 BK934 BK939 HR953_0 HB
       obtain ⟨HO_9, HO948, HO951, HL953_0, BK933, BK934, BK939, HR953_0, HB⟩ := n_
       have p954 : 0 ≤ ((ji33) : Int) := of_decide_eq_true as_
       have q954 : (ji33) < (t940.length : Int) := of_decide_eq_true as_
       obtain ⟨ad954, A954_0, c954_0, e954, hx954_0, hl954_0, hi954_0⟩ := at_L1 (Kd.a2z HO_9.out).2.2 (ji33) p954 q954
       obtain rfl : ad953 = ad954 := (by injection e954)
       obtain ⟨ce954, hce954, hMe954, hcc954⟩ := Kd.N_get HO_9.out [] (ji33) p954 (by first | exact q954 | exact of_decide_eq_true as_ | (have e_ := (Kd.a2z HO_9.out).1; omega))
       obtain ⟨ua954_0, uc954_0, rfl, ul954_0, ge954_0⟩ := Kd.bKz hMe954
       have hv954_0 := hcc954 0 _ rfl
       rw [Nat.add_zero, show ((Kd.slice 5 (Kd.int .u8))).sz = 1 from rfl, Nat.mul_one] at hv954_0
       replace hv954_0 := Option.some.inj (hv954_0.symm.trans hx954_0)
       injection hv954_0 with hva_ hvn_ hvc_
       rw [hva_] at ge954_0
       rw [hvc_] at ul954_0
       have HL954_0 := Aside0.mk (show Kd.V (Kd.int .u8) 5 _ w.heap.size _ _ (rd_L1 t940 (ji33)) from Kd.V_mk ul954_0 ge954_0)
       clear hva_ hvn_ hvc_ ge954_0 ul954_0
       clear hcc954 hce954
       have HR954_0 := Aside0.mk hi954_0
       have HC954_0 := Aside0.mk hl954_0
       clear hi954_0 hl954_0
       replace p954 := eq_true p954
       replace q954 := eq_true q954
       refine a5z (n := 10) (S := fun w' => w'.cell? ⟨gb934, 0, none⟩ = some (.int .u8 a2_0) ∧ w'.cell? ⟨gb934, 1, none⟩ = some (.int .u8 a2_1) ∧ w'.cell? ⟨gb934, 2, none⟩ = some (.int .u8 a2_2) ∧ w'.cell? (ad953.add ((ji33)).toNat) = some (.slice A954_0 (rd_L1 t940 (ji33)).length c954_0)) (ds := []) (bA 10 0) kr_ rfl rfl ⟨(aaz BK934.out 0).trans rfl, (aaz BK934.out 1).trans rfl, (aaz BK934.out 2).trans rfl, hx954_0⟩ (fun hHeld => ?_); refine dhz abz.tab12 abz.bits12 (fun HT_ HW_ => ?_)
       generalize w57.drew = w61 at HO_9 HO948 HO951 HL953_0 BK933 BK934 BK939 HR953_0 HB HL954_0 HR954_0 hx954_0 hHeld ⊢
       refine pv_ 0 65 1 HT_ ?_
       refine pv_ 3 68 9 HT_ ?_
       refine pv_ 4 69 25 HT_ ?_
       refine pv_ 5 70 57 HT_ ?_
       refine tw_ 1 66 59 HT_ HW_ hHeld ?_
       refine pv_ 2 67 63 HT_ ?_
       refine tw_ 6 71 127 HT_ HW_ hHeld ?_
       refine pv_ 7 72 255 HT_ ?_
       refine pv_ 8 73 511 HT_ ?_
       refine pv_ 9 14 1023 HT_ ?_
       refine done_ (done_of HT_.out kr_) ?_
       try go_wp2_with (first | ((with_reducible refine ayz (N := 74) rfl ?_); (try (refine bCz (by rfl) ?_; dsimp only)); refine Kd.N_lit (Kd.slice 5 (Kd.int .u8)) _ 34 ?hg (N' := 74) ?hd (xs := ([] : List (List Int))) (inner := []) (ok := (fun k_ => some k_ ≠ (.slice (some ad953) t940.length co56 : Value).ownBlock ∧ some k_ ≠ (v950 : Value).ownBlock ∧ k_ ≠ gb933 ∧ k_ ≠ gb934 ∧ k_ ≠ gb939)) (okp := (fun k_ => some k_ ≠ (.slice (some ad953) t940.length co56 : Value).ownBlock ∧ some k_ ≠ (v950 : Value).ownBlock ∧ k_ ≠ gb933 ∧ k_ ≠ gb934 ∧ k_ ≠ gb939)) ?hr ?hp (fun _ hk => hk) ((show ∀ k_, w61.heap.size ≤ k_ → (fun k_ => some k_ ≠ (.slice (some ad953) t940.length co56 : Value).ownBlock ∧ some k_ ≠ (v950 : Value).ownBlock ∧ k_ ≠ gb933 ∧ k_ ≠ gb934 ∧ k_ ≠ gb939) k_ from fun k_ hk => ⟨Kd.fresh' (Kd.N_lt (xd_ HO_9.out)) k_ hk, Kd.fresh' (Kd.R_lt (xd_ HO951.out)) k_ hk, Kd.freshB (g := gb933) (o := .cells #[.int .u8 a0_0, .int .u8 a0_1, .int .u8 a0_2] 38 (0, 0)) bk_ k_ hk, Kd.freshB (g := gb934) (o := .cells #[.int .u8 a2_0, .int .u8 a2_1, .int .u8 a2_2] 38 (0, 0)) bk_ k_ hk, Kd.freshB (g := gb939) (o := .cells #[.int .i64 t936, .int .i64 t937, .int .i64 t938] 23 (0, 0)) bk_ k_ hk⟩) _ (Nat.le_refl _)) (Below.refl _ _) (Nat.le_refl _) (by simp) ?_; (case hd => rfl); (case hg => rfl); (case hr => first | (go_simp; done) | (go_simp; rfl)); (case hp => exact (Reps.none _ _)); intro v956 w62 ho63 hb hg_ hnew_; clear hg_ hnew_; (first | rw [← Ny955.out] at ho63 | (simp only [Int.reduceToNat] at ho63; rw [← Ny955.out] at ho63)); have n_ := And.intro (Aside0.mk (Kd.c3z (xd_ HO_9.out) (Kd.N_base ho63) hb)) (And.intro (Aside0.mk (Kd.caz (xd_ HO948.out) (Kd.N_base ho63) hb)) (And.intro (Aside0.mk (Kd.b3z (xd_ HO951.out) hb)) (And.intro (Aside0.mk (Kd.caz (by (with_reducible repeat (first | apply Kd.aVz | apply Kd.aWz | apply Kd.aPz)); exact HL953_0.out) (Kd.N_base ho63) hb)) (And.intro (Aside0.mk (Kd.caz (by (with_reducible repeat (first | apply Kd.aVz | apply Kd.aWz | apply Kd.aPz)); exact HL954_0.out) (Kd.N_base ho63) hb)) (And.intro (Aside0.mk (Kd.N_lower ho63 (aQz bl_))) (And.intro (bb_ BK933 hb) (And.intro (bb_ BK934 hb) (And.intro (bb_ BK939 hb) (And.intro (Aside0.mk (Kd.auz (by repeat (first | (with_reducible exact HR953_0.out) | (with_reducible refine Kd.b5z ?_ _) | (with_reducible refine Kd.aYz ?_ _) | (with_reducible refine Kd.bWz ?_) | exact HR953_0.out)) hb)) (And.intro (Aside0.mk (Kd.auz (by repeat (first | (with_reducible exact HR954_0.out) | (with_reducible refine Kd.b5z ?_ _) | (with_reducible refine Kd.aYz ?_ _) | (with_reducible refine Kd.bWz ?_) | exact HR954_0.out)) hb)) (hs_ HB hb))))))))))); clear HO_9 HO948 HO951 HL953_0 HL954_0 BK933 BK934 BK939 HR953_0 HR954_0 HB; obtain ⟨HO_9, HO948, HO951, HL953_0, HL954_0, HO957, BK933, BK934, BK939, HR953_0, HR954_0, HB⟩ := n_; clear hb ho63) | ((with_reducible refine axz (b := .append) (xs := #[.tmp 74, .tmp 75]) rfl ?_); (try (refine bCz (by rfl) ?_; dsimp only)); at_builtin; refine Kd.dLz (Kd.slice 5 (Kd.int .u8)) (w0 := w) w.heap.size rfl (.tmp 74) (.tmp 75) 24 34 (.slice none 0 0) 24 rfl Tryz.underlying24 info34 rfl (by decide) (by omega) v956 y955 t940 _ _ _ (fun k_ => some k_ ≠ (v950 : Value).ownBlock ∧ k_ ≠ gb933 ∧ k_ ≠ gb934 ∧ k_ ≠ gb939) (fun k_ => ((fun k_ => some k_ ≠ (v950 : Value).ownBlock ∧ k_ ≠ gb933 ∧ k_ ≠ gb934 ∧ k_ ≠ gb939)) k_ ∧ some k_ ≠ (v956 : Value).ownBlock) rfl rfl ?aO ?aR (fun _ hk => hk) ?aF ?aB ?aS ?aL ?_; (case aR => exact (by skip; exact Kd.N_F (Kd.bSz (ok' := (fun k_ => ((fun k_ => some k_ ≠ (v950 : Value).ownBlock ∧ k_ ≠ gb933 ∧ k_ ≠ gb934 ∧ k_ ≠ gb939)) k_ ∧ some k_ ≠ (v956 : Value).ownBlock)) (HO_9.out) (fun k_ hk => ⟨⟨hk.1.2, ⟨hk.1.1.1, ⟨hk.1.1.2.1, hk.1.1.2.2⟩⟩⟩, hk.2⟩)))); (case aB => exact bl_); (case aF => exact (fun k_ hk => ⟨Kd.fresh' (Kd.R_lt (xd_ HO951.out)) k_ hk, Kd.freshB (g := gb933) (o := .cells #[.int .u8 a0_0, .int .u8 a0_1, .int .u8 a0_2] 38 (0, 0)) bk_ k_ hk, Kd.freshB (g := gb934) (o := .cells #[.int .u8 a2_0, .int .u8 a2_1, .int .u8 a2_2] 38 (0, 0)) bk_ k_ hk, Kd.freshB (g := gb939) (o := .cells #[.int .i64 t936, .int .i64 t937, .int .i64 t938] 23 (0, 0)) bk_ k_ hk⟩)); (case aO => exact (nm_ HO957)); (case aS => exact (aQz bl_)); (case aL => have := LMc37.out; omega); intro v959 w64 ho hb hg hat; rw [← Ny958.out] at ho; have n_ := And.intro (Aside0.mk (Kd.c4z (ok := (fun k_ => some k_ ≠ (v950 : Value).ownBlock ∧ k_ ≠ gb933 ∧ k_ ≠ gb934 ∧ k_ ≠ gb939)) (nm_ HO_9) hg hat)) (And.intro (Aside0.mk (bDz (g := gb933) (o := .cells #[.int .u8 a0_0, .int .u8 a0_1, .int .u8 a0_2] 38 (0, 0)) bk_ hg (Kd.N_ne HO957.out BK933.out (by decide)))) (And.intro (Aside0.mk (bDz (g := gb934) (o := .cells #[.int .u8 a2_0, .int .u8 a2_1, .int .u8 a2_2] 38 (0, 0)) bk_ hg (Kd.N_ne HO957.out BK934.out (by decide)))) (And.intro (Aside0.mk (bDz (g := gb939) (o := .cells #[.int .i64 t936, .int .i64 t937, .int .i64 t938] 23 (0, 0)) bk_ hg (Kd.N_ne HO957.out BK939.out (by decide)))) (And.intro (Aside0.mk (Kd.bIz (ok := (fun k_ => some k_ ≠ (v950 : Value).ownBlock ∧ k_ ≠ gb933 ∧ k_ ≠ gb934 ∧ k_ ≠ gb939)) (vm_ HO948) hg hat)) (And.intro (Aside0.mk (Kd.R_over' (xd_ HO951.out) (Kd.N_typed (xd_ HO957.out)) (by decide) hg)) (And.intro (Aside0.mk (Kd.bIz (ok := (fun k_ => some k_ ≠ (.slice (some ad953) t940.length co56 : Value).ownBlock ∧ some k_ ≠ (v950 : Value).ownBlock ∧ k_ ≠ gb933 ∧ k_ ≠ gb934 ∧ k_ ≠ gb939)) (by (with_reducible repeat (first | apply Kd.aVz | apply Kd.aWz | apply Kd.aPz)); exact Kd.bwz HL953_0.out (fun _ hk => ⟨⟨hk.1.2, ⟨hk.1.1.2, ⟨hk.1.1.1.1, ⟨hk.1.1.1.2.1, hk.1.1.1.2.2⟩⟩⟩⟩, hk.2⟩)) hg hat)) (And.intro (Aside0.mk (Kd.bIz (ok := (fun k_ => some k_ ≠ (.slice (some ad953) t940.length co56 : Value).ownBlock ∧ some k_ ≠ (v950 : Value).ownBlock ∧ k_ ≠ gb933 ∧ k_ ≠ gb934 ∧ k_ ≠ gb939)) (by (with_reducible repeat (first | apply Kd.aVz | apply Kd.aWz | apply Kd.aPz)); exact Kd.bwz HL954_0.out (fun _ hk => ⟨⟨hk.1.2, ⟨hk.1.1.2, ⟨hk.1.1.1.1, ⟨hk.1.1.1.2.1, hk.1.1.1.2.2⟩⟩⟩⟩, hk.2⟩)) hg hat)) (And.intro (Aside0.mk (hb)) (Aside0.mk (ho)))))))))); clear HO_9 BK933 BK934 BK939 HO948 HO951 HL953_0 HL954_0 HB HO957; obtain ⟨HO_9, BK933, BK934, BK939, HO948, HO951, HL953_0, HL954_0, HB, HO960⟩ := n_; clear ho hb hg hat) | ((with_reducible refine ayz (N := 77) rfl ?_); (try (refine bCz (by rfl) ?_; dsimp only)); refine Kd.R_lit (Kd.int .u8) _ 5 ?hg (N := 77) ?hd (xs := ([] : List Int)) (inner := []) (ok := fun _ => True) (okp := fun _ => True) ?hr ?hp (fun _ hk => hk) trivial (Below.refl _ _) (Nat.le_refl _) (by simp) ?_; (case hd => rfl); (case hg => rfl); (case hr => first | (go_simp; done) | (go_simp; rfl)); (case hp => exact (Reps.none _ _)); intro v962 w65 ho66 hb hg_ hnew_; clear hg_ hnew_; (first | rw [← Ny961.out] at ho66 | (simp only [Int.reduceToNat] at ho66; rw [← Ny961.out] at ho66)); have n_ := And.intro (Aside0.mk (Kd.c3z (xd_ HO_9.out) (Kd.bvz ho66) hb)) (And.intro (Aside0.mk (Kd.caz (xd_ HO948.out) (Kd.bvz ho66) hb)) (And.intro (Aside0.mk (Kd.R_elder' (xd_ HO951.out) (Kd.bvz ho66) hb)) (And.intro (Aside0.mk (Kd.caz (by (with_reducible repeat (first | apply Kd.aVz | apply Kd.aWz | apply Kd.aPz)); exact HL953_0.out) (Kd.bvz ho66) hb)) (And.intro (Aside0.mk (Kd.caz (by (with_reducible repeat (first | apply Kd.aVz | apply Kd.aWz | apply Kd.aPz)); exact HL954_0.out) (Kd.bvz ho66) hb)) (And.intro (Aside0.mk (Kd.c3z (xd_ HO960.out) (Kd.bvz ho66) hb)) (And.intro (Aside0.mk (Kd.bkz (Kd.R_new' ho66 (Kd.R_lt (xd_ HO951.out))) (aQz bl_))) (And.intro (bb_ BK933 hb) (And.intro (bb_ BK934 hb) (And.intro (bb_ BK939 hb) (hs_ HB hb)))))))))); clear HO_9 HO948 HO951 HL953_0 HL954_0 HO960 BK933 BK934 BK939 HB; obtain ⟨HO_9, HO948, HO951, HL953_0, HL954_0, HO960, HO963, BK933, BK934, BK939, HB⟩ := n_; clear hb ho66; have p964 : 0 ≤ ((ji33) : Int) := of_decide_eq_true as_; have q964 : (ji33) < (t940.length : Int) := of_decide_eq_true as_; obtain ⟨ad964, A964_0, c964_0, e964, hx964_0, hl964_0, hi964_0⟩ := at_L1 (Kd.a2z HO_9.out).2.2 (ji33) p964 q964; obtain rfl : ad953 = ad964 := (by injection e964); obtain ⟨ce964, hce964, hMe964, hcc964⟩ := Kd.N_get HO_9.out [] (ji33) p964 (by first | exact q964 | exact of_decide_eq_true as_ | (have e_ := (Kd.a2z HO_9.out).1; omega)); obtain ⟨ua964_0, uc964_0, rfl, ul964_0, ge964_0⟩ := Kd.bKz hMe964; have hv964_0 := hcc964 0 _ rfl; rw [Nat.add_zero, show ((Kd.slice 5 (Kd.int .u8))).sz = 1 from rfl, Nat.mul_one] at hv964_0; replace hv964_0 := Option.some.inj (hv964_0.symm.trans hx964_0); injection hv964_0 with hva_ hvn_ hvc_; rw [hva_] at ge964_0; rw [hvc_] at ul964_0; have HL964_0 := Aside0.mk (show Kd.V (Kd.int .u8) 5 _ w.heap.size _ _ (rd_L1 t940 (ji33)) from Kd.V_mk ul964_0 ge964_0); clear hva_ hvn_ hvc_ ge964_0 ul964_0; clear hcc964 hce964; have HR964_0 := Aside0.mk hi964_0; have HC964_0 := Aside0.mk hl964_0; clear hi964_0 hl964_0; replace p964 := eq_true p964; replace q964 := eq_true q964) | ((with_reducible refine axz (b := .append) (xs := #[.tmp 77, .tmp 81]) rfl ?_); (try (refine bCz (by rfl) ?_; dsimp only)); at_builtin; refine Kd.dKz (Kd.int .u8) (w0 := w) w.heap.size rfl (.tmp 77) (.tmp 81) 34 5 (.int .u8 0) 1 rfl Tryz.underlying34 info5 rfl (by decide) (by omega) v962 y961 (rd_L1 t940 (ji33)) _ _ _ (fun k_ => some k_ ≠ (v950 : Value).ownBlock) (fun _ => False) rfl rfl ?aO ?aR (fun _ _ h => h) (fun _ h => h.elim) ?aF ?aB ?aS ?aL ?_; (case aR => repeat (first | exact (by repeat (first | (with_reducible exact HR964_0.out) | (with_reducible refine Kd.b5z ?_ _) | (with_reducible refine Kd.aYz ?_ _) | (with_reducible refine Kd.bWz ?_) | exact HR964_0.out)) | (with_reducible refine Kd.b5z ?_ _) | (with_reducible refine Kd.aYz ?_ _) | (with_reducible refine Kd.bWz ?_))); (case aB => exact bl_); (case aF => exact (fun k_ hk => Kd.fresh' (Kd.R_lt (xd_ HO951.out)) k_ hk)); (case aO => exact (rm_ HO963)); (case aS => exact (aQz bl_)); (case aL => have := LMc38.out; omega); intro v966 w67 ho hb hg hat; rw [← Ny965.out] at ho; have n_ := And.intro (Aside0.mk (Kd.c4z (ok := (fun k_ => some k_ ≠ (v950 : Value).ownBlock ∧ some k_ ≠ (v959 : Value).ownBlock ∧ k_ ≠ gb933 ∧ k_ ≠ gb934 ∧ k_ ≠ gb939)) (nm_ HO_9) hg hat)) (And.intro (Aside0.mk (bDz (g := gb933) (o := .cells #[.int .u8 a0_0, .int .u8 a0_1, .int .u8 a0_2] 38 (0, 0)) bk_ hg (Kd.R_ne HO963.out BK933.out (by decide)))) (And.intro (Aside0.mk (bDz (g := gb934) (o := .cells #[.int .u8 a2_0, .int .u8 a2_1, .int .u8 a2_2] 38 (0, 0)) bk_ hg (Kd.R_ne HO963.out BK934.out (by decide)))) (And.intro (Aside0.mk (bDz (g := gb939) (o := .cells #[.int .i64 t936, .int .i64 t937, .int .i64 t938] 23 (0, 0)) bk_ hg (Kd.R_ne HO963.out BK939.out (by decide)))) (And.intro (Aside0.mk (Kd.bIz (ok := (fun k_ => some k_ ≠ (v950 : Value).ownBlock ∧ some k_ ≠ (v959 : Value).ownBlock ∧ k_ ≠ gb933 ∧ k_ ≠ gb934 ∧ k_ ≠ gb939)) (vm_ HO948) hg hat)) (And.intro (Aside0.mk (Kd.R_after (ok := (fun _ => True)) (xd_ HO951.out) hg hat)) (And.intro (Aside0.mk (Kd.bIz (ok := (fun k_ => some k_ ≠ (.slice (some ad953) t940.length co56 : Value).ownBlock ∧ some k_ ≠ (v950 : Value).ownBlock ∧ some k_ ≠ (v959 : Value).ownBlock ∧ k_ ≠ gb933 ∧ k_ ≠ gb934 ∧ k_ ≠ gb939)) (by (with_reducible repeat (first | apply Kd.aVz | apply Kd.aWz | apply Kd.aPz)); exact Kd.bwz HL953_0.out (fun _ hk => ⟨⟨hk.1.1.1, ⟨hk.1.1.2.1, ⟨hk.1.2, ⟨hk.1.1.2.2.1, ⟨hk.1.1.2.2.2.1, hk.1.1.2.2.2.2⟩⟩⟩⟩⟩, hk.2⟩)) hg hat)) (And.intro (Aside0.mk (Kd.bIz (ok := (fun k_ => some k_ ≠ (.slice (some ad953) t940.length co56 : Value).ownBlock ∧ some k_ ≠ (v950 : Value).ownBlock ∧ some k_ ≠ (v959 : Value).ownBlock ∧ k_ ≠ gb933 ∧ k_ ≠ gb934 ∧ k_ ≠ gb939)) (by (with_reducible repeat (first | apply Kd.aVz | apply Kd.aWz | apply Kd.aPz)); exact Kd.bwz HL954_0.out (fun _ hk => ⟨⟨hk.1.1.1, ⟨hk.1.1.2.1, ⟨hk.1.2, ⟨hk.1.1.2.2.1, ⟨hk.1.1.2.2.2.1, hk.1.1.2.2.2.2⟩⟩⟩⟩⟩, hk.2⟩)) hg hat)) (And.intro (Aside0.mk (Kd.c4z (ok := (fun k_ => some k_ ≠ (v950 : Value).ownBlock ∧ k_ ≠ gb933 ∧ k_ ≠ gb934 ∧ k_ ≠ gb939)) (xd_ HO960.out) hg hat)) (And.intro (Aside0.mk (Kd.bIz (ok := (fun k_ => some k_ ≠ (.slice (some ad953) t940.length co56 : Value).ownBlock ∧ some k_ ≠ (v950 : Value).ownBlock ∧ some k_ ≠ (v959 : Value).ownBlock ∧ k_ ≠ gb933 ∧ k_ ≠ gb934 ∧ k_ ≠ gb939)) (by (with_reducible repeat (first | apply Kd.aVz | apply Kd.aWz | apply Kd.aPz)); exact Kd.bwz HL964_0.out (fun _ hk => ⟨⟨hk.2, ⟨hk.1.1.1.1, ⟨hk.1.1.2, ⟨hk.1.1.1.2.1, ⟨hk.1.1.1.2.2.1, hk.1.1.1.2.2.2⟩⟩⟩⟩⟩, hk.1.2⟩)) hg hat)) (And.intro (Aside0.mk (hb)) (Aside0.mk (ho)))))))))))); clear HO_9 BK933 BK934 BK939 HO948 HO951 HL953_0 HL954_0 HO960 HL964_0 HB HO963; obtain ⟨HO_9, BK933, BK934, BK939, HO948, HO951, HL953_0, HL954_0, HO960, HL964_0, HB, HO967⟩ := n_; clear ho hb hg hat))
       have n_ := And.intro (Aside0.mk (Kd.b8z HO_9.out)) (And.intro (Aside0.mk (Kd.aPz HO948.out)) (And.intro (Aside0.mk (Kd.b1z HO951.out)) (And.intro (Aside0.mk (Kd.aPz HL953_0.out)) (And.intro (Aside0.mk (Kd.aPz HL954_0.out)) (And.intro (Aside0.mk (Kd.b8z HO960.out)) (And.intro (Aside0.mk (Kd.aPz HL964_0.out)) (And.intro (Aside0.mk (Kd.b1z HO967.out)) (And.intro (Aside0.mk (afz BK933.out)) (And.intro (Aside0.mk (afz BK934.out)) (And.intro (Aside0.mk (afz BK939.out)) (Aside0.mk (bOz HB.out))))))))))))
       clear HO_9 HO948 HO951 HL953_0 HL954_0 HO960 HL964_0 HO967 BK933 BK934 BK939 HB
       obtain ⟨HO_9, HO948, HO951, HL953_0, HL954_0, HO960, HL964_0, HO967, BK933, BK934, BK939, HB⟩ := n_
       obtain ⟨Ao69, co69, eo69⟩ := Kd.baz HO967.out
       (first | subst eo69 | (injection eo69 with f1_ f2_ f3_; have f4_ := f1_.symm; have f5_ := f3_.symm; clear f1_ f2_ f3_; subst f4_; subst f5_))
       have p968 : 0 ≤ ((ji39) : Int) := of_decide_eq_true as_
       have q968 : (ji39) < (y965.length : Int) := of_decide_eq_true as_
       obtain ⟨ad968, e968, hx968_0⟩ := Kd.b2z (Kd.aRz HO967.out).2.2 (ji39) p968 q968
       cases e968
       replace p968 := eq_true p968
       replace q968 := eq_true q968
       have p42 : 0 ≤ ((ji39) : Int) := of_decide_eq_true as_
       have q42 : ((ji39) : Int) < ((y965.length : Int) : Int) := of_decide_eq_true as_
       obtain ⟨go42, co42, eo42, gb42, gl42, cl42, HG42⟩ := Kd.b7z HO967.out (by omega)
       (first | cases eo42 | (injection eo42 with ea_ en_ ec_; (first | subst ea_ | (injection ea_ with ea_; subst ea_)); subst ec_; clear en_))
       have GB42 := Aside0.mk gb42
       have GG42 := Aside0.mk HG42
       clear gb42 gl42 HG42
       (first | simp only [add_plain] at hx968_0 | skip)
       obtain ⟨hx42_0, hf42_0⟩ := Kd.R_celln 0 HO967.out ((ji39) : Int) p42 q42
       replace p42 := eq_true p42
       replace q42 := eq_true q42
       have HP70 := Kd.R_putn HO967.out ((ji39) : Int) (Go.bits .xor .u8 (rd y965 (ji39)) ((1 + (Int.tmod a2_2 255)) % 256))
       rw [← Ny969.out] at HP70
       have HQ70 := Aside0.mk HP70
       clear HP70
       refine a5z (n := 13) (S := fun w' => w'.cell? ⟨gb934, 0, none⟩ = some (.int .u8 a2_0) ∧ w'.cell? ⟨gb934, 1, none⟩ = some (.int .u8 a2_1) ∧ w'.cell? ⟨gb934, 2, none⟩ = some (.int .u8 a2_2) ∧ w'.cell? ⟨go42, ((ji39)).toNat, none⟩ = some (.int .u8 (rd y965 (ji39)))) (ds := [12]) (bA 13 0) kr_ rfl rfl ⟨(aaz BK934.out 0).trans rfl, (aaz BK934.out 1).trans rfl, (aaz BK934.out 2).trans rfl, hx968_0⟩ (fun hHeld => ?_); refine dhz abz.tab15 abz.bits15 (fun HT_ HW_ => ?_)
       generalize w67.drew = w68 at HO_9 HO948 HO951 HL953_0 HL954_0 HO960 HL964_0 HO967 BK933 BK934 BK939 HB GG42 HQ70 hf42_0 hx42_0 hx968_0 hHeld ⊢
       refine pv_ 0 83 1 HT_ ?_
       refine pv_ 1 84 3 HT_ ?_
       refine pv_ 2 85 7 HT_ ?_
       refine pv_ 3 86 15 HT_ ?_
       refine pv_ 4 87 31 HT_ ?_
       refine pv_ 6 89 95 HT_ ?_
       refine tw_ 5 88 127 HT_ HW_ hHeld ?_
       refine tw_ 7 90 255 HT_ HW_ hHeld ?_
       refine pv_ 8 91 511 HT_ ?_
       refine pv_ 9 92 1023 HT_ ?_
       refine pv_ 10 93 2047 HT_ ?_
       refine pv_ 11 94 4095 HT_ ?_
       refine last_ (i := 12) (N := none) (bA 13 8191) rfl rfl (one_of HT_.out kr_) (by decide) (fun K hK => ?_)
       refine skip_ (w1 := ?_) (by rfl) rfl ?_ ?_
       rotate_left
       ·go_simp
        rfl
       refine hK.out _ _ ?_
       clear hK K
       refine done_ (done_of HT_.out kr_) ?_
       have n0_ : Aside0 (Kd.N (Kd.slice 5 (Kd.int .u8)) 34 (w68.setCell ⟨go42, ((ji39) : Int).toNat, none⟩ (.int .u8 (Go.bits .xor .u8 (rd y965 (ji39)) ((1 + (Int.tmod a2_2 255)) % 256)))) w.heap.size (fun k_ => some k_ ≠ (v950 : Value).ownBlock ∧ some k_ ≠ (v959 : Value).ownBlock ∧ some k_ ≠ (.slice (some ⟨go42, 0, none⟩) y965.length co69 : Value).ownBlock ∧ k_ ≠ gb933 ∧ k_ ≠ gb934 ∧ k_ ≠ gb939) (.slice (some ad953) t940.length co56) t940) := ⟨by (with_reducible repeat (first | apply Kd.N_alloc | apply Kd.N_drewN | apply Kd.b8z)); exact Kd.bSz (Kd.N_far (p := ⟨go42, ((ji39) : Int).toNat, none⟩) (Kd.bSz HO_9.out (fun k_ hk => (⟨hk, fun e_ => hk.2 (by rw [e_]; rfl)⟩ : _ ∧ k_ ≠ go42))) (fun _ hk => hk.2) (.int .u8 (Go.bits .xor .u8 (rd y965 (ji39)) ((1 + (Int.tmod a2_2 255)) % 256)))) (fun _ hk => ⟨hk.1.1.1, ⟨hk.1.1.2.1, ⟨hk.1.2, ⟨hk.1.1.2.2.1, ⟨hk.1.1.2.2.2.1, hk.1.1.2.2.2.2⟩⟩⟩⟩⟩)⟩
       have n1_ : Aside0 (Kd.V (Kd.slice 5 (Kd.int .u8)) 34 (w68.setCell ⟨go42, ((ji39) : Int).toNat, none⟩ (.int .u8 (Go.bits .xor .u8 (rd y965 (ji39)) ((1 + (Int.tmod a2_2 255)) % 256)))) w.heap.size (fun k_ => some k_ ≠ (v950 : Value).ownBlock ∧ some k_ ≠ (v959 : Value).ownBlock ∧ some k_ ≠ (.slice (some ⟨go42, 0, none⟩) y965.length co69 : Value).ownBlock ∧ k_ ≠ gb933 ∧ k_ ≠ gb934 ∧ k_ ≠ gb939) (.slice (some ad953) y944.length co56) y944) := ⟨by (with_reducible repeat (first | apply Kd.aVz | apply Kd.aWz | apply Kd.aPz)); exact Kd.bwz (Kd.V_far (p := ⟨go42, ((ji39) : Int).toNat, none⟩) (Kd.bwz HO948.out (fun k_ hk => (⟨hk, fun e_ => hk.2 (by rw [e_]; rfl)⟩ : _ ∧ k_ ≠ go42))) (fun _ hk => hk.2) (.int .u8 (Go.bits .xor .u8 (rd y965 (ji39)) ((1 + (Int.tmod a2_2 255)) % 256)))) (fun _ hk => ⟨hk.1.1.1, ⟨hk.1.1.2.1, ⟨hk.1.2, ⟨hk.1.1.2.2.1, ⟨hk.1.1.2.2.2.1, hk.1.1.2.2.2.2⟩⟩⟩⟩⟩)⟩
       have n2_ : Aside0 (Kd.R (Kd.int .u8) 5 (w68.setCell ⟨go42, ((ji39) : Int).toNat, none⟩ (.int .u8 (Go.bits .xor .u8 (rd y965 (ji39)) ((1 + (Int.tmod a2_2 255)) % 256)))) w.heap.size (fun k_ => some k_ ≠ (.slice (some ⟨go42, 0, none⟩) y965.length co69 : Value).ownBlock) v950 t949) := ⟨by (with_reducible repeat (first | apply Kd.crz | apply Kd.bQz | apply Kd.b1z)); exact Kd.aSz (Kd.R_far (p := ⟨go42, ((ji39) : Int).toNat, none⟩) (Kd.aSz HO951.out (fun k_ hk => (⟨hk, fun e_ => hk.2 (by rw [e_]; rfl)⟩ : _ ∧ k_ ≠ go42))) (fun _ hk => hk.2) (.int .u8 (Go.bits .xor .u8 (rd y965 (ji39)) ((1 + (Int.tmod a2_2 255)) % 256)))) (fun _ hk => hk.1.2)⟩
       have n3_ : Aside0 (Kd.V (Kd.int .u8) 5 (w68.setCell ⟨go42, ((ji39) : Int).toNat, none⟩ (.int .u8 (Go.bits .xor .u8 (rd y965 (ji39)) ((1 + (Int.tmod a2_2 255)) % 256)))) w.heap.size (fun k_ => some k_ ≠ (.slice (some ad953) t940.length co56 : Value).ownBlock ∧ some k_ ≠ (v950 : Value).ownBlock ∧ some k_ ≠ (v959 : Value).ownBlock ∧ some k_ ≠ (.slice (some ⟨go42, 0, none⟩) y965.length co69 : Value).ownBlock ∧ k_ ≠ gb933 ∧ k_ ≠ gb934 ∧ k_ ≠ gb939) (.slice A953_0 (rd_L1 t940 (ji33)).length c953_0) (rd_L1 t940 (ji33))) := ⟨by (with_reducible repeat (first | apply Kd.aVz | apply Kd.aWz | apply Kd.aPz)); exact Kd.bwz (Kd.V_far (p := ⟨go42, ((ji39) : Int).toNat, none⟩) (Kd.bwz HL953_0.out (fun k_ hk => (⟨hk, fun e_ => hk.2 (by rw [e_]; rfl)⟩ : _ ∧ k_ ≠ go42))) (fun _ hk => hk.2) (.int .u8 (Go.bits .xor .u8 (rd y965 (ji39)) ((1 + (Int.tmod a2_2 255)) % 256)))) (fun _ hk => ⟨hk.1.1.1, ⟨hk.1.1.2.1, ⟨hk.1.1.2.2.1, ⟨hk.1.2, ⟨hk.1.1.2.2.2.1, ⟨hk.1.1.2.2.2.2.1, hk.1.1.2.2.2.2.2⟩⟩⟩⟩⟩⟩)⟩
       have n4_ : Aside0 (Kd.V (Kd.int .u8) 5 (w68.setCell ⟨go42, ((ji39) : Int).toNat, none⟩ (.int .u8 (Go.bits .xor .u8 (rd y965 (ji39)) ((1 + (Int.tmod a2_2 255)) % 256)))) w.heap.size (fun k_ => some k_ ≠ (.slice (some ad953) t940.length co56 : Value).ownBlock ∧ some k_ ≠ (v950 : Value).ownBlock ∧ some k_ ≠ (v959 : Value).ownBlock ∧ some k_ ≠ (.slice (some ⟨go42, 0, none⟩) y965.length co69 : Value).ownBlock ∧ k_ ≠ gb933 ∧ k_ ≠ gb934 ∧ k_ ≠ gb939) (.slice A954_0 (rd_L1 t940 (ji33)).length c954_0) (rd_L1 t940 (ji33))) := ⟨by (with_reducible repeat (first | apply Kd.aVz | apply Kd.aWz | apply Kd.aPz)); exact Kd.bwz (Kd.V_far (p := ⟨go42, ((ji39) : Int).toNat, none⟩) (Kd.bwz HL954_0.out (fun k_ hk => (⟨hk, fun e_ => hk.2 (by rw [e_]; rfl)⟩ : _ ∧ k_ ≠ go42))) (fun _ hk => hk.2) (.int .u8 (Go.bits .xor .u8 (rd y965 (ji39)) ((1 + (Int.tmod a2_2 255)) % 256)))) (fun _ hk => ⟨hk.1.1.1, ⟨hk.1.1.2.1, ⟨hk.1.1.2.2.1, ⟨hk.1.2, ⟨hk.1.1.2.2.2.1, ⟨hk.1.1.2.2.2.2.1, hk.1.1.2.2.2.2.2⟩⟩⟩⟩⟩⟩)⟩
       have n5_ : Aside0 (Kd.N (Kd.slice 5 (Kd.int .u8)) 34 (w68.setCell ⟨go42, ((ji39) : Int).toNat, none⟩ (.int .u8 (Go.bits .xor .u8 (rd y965 (ji39)) ((1 + (Int.tmod a2_2 255)) % 256)))) w.heap.size (fun k_ => some k_ ≠ (v950 : Value).ownBlock ∧ some k_ ≠ (.slice (some ⟨go42, 0, none⟩) y965.length co69 : Value).ownBlock ∧ k_ ≠ gb933 ∧ k_ ≠ gb934 ∧ k_ ≠ gb939) v959 y958) := ⟨by (with_reducible repeat (first | apply Kd.N_alloc | apply Kd.N_drewN | apply Kd.b8z)); exact Kd.bSz (Kd.N_far (p := ⟨go42, ((ji39) : Int).toNat, none⟩) (Kd.bSz HO960.out (fun k_ hk => (⟨hk, fun e_ => hk.2 (by rw [e_]; rfl)⟩ : _ ∧ k_ ≠ go42))) (fun _ hk => hk.2) (.int .u8 (Go.bits .xor .u8 (rd y965 (ji39)) ((1 + (Int.tmod a2_2 255)) % 256)))) (fun _ hk => ⟨hk.1.1.1, ⟨hk.1.2, ⟨hk.1.1.2.1, ⟨hk.1.1.2.2.1, hk.1.1.2.2.2⟩⟩⟩⟩)⟩
       have n6_ : Aside0 (Kd.V (Kd.int .u8) 5 (w68.setCell ⟨go42, ((ji39) : Int).toNat, none⟩ (.int .u8 (Go.bits .xor .u8 (rd y965 (ji39)) ((1 + (Int.tmod a2_2 255)) % 256)))) w.heap.size (fun k_ => some k_ ≠ (.slice (some ad953) t940.length co56 : Value).ownBlock ∧ some k_ ≠ (v950 : Value).ownBlock ∧ some k_ ≠ (v959 : Value).ownBlock ∧ some k_ ≠ (.slice (some ⟨go42, 0, none⟩) y965.length co69 : Value).ownBlock ∧ k_ ≠ gb933 ∧ k_ ≠ gb934 ∧ k_ ≠ gb939) (.slice A964_0 (rd_L1 t940 (ji33)).length c964_0) (rd_L1 t940 (ji33))) := ⟨by (with_reducible repeat (first | apply Kd.aVz | apply Kd.aWz | apply Kd.aPz)); exact Kd.bwz (Kd.V_far (p := ⟨go42, ((ji39) : Int).toNat, none⟩) (Kd.bwz HL964_0.out (fun k_ hk => (⟨hk, fun e_ => hk.2 (by rw [e_]; rfl)⟩ : _ ∧ k_ ≠ go42))) (fun _ hk => hk.2) (.int .u8 (Go.bits .xor .u8 (rd y965 (ji39)) ((1 + (Int.tmod a2_2 255)) % 256)))) (fun _ hk => ⟨hk.1.1.1, ⟨hk.1.1.2.1, ⟨hk.1.1.2.2.1, ⟨hk.1.2, ⟨hk.1.1.2.2.2.1, ⟨hk.1.1.2.2.2.2.1, hk.1.1.2.2.2.2.2⟩⟩⟩⟩⟩⟩)⟩
       have n7_ : Aside0 (Kd.R (Kd.int .u8) 5 (w68.setCell ⟨go42, ((ji39) : Int).toNat, none⟩ (.int .u8 (Go.bits .xor .u8 (rd y965 (ji39)) ((1 + (Int.tmod a2_2 255)) % 256)))) w.heap.size (fun k_ => some k_ ≠ (v950 : Value).ownBlock) (.slice (some ⟨go42, 0, none⟩) y965.length co69) y969) := ⟨by (with_reducible repeat (first | apply Kd.crz | apply Kd.bQz | apply Kd.b1z)); exact HQ70.out⟩
       have n8_ : Aside0 ((w68.setCell ⟨go42, ((ji39) : Int).toNat, none⟩ (.int .u8 (Go.bits .xor .u8 (rd y965 (ji39)) ((1 + (Int.tmod a2_2 255)) % 256)))).heap[gb933]? = some (.cells #[.int .u8 a0_0, .int .u8 a0_1, .int .u8 a0_2] 38 (0, 0))) := ⟨by (with_reducible repeat (first | refine aez ?_ _ | refine afz ?_ | refine adz ?_ _)); refine aqz ?_ (by have h_ := Kd.R_ne HO967.out BK933.out (by decide); intro e_; exact h_ (by rw [e_]; rfl)) _; (with_reducible repeat (first | refine aez ?_ _ | refine afz ?_ | refine adz ?_ _)); exact BK933.out⟩
       have n9_ : Aside0 ((w68.setCell ⟨go42, ((ji39) : Int).toNat, none⟩ (.int .u8 (Go.bits .xor .u8 (rd y965 (ji39)) ((1 + (Int.tmod a2_2 255)) % 256)))).heap[gb934]? = some (.cells #[.int .u8 a2_0, .int .u8 a2_1, .int .u8 a2_2] 38 (0, 0))) := ⟨by (with_reducible repeat (first | refine aez ?_ _ | refine afz ?_ | refine adz ?_ _)); refine aqz ?_ (by have h_ := Kd.R_ne HO967.out BK934.out (by decide); intro e_; exact h_ (by rw [e_]; rfl)) _; (with_reducible repeat (first | refine aez ?_ _ | refine afz ?_ | refine adz ?_ _)); exact BK934.out⟩
       have n10_ : Aside0 ((w68.setCell ⟨go42, ((ji39) : Int).toNat, none⟩ (.int .u8 (Go.bits .xor .u8 (rd y965 (ji39)) ((1 + (Int.tmod a2_2 255)) % 256)))).heap[gb939]? = some (.cells #[.int .i64 t936, .int .i64 t937, .int .i64 t938] 23 (0, 0))) := ⟨by (with_reducible repeat (first | refine aez ?_ _ | refine afz ?_ | refine adz ?_ _)); refine aqz ?_ (by have h_ := Kd.R_ne HO967.out BK939.out (by decide); intro e_; exact h_ (by rw [e_]; rfl)) _; (with_reducible repeat (first | refine aez ?_ _ | refine afz ?_ | refine adz ?_ _)); exact BK939.out⟩
       have n11_ : Aside0 (Below w.heap.size w (w68.setCell ⟨go42, ((ji39) : Int).toNat, none⟩ (.int .u8 (Go.bits .xor .u8 (rd y965 (ji39)) ((1 + (Int.tmod a2_2 255)) % 256))))) := ⟨by repeat (first | (with_reducible first | exact HB.out | apply acz | apply akz | apply bOz | refine bEz ?_ GB42.out | refine bEz ?_ GE933.out | refine bEz ?_ GE934.out | refine bEz ?_ GE939.out) | exact HB.out)⟩
       (try clear HO_9)
       (try clear HO948)
       (try clear HO951)
       (try clear HL953_0)
       (try clear HL954_0)
       (try clear HO960)
       (try clear HL964_0)
       (try clear HO967)
       (try clear BK933)
       (try clear BK934)
       (try clear BK939)
       (try clear HB)
       (try rw [show IntKind.u8.wrap (1 + Int.tmod a2_2 255) = (1 + (Int.tmod a2_2 255)) % 256 from rfl])
       generalize (w68.setCell ⟨go42, ((ji39) : Int).toNat, none⟩ (.int .u8 (Go.bits .xor .u8 (rd y965 (ji39)) ((1 + (Int.tmod a2_2 255)) % 256)))) = w71 at n0_ n1_ n2_ n3_ n4_ n5_ n6_ n7_ n8_ n9_ n10_ n11_ ⊢
       have HO_9 := n0_
       have HO948 := n1_
       have HO951 := n2_
       have HL953_0 := n3_
       have HL954_0 := n4_
       have HO960 := n5_
       have HL964_0 := n6_
       have HO967 := n7_
       have BK933 := n8_
       have BK934 := n9_
       have BK939 := n10_
       have HB := n11_
       clear n0_ n1_ n2_ n3_ n4_ n5_ n6_ n7_ n8_ n9_ n10_ n11_
       have p44 : 0 ≤ ((ji33) : Int) := of_decide_eq_true as_
       have q44 : ((ji33) : Int) < ((y958.length : Int) : Int) := of_decide_eq_true as_
       obtain ⟨go44, co44, eo44, gb44, gl44, cl44, HG44⟩ := Kd.N_form HO960.out (by omega)
       (first | cases eo44 | (injection eo44 with ea_ en_ ec_; (first | subst ea_ | (injection ea_ with ea_; subst ea_)); subst ec_; clear en_))
       have GB44 := Aside0.mk gb44
       have GG44 := Aside0.mk HG44
       clear gb44 gl44 HG44
       obtain ⟨ce44, hcl44, hM44, hcc44, hfr44⟩ := Kd.N_elem HO960.out [] ((ji33) : Int) p44 q44
       obtain ⟨ua44_0, uc44_0, rfl, ul44_0, ge44_0⟩ := Kd.bKz hM44
       have hx44_0 := hcc44 0 _ rfl
       have hf44_0 := hfr44 0
       (try simp only [show ((Kd.slice 5 (Kd.int .u8))).sz = 1 from rfl, Nat.mul_one, Nat.add_zero] at hx44_0)
       (try simp only [show ((Kd.slice 5 (Kd.int .u8))).sz = 1 from rfl, Nat.mul_one, Nat.add_zero] at hf44_0)
       try clear hM44
       clear hcl44 hcc44 hfr44
       replace p44 := eq_true p44
       replace q44 := eq_true q44
       have HX72 := Aside0.mk (show Kd.N (Kd.slice 5 (Kd.int .u8)) 34 w71 w.heap.size (fun k_ => some k_ ≠ (v950 : Value).ownBlock ∧ k_ ≠ gb933 ∧ k_ ≠ gb934 ∧ k_ ≠ gb939) (.slice (some ⟨go44, 0, none⟩) y958.length co44) y958 from (nm_ HO960))
       obtain ⟨ce72, hcl72, hM72, hcc72, hfr72⟩ := Kd.N_elem HX72.out [] ((ji33) : Int) (of_decide_eq_true as_) (by have h_ : ((ji33) : Int) < ((y958.length : Int) : Int) := of_decide_eq_true as_; first | exact h_ | (have e_ := (Kd.a2z HO960.out).1; omega) | simpa using h_)
       obtain ⟨ua72_0, uc72_0, rfl, ul72_0, ge72_0⟩ := Kd.bKz hM72
       have HP72 := Kd.N_seg HX72.out ((ji33) : Int) (of_decide_eq_true as_) (by have h_ : ((ji33) : Int) < ((y958.length : Int) : Int) := of_decide_eq_true as_; first | exact h_ | (have e_ := (Kd.a2z HO960.out).1; omega) | simpa using h_) (seg := [.slice (some ⟨go42, 0, none⟩) y965.length co69]) (j := 0) hcl72 hcc72 (show 1 ≤ 1 from by decide) (x' := y969) (by have hl_ := (Kd.aRz HO967.out).1; have HO967 := HO967; rw [hl_] at HO967 ⊢; exact Kd.FK_slice_mk (Kd.aRz (Kd.aSz (ok' := (fun k_ => ((fun k_ => some k_ ≠ (v950 : Value).ownBlock ∧ k_ ≠ gb933 ∧ k_ ≠ gb934 ∧ k_ ≠ gb939)) k_ ∧ k_ ≠ go44)) (Kd.byz (Kd.byz (Kd.byz (Kd.dzz (HO967.out) (Kd.N_typed HO960.out) (by decide)) BK933.out (by decide)) BK934.out (by decide)) BK939.out (by decide)) (fun k_ hk => ⟨⟨hk.1.1.1.1, ⟨hk.1.1.2, ⟨hk.1.2, hk.2⟩⟩⟩, fun e_ => (hk.1.1.1.2) (by rw [e_]; rfl)⟩))).2.1 (Kd.R_F (Kd.aSz (ok' := (fun k_ => ((fun k_ => some k_ ≠ (v950 : Value).ownBlock ∧ k_ ≠ gb933 ∧ k_ ≠ gb934 ∧ k_ ≠ gb939)) k_ ∧ k_ ≠ go44)) (Kd.byz (Kd.byz (Kd.byz (Kd.dzz (HO967.out) (Kd.N_typed HO960.out) (by decide)) BK933.out (by decide)) BK934.out (by decide)) BK939.out (by decide)) (fun k_ hk => ⟨⟨hk.1.1.1.1, ⟨hk.1.1.2, ⟨hk.1.2, hk.2⟩⟩⟩, fun e_ => (hk.1.1.1.2) (by rw [e_]; rfl)⟩)))) (fun _ hk => hk)
       have hx72_0 := hcc72 0 _ rfl
       (try simp only [show ((Kd.slice 5 (Kd.int .u8))).sz = 1 from rfl, Nat.mul_one, Nat.add_zero] at hx72_0)
       have hf72_0 := hfr72 0
       (try simp only [show ((Kd.slice 5 (Kd.int .u8))).sz = 1 from rfl, Nat.mul_one, Nat.add_zero] at hf72_0)
       try clear hM72
       clear hcl72 hcc72 hfr72
       (try simp only [show ((Kd.slice 5 (Kd.int .u8))).sz = 1 from rfl, Nat.mul_one, Nat.add_zero] at HP72)
       (try simp only [show ((Kd.slice 5 (Kd.int .u8))).sz = 1 from rfl, Nat.mul_one, Nat.add_zero] at HP72)
       try go_wp2_with (first | ((with_reducible refine blz (t := 34) (p := 98) rfl ?_); refine czz (t := 34) (p := 98) (v := ?vo_w73) (w1 := (w71.setCell ⟨go44, ((ji33) : Int).toNat, none⟩ (.slice (some ⟨go42, 0, none⟩) y965.length co69))) ?hg ?ho ?hn ?hr ?_; (case ho => rfl); (case hg => rfl); (case hn => rfl); (case hr => first | (go_simp; done) | (go_simp; rfl)); intro w73 hw; have hg : w71.grownBy w73 (some go44) := (by rw [hw]; exact HP72.2); have hp_ : Kd.N (Kd.slice 5 (Kd.int .u8)) 34 w73 w.heap.size (fun k_ => some k_ ≠ (v950 : Value).ownBlock ∧ k_ ≠ gb933 ∧ k_ ≠ gb934 ∧ k_ ≠ gb939) (.slice (some ⟨go44, 0, none⟩) y958.length co44) y970 := (by rw [hw, Ny970.out]; exact HP72.1); clear HP72; have n_ := And.intro (Aside0.mk (Kd.c4z (v := (.slice (some ⟨go44, 0, none⟩) y958.length co44)) (v1 := (.slice (some ⟨go44, 0, none⟩) y958.length co44)) (ok := (fun k_ => some k_ ≠ (v950 : Value).ownBlock ∧ some k_ ≠ (.slice (some ⟨go42, 0, none⟩) y965.length co69 : Value).ownBlock ∧ k_ ≠ gb933 ∧ k_ ≠ gb934 ∧ k_ ≠ gb939)) (nm_ HO_9) hg (.inl rfl))) (And.intro (Aside0.mk (bDz (g := gb933) (o := .cells #[.int .u8 a0_0, .int .u8 a0_1, .int .u8 a0_2] 38 (0, 0)) bk_ hg (Kd.N_ne HO960.out BK933.out (by decide)))) (And.intro (Aside0.mk (bDz (g := gb934) (o := .cells #[.int .u8 a2_0, .int .u8 a2_1, .int .u8 a2_2] 38 (0, 0)) bk_ hg (Kd.N_ne HO960.out BK934.out (by decide)))) (And.intro (Aside0.mk (bDz (g := gb939) (o := .cells #[.int .i64 t936, .int .i64 t937, .int .i64 t938] 23 (0, 0)) bk_ hg (Kd.N_ne HO960.out BK939.out (by decide)))) (And.intro (Aside0.mk (Kd.bIz (v := (.slice (some ⟨go44, 0, none⟩) y958.length co44)) (v1 := (.slice (some ⟨go44, 0, none⟩) y958.length co44)) (ok := (fun k_ => some k_ ≠ (v950 : Value).ownBlock ∧ some k_ ≠ (.slice (some ⟨go42, 0, none⟩) y965.length co69 : Value).ownBlock ∧ k_ ≠ gb933 ∧ k_ ≠ gb934 ∧ k_ ≠ gb939)) (vm_ HO948) hg (.inl rfl))) (And.intro (Aside0.mk (Kd.R_over' (v := (.slice (some ⟨go44, 0, none⟩) y958.length co44)) (xd_ HO951.out) (Kd.N_typed HO960.out) (by decide) hg)) (And.intro (Aside0.mk (Kd.bIz (v := (.slice (some ⟨go44, 0, none⟩) y958.length co44)) (v1 := (.slice (some ⟨go44, 0, none⟩) y958.length co44)) (ok := (fun k_ => some k_ ≠ (.slice (some ad953) t940.length co56 : Value).ownBlock ∧ some k_ ≠ (v950 : Value).ownBlock ∧ some k_ ≠ (.slice (some ⟨go42, 0, none⟩) y965.length co69 : Value).ownBlock ∧ k_ ≠ gb933 ∧ k_ ≠ gb934 ∧ k_ ≠ gb939)) (by (with_reducible repeat (first | apply Kd.aVz | apply Kd.aWz | apply Kd.aPz)); exact Kd.bwz HL953_0.out (fun _ hk => ⟨⟨hk.1, ⟨hk.2.1, ⟨hk.2.2.2.1, ⟨hk.2.2.2.2.1, ⟨hk.2.2.2.2.2.1, hk.2.2.2.2.2.2⟩⟩⟩⟩⟩, hk.2.2.1⟩)) hg (.inl rfl))) (And.intro (Aside0.mk (Kd.bIz (v := (.slice (some ⟨go44, 0, none⟩) y958.length co44)) (v1 := (.slice (some ⟨go44, 0, none⟩) y958.length co44)) (ok := (fun k_ => some k_ ≠ (.slice (some ad953) t940.length co56 : Value).ownBlock ∧ some k_ ≠ (v950 : Value).ownBlock ∧ some k_ ≠ (.slice (some ⟨go42, 0, none⟩) y965.length co69 : Value).ownBlock ∧ k_ ≠ gb933 ∧ k_ ≠ gb934 ∧ k_ ≠ gb939)) (by (with_reducible repeat (first | apply Kd.aVz | apply Kd.aWz | apply Kd.aPz)); exact Kd.bwz HL954_0.out (fun _ hk => ⟨⟨hk.1, ⟨hk.2.1, ⟨hk.2.2.2.1, ⟨hk.2.2.2.2.1, ⟨hk.2.2.2.2.2.1, hk.2.2.2.2.2.2⟩⟩⟩⟩⟩, hk.2.2.1⟩)) hg (.inl rfl))) (And.intro (Aside0.mk (hp_)) (And.intro (Aside0.mk (Kd.bIz (v := (.slice (some ⟨go44, 0, none⟩) y958.length co44)) (v1 := (.slice (some ⟨go44, 0, none⟩) y958.length co44)) (ok := (fun k_ => some k_ ≠ (.slice (some ad953) t940.length co56 : Value).ownBlock ∧ some k_ ≠ (v950 : Value).ownBlock ∧ some k_ ≠ (.slice (some ⟨go42, 0, none⟩) y965.length co69 : Value).ownBlock ∧ k_ ≠ gb933 ∧ k_ ≠ gb934 ∧ k_ ≠ gb939)) (by (with_reducible repeat (first | apply Kd.aVz | apply Kd.aWz | apply Kd.aPz)); exact Kd.bwz HL964_0.out (fun _ hk => ⟨⟨hk.1, ⟨hk.2.1, ⟨hk.2.2.2.1, ⟨hk.2.2.2.2.1, ⟨hk.2.2.2.2.2.1, hk.2.2.2.2.2.2⟩⟩⟩⟩⟩, hk.2.2.1⟩)) hg (.inl rfl))) (Aside0.mk ((by rw [hw]; exact bEz (HB.out) GB44.out : Below w.heap.size w w73)))))))))))); clear HO_9 BK933 BK934 BK939 HO948 HO951 HL953_0 HL954_0 HO960 HL964_0 HB HO967; obtain ⟨HO_9, BK933, BK934, BK939, HO948, HO951, HL953_0, HL954_0, HO960, HL964_0, HB⟩ := n_; clear hg hw hp_))
       have n_ := And.intro (Aside0.mk (Kd.b8z HO_9.out)) (And.intro (Aside0.mk (Kd.aPz HO948.out)) (And.intro (Aside0.mk (Kd.b1z HO951.out)) (And.intro (Aside0.mk (Kd.aPz HL953_0.out)) (And.intro (Aside0.mk (Kd.aPz HL954_0.out)) (And.intro (Aside0.mk (Kd.b8z HO960.out)) (And.intro (Aside0.mk (Kd.aPz HL964_0.out)) (And.intro (Aside0.mk (afz BK933.out)) (And.intro (Aside0.mk (afz BK934.out)) (And.intro (Aside0.mk (afz BK939.out)) (Aside0.mk (bOz HB.out)))))))))))
       clear HO_9 HO948 HO951 HL953_0 HL954_0 HO960 HL964_0 BK933 BK934 BK939 HB
       obtain ⟨HO_9, HO948, HO951, HL953_0, HL954_0, HO960, HL964_0, BK933, BK934, BK939, HB⟩ := n_
       refine a5z (n := 31) (S := fun w' => w'.cell? ⟨gb939, 0, none⟩ = some (.int .i64 t936) ∧ w'.cell? ⟨gb939, 1, none⟩ = some (.int .i64 t937) ∧ w'.cell? ⟨gb939, 2, none⟩ = some (.int .i64 t938) ∧ Sem.run Tryz.prog (convert 34 9 v950) w' = Result.ok (.string (strOfNums t949)) w' ∧ Sem.run Tryz.prog (convert 34 9 (.slice A1 l1.length c1)) w' = Result.ok (.string (strOfNums l1)) w') (ds := []) (bA 31 0) kr_ rfl rfl ⟨(aaz BK939.out 0).trans rfl, (aaz BK939.out 1).trans rfl, (aaz BK939.out 2).trans rfl, cPz (P := Tryz.prog) Tryz.underlying34 Tryz.underlying5 Tryz.underlying9 (Kd.cqz HO951.out), Kd.c2z (P := Tryz.prog) (A := A1) (c := c1) Tryz.underlying34 Tryz.underlying5 Tryz.underlying9 (Kd.auz HR1.out HB.out)⟩ (fun hHeld => ?_); refine dhz abz.tab17 abz.bits17 (fun HT_ HW_ => ?_)
       generalize w73.drew = w74 at HO_9 HO948 HO951 HL953_0 HL954_0 HO960 HL964_0 BK933 BK934 BK939 HB hHeld ⊢
       refine pv_ 0 99 1 HT_ ?_
       refine pv_ 1 100 3 HT_ ?_
       refine pv_ 3 102 11 HT_ ?_
       refine tw_ 2 101 15 HT_ HW_ hHeld ?_
       refine one_ (i := 4) (N := some 103) (bA 31 31) rfl rfl (one_of HT_.out kr_) (by decide) (fun K hK => ?_)
       refine goes_ Tryz.func20 kr_ rfl #[.agg #[.int .i64 t936, .int .i64 t937, .int .i64 t938], .slice (some ad953) t940.length co56] (by rfl) rfl rfl ar_ ?_
       with_reducible refine (anz.calls kj10 t936 t937 t938 _ _ t940 true _ ?side1 ?side2 A46.out).mono ?_
       (case side1 => repeat (first | exact (Kd.a2z HO_9.out).2.2 | (with_reducible refine Kd.b5z ?_ _) | (with_reducible refine Kd.aYz ?_ _) | (with_reducible refine Kd.bWz ?_)))
       (case side2 => exact (Kd.a2z HO_9.out).2.1)
       rintro e w75 ⟨rfl, hb⟩
       refine ⟨_, rfl, ?_⟩
       have n_ := And.intro (Aside0.mk (Kd.bYz (xd_ HO_9.out) hb)) (And.intro (Aside0.mk (Kd.bFz (xd_ HO948.out) hb)) (And.intro (Aside0.mk (Kd.b3z (xd_ HO951.out) hb)) (And.intro (Aside0.mk (Kd.bFz (by (with_reducible repeat (first | apply Kd.aVz | apply Kd.aWz | apply Kd.aPz)); exact HL953_0.out) hb)) (And.intro (Aside0.mk (Kd.bFz (by (with_reducible repeat (first | apply Kd.aVz | apply Kd.aWz | apply Kd.aPz)); exact HL954_0.out) hb)) (And.intro (Aside0.mk (Kd.bYz (xd_ HO960.out) hb)) (And.intro (Aside0.mk (Kd.bFz (by (with_reducible repeat (first | apply Kd.aVz | apply Kd.aWz | apply Kd.aPz)); exact HL964_0.out) hb)) (And.intro (bb_ BK933 hb) (And.intro (bb_ BK934 hb) (And.intro (bb_ BK939 hb) (hs_ HB hb))))))))))
       clear HO_9 HO948 HO951 HL953_0 HL954_0 HO960 HL964_0 BK933 BK934 BK939 HB
       obtain ⟨HO_9, HO948, HO951, HL953_0, HL954_0, HO960, HL964_0, BK933, BK934, BK939, HB⟩ := n_
       (try clear hb)
       (try clear hb2)
       (try clear hk)
       (try clear hi)
       skip
       refine hK.out _ _ ⟨(aaz BK939.out 0).trans rfl, (aaz BK939.out 1).trans rfl, (aaz BK939.out 2).trans rfl, cPz (P := Tryz.prog) Tryz.underlying34 Tryz.underlying5 Tryz.underlying9 (Kd.cqz HO951.out), Kd.c2z (P := Tryz.prog) (A := A1) (c := c1) Tryz.underlying34 Tryz.underlying5 Tryz.underlying9 (Kd.auz HR1.out HB.out)⟩ (fun hHeld => ?_)
       clear hK K
       refine norm_ (a' := ?_) ?_ ?_
       rotate_left
       ·show Act.put _ (some 103) _ = _
        simp only [Act.put, List.setIfInBounds_toArray, List.set_cons_zero, List.set_cons_succ, i64_w, i32_w]
        rfl
       refine pv_ 5 104 63 HT_ ?_
       refine pv_ 6 105 127 HT_ ?_
       refine pv_ 7 106 255 HT_ ?_
       refine pv_ 8 107 511 HT_ ?_
       refine pv_ 9 108 1023 HT_ ?_
       refine pv_ 10 109 2047 HT_ ?_
       refine pv_ 11 110 4095 HT_ ?_
       refine tw_ 12 111 8191 HT_ HW_ hHeld ?_
       refine pv_ 13 112 16383 HT_ ?_
       refine tw_ 14 113 32767 HT_ HW_ hHeld ?_
       refine pv_ 15 114 65535 HT_ ?_
       refine pv_ 16 115 131071 HT_ ?_
       refine pv_ 17 116 262143 HT_ ?_
       refine pv_ 19 118 786431 HT_ ?_
       refine tw_ 18 117 1048575 HT_ HW_ hHeld ?_
       refine one_ (i := 20) (N := some 119) (bA 31 2097151) rfl rfl (one_of HT_.out kr_) (by decide) (fun K hK => ?_)
       refine goes_ Tryz.func20 kr_ rfl #[.agg #[.int .i64 t936, .int .i64 t937, .int .i64 t938], .slice (some ⟨go44, 0, none⟩) y970.length co44] (by rfl) rfl rfl (by (try simp only [List.map_toArray, List.map_cons, List.map_nil]); first | done | (rw [show y970.length = y958.length from (Kd.a2z HO960.out).1.symm] <;> rfl) | rfl | (simp only [List.length_drop, List.length_take]; rfl)) ?_
       with_reducible refine (anz.calls kj10 t936 t937 t938 _ _ y970 false _ ?side1 ?side2 A50.out).mono ?_
       (case side1 => repeat (first | exact (Kd.a2z HO960.out).2.2 | (with_reducible refine Kd.b5z ?_ _) | (with_reducible refine Kd.aYz ?_ _) | (with_reducible refine Kd.bWz ?_)))
       (case side2 => rw [show y970.length = y958.length from (Kd.a2z HO960.out).1.symm]; exact (Kd.a2z HO960.out).2.1)
       rintro e w79 ⟨rfl, hb⟩
       refine ⟨_, rfl, ?_⟩
       have n_ := And.intro (Aside0.mk (Kd.bYz (xd_ HO_9.out) hb)) (And.intro (Aside0.mk (Kd.bFz (xd_ HO948.out) hb)) (And.intro (Aside0.mk (Kd.b3z (xd_ HO951.out) hb)) (And.intro (Aside0.mk (Kd.bFz (by (with_reducible repeat (first | apply Kd.aVz | apply Kd.aWz | apply Kd.aPz)); exact HL953_0.out) hb)) (And.intro (Aside0.mk (Kd.bFz (by (with_reducible repeat (first | apply Kd.aVz | apply Kd.aWz | apply Kd.aPz)); exact HL954_0.out) hb)) (And.intro (Aside0.mk (Kd.bYz (xd_ HO960.out) hb)) (And.intro (Aside0.mk (Kd.bFz (by (with_reducible repeat (first | apply Kd.aVz | apply Kd.aWz | apply Kd.aPz)); exact HL964_0.out) hb)) (And.intro (bb_ BK933 hb) (And.intro (bb_ BK934 hb) (And.intro (bb_ BK939 hb) (hs_ HB hb))))))))))
       clear HO_9 HO948 HO951 HL953_0 HL954_0 HO960 HL964_0 BK933 BK934 BK939 HB
       obtain ⟨HO_9, HO948, HO951, HL953_0, HL954_0, HO960, HL964_0, BK933, BK934, BK939, HB⟩ := n_
       (try clear hb)
       (try clear hb2)
       (try clear hk)
       (try clear hi)
       have q80 : (1 : Int) ≤ ((t940.length : Int) : Int) := of_decide_eq_true as_
       obtain ⟨i080, hi080, _, hsz80, _⟩ := info_parts info34
       have hroom80 : t940.length ≤ co56 := (Kd.a2z HO_9.out).2.1
       have hC80 : Kd.F (Kd.slice 5 (Kd.int .u8)) _ _ (some ad953) t940.length t940 := (Kd.V_at (base := w.heap.size) (Kd.N_V HO_9.out)).2.2
       have hcut80 := cut_from (P := Tryz.prog) 24 34 .i64 Tryz.underlying24 hi080 1 hsz80 (some ad953) t940.length co56 1 (by omega) q80
       have hr80 := Kd.F_cut (m := (1 : Int).toNat) (c := co56) hC80 (by omega) hroom80
       obtain ⟨A80, hA80⟩ : ∃ Aq_, Aq_ = (if co56 = (1 : Int).toNat then (some ad953) else ((some ad953) : Option Addr).map (·.add ((1 : Int).toNat * 1))) := ⟨_, rfl⟩
       obtain ⟨c80, hc80⟩ : ∃ cq_, cq_ = co56 - (1 : Int).toNat := ⟨_, rfl⟩
       have hy80 : y973.length = t940.length - (1 : Int).toNat := (by rw [Ny973.out, List.length_drop] <;> omega)
       rw [show (t940).drop (1 : Int).toNat = y973 from Ny973.out.symm] at hr80
       replace hr80 : Kd.F (Kd.slice 5 (Kd.int .u8)) _ _ A80 y973.length y973 := (by rw [hA80]; exact hr80)
       rw [← hy80, ← hA80, ← hc80] at hcut80
       have HO977 := Aside0.mk (show Kd.V (Kd.slice 5 (Kd.int .u8)) 34 _ w.heap.size _ (.slice A80 y973.length c80) y973 from Kd.V_mk (by rw [hy80, hc80]; exact Nat.sub_le_sub_right hroom80 _) hr80)
       have HC977 := Aside0.mk (show y973.length ≤ c80 from by rw [hy80, hc80]; exact Nat.sub_le_sub_right hroom80 _)
       clear hr80 hC80 hroom80 hi080 hsz80 hc80
       have KY80 := Aside0.mk hy80
       have KA80 := Aside0.mk hA80
       clear hy80 hA80
       replace q80 := eq_true q80
       refine hK.out _ _ ⟨(aaz BK939.out 0).trans rfl, (aaz BK939.out 1).trans rfl, (aaz BK939.out 2).trans rfl, cPz (P := Tryz.prog) Tryz.underlying34 Tryz.underlying5 Tryz.underlying9 (Kd.cqz HO951.out), Kd.c2z (P := Tryz.prog) (A := A1) (c := c1) Tryz.underlying34 Tryz.underlying5 Tryz.underlying9 (Kd.auz HR1.out HB.out)⟩ (fun hHeld => ?_)
       clear hK K
       refine norm_ (a' := ?_) ?_ ?_
       rotate_left
       ·show Act.put _ (some 119) _ = _
        simp only [Act.put, List.setIfInBounds_toArray, List.set_cons_zero, List.set_cons_succ, i64_w, i32_w]
        rfl
       refine pv_ 21 120 4194303 HT_ ?_
       refine pv_ 22 121 8388607 HT_ ?_
       refine pv_ 23 122 16777215 HT_ ?_
       refine pv_ 25 124 50331647 HT_ ?_
       refine pv_ 26 125 117440511 HT_ ?_
       refine tw_ 24 123 134217727 HT_ HW_ hHeld ?_
       refine one_ (i := 27) (N := some 126) (bA 31 268435455) rfl rfl (one_of HT_.out kr_) (by decide) (fun K hK => ?_)
       refine goes_ Tryz.func20 kr_ rfl #[.agg #[.int .i64 t936, .int .i64 t937, .int .i64 t938], .slice A80 y973.length c80] (by rfl) rfl rfl ar_ ?_
       with_reducible refine (anz.calls kj10 t936 t937 t938 _ _ y973 t978 _ ?side1 ?side2 A53.out).mono ?_
       (case side1 => repeat (first | exact (Kd.dAz HO977.out).2.2 | (with_reducible refine Kd.b5z ?_ _) | (with_reducible refine Kd.aYz ?_ _) | (with_reducible refine Kd.bWz ?_)))
       (case side2 => exact (Kd.dAz HO977.out).2.1)
       rintro e w81 ⟨rfl, hb⟩
       refine ⟨_, rfl, ?_⟩
       have n_ := And.intro (Aside0.mk (Kd.bYz (xd_ HO_9.out) hb)) (And.intro (Aside0.mk (Kd.bFz (xd_ HO948.out) hb)) (And.intro (Aside0.mk (Kd.b3z (xd_ HO951.out) hb)) (And.intro (Aside0.mk (Kd.bFz (by (with_reducible repeat (first | apply Kd.aVz | apply Kd.aWz | apply Kd.aPz)); exact HL953_0.out) hb)) (And.intro (Aside0.mk (Kd.bFz (by (with_reducible repeat (first | apply Kd.aVz | apply Kd.aWz | apply Kd.aPz)); exact HL954_0.out) hb)) (And.intro (Aside0.mk (Kd.bYz (xd_ HO960.out) hb)) (And.intro (Aside0.mk (Kd.bFz (by (with_reducible repeat (first | apply Kd.aVz | apply Kd.aWz | apply Kd.aPz)); exact HL964_0.out) hb)) (And.intro (Aside0.mk (Kd.bFz (xd_ HO977.out) hb)) (And.intro (bb_ BK933 hb) (And.intro (bb_ BK934 hb) (And.intro (bb_ BK939 hb) (hs_ HB hb)))))))))))
       clear HO_9 HO948 HO951 HL953_0 HL954_0 HO960 HL964_0 HO977 BK933 BK934 BK939 HB
       obtain ⟨HO_9, HO948, HO951, HL953_0, HL954_0, HO960, HL964_0, HO977, BK933, BK934, BK939, HB⟩ := n_
       (try clear hb)
       (try clear hb2)
       (try clear hk)
       (try clear hi)
       refine hK.out _ _ ⟨(aaz BK939.out 0).trans rfl, (aaz BK939.out 1).trans rfl, (aaz BK939.out 2).trans rfl, cPz (P := Tryz.prog) Tryz.underlying34 Tryz.underlying5 Tryz.underlying9 (Kd.cqz HO951.out), Kd.c2z (P := Tryz.prog) (A := A1) (c := c1) Tryz.underlying34 Tryz.underlying5 Tryz.underlying9 (Kd.auz HR1.out HB.out)⟩ (fun hHeld => ?_)
       clear hK K
       refine norm_ (a' := ?_) ?_ ?_
       rotate_left
       ·show Act.put _ (some 126) _ = _
        simp only [Act.put, List.setIfInBounds_toArray, List.set_cons_zero, List.set_cons_succ, i64_w, i32_w]
        rfl
       refine pv_ 28 127 536870911 HT_ ?_
       refine pv_ 29 128 1073741823 HT_ ?_
       refine pv_ 30 6 2147483647 HT_ ?_
       refine done_ (done_of HT_.out kr_) ?_
       try go_wp2
       go_ret
       exact ⟨by first | rfl | (simp [bhz, biz] <;> rfl) | (simp only [← hji33, ← hji39]; first | rfl | (simp [bhz, biz] <;> rfl)) | (simp [*, bhz, biz] <;> rfl), bl_⟩
end Go.Proofs.YtelcllhibpnneaaGreat.XCo
end
