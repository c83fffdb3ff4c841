-- Joined by this work's own program (wip/tools/bundle.py) out of its texts: what this claim uses of them. Not trusted: Lean checks it.
import Derived.Test.YtpdakdcmahlghaaGreatBReconAny17
section
namespace Go.Proofs.YtpdakdcmahlghaaGreat.XCo
open Go.RowKit Go.Proofs.YtpdakdcmahlghaaGreatW.PrintWords Go.Proofs.YtpdakdcmahlghaaGreatW.PrintLast Go.Proofs.YtpdakdcmahlghaaGreatW.PrintMore
attribute [local go_sem] aAz aBz aIz aJz atz auz aCz aDz
set_option linter.unusedVariables false
set_option linter.unusedSimpArgs false
def adz.j0 : Nat → Bool → List (List Int) → Bool → Int → Int → Int → Int → Int → Int → Int → Option (Bool)
 | 0, _, _, _, _, _, _, _, _, _, _ => none
 | k + 1, x7, x9, x40, x353000, x353001, x353002, x353003, x358000, x358001, x358002 => if x40 = true then (some false) else (if (wrap64 (x358002 + 1)) = 0 then (none) else ((afz.f k (x9.length : Int) (Int.tmod (wrap64 (x353000)) (wrap64 (x358002 + 1))) (wrap64 (x353001)) (wrap64 (x353002))).bind fun t362 => ((anz.f k x9 t362 x353003).bind fun t365 => ((aGz.f k x358000 x358001 x358002 t365 t362).bind fun bt368 => ((anz.f k x9 t362 x353003).bind fun t372 => ((akz.f k x358000 x358001 x358002 t372 t362).bind fun bt375 => (if x7 = true then (if bt368.2 = 0 then (if bt375.2 = 0 then ((ajz.f k bt368.1 x9).bind fun t379 => (if t379 = true then (if 0 ≤ x358001 then (if x358001 ≤ (x9.length : Int) then ((ajz.f k bt375.1 (x9.take (x358001 : Int).toNat)).bind fun t385 => (some t385)) else (none)) else (none)) else (some false))) else (some false)) else (some false)) else (some false))))))))
def adz.f (k : Nat) (a0_0 : Int) (a0_1 : Int) (a0_2 : Int) (l1 : List Int) (a2_0 : Int) (a2_1 : Int) (a2_2 : Int) (a2_3 : Int) : Option (Bool) := (bqz.f k).bind fun t353 => (if (l1.length : Int) > 300 then (some t353) else ((baz.f a0_0 a0_1 a0_2).bind fun bt354 => ((bpz.f k bt354.1 bt354.2.1 bt354.2.2 l1).bind fun bt358 => (if bt358.2 = 0 then (adz.j0 k t353 bt358.1 ((bt358.1.length : Int) != (wrap64 (bt354.2.1 + bt354.2.2))) a2_0 a2_1 a2_2 a2_3 bt354.1 bt354.2.1 bt354.2.2) else (adz.j0 k t353 bt358.1 true a2_0 a2_1 a2_2 a2_3 bt354.1 bt354.2.1 bt354.2.2)))))
def adz.T8 : Bool × List (List Nat × List Nat) := (true, [([], []), ([0], [0]), ([], []), ([2], [2]), ([3], [3]), ([], []), ([5], [5]), ([6], [6]), ([4, 7], [4, 7]), ([], []), ([9], [9]), ([10], [10]), ([], []), ([12], [12]), ([13], [13]), ([1, 8, 11, 14], [1, 8, 11, 14]), ([15, 15, 0, 1, 2, 3, 4, 5, 6, 7, 8, 9, 10, 11, 12, 13, 14, 15], [15])])
def adz.B8 : List Nat := [0, 1, 0, 4, 12, 0, 32, 96, 252, 0, 512, 1536, 0, 4096, 12288, 32767, 65535]
theorem adz.tab8 : rtab .any (opsOf Tryz.f14 8) = adz.T8 := by kernel_rfl
theorem adz.bits8 : waitsOk adz.T8.2 adz.B8 = true := by kernel_rfl
def adz.T9 : Bool × List (List Nat × List Nat) := (true, [([], []), ([], []), ([], []), ([], []), ([3], [3]), ([1, 2, 4], [1, 2, 4]), ([], []), ([0, 5, 6, 5], [0, 5, 6]), ([7], [7]), ([8], [8]), ([8], [8]), ([9, 7, 0, 1, 2, 3, 4, 5, 6, 7, 8, 9], [9]), ([10, 11, 0, 1, 2, 3, 4, 5, 6, 7, 8, 9, 10, 11], [10])])
def adz.B9 : List Nat := [0, 0, 0, 0, 8, 30, 0, 127, 255, 511, 511, 1023, 4095]
theorem adz.tab9 : rtab .any (opsOf Tryz.f14 9) = adz.T9 := by kernel_rfl
theorem adz.bits9 : waitsOk adz.T9.2 adz.B9 = true := by kernel_rfl
def adz.T10 : Bool × List (List Nat × List Nat) := (true, [([], []), ([], []), ([], []), ([], []), ([3], [3]), ([1, 2, 4], [1, 2, 4]), ([], []), ([0, 5, 6, 5], [0, 5, 6]), ([7], [7]), ([8], [8]), ([8], [8]), ([9, 7, 0, 1, 2, 3, 4, 5, 6, 7, 8, 9], [9]), ([10, 11, 0, 1, 2, 3, 4, 5, 6, 7, 8, 9, 10, 11], [10])])
def adz.B10 : List Nat := [0, 0, 0, 0, 8, 30, 0, 127, 255, 511, 511, 1023, 4095]
theorem adz.tab10 : rtab .any (opsOf Tryz.f14 10) = adz.T10 := by kernel_rfl
theorem adz.bits10 : waitsOk adz.T10.2 adz.B10 = true := by kernel_rfl
set_option maxHeartbeats 8000000 in
set_option maxRecDepth 100000 in
theorem adz.calls (k : Nat) (a0_0 : Int) (a0_1 : Int) (a0_2 : Int) (A1 : Option Addr) (c1 : Nat) (l1 : List Int) (a2_0 : Int) (a2_1 : Int) (a2_2 : Int) (a2_3 : Int) (r : Bool) (w : World) (hr_ : Aside0 (r = true)) (hr1 : Kd.C (Kd.int .u8) w A1 l1.length l1) (hc1 : l1.length ≤ c1) (h : adz.f k a0_0 a0_1 a0_2 l1 a2_0 a2_1 a2_2 a2_3 = some r) :
  Calls Tryz.prog 14 #[.agg #[.int .u8 a0_0, .int .u8 a0_1, .int .u8 a0_2], .slice A1 l1.length c1, .agg #[.int .u8 a2_0, .int .u8 a2_1, .int .u8 a2_2, .int .u8 a2_3]] w fun e w' => e = .returned (.bool r) ∧ Below w.heap.size w w' := by
 have hu42 := Tryz.underlying42
 have hu43 := Tryz.underlying43
 have hu23 := Tryz.underlying23
 have HR1 := Aside0.mk hr1
 have HC1 := Aside0.mk hc1
 clear hr1 hc1
 have HB := Aside0.mk (Below.refl w.heap.size w)
 have H : ((bqz.f k).bind fun t353 => (if (l1.length : Int) > 300 then (some t353) else ((baz.f a0_0 a0_1 a0_2).bind fun bt354 => ((bpz.f k bt354.1 bt354.2.1 bt354.2.2 l1).bind fun bt358 => (if bt358.2 = 0 then (adz.j0 k t353 bt358.1 ((bt358.1.length : Int) != (wrap64 (bt354.2.1 + bt354.2.2))) a2_0 a2_1 a2_2 a2_3 bt354.1 bt354.2.1 bt354.2.2) else (adz.j0 k t353 bt358.1 true a2_0 a2_1 a2_2 a2_3 bt354.1 bt354.2.1 bt354.2.2)))))) = some r := h
 clear h
 replace H := Option.bind_eq_some_iff.mp H
 obtain ⟨t353, A40, H⟩ := H
 replace H : (if (l1.length : Int) > 300 then (some t353) else ((baz.f a0_0 a0_1 a0_2).bind fun bt354 => ((bpz.f k bt354.1 bt354.2.1 bt354.2.2 l1).bind fun bt358 => (if bt358.2 = 0 then (adz.j0 k t353 bt358.1 ((bt358.1.length : Int) != (wrap64 (bt354.2.1 + bt354.2.2))) a2_0 a2_1 a2_2 a2_3 bt354.1 bt354.2.1 bt354.2.2) else (adz.j0 k t353 bt358.1 true a2_0 a2_1 a2_2 a2_3 bt354.1 bt354.2.1 bt354.2.2))))) = some r := H
 have A4 := Aside0.mk A40
 clear A40
 by_cases c5 : (l1.length : Int) > 300
 ·rw [if_pos c5] at H
  have c5b0 : decide (300 < (l1.length : Int)) = true := decide_eq_true c5
  have c5b1 : decide (300 < l1.length) = true := decide_eq_true (by omega)
  clear c5
  obtain rfl := Option.some.inj H
  go_enter Tryz.func14, Tryz.ntmps14
  go_wp2_with (first | ((with_reducible refine ayz (N := 3) rfl ?_); (try (refine bDz (by rfl) ?_; dsimp only)); refine aYz ?hg (N := 3) ?hd (cs := #[.int .u8 a0_0, .int .u8 a0_1, .int .u8 a0_2]) (t := 42) ?hr ?_; (case hd => rfl); (case hg => rfl); (case hr => first | (go_simp; done) | (go_simp; rfl)); intro gb351 hg w6 hbox hb; have n0_ := Aside0.mk (aSz bl_ hb); have n1_ := Aside0.mk (hbox); have n2_ := Aside0.mk ((gs_ : w.heap.size ≤ gb351)); have n3_ := Aside0.mk ((gs_ : w.heap.size ≤ gb351)); clear HB; have HB := n0_; have BK351 := n1_; have GW351 := n2_; have GE351 := n3_; clear n0_ n1_ n2_ n3_; clear hb hbox hg) | ((with_reducible refine ayz (N := 5) rfl ?_); (try (refine bDz (by rfl) ?_; dsimp only)); refine aYz ?hg (N := 5) ?hd (cs := #[.int .u8 a2_0, .int .u8 a2_1, .int .u8 a2_2, .int .u8 a2_3]) (t := 43) ?hr ?_; (case hd => rfl); (case hg => rfl); (case hr => first | (go_simp; done) | (go_simp; rfl)); intro gb352 hg w7 hbox hb; have n0_ := Aside0.mk (aez (g := gb351) (o := .cells #[.int .u8 a0_0, .int .u8 a0_1, .int .u8 a0_2] 42 (0, 0)) bk_ hb); have n1_ := Aside0.mk (aSz bl_ hb); have n2_ := Aside0.mk (hbox); have n3_ := Aside0.mk ((gs_ : w.heap.size ≤ gb352)); have n4_ := Aside0.mk ((gs_ : w.heap.size ≤ gb352)); have n5_ := Aside0.mk ((by rw [hg]; exact Nat.ne_of_lt (apz (g := gb351) (o := .cells #[.int .u8 a0_0, .int .u8 a0_1, .int .u8 a0_2] 42 (0, 0)) bk_) : gb351 ≠ gb352)); have n6_ := Aside0.mk ((by rw [hg]; exact Nat.ne_of_gt (apz (g := gb351) (o := .cells #[.int .u8 a0_0, .int .u8 a0_1, .int .u8 a0_2] 42 (0, 0)) bk_) : gb352 ≠ gb351)); clear BK351; clear HB; have BK351 := n0_; have HB := n1_; have BK352 := n2_; have GW352 := n3_; have GE352 := n4_; have NB351_352 := n5_; have NB352_351 := n6_; clear n0_ n1_ n2_ n3_ n4_ n5_ n6_; clear hb hbox hg) | ((with_reducible refine aoz (f := 26) rfl ?_); refine dcz (some 16) rfl rfl Tryz.func26 kr_ rfl #[] rfl ar_ ?_; (with_reducible refine (bqz.calls k  t353 _ A4.out).mono ?_); rintro e w8 ⟨rfl, hb⟩; refine ⟨_, rfl, ?_⟩; have n0_ := Aside0.mk (aez (g := gb351) (o := .cells #[.int .u8 a0_0, .int .u8 a0_1, .int .u8 a0_2] 42 (0, 0)) bk_ hb); have n1_ := Aside0.mk (aez (g := gb352) (o := .cells #[.int .u8 a2_0, .int .u8 a2_1, .int .u8 a2_2, .int .u8 a2_3] 43 (0, 0)) bk_ hb); have n2_ := Aside0.mk (aSz bl_ hb); clear BK351; clear BK352; clear HB; have BK351 := n0_; have BK352 := n1_; have HB := n2_; clear n0_ n1_ n2_; (try clear hb); (try clear hb2); (try clear hk); (try clear hi)))
  go_ret
  exact ⟨er_, bl_⟩
 ·rw [if_neg c5] at H
  have c5b0 : decide (300 < (l1.length : Int)) = false := decide_eq_false c5
  have c5b1 : decide (300 < l1.length) = false := decide_eq_false (by omega)
  clear c5
  replace H := Option.bind_eq_some_iff.mp H
  obtain ⟨⟨t354, t355, t356⟩, A90, H⟩ := H
  replace H : ((bpz.f k t354 t355 t356 l1).bind fun bt358 => (if bt358.2 = 0 then (adz.j0 k t353 bt358.1 ((bt358.1.length : Int) != (wrap64 (t355 + t356))) a2_0 a2_1 a2_2 a2_3 t354 t355 t356) else (adz.j0 k t353 bt358.1 true a2_0 a2_1 a2_2 a2_3 t354 t355 t356))) = some r := H
  have A9 := Aside0.mk A90
  clear A90
  replace H := Option.bind_eq_some_iff.mp H
  obtain ⟨⟨t358, t361⟩, A100, H⟩ := H
  replace H : (if t361 = 0 then (adz.j0 k t353 t358 ((t358.length : Int) != (wrap64 (t355 + t356))) a2_0 a2_1 a2_2 a2_3 t354 t355 t356) else (adz.j0 k t353 t358 true a2_0 a2_1 a2_2 a2_3 t354 t355 t356)) = some r := H
  have A10 := Aside0.mk A100
  clear A100
  have HC11 := Aside0.mk H
  clear H
  go_enter Tryz.func14, Tryz.ntmps14
  go_upto_region 6 with (first | ((with_reducible refine ayz (N := 3) rfl ?_); (try (refine bDz (by rfl) ?_; dsimp only)); refine aYz ?hg (N := 3) ?hd (cs := #[.int .u8 a0_0, .int .u8 a0_1, .int .u8 a0_2]) (t := 42) ?hr ?_; (case hd => rfl); (case hg => rfl); (case hr => first | (go_simp; done) | (go_simp; rfl)); intro gb351 hg w12 hbox hb; have n0_ := Aside0.mk (aSz bl_ hb); have n1_ := Aside0.mk (hbox); have n2_ := Aside0.mk ((gs_ : w.heap.size ≤ gb351)); have n3_ := Aside0.mk ((gs_ : w.heap.size ≤ gb351)); clear HB; have HB := n0_; have BK351 := n1_; have GW351 := n2_; have GE351 := n3_; clear n0_ n1_ n2_ n3_; clear hb hbox hg) | ((with_reducible refine ayz (N := 5) rfl ?_); (try (refine bDz (by rfl) ?_; dsimp only)); refine aYz ?hg (N := 5) ?hd (cs := #[.int .u8 a2_0, .int .u8 a2_1, .int .u8 a2_2, .int .u8 a2_3]) (t := 43) ?hr ?_; (case hd => rfl); (case hg => rfl); (case hr => first | (go_simp; done) | (go_simp; rfl)); intro gb352 hg w13 hbox hb; have n0_ := Aside0.mk (aez (g := gb351) (o := .cells #[.int .u8 a0_0, .int .u8 a0_1, .int .u8 a0_2] 42 (0, 0)) bk_ hb); have n1_ := Aside0.mk (aSz bl_ hb); have n2_ := Aside0.mk (hbox); have n3_ := Aside0.mk ((gs_ : w.heap.size ≤ gb352)); have n4_ := Aside0.mk ((gs_ : w.heap.size ≤ gb352)); have n5_ := Aside0.mk ((by rw [hg]; exact Nat.ne_of_lt (apz (g := gb351) (o := .cells #[.int .u8 a0_0, .int .u8 a0_1, .int .u8 a0_2] 42 (0, 0)) bk_) : gb351 ≠ gb352)); have n6_ := Aside0.mk ((by rw [hg]; exact Nat.ne_of_gt (apz (g := gb351) (o := .cells #[.int .u8 a0_0, .int .u8 a0_1, .int .u8 a0_2] 42 (0, 0)) bk_) : gb352 ≠ gb351)); clear BK351; clear HB; have BK351 := n0_; have HB := n1_; have BK352 := n2_; have GW352 := n3_; have GE352 := n4_; have NB351_352 := n5_; have NB352_351 := n6_; clear n0_ n1_ n2_ n3_ n4_ n5_ n6_; clear hb hbox hg) | ((with_reducible refine aoz (f := 26) rfl ?_); refine dcz (some 16) rfl rfl Tryz.func26 kr_ rfl #[] rfl ar_ ?_; (with_reducible refine (bqz.calls k  t353 _ A4.out).mono ?_); rintro e w14 ⟨rfl, hb⟩; refine ⟨_, rfl, ?_⟩; have n0_ := Aside0.mk (aez (g := gb351) (o := .cells #[.int .u8 a0_0, .int .u8 a0_1, .int .u8 a0_2] 42 (0, 0)) bk_ hb); have n1_ := Aside0.mk (aez (g := gb352) (o := .cells #[.int .u8 a2_0, .int .u8 a2_1, .int .u8 a2_2, .int .u8 a2_3] 43 (0, 0)) bk_ hb); have n2_ := Aside0.mk (aSz bl_ hb); clear BK351; clear BK352; clear HB; have BK351 := n0_; have BK352 := n1_; have HB := n2_; clear n0_ n1_ n2_; (try clear hb); (try clear hb2); (try clear hk); (try clear hi); have hnb15 := NB351_352.out; have hnc15 := NB352_351.out; have hcz16_0 : w14.cell? ⟨gb351, 0, none⟩ = some (.int .u8 a0_0) := (aaz BK351.out 0).trans rfl; have hcz16_1 : w14.cell? ⟨gb351, 1, none⟩ = some (.int .u8 a0_1) := (aaz BK351.out 1).trans rfl; have hcz16_2 : w14.cell? ⟨gb351, 2, none⟩ = some (.int .u8 a0_2) := (aaz BK351.out 2).trans rfl; have hfz16_0 := aqz BK351.out 0; have hfz16_1 := aqz BK351.out 1; have hfz16_2 := aqz BK351.out 2) | ((with_reducible refine aoz (f := 31) rfl ?_); refine dcz (some 22) rfl rfl Tryz.func31 kr_ rfl #[.agg #[.int .u8 a0_0, .int .u8 a0_1, .int .u8 a0_2]] rfl ar_ ?_; (with_reducible refine (baz.calls a0_0 a0_1 a0_2 t354 t355 t356 _ A9.out).mono ?_); rintro e w17 ⟨rfl, hb⟩; refine ⟨_, rfl, ?_⟩; have n0_ := Aside0.mk (aez (g := gb351) (o := .cells #[.int .u8 a0_0, .int .u8 a0_1, .int .u8 a0_2] 42 (0, 0)) bk_ hb); have n1_ := Aside0.mk (aez (g := gb352) (o := .cells #[.int .u8 a2_0, .int .u8 a2_1, .int .u8 a2_2, .int .u8 a2_3] 43 (0, 0)) bk_ hb); have n2_ := Aside0.mk (aSz bl_ hb); clear BK351; clear BK352; clear HB; have BK351 := n0_; have BK352 := n1_; have HB := n2_; clear n0_ n1_ n2_; (try clear hb); (try clear hb2); (try clear hk); (try clear hi)) | ((with_reducible refine ayz (N := 8) rfl ?_); (try (refine bDz (by rfl) ?_; dsimp only)); refine aYz ?hg (N := 8) ?hd (cs := #[.int .i64 0, .int .i64 0, .int .i64 0]) (t := 23) ?hr ?_; (case hd => rfl); (case hg => rfl); (case hr => first | (go_simp; done) | (go_simp; rfl)); intro gb357 hg w18 hbox hb; have n0_ := Aside0.mk (aez (g := gb351) (o := .cells #[.int .u8 a0_0, .int .u8 a0_1, .int .u8 a0_2] 42 (0, 0)) bk_ hb); have n1_ := Aside0.mk (aez (g := gb352) (o := .cells #[.int .u8 a2_0, .int .u8 a2_1, .int .u8 a2_2, .int .u8 a2_3] 43 (0, 0)) bk_ hb); have n2_ := Aside0.mk (aSz bl_ hb); have n3_ := Aside0.mk (hbox); have n4_ := Aside0.mk ((gs_ : w.heap.size ≤ gb357)); have n5_ := Aside0.mk ((gs_ : w.heap.size ≤ gb357)); have n6_ := Aside0.mk ((by rw [hg]; exact Nat.ne_of_lt (apz (g := gb351) (o := .cells #[.int .u8 a0_0, .int .u8 a0_1, .int .u8 a0_2] 42 (0, 0)) bk_) : gb351 ≠ gb357)); have n7_ := Aside0.mk ((by rw [hg]; exact Nat.ne_of_gt (apz (g := gb351) (o := .cells #[.int .u8 a0_0, .int .u8 a0_1, .int .u8 a0_2] 42 (0, 0)) bk_) : gb357 ≠ gb351)); have n8_ := Aside0.mk ((by rw [hg]; exact Nat.ne_of_lt (apz (g := gb352) (o := .cells #[.int .u8 a2_0, .int .u8 a2_1, .int .u8 a2_2, .int .u8 a2_3] 43 (0, 0)) bk_) : gb352 ≠ gb357)); have n9_ := Aside0.mk ((by rw [hg]; exact Nat.ne_of_gt (apz (g := gb352) (o := .cells #[.int .u8 a2_0, .int .u8 a2_1, .int .u8 a2_2, .int .u8 a2_3] 43 (0, 0)) bk_) : gb357 ≠ gb352)); clear BK351; clear BK352; clear HB; have BK351 := n0_; have BK352 := n1_; have HB := n2_; have BK357 := n3_; have GW357 := n4_; have GE357 := n5_; have NB351_357 := n6_; have NB357_351 := n7_; have NB352_357 := n8_; have NB357_352 := n9_; clear n0_ n1_ n2_ n3_ n4_ n5_ n6_ n7_ n8_ n9_; clear hb hbox hg; have hnb19 := NB357_351.out; have hnc19 := NB351_357.out; have hnb20 := NB357_352.out; have hnc20 := NB352_357.out; have hcz21_0 : w18.cell? ⟨gb357, 0, none⟩ = some (.int .i64 0) := (aaz BK357.out 0).trans rfl; have hcz21_1 : w18.cell? ⟨gb357, 1, none⟩ = some (.int .i64 0) := (aaz BK357.out 1).trans rfl; have hcz21_2 : w18.cell? ⟨gb357, 2, none⟩ = some (.int .i64 0) := (aaz BK357.out 2).trans rfl; have hfz21_0 := aqz BK357.out 0; have hfz21_1 := aqz BK357.out 1; have hfz21_2 := aqz BK357.out 2) | ((with_reducible refine aoz (f := 24) rfl ?_); refine dcz (some 26) rfl rfl Tryz.func24 kr_ rfl #[.agg #[.int .i64 t354, .int .i64 t355, .int .i64 t356], .slice A1 l1.length c1] rfl ar_ ?_; (with_reducible refine (bpz.calls k t354 t355 t356 _ _ l1 t358 t361 _ ?side1 ?side2 A10.out).mono ?_); (case side1 => exact Kd.aHz HR1.out bl_); (case side2 => exact HC1.out); rintro e w22 ⟨v359, rfl, ho0, hb⟩; refine ⟨_, rfl, ?_⟩; have n0_ := Aside0.mk (Kd.czz (Kd.ckz (ok' := fun k_ => k_ ≠ gb351 ∧ k_ ≠ gb352 ∧ k_ ≠ gb357) ho0 (fun k_ hk_ => ⟨(Kd.freshB (g := gb351) (o := .cells #[.int .u8 a0_0, .int .u8 a0_1, .int .u8 a0_2] 42 (0, 0)) (by (with_reducible repeat (first | refine agz ?_ _ | refine ahz ?_ | refine acz ?_ _)); refine axz ?_ NB351_357.out _; (with_reducible repeat (first | refine agz ?_ _ | refine ahz ?_ | refine acz ?_ _)); refine axz ?_ NB351_357.out _; (with_reducible repeat (first | refine agz ?_ _ | refine ahz ?_ | refine acz ?_ _)); refine axz ?_ NB351_357.out _; (with_reducible repeat (first | refine agz ?_ _ | refine ahz ?_ | refine acz ?_ _)); exact BK351.out) k_ hk_), (Kd.freshB (g := gb352) (o := .cells #[.int .u8 a2_0, .int .u8 a2_1, .int .u8 a2_2, .int .u8 a2_3] 43 (0, 0)) (by (with_reducible repeat (first | refine agz ?_ _ | refine ahz ?_ | refine acz ?_ _)); refine axz ?_ NB352_357.out _; (with_reducible repeat (first | refine agz ?_ _ | refine ahz ?_ | refine acz ?_ _)); refine axz ?_ NB352_357.out _; (with_reducible repeat (first | refine agz ?_ _ | refine ahz ?_ | refine acz ?_ _)); refine axz ?_ NB352_357.out _; (with_reducible repeat (first | refine agz ?_ _ | refine ahz ?_ | refine acz ?_ _)); exact BK352.out) k_ hk_), (Kd.freshB (g := gb357) (o := .cells #[.int .i64 t354, .int .i64 t355, .int .i64 t356] 23 (0, 0)) (by (with_reducible repeat (first | refine agz ?_ _ | refine ahz ?_ | refine acz ?_ _)); refine awz (cs := #[.int .i64 t354, .int .i64 t355, .int .i64 0]) ?_ 2 _ rfl; (with_reducible repeat (first | refine agz ?_ _ | refine ahz ?_ | refine acz ?_ _)); refine awz (cs := #[.int .i64 t354, .int .i64 0, .int .i64 0]) ?_ 1 _ rfl; (with_reducible repeat (first | refine agz ?_ _ | refine ahz ?_ | refine acz ?_ _)); refine awz (cs := #[.int .i64 0, .int .i64 0, .int .i64 0]) ?_ 0 _ rfl; (with_reducible repeat (first | refine agz ?_ _ | refine ahz ?_ | refine acz ?_ _)); exact BK357.out) k_ hk_)⟩)) (aNz bl_)); have n1_ := Aside0.mk (aez (g := gb351) (o := .cells #[.int .u8 a0_0, .int .u8 a0_1, .int .u8 a0_2] 42 (0, 0)) (by (with_reducible repeat (first | refine agz ?_ _ | refine ahz ?_ | refine acz ?_ _)); refine axz ?_ NB351_357.out _; (with_reducible repeat (first | refine agz ?_ _ | refine ahz ?_ | refine acz ?_ _)); refine axz ?_ NB351_357.out _; (with_reducible repeat (first | refine agz ?_ _ | refine ahz ?_ | refine acz ?_ _)); refine axz ?_ NB351_357.out _; (with_reducible repeat (first | refine agz ?_ _ | refine ahz ?_ | refine acz ?_ _)); exact BK351.out) hb); have n2_ := Aside0.mk (aez (g := gb352) (o := .cells #[.int .u8 a2_0, .int .u8 a2_1, .int .u8 a2_2, .int .u8 a2_3] 43 (0, 0)) (by (with_reducible repeat (first | refine agz ?_ _ | refine ahz ?_ | refine acz ?_ _)); refine axz ?_ NB352_357.out _; (with_reducible repeat (first | refine agz ?_ _ | refine ahz ?_ | refine acz ?_ _)); refine axz ?_ NB352_357.out _; (with_reducible repeat (first | refine agz ?_ _ | refine ahz ?_ | refine acz ?_ _)); refine axz ?_ NB352_357.out _; (with_reducible repeat (first | refine agz ?_ _ | refine ahz ?_ | refine acz ?_ _)); exact BK352.out) hb); have n3_ := Aside0.mk (aez (g := gb357) (o := .cells #[.int .i64 t354, .int .i64 t355, .int .i64 t356] 23 (0, 0)) (by (with_reducible repeat (first | refine agz ?_ _ | refine ahz ?_ | refine acz ?_ _)); refine awz (cs := #[.int .i64 t354, .int .i64 t355, .int .i64 0]) ?_ 2 _ rfl; (with_reducible repeat (first | refine agz ?_ _ | refine ahz ?_ | refine acz ?_ _)); refine awz (cs := #[.int .i64 t354, .int .i64 0, .int .i64 0]) ?_ 1 _ rfl; (with_reducible repeat (first | refine agz ?_ _ | refine ahz ?_ | refine acz ?_ _)); refine awz (cs := #[.int .i64 0, .int .i64 0, .int .i64 0]) ?_ 0 _ rfl; (with_reducible repeat (first | refine agz ?_ _ | refine ahz ?_ | refine acz ?_ _)); exact BK357.out) hb); have n4_ := Aside0.mk (aSz bl_ hb); clear BK351; clear BK352; clear BK357; clear HB; have HO360 := n0_; have BK351 := n1_; have BK352 := n2_; have BK357 := n3_; have HB := n4_; clear n0_ n1_ n2_ n3_ n4_; (try clear hb); (try clear hb2); (try clear hk); (try clear hi); (try clear ho0)))
  (try simp only [Act.put, List.setIfInBounds_toArray, List.set_cons_zero, List.set_cons_succ])
  go_cut [40] (fun v40 wc => ∃ (kq : Nat) (x40_10 : Bool), v40 = .bool x40_10 ∧ Aside0 (adz.j0 kq t353 t358 x40_10 a2_0 a2_1 a2_2 a2_3 t354 t355 t356 = some r) ∧ Aside0 (kq ≤ k) ∧ Aside0 (Kd.N (Kd.slice 5 (Kd.int .u8)) 34 wc w.heap.size (fun k_ => k_ ≠ gb351 ∧ k_ ≠ gb352 ∧ k_ ≠ gb357) v359 t358) ∧ Aside0 (wc.heap[gb351]? = some (.cells #[.int .u8 a0_0, .int .u8 a0_1, .int .u8 a0_2] 42 (0, 0))) ∧ Aside0 (wc.heap[gb352]? = some (.cells #[.int .u8 a2_0, .int .u8 a2_1, .int .u8 a2_2, .int .u8 a2_3] 43 (0, 0))) ∧ Aside0 (wc.heap[gb357]? = some (.cells #[.int .i64 t354, .int .i64 t355, .int .i64 t356] 23 (0, 0))) ∧ Aside0 (Below w.heap.size w wc))
  case first =>
   have H := HC11.out
   clear HC11
   by_cases c23 : t361 = 0
   ·rw [if_pos c23] at H
    have c23b0 : (t361 == 0) = true := beq_iff_eq.mpr c23
    have c23b1 : (t361 != 0) = false := bne_eq_false_iff_eq.mpr c23
    clear c23
    (first | rw [c23b0] | (simp only [i64_w, i32_w]; rw [c23b0]) | skip)
    have H' := Aside0.mk H
    clear H
    obtain ⟨Ao24, co24, eo24⟩ := Kd.cAz HO360.out
    subst eo24
    have hnb25 := NB357_351.out
    have hnc25 := NB351_357.out
    have hnb26 := NB357_352.out
    have hnc26 := NB352_357.out
    have hcz27_0 : w22.cell? ⟨gb357, 0, none⟩ = some (.int .i64 t354) := (aaz BK357.out 0).trans rfl
    have hcz27_1 : w22.cell? ⟨gb357, 1, none⟩ = some (.int .i64 t355) := (aaz BK357.out 1).trans rfl
    have hcz27_2 : w22.cell? ⟨gb357, 2, none⟩ = some (.int .i64 t356) := (aaz BK357.out 2).trans rfl
    have hfz27_0 := aqz BK357.out 0
    have hfz27_1 := aqz BK357.out 1
    have hfz27_2 := aqz BK357.out 2
    go_wp2
    go_meet
    case rel => exact ⟨_, (((t358.length : Int) != (wrap64 (t355 + t356)))), sd_, H', ⟨by first | omega | exact Nat.le_refl _⟩, ⟨by (with_reducible repeat (first | apply Kd.bcz | apply Kd.bdz | apply Kd.a9z)); exact HO360.out⟩, ⟨bk_⟩, ⟨bk_⟩, ⟨bk_⟩, ⟨bl_⟩⟩
   ·rw [if_neg c23] at H
    have c23b0 : (t361 == 0) = false := beq_eq_false_iff_ne.mpr c23
    have c23b1 : (t361 != 0) = true := bne_iff_ne.mpr c23
    (first | rw [c23b0] | (simp only [i64_w, i32_w]; rw [c23b0]) | skip)
    have H' := Aside0.mk H
    clear H
    go_wp2
    go_meet
    case rel => exact ⟨_, (true), sd_, H', ⟨by first | omega | exact Nat.le_refl _⟩, ⟨by (with_reducible repeat (first | apply Kd.bcz | apply Kd.bdz | apply Kd.a9z)); exact HO360.out⟩, ⟨bk_⟩, ⟨bk_⟩, ⟨bk_⟩, ⟨bl_⟩⟩
  case rest =>
   clear HC11
   try clear c1
   try clear c2
   try clear p2
   try clear c3
   try clear c5
   try clear c5b0
   try clear c5b1
   try clear p6
   try clear c14
   try clear c15
   try clear c19
   try clear c20
   try clear c23
   try clear c23b0
   try clear c23b1
   try clear c24
   try clear c25
   try clear c26
   try clear hcz16_0
   try clear hcz16_1
   try clear hcz16_2
   try clear hcz21_0
   try clear hcz21_1
   try clear hcz21_2
   try clear hcz27_0
   try clear hcz27_1
   try clear hcz27_2
   try clear hfz16_0
   try clear hfz16_1
   try clear hfz16_2
   try clear hfz21_0
   try clear hfz21_1
   try clear hfz21_2
   try clear hfz27_0
   try clear hfz27_1
   try clear hfz27_2
   obtain ⟨kq, x40_10, rfl, HA, HJ10, HO_9, BK351, BK352, BK357, HB⟩ := hcut
   cases kq with
   | zero => exact absurd HA.out (by simp [adz.j0])
   | succ kj10 =>
    have H := HA.out
    clear HA
    simp only [adz.j0] at H
    by_cases c28 : x40_10 = true
    ·subst c28
     have H1 : (some false) = some r := by rw [if_pos rfl] at H; exact H
     clear H
     have H := H1
     clear H1
     exact absurd ((Option.some.inj H).trans hr_.out) (by simp)
    ·replace c28 := Bool.eq_false_iff.mpr c28
     subst c28
     have H1 : (if (wrap64 (t356 + 1)) = 0 then (none) else ((afz.f kj10 (t358.length : Int) (Int.tmod (wrap64 (a2_0)) (wrap64 (t356 + 1))) (wrap64 (a2_1)) (wrap64 (a2_2))).bind fun t362 => ((anz.f kj10 t358 t362 a2_3).bind fun t365 => ((aGz.f kj10 t354 t355 t356 t365 t362).bind fun bt368 => ((anz.f kj10 t358 t362 a2_3).bind fun t372 => ((akz.f kj10 t354 t355 t356 t372 t362).bind fun bt375 => (if t353 = true then (if bt368.2 = 0 then (if bt375.2 = 0 then ((ajz.f kj10 bt368.1 t358).bind fun t379 => (if t379 = true then (if 0 ≤ t355 then (if t355 ≤ (t358.length : Int) then ((ajz.f kj10 bt375.1 (t358.take (t355 : Int).toNat)).bind fun t385 => (some t385)) else (none)) else (none)) else (some false))) else (some false)) else (some false)) else (some false)))))))) = some r := by rw [if_neg (show ¬ (false = true) by decide)] at H; exact H
     clear H
     have H := H1
     clear H1
     by_cases c29 : (wrap64 (t356 + 1)) = 0
     ·rw [if_pos c29] at H
      exact absurd H (by simp)
     ·rw [if_neg c29] at H
      have c29b0 : ((wrap64 (t356 + 1)) == 0) = false := beq_eq_false_iff_ne.mpr c29
      have c29b1 : ((wrap64 (t356 + 1)) != 0) = true := bne_iff_ne.mpr c29
      replace H := Option.bind_eq_some_iff.mp H
      obtain ⟨t362, A300, H⟩ := H
      replace H : ((anz.f kj10 t358 t362 a2_3).bind fun t365 => ((aGz.f kj10 t354 t355 t356 t365 t362).bind fun bt368 => ((anz.f kj10 t358 t362 a2_3).bind fun t372 => ((akz.f kj10 t354 t355 t356 t372 t362).bind fun bt375 => (if t353 = true then (if bt368.2 = 0 then (if bt375.2 = 0 then ((ajz.f kj10 bt368.1 t358).bind fun t379 => (if t379 = true then (if 0 ≤ t355 then (if t355 ≤ (t358.length : Int) then ((ajz.f kj10 bt375.1 (t358.take (t355 : Int).toNat)).bind fun t385 => (some t385)) else (none)) else (none)) else (some false))) else (some false)) else (some false)) else (some false)))))) = some r := H
      have A30 := Aside0.mk A300
      clear A300
      replace H := Option.bind_eq_some_iff.mp H
      obtain ⟨t365, A310, H⟩ := H
      replace H : ((aGz.f kj10 t354 t355 t356 t365 t362).bind fun bt368 => ((anz.f kj10 t358 t362 a2_3).bind fun t372 => ((akz.f kj10 t354 t355 t356 t372 t362).bind fun bt375 => (if t353 = true then (if bt368.2 = 0 then (if bt375.2 = 0 then ((ajz.f kj10 bt368.1 t358).bind fun t379 => (if t379 = true then (if 0 ≤ t355 then (if t355 ≤ (t358.length : Int) then ((ajz.f kj10 bt375.1 (t358.take (t355 : Int).toNat)).bind fun t385 => (some t385)) else (none)) else (none)) else (some false))) else (some false)) else (some false)) else (some false))))) = some r := H
      have A31 := Aside0.mk A310
      clear A310
      replace H := Option.bind_eq_some_iff.mp H
      obtain ⟨⟨t368, t371⟩, A320, H⟩ := H
      replace H : ((anz.f kj10 t358 t362 a2_3).bind fun t372 => ((akz.f kj10 t354 t355 t356 t372 t362).bind fun bt375 => (if t353 = true then (if t371 = 0 then (if bt375.2 = 0 then ((ajz.f kj10 t368 t358).bind fun t379 => (if t379 = true then (if 0 ≤ t355 then (if t355 ≤ (t358.length : Int) then ((ajz.f kj10 bt375.1 (t358.take (t355 : Int).toNat)).bind fun t385 => (some t385)) else (none)) else (none)) else (some false))) else (some false)) else (some false)) else (some false)))) = some r := H
      have A32 := Aside0.mk A320
      clear A320
      replace H := Option.bind_eq_some_iff.mp H
      obtain ⟨t372, A330, H⟩ := H
      replace H : ((akz.f kj10 t354 t355 t356 t372 t362).bind fun bt375 => (if t353 = true then (if t371 = 0 then (if bt375.2 = 0 then ((ajz.f kj10 t368 t358).bind fun t379 => (if t379 = true then (if 0 ≤ t355 then (if t355 ≤ (t358.length : Int) then ((ajz.f kj10 bt375.1 (t358.take (t355 : Int).toNat)).bind fun t385 => (some t385)) else (none)) else (none)) else (some false))) else (some false)) else (some false)) else (some false))) = some r := H
      have A33 := Aside0.mk A330
      clear A330
      replace H := Option.bind_eq_some_iff.mp H
      obtain ⟨⟨t375, t378⟩, A340, H⟩ := H
      replace H : (if t353 = true then (if t371 = 0 then (if t378 = 0 then ((ajz.f kj10 t368 t358).bind fun t379 => (if t379 = true then (if 0 ≤ t355 then (if t355 ≤ (t358.length : Int) then ((ajz.f kj10 t375 (t358.take (t355 : Int).toNat)).bind fun t385 => (some t385)) else (none)) else (none)) else (some false))) else (some false)) else (some false)) else (some false)) = some r := H
      have A34 := Aside0.mk A340
      clear A340
      by_cases c35 : t353 = true
      ·subst c35
       have H1 : (if t371 = 0 then (if t378 = 0 then ((ajz.f kj10 t368 t358).bind fun t379 => (if t379 = true then (if 0 ≤ t355 then (if t355 ≤ (t358.length : Int) then ((ajz.f kj10 t375 (t358.take (t355 : Int).toNat)).bind fun t385 => (some t385)) else (none)) else (none)) else (some false))) else (some false)) else (some false)) = some r := by rw [if_pos rfl] at H; exact H
       clear H
       have H := H1
       clear H1
       by_cases c36 : t371 = 0
       ·rw [if_pos c36] at H
        have c36b0 : (t371 == 0) = true := beq_iff_eq.mpr c36
        have c36b1 : (t371 != 0) = false := bne_eq_false_iff_eq.mpr c36
        clear c36
        by_cases c37 : t378 = 0
        ·rw [if_pos c37] at H
         have c37b0 : (t378 == 0) = true := beq_iff_eq.mpr c37
         have c37b1 : (t378 != 0) = false := bne_eq_false_iff_eq.mpr c37
         clear c37
         replace H := Option.bind_eq_some_iff.mp H
         obtain ⟨t379, A380, H⟩ := H
         replace H : (if t379 = true then (if 0 ≤ t355 then (if t355 ≤ (t358.length : Int) then ((ajz.f kj10 t375 (t358.take (t355 : Int).toNat)).bind fun t385 => (some t385)) else (none)) else (none)) else (some false)) = some r := H
         have A38 := Aside0.mk A380
         clear A380
         by_cases c39 : t379 = true
         ·subst c39
          have H1 : (if 0 ≤ t355 then (if t355 ≤ (t358.length : Int) then ((ajz.f kj10 t375 (t358.take (t355 : Int).toNat)).bind fun t385 => (some t385)) else (none)) else (none)) = some r := by rw [if_pos rfl] at H; exact H
          clear H
          have H := H1
          clear H1
          by_cases c40 : 0 ≤ t355
          ·rw [if_pos c40] at H
           have c40b0 := eq_true c40
           have c40b1 : decide (0 ≤ t355) = true := decide_eq_true c40
           clear c40
           by_cases c41 : t355 ≤ (t358.length : Int)
           ·rw [if_pos c41] at H
            have c41b0 := eq_true c41
            have c41b1 : decide (t355 ≤ (t358.length : Int)) = true := decide_eq_true c41
            clear c41
            obtain ⟨y380, hy380⟩ : ∃ y_ : List (List Int), y_ = (t358.take (t355 : Int).toNat) := ⟨_, rfl⟩
            replace H : ((ajz.f kj10 t375 y380).bind fun t385 => (some t385)) = some r := by first | (rw [hy380]; with_reducible exact H) | (have H2_ := (Option.bind_some _ _).symm.trans H; rw [hy380]; with_reducible exact H2_) | (have H2_ := (Option.bind_some _ _).symm.trans H; with_reducible exact H2_) | with_reducible exact H | (rw [hy380]; exact H) | exact H
            have Ny380 := Aside0.mk hy380
            clear hy380
            replace H := Option.bind_eq_some_iff.mp H
            obtain ⟨t385, A420, H⟩ := H
            replace H : (some t385) = some r := H
            have A42 := Aside0.mk A420
            clear A420
            obtain rfl := Option.some.inj H
            try go_wp2
            have n0_ := Aside0.mk (Kd.a9z HO_9.out)
            have n1_ := Aside0.mk (ahz BK351.out)
            have n2_ := Aside0.mk (ahz BK352.out)
            have n3_ := Aside0.mk (ahz BK357.out)
            have n4_ := Aside0.mk (bPz HB.out)
            clear HO_9
            clear BK351
            clear BK352
            clear BK357
            clear HB
            have HO_9 := n0_
            have BK351 := n1_
            have BK352 := n2_
            have BK357 := n3_
            have HB := n4_
            clear n0_ n1_ n2_ n3_ n4_
            obtain ⟨Ao44, co44, eo44⟩ := Kd.cAz HO_9.out
            (first | subst eo44 | (injection eo44 with f1_ f2_ f3_; have f4_ := f1_.symm; have f5_ := f3_.symm; clear f1_ f2_ f3_; subst f4_; subst f5_))
            refine bez (n := 17) (S := fun w' => w'.cell? ⟨gb352, 0, none⟩ = some (.int .u8 a2_0) ∧ w'.cell? ⟨gb352, 1, none⟩ = some (.int .u8 a2_1) ∧ w'.cell? ⟨gb352, 2, none⟩ = some (.int .u8 a2_2) ∧ w'.cell? ⟨gb352, 3, none⟩ = some (.int .u8 a2_3) ∧ w'.cell? ⟨gb357, 0, none⟩ = some (.int .i64 t354) ∧ w'.cell? ⟨gb357, 1, none⟩ = some (.int .i64 t355) ∧ w'.cell? ⟨gb357, 2, none⟩ = some (.int .i64 t356)) (ds := []) (bA 17 0) kr_ rfl rfl ⟨(aaz BK352.out 0).trans rfl, (aaz BK352.out 1).trans rfl, (aaz BK352.out 2).trans rfl, (aaz BK352.out 3).trans rfl, (aaz BK357.out 0).trans rfl, (aaz BK357.out 1).trans rfl, (aaz BK357.out 2).trans rfl⟩ (fun hHeld => ?_); refine with_tabW adz.tab8 adz.bits8 (fun HT_ HW_ => ?_)
            generalize wc.drew = w43 at HO_9 BK351 BK352 BK357 HB hHeld ⊢
            refine pv_ 0 41 1 HT_ ?_
            refine pv_ 1 42 3 HT_ ?_
            refine pv_ 2 43 7 HT_ ?_
            refine pv_ 5 46 39 HT_ ?_
            refine pv_ 9 50 551 HT_ ?_
            refine pv_ 12 53 4647 HT_ ?_
            refine tw_ 3 44 4655 HT_ HW_ hHeld ?_
            refine pv_ 4 45 4671 HT_ ?_
            refine tw_ 6 47 4735 HT_ HW_ hHeld ?_
            refine pv_ 7 48 4863 HT_ ?_
            refine pv_ 8 49 5119 HT_ ?_
            refine tw_ 10 51 6143 HT_ HW_ hHeld ?_
            refine pv_ 11 52 8191 HT_ ?_
            refine tw_ 13 54 16383 HT_ HW_ hHeld ?_
            refine pv_ 14 55 32767 HT_ ?_
            refine one_ (i := 15) (N := some 56) (bA 17 65535) rfl rfl (one_of HT_.out kr_) (by decide) (fun K hK => ?_)
            refine goes_ Tryz.func32 kr_ rfl #[.int .i64 (t358.length : Int), .int .i64 (Int.tmod (wrap64 (a2_0)) (wrap64 (t356 + 1))), .int .i64 (wrap64 (a2_1)), .int .i64 (wrap64 (a2_2))] (by rfl) rfl rfl ar_ ?_
            with_reducible refine (afz.calls kj10 (t358.length : Int) (Int.tmod (wrap64 (a2_0)) (wrap64 (t356 + 1))) (wrap64 (a2_1)) (wrap64 (a2_2)) t362 _ A30.out).mono ?_
            rintro e w45 ⟨v363, rfl, ho0, hb⟩
            refine ⟨_, rfl, ?_⟩
            have n0_ := Aside0.mk (Kd.bOz (by (with_reducible repeat (first | apply Kd.bcz | apply Kd.bdz | apply Kd.a9z)); exact HO_9.out) (Kd.b4z ho0) hb)
            have n1_ := Aside0.mk (Kd.buz ho0 (aNz bl_))
            have n2_ := Aside0.mk (aez (g := gb351) (o := .cells #[.int .u8 a0_0, .int .u8 a0_1, .int .u8 a0_2] 42 (0, 0)) bk_ hb)
            have n3_ := Aside0.mk (aez (g := gb352) (o := .cells #[.int .u8 a2_0, .int .u8 a2_1, .int .u8 a2_2, .int .u8 a2_3] 43 (0, 0)) bk_ hb)
            have n4_ := Aside0.mk (aez (g := gb357) (o := .cells #[.int .i64 t354, .int .i64 t355, .int .i64 t356] 23 (0, 0)) bk_ hb)
            have n5_ := Aside0.mk (aSz bl_ hb)
            clear HO_9
            clear BK351
            clear BK352
            clear BK357
            clear HB
            have HO_9 := n0_
            have HO364 := n1_
            have BK351 := n2_
            have BK352 := n3_
            have BK357 := n4_
            have HB := n5_
            clear n0_ n1_ n2_ n3_ n4_ n5_
            (try clear hb)
            (try clear hb2)
            (try clear hk)
            (try clear hi)
            (try clear ho0)
            refine hK.out _ _ ⟨(aaz BK352.out 0).trans rfl, (aaz BK352.out 1).trans rfl, (aaz BK352.out 2).trans rfl, (aaz BK352.out 3).trans rfl, (aaz BK357.out 0).trans rfl, (aaz BK357.out 1).trans rfl, (aaz BK357.out 2).trans rfl⟩ (fun hHeld => ?_)
            clear hK K
            refine norm_ (a' := ?_) ?_ ?_
            rotate_left
            ·show Act.put _ (some 56) _ = _
             simp only [Act.put, List.setIfInBounds_toArray, List.set_cons_zero, List.set_cons_succ, i64_w, i32_w]
             rfl
            refine pv_ 16 11 131071 HT_ ?_
            refine done_ (done_of HT_.out kr_) ?_
            try go_wp2
            have n0_ := Aside0.mk (Kd.a9z HO_9.out)
            have n1_ := Aside0.mk (Kd.bRz HO364.out)
            have n2_ := Aside0.mk (ahz BK351.out)
            have n3_ := Aside0.mk (ahz BK352.out)
            have n4_ := Aside0.mk (ahz BK357.out)
            have n5_ := Aside0.mk (bPz HB.out)
            clear HO_9
            clear HO364
            clear BK351
            clear BK352
            clear BK357
            clear HB
            have HO_9 := n0_
            have HO364 := n1_
            have BK351 := n2_
            have BK352 := n3_
            have BK357 := n4_
            have HB := n5_
            clear n0_ n1_ n2_ n3_ n4_ n5_
            obtain ⟨Ao47, co47, eo47⟩ := Kd.aPz HO364.out
            (first | subst eo47 | (injection eo47 with f1_ f2_ f3_; have f4_ := f1_.symm; have f5_ := f3_.symm; clear f1_ f2_ f3_; subst f4_; subst f5_))
            refine bez (n := 13) (S := fun w' => w'.cell? ⟨gb357, 0, none⟩ = some (.int .i64 t354) ∧ w'.cell? ⟨gb357, 1, none⟩ = some (.int .i64 t355) ∧ w'.cell? ⟨gb357, 2, none⟩ = some (.int .i64 t356) ∧ w'.cell? ⟨gb352, 0, none⟩ = some (.int .u8 a2_0) ∧ w'.cell? ⟨gb352, 1, none⟩ = some (.int .u8 a2_1) ∧ w'.cell? ⟨gb352, 2, none⟩ = some (.int .u8 a2_2) ∧ w'.cell? ⟨gb352, 3, none⟩ = some (.int .u8 a2_3)) (ds := []) (bA 13 0) kr_ rfl rfl ⟨(aaz BK357.out 0).trans rfl, (aaz BK357.out 1).trans rfl, (aaz BK357.out 2).trans rfl, (aaz BK352.out 0).trans rfl, (aaz BK352.out 1).trans rfl, (aaz BK352.out 2).trans rfl, (aaz BK352.out 3).trans rfl⟩ (fun hHeld => ?_); refine with_tabW adz.tab9 adz.bits9 (fun HT_ HW_ => ?_)
            generalize w45.drew = w46 at HO_9 HO364 BK351 BK352 BK357 HB hHeld ⊢
            refine pv_ 1 59 2 HT_ ?_
            refine pv_ 2 60 6 HT_ ?_
            refine pv_ 3 61 14 HT_ ?_
            refine pv_ 6 64 78 HT_ ?_
            refine tw_ 0 58 79 HT_ HW_ hHeld ?_
            refine tw_ 4 62 95 HT_ HW_ hHeld ?_
            refine one_ (i := 5) (N := some 63) (bA 13 127) rfl rfl (one_of HT_.out kr_) (by decide) (fun K hK => ?_)
            refine goes_ Tryz.func43 kr_ rfl #[.slice Ao44 t358.length co44, .slice Ao47 t362.length co47, .int .u8 a2_3] (by rfl) rfl rfl ar_ ?_
            with_reducible refine (anz.calls kj10 (fun k_ => ((k_ ≠ gb351 ∧ (k_ ≠ gb352 ∧ k_ ≠ gb357)) ∧ some k_ ≠ (.slice Ao47 t362.length co47 : Value).ownBlock)) _ _ t358 _ _ t362 a2_3 t365 _ ?side1 ?side2 ?side3 A31.out).mono ?_
            (case side1 => exact Kd.N_V (HO_9.out))
            (case side2 => repeat (first | exact (Kd.aKz HO364.out).2.2 | (with_reducible refine Kd.caz ?_ _) | (with_reducible refine Kd.bhz ?_ _) | (with_reducible refine Kd.cjz ?_)))
            (case side3 => exact (Kd.aKz HO364.out).2.1)
            rintro e w48 ⟨v366, rfl, ho0, hb⟩
            refine ⟨_, rfl, ?_⟩
            have n0_ := Aside0.mk (Kd.bOz (by (with_reducible repeat (first | apply Kd.bcz | apply Kd.bdz | apply Kd.a9z)); exact HO_9.out) (Kd.N_base ho0) hb)
            have n1_ := Aside0.mk (Kd.b0z (by (with_reducible repeat (first | apply Kd.bvz | apply Kd.bJz | apply Kd.bRz)); exact HO364.out) hb)
            have n2_ := Aside0.mk (Kd.czz (Kd.ckz (ok' := fun k_ => some k_ ≠ (.slice Ao47 t362.length co47 : Value).ownBlock ∧ k_ ≠ gb351 ∧ k_ ≠ gb352 ∧ k_ ≠ gb357) ho0 (fun k_ hk_ => ⟨Or.elim hk_ (fun hs_ => hs_.2) (fun hn_ => (Kd.fresh' (Kd.R_lt (by (with_reducible repeat (first | apply Kd.bvz | apply Kd.bJz | apply Kd.bRz)); exact HO364.out)) k_ hn_)), Or.elim hk_ (fun hs_ => hs_.1.1) (fun hn_ => (Kd.freshB (g := gb351) (o := .cells #[.int .u8 a0_0, .int .u8 a0_1, .int .u8 a0_2] 42 (0, 0)) bk_ k_ hn_)), Or.elim hk_ (fun hs_ => hs_.1.2.1) (fun hn_ => (Kd.freshB (g := gb352) (o := .cells #[.int .u8 a2_0, .int .u8 a2_1, .int .u8 a2_2, .int .u8 a2_3] 43 (0, 0)) bk_ k_ hn_)), Or.elim hk_ (fun hs_ => hs_.1.2.2) (fun hn_ => (Kd.freshB (g := gb357) (o := .cells #[.int .i64 t354, .int .i64 t355, .int .i64 t356] 23 (0, 0)) bk_ k_ hn_))⟩)) (aNz bl_))
            have n3_ := Aside0.mk (aez (g := gb351) (o := .cells #[.int .u8 a0_0, .int .u8 a0_1, .int .u8 a0_2] 42 (0, 0)) bk_ hb)
            have n4_ := Aside0.mk (aez (g := gb352) (o := .cells #[.int .u8 a2_0, .int .u8 a2_1, .int .u8 a2_2, .int .u8 a2_3] 43 (0, 0)) bk_ hb)
            have n5_ := Aside0.mk (aez (g := gb357) (o := .cells #[.int .i64 t354, .int .i64 t355, .int .i64 t356] 23 (0, 0)) bk_ hb)
            have n6_ := Aside0.mk (aSz bl_ hb)
            clear HO_9
            clear HO364
            clear BK351
            clear BK352
            clear BK357
            clear HB
            have HO_9 := n0_
            have HO364 := n1_
            have HO367 := n2_
            have BK351 := n3_
            have BK352 := n4_
            have BK357 := n5_
            have HB := n6_
            clear n0_ n1_ n2_ n3_ n4_ n5_ n6_
            (try clear hb)
            (try clear hb2)
            (try clear hk)
            (try clear hi)
            (try clear ho0)
            obtain ⟨Ao49, co49, eo49⟩ := Kd.cAz HO367.out
            (first | subst eo49 | (injection eo49 with f1_ f2_ f3_; have f4_ := f1_.symm; have f5_ := f3_.symm; clear f1_ f2_ f3_; subst f4_; subst f5_))
            refine hK.out _ _ ⟨(aaz BK357.out 0).trans rfl, (aaz BK357.out 1).trans rfl, (aaz BK357.out 2).trans rfl, (aaz BK352.out 0).trans rfl, (aaz BK352.out 1).trans rfl, (aaz BK352.out 2).trans rfl, (aaz BK352.out 3).trans rfl⟩ (fun hHeld => ?_)
            clear hK K
            refine norm_ (a' := ?_) ?_ ?_
            rotate_left
            ·show Act.put _ (some 63) _ = _
             simp only [Act.put, List.setIfInBounds_toArray, List.set_cons_zero, List.set_cons_succ, i64_w, i32_w]
             rfl
            refine one_ (i := 7) (N := some 65) (bA 13 255) rfl rfl (one_of HT_.out kr_) (by decide) (fun K hK => ?_)
            refine goes_ Tryz.func29 kr_ rfl #[.agg #[.int .i64 t354, .int .i64 t355, .int .i64 t356], .slice Ao49 t365.length co49, .slice Ao47 t362.length co47] (by rfl) rfl rfl ar_ ?_
            with_reducible refine (aGz.calls kj10 t354 t355 t356 _ _ t365 _ _ t362 t368 t371 _ ?side1 ?side2 ?side3 ?side4 A32.out).mono ?_
            (case side1 => repeat (first | exact (Kd.bmz HO367.out).2.2 | (with_reducible refine Kd.caz ?_ _) | (with_reducible refine Kd.bhz ?_ _) | (with_reducible refine Kd.cjz ?_)))
            (case side2 => exact (Kd.bmz HO367.out).2.1)
            (case side3 => repeat (first | exact (Kd.aKz HO364.out).2.2 | (with_reducible refine Kd.caz ?_ _) | (with_reducible refine Kd.bhz ?_ _) | (with_reducible refine Kd.cjz ?_)))
            (case side4 => exact (Kd.aKz HO364.out).2.1)
            rintro e w50 ⟨v369, rfl, ho0, hb⟩
            refine ⟨_, rfl, ?_⟩
            have n0_ := Aside0.mk (Kd.bOz (by (with_reducible repeat (first | apply Kd.bcz | apply Kd.bdz | apply Kd.a9z)); exact HO_9.out) (Kd.cNz ho0) hb)
            have n1_ := Aside0.mk (Kd.b0z (by (with_reducible repeat (first | apply Kd.bvz | apply Kd.bJz | apply Kd.bRz)); exact HO364.out) hb)
            have n2_ := Aside0.mk (Kd.bOz (by (with_reducible repeat (first | apply Kd.bcz | apply Kd.bdz | apply Kd.a9z)); exact HO367.out) (Kd.cNz ho0) hb)
            have n3_ := Aside0.mk (Kd.czz (Kd.ckz (ok' := fun k_ => some k_ ≠ (.slice Ao44 t358.length co44 : Value).ownBlock ∧ some k_ ≠ (.slice Ao47 t362.length co47 : Value).ownBlock ∧ some k_ ≠ (.slice Ao49 t365.length co49 : Value).ownBlock ∧ k_ ≠ gb351 ∧ k_ ≠ gb352 ∧ k_ ≠ gb357) (Kd.S_N (Kd.a4z ho0)) (fun k_ hk_ => ⟨(Kd.fresh' (Kd.N_lt (by (with_reducible repeat (first | apply Kd.bcz | apply Kd.bdz | apply Kd.a9z)); exact HO_9.out)) k_ hk_.2.1), (Kd.fresh' (Kd.R_lt (by (with_reducible repeat (first | apply Kd.bvz | apply Kd.bJz | apply Kd.bRz)); exact HO364.out)) k_ hk_.2.1), (Kd.fresh' (Kd.N_lt (by (with_reducible repeat (first | apply Kd.bcz | apply Kd.bdz | apply Kd.a9z)); exact HO367.out)) k_ hk_.2.1), (Kd.freshB (g := gb351) (o := .cells #[.int .u8 a0_0, .int .u8 a0_1, .int .u8 a0_2] 42 (0, 0)) bk_ k_ hk_.2.1), (Kd.freshB (g := gb352) (o := .cells #[.int .u8 a2_0, .int .u8 a2_1, .int .u8 a2_2, .int .u8 a2_3] 43 (0, 0)) bk_ k_ hk_.2.1), (Kd.freshB (g := gb357) (o := .cells #[.int .i64 t354, .int .i64 t355, .int .i64 t356] 23 (0, 0)) bk_ k_ hk_.2.1)⟩)) (aNz bl_))
            have n4_ := Aside0.mk (aez (g := gb351) (o := .cells #[.int .u8 a0_0, .int .u8 a0_1, .int .u8 a0_2] 42 (0, 0)) bk_ hb)
            have n5_ := Aside0.mk (aez (g := gb352) (o := .cells #[.int .u8 a2_0, .int .u8 a2_1, .int .u8 a2_2, .int .u8 a2_3] 43 (0, 0)) bk_ hb)
            have n6_ := Aside0.mk (aez (g := gb357) (o := .cells #[.int .i64 t354, .int .i64 t355, .int .i64 t356] 23 (0, 0)) bk_ hb)
            have n7_ := Aside0.mk (aSz bl_ hb)
            clear HO_9
            clear HO364
            clear HO367
            clear BK351
            clear BK352
            clear BK357
            clear HB
            have HO_9 := n0_
            have HO364 := n1_
            have HO367 := n2_
            have HO370 := n3_
            have BK351 := n4_
            have BK352 := n5_
            have BK357 := n6_
            have HB := n7_
            clear n0_ n1_ n2_ n3_ n4_ n5_ n6_ n7_
            (try clear hb)
            (try clear hb2)
            (try clear hk)
            (try clear hi)
            (try clear ho0)
            refine hK.out _ _ ⟨(aaz BK357.out 0).trans rfl, (aaz BK357.out 1).trans rfl, (aaz BK357.out 2).trans rfl, (aaz BK352.out 0).trans rfl, (aaz BK352.out 1).trans rfl, (aaz BK352.out 2).trans rfl, (aaz BK352.out 3).trans rfl⟩ (fun hHeld => ?_)
            clear hK K
            refine norm_ (a' := ?_) ?_ ?_
            rotate_left
            ·show Act.put _ (some 65) _ = _
             simp only [Act.put, List.setIfInBounds_toArray, List.set_cons_zero, List.set_cons_succ, i64_w, i32_w]
             rfl
            refine pv_ 8 57 511 HT_ ?_
            refine pv_ 9 66 1023 HT_ ?_
            refine pv_ 10 67 2047 HT_ ?_
            refine pv_ 11 12 4095 HT_ ?_
            refine pv_ 12 13 8191 HT_ ?_
            refine done_ (done_of HT_.out kr_) ?_
            try go_wp2
            have n0_ := Aside0.mk (Kd.a9z HO_9.out)
            have n1_ := Aside0.mk (Kd.bRz HO364.out)
            have n2_ := Aside0.mk (Kd.a9z HO367.out)
            have n3_ := Aside0.mk (Kd.a9z HO370.out)
            have n4_ := Aside0.mk (ahz BK351.out)
            have n5_ := Aside0.mk (ahz BK352.out)
            have n6_ := Aside0.mk (ahz BK357.out)
            have n7_ := Aside0.mk (bPz HB.out)
            clear HO_9
            clear HO364
            clear HO367
            clear HO370
            clear BK351
            clear BK352
            clear BK357
            clear HB
            have HO_9 := n0_
            have HO364 := n1_
            have HO367 := n2_
            have HO370 := n3_
            have BK351 := n4_
            have BK352 := n5_
            have BK357 := n6_
            have HB := n7_
            clear n0_ n1_ n2_ n3_ n4_ n5_ n6_ n7_
            refine bez (n := 13) (S := fun w' => w'.cell? ⟨gb357, 0, none⟩ = some (.int .i64 t354) ∧ w'.cell? ⟨gb357, 1, none⟩ = some (.int .i64 t355) ∧ w'.cell? ⟨gb357, 2, none⟩ = some (.int .i64 t356) ∧ w'.cell? ⟨gb352, 0, none⟩ = some (.int .u8 a2_0) ∧ w'.cell? ⟨gb352, 1, none⟩ = some (.int .u8 a2_1) ∧ w'.cell? ⟨gb352, 2, none⟩ = some (.int .u8 a2_2) ∧ w'.cell? ⟨gb352, 3, none⟩ = some (.int .u8 a2_3)) (ds := []) (bA 13 0) kr_ rfl rfl ⟨(aaz BK357.out 0).trans rfl, (aaz BK357.out 1).trans rfl, (aaz BK357.out 2).trans rfl, (aaz BK352.out 0).trans rfl, (aaz BK352.out 1).trans rfl, (aaz BK352.out 2).trans rfl, (aaz BK352.out 3).trans rfl⟩ (fun hHeld => ?_); refine with_tabW adz.tab10 adz.bits10 (fun HT_ HW_ => ?_)
            generalize w50.drew = w51 at HO_9 HO364 HO367 HO370 BK351 BK352 BK357 HB hHeld ⊢
            refine pv_ 1 70 2 HT_ ?_
            refine pv_ 2 71 6 HT_ ?_
            refine pv_ 3 72 14 HT_ ?_
            refine pv_ 6 75 78 HT_ ?_
            refine tw_ 0 69 79 HT_ HW_ hHeld ?_
            refine tw_ 4 73 95 HT_ HW_ hHeld ?_
            refine one_ (i := 5) (N := some 74) (bA 13 127) rfl rfl (one_of HT_.out kr_) (by decide) (fun K hK => ?_)
            refine goes_ Tryz.func43 kr_ rfl #[.slice Ao44 t358.length co44, .slice Ao47 t362.length co47, .int .u8 a2_3] (by rfl) rfl rfl ar_ ?_
            with_reducible refine (anz.calls kj10 (fun k_ => ((((k_ ≠ gb351 ∧ (k_ ≠ gb352 ∧ k_ ≠ gb357)) ∧ some k_ ≠ (.slice Ao47 t362.length co47 : Value).ownBlock) ∧ some k_ ≠ (.slice Ao49 t365.length co49 : Value).ownBlock) ∧ some k_ ≠ (v369 : Value).ownBlock)) _ _ t358 _ _ t362 a2_3 t372 _ ?side1 ?side2 ?side3 A33.out).mono ?_
            (case side1 => exact Kd.N_V (HO_9.out))
            (case side2 => repeat (first | exact (Kd.aKz HO364.out).2.2 | (with_reducible refine Kd.caz ?_ _) | (with_reducible refine Kd.bhz ?_ _) | (with_reducible refine Kd.cjz ?_)))
            (case side3 => exact (Kd.aKz HO364.out).2.1)
            rintro e w52 ⟨v373, rfl, ho0, hb⟩
            refine ⟨_, rfl, ?_⟩
            have n0_ := Aside0.mk (Kd.bOz (by (with_reducible repeat (first | apply Kd.bcz | apply Kd.bdz | apply Kd.a9z)); exact HO_9.out) (Kd.N_base ho0) hb)
            have n1_ := Aside0.mk (Kd.b0z (by (with_reducible repeat (first | apply Kd.bvz | apply Kd.bJz | apply Kd.bRz)); exact HO364.out) hb)
            have n2_ := Aside0.mk (Kd.bOz (by (with_reducible repeat (first | apply Kd.bcz | apply Kd.bdz | apply Kd.a9z)); exact HO367.out) (Kd.N_base ho0) hb)
            have n3_ := Aside0.mk (Kd.bOz (by (with_reducible repeat (first | apply Kd.bcz | apply Kd.bdz | apply Kd.a9z)); exact HO370.out) (Kd.N_base ho0) hb)
            have n4_ := Aside0.mk (Kd.czz (Kd.ckz (ok' := fun k_ => some k_ ≠ (.slice Ao47 t362.length co47 : Value).ownBlock ∧ some k_ ≠ (.slice Ao49 t365.length co49 : Value).ownBlock ∧ some k_ ≠ (v369 : Value).ownBlock ∧ k_ ≠ gb351 ∧ k_ ≠ gb352 ∧ k_ ≠ gb357) ho0 (fun k_ hk_ => ⟨Or.elim hk_ (fun hs_ => hs_.1.1.2) (fun hn_ => (Kd.fresh' (Kd.R_lt (by (with_reducible repeat (first | apply Kd.bvz | apply Kd.bJz | apply Kd.bRz)); exact HO364.out)) k_ hn_)), Or.elim hk_ (fun hs_ => hs_.1.2) (fun hn_ => (Kd.fresh' (Kd.N_lt (by (with_reducible repeat (first | apply Kd.bcz | apply Kd.bdz | apply Kd.a9z)); exact HO367.out)) k_ hn_)), Or.elim hk_ (fun hs_ => hs_.2) (fun hn_ => (Kd.fresh' (Kd.N_lt (by (with_reducible repeat (first | apply Kd.bcz | apply Kd.bdz | apply Kd.a9z)); exact HO370.out)) k_ hn_)), Or.elim hk_ (fun hs_ => hs_.1.1.1.1) (fun hn_ => (Kd.freshB (g := gb351) (o := .cells #[.int .u8 a0_0, .int .u8 a0_1, .int .u8 a0_2] 42 (0, 0)) bk_ k_ hn_)), Or.elim hk_ (fun hs_ => hs_.1.1.1.2.1) (fun hn_ => (Kd.freshB (g := gb352) (o := .cells #[.int .u8 a2_0, .int .u8 a2_1, .int .u8 a2_2, .int .u8 a2_3] 43 (0, 0)) bk_ k_ hn_)), Or.elim hk_ (fun hs_ => hs_.1.1.1.2.2) (fun hn_ => (Kd.freshB (g := gb357) (o := .cells #[.int .i64 t354, .int .i64 t355, .int .i64 t356] 23 (0, 0)) bk_ k_ hn_))⟩)) (aNz bl_))
            have n5_ := Aside0.mk (aez (g := gb351) (o := .cells #[.int .u8 a0_0, .int .u8 a0_1, .int .u8 a0_2] 42 (0, 0)) bk_ hb)
            have n6_ := Aside0.mk (aez (g := gb352) (o := .cells #[.int .u8 a2_0, .int .u8 a2_1, .int .u8 a2_2, .int .u8 a2_3] 43 (0, 0)) bk_ hb)
            have n7_ := Aside0.mk (aez (g := gb357) (o := .cells #[.int .i64 t354, .int .i64 t355, .int .i64 t356] 23 (0, 0)) bk_ hb)
            have n8_ := Aside0.mk (aSz bl_ hb)
            clear HO_9
            clear HO364
            clear HO367
            clear HO370
            clear BK351
            clear BK352
            clear BK357
            clear HB
            have HO_9 := n0_
            have HO364 := n1_
            have HO367 := n2_
            have HO370 := n3_
            have HO374 := n4_
            have BK351 := n5_
            have BK352 := n6_
            have BK357 := n7_
            have HB := n8_
            clear n0_ n1_ n2_ n3_ n4_ n5_ n6_ n7_ n8_
            (try clear hb)
            (try clear hb2)
            (try clear hk)
            (try clear hi)
            (try clear ho0)
            obtain ⟨Ao53, co53, eo53⟩ := Kd.cAz HO374.out
            (first | subst eo53 | (injection eo53 with f1_ f2_ f3_; have f4_ := f1_.symm; have f5_ := f3_.symm; clear f1_ f2_ f3_; subst f4_; subst f5_))
            refine hK.out _ _ ⟨(aaz BK357.out 0).trans rfl, (aaz BK357.out 1).trans rfl, (aaz BK357.out 2).trans rfl, (aaz BK352.out 0).trans rfl, (aaz BK352.out 1).trans rfl, (aaz BK352.out 2).trans rfl, (aaz BK352.out 3).trans rfl⟩ (fun hHeld => ?_)
            clear hK K
            refine norm_ (a' := ?_) ?_ ?_
            rotate_left
            ·show Act.put _ (some 74) _ = _
             simp only [Act.put, List.setIfInBounds_toArray, List.set_cons_zero, List.set_cons_succ, i64_w, i32_w]
             rfl
            refine one_ (i := 7) (N := some 76) (bA 13 255) rfl rfl (one_of HT_.out kr_) (by decide) (fun K hK => ?_)
            refine goes_ Tryz.func27 kr_ rfl #[.agg #[.int .i64 t354, .int .i64 t355, .int .i64 t356], .slice Ao53 t372.length co53, .slice Ao47 t362.length co47] (by rfl) rfl rfl ar_ ?_
            with_reducible refine (akz.calls kj10 t354 t355 t356 _ _ t372 _ _ t362 t375 t378 _ ?side1 ?side2 ?side3 ?side4 A34.out).mono ?_
            (case side1 => repeat (first | exact (Kd.bmz HO374.out).2.2 | (with_reducible refine Kd.caz ?_ _) | (with_reducible refine Kd.bhz ?_ _) | (with_reducible refine Kd.cjz ?_)))
            (case side2 => exact (Kd.bmz HO374.out).2.1)
            (case side3 => repeat (first | exact (Kd.aKz HO364.out).2.2 | (with_reducible refine Kd.caz ?_ _) | (with_reducible refine Kd.bhz ?_ _) | (with_reducible refine Kd.cjz ?_)))
            (case side4 => exact (Kd.aKz HO364.out).2.1)
            rintro e w54 ⟨v376, rfl, ho0, hb⟩
            refine ⟨_, rfl, ?_⟩
            have n0_ := Aside0.mk (Kd.bOz (by (with_reducible repeat (first | apply Kd.bcz | apply Kd.bdz | apply Kd.a9z)); exact HO_9.out) (Kd.cNz ho0) hb)
            have n1_ := Aside0.mk (Kd.b0z (by (with_reducible repeat (first | apply Kd.bvz | apply Kd.bJz | apply Kd.bRz)); exact HO364.out) hb)
            have n2_ := Aside0.mk (Kd.bOz (by (with_reducible repeat (first | apply Kd.bcz | apply Kd.bdz | apply Kd.a9z)); exact HO367.out) (Kd.cNz ho0) hb)
            have n3_ := Aside0.mk (Kd.bOz (by (with_reducible repeat (first | apply Kd.bcz | apply Kd.bdz | apply Kd.a9z)); exact HO370.out) (Kd.cNz ho0) hb)
            have n4_ := Aside0.mk (Kd.bOz (by (with_reducible repeat (first | apply Kd.bcz | apply Kd.bdz | apply Kd.a9z)); exact HO374.out) (Kd.cNz ho0) hb)
            have n5_ := Aside0.mk (Kd.czz (Kd.ckz (ok' := fun k_ => some k_ ≠ (.slice Ao44 t358.length co44 : Value).ownBlock ∧ some k_ ≠ (.slice Ao47 t362.length co47 : Value).ownBlock ∧ some k_ ≠ (.slice Ao49 t365.length co49 : Value).ownBlock ∧ some k_ ≠ (v369 : Value).ownBlock ∧ some k_ ≠ (.slice Ao53 t372.length co53 : Value).ownBlock ∧ k_ ≠ gb351 ∧ k_ ≠ gb352 ∧ k_ ≠ gb357) (Kd.S_N (Kd.a4z ho0)) (fun k_ hk_ => ⟨(Kd.fresh' (Kd.N_lt (by (with_reducible repeat (first | apply Kd.bcz | apply Kd.bdz | apply Kd.a9z)); exact HO_9.out)) k_ hk_.2.1), (Kd.fresh' (Kd.R_lt (by (with_reducible repeat (first | apply Kd.bvz | apply Kd.bJz | apply Kd.bRz)); exact HO364.out)) k_ hk_.2.1), (Kd.fresh' (Kd.N_lt (by (with_reducible repeat (first | apply Kd.bcz | apply Kd.bdz | apply Kd.a9z)); exact HO367.out)) k_ hk_.2.1), (Kd.fresh' (Kd.N_lt (by (with_reducible repeat (first | apply Kd.bcz | apply Kd.bdz | apply Kd.a9z)); exact HO370.out)) k_ hk_.2.1), (Kd.fresh' (Kd.N_lt (by (with_reducible repeat (first | apply Kd.bcz | apply Kd.bdz | apply Kd.a9z)); exact HO374.out)) k_ hk_.2.1), (Kd.freshB (g := gb351) (o := .cells #[.int .u8 a0_0, .int .u8 a0_1, .int .u8 a0_2] 42 (0, 0)) bk_ k_ hk_.2.1), (Kd.freshB (g := gb352) (o := .cells #[.int .u8 a2_0, .int .u8 a2_1, .int .u8 a2_2, .int .u8 a2_3] 43 (0, 0)) bk_ k_ hk_.2.1), (Kd.freshB (g := gb357) (o := .cells #[.int .i64 t354, .int .i64 t355, .int .i64 t356] 23 (0, 0)) bk_ k_ hk_.2.1)⟩)) (aNz bl_))
            have n6_ := Aside0.mk (aez (g := gb351) (o := .cells #[.int .u8 a0_0, .int .u8 a0_1, .int .u8 a0_2] 42 (0, 0)) bk_ hb)
            have n7_ := Aside0.mk (aez (g := gb352) (o := .cells #[.int .u8 a2_0, .int .u8 a2_1, .int .u8 a2_2, .int .u8 a2_3] 43 (0, 0)) bk_ hb)
            have n8_ := Aside0.mk (aez (g := gb357) (o := .cells #[.int .i64 t354, .int .i64 t355, .int .i64 t356] 23 (0, 0)) bk_ hb)
            have n9_ := Aside0.mk (aSz bl_ hb)
            clear HO_9
            clear HO364
            clear HO367
            clear HO370
            clear HO374
            clear BK351
            clear BK352
            clear BK357
            clear HB
            have HO_9 := n0_
            have HO364 := n1_
            have HO367 := n2_
            have HO370 := n3_
            have HO374 := n4_
            have HO377 := n5_
            have BK351 := n6_
            have BK352 := n7_
            have BK357 := n8_
            have HB := n9_
            clear n0_ n1_ n2_ n3_ n4_ n5_ n6_ n7_ n8_ n9_
            (try clear hb)
            (try clear hb2)
            (try clear hk)
            (try clear hi)
            (try clear ho0)
            refine hK.out _ _ ⟨(aaz BK357.out 0).trans rfl, (aaz BK357.out 1).trans rfl, (aaz BK357.out 2).trans rfl, (aaz BK352.out 0).trans rfl, (aaz BK352.out 1).trans rfl, (aaz BK352.out 2).trans rfl, (aaz BK352.out 3).trans rfl⟩ (fun hHeld => ?_)
            clear hK K
            refine norm_ (a' := ?_) ?_ ?_
            rotate_left
            ·show Act.put _ (some 76) _ = _
             simp only [Act.put, List.setIfInBounds_toArray, List.set_cons_zero, List.set_cons_succ, i64_w, i32_w]
             rfl
            refine pv_ 8 68 511 HT_ ?_
            refine pv_ 9 77 1023 HT_ ?_
            refine pv_ 10 78 2047 HT_ ?_
            refine pv_ 11 14 4095 HT_ ?_
            refine pv_ 12 15 8191 HT_ ?_
            refine done_ (done_of HT_.out kr_) ?_
            obtain ⟨Ao55, co55, eo55⟩ := Kd.cAz HO370.out
            subst eo55
            try go_wp2_with (first | (go_at_call 21; (with_reducible refine (ajz.calls kj10 _ _ t368 _ _ t358 true _ ?side1 ?side2 ?side3 ?side4 A38.out).mono ?_); (case side1 => repeat (first | exact (Kd.bmz HO370.out).2.2 | (with_reducible refine Kd.caz ?_ _) | (with_reducible refine Kd.bhz ?_ _) | (with_reducible refine Kd.cjz ?_))); (case side2 => exact (Kd.bmz HO370.out).2.1); (case side3 => repeat (first | exact (Kd.bmz HO_9.out).2.2 | (with_reducible refine Kd.caz ?_ _) | (with_reducible refine Kd.bhz ?_ _) | (with_reducible refine Kd.cjz ?_))); (case side4 => exact (Kd.bmz HO_9.out).2.1); rintro e w' ⟨rfl, ⟨nd, rfl⟩⟩; have hnb56 := NB357_351.out; have hnc56 := NB351_357.out; have hnb57 := NB357_352.out; have hnc57 := NB352_357.out; have hcz58_0 : w54.cell? ⟨gb357, 0, none⟩ = some (.int .i64 t354) := (aaz BK357.out 0).trans rfl; have hcz58_1 : w54.cell? ⟨gb357, 1, none⟩ = some (.int .i64 t355) := (aaz BK357.out 1).trans rfl; have hcz58_2 : w54.cell? ⟨gb357, 2, none⟩ = some (.int .i64 t356) := (aaz BK357.out 2).trans rfl; have hfz58_0 := aqz BK357.out 0; have hfz58_1 := aqz BK357.out 1; have hfz58_2 := aqz BK357.out 2; have q59 : (t355 : Int) ≤ ((t358.length : Int) : Int) := of_decide_eq_true as_; obtain ⟨i059, hi059, _, hsz59, _⟩ := info_parts info34; have hroom59 : t358.length ≤ co44 := (Kd.bmz HO_9.out).2.1; have hC59 : Kd.F (Kd.slice 5 (Kd.int .u8)) _ _ Ao44 t358.length t358 := (Kd.V_at (base := w.heap.size) (Kd.N_V HO_9.out)).2.2; have hcut59 := cut_to (P := Tryz.prog) 24 34 .i64 Tryz.underlying24 hi059 Ao44 t358.length co44 t355 (of_decide_eq_true as_) q59 hroom59; have hr59 := Kd.F_take (m := (t355 : Int).toNat) hC59 (by omega); have hy59 : y380.length = (t355 : Int).toNat := (by rw [Ny380.out, List.length_take]; omega); rw [← Ny380.out] at hr59; rw [← hy59] at hcut59; have HO384 := Aside0.mk (show Kd.V (Kd.slice 5 (Kd.int .u8)) 34 _ w.heap.size _ (.slice Ao44 y380.length co44) y380 from Kd.V_mk (by omega) hr59); have HC384 := Aside0.mk (show y380.length ≤ co44 from by omega); clear hr59 hC59 hroom59 hi059 hsz59; have KY59 := Aside0.mk hy59; clear hy59; replace q59 := eq_true q59; obtain ⟨Ao60, co60, eo60⟩ := Kd.cAz HO377.out; subst eo60) | (go_at_call 21; (with_reducible refine (ajz.calls kj10 _ _ t375 _ _ y380 t385 _ ?side1 ?side2 ?side3 ?side4 A42.out).mono ?_); (case side1 => repeat (first | exact (Kd.bmz HO377.out).2.2 | (with_reducible refine Kd.caz ?_ _) | (with_reducible refine Kd.bhz ?_ _) | (with_reducible refine Kd.cjz ?_))); (case side2 => exact (Kd.bmz HO377.out).2.1); (case side3 => repeat (first | exact (Kd.duz HO384.out).2.2 | (with_reducible refine Kd.caz ?_ _) | (with_reducible refine Kd.bhz ?_ _) | (with_reducible refine Kd.cjz ?_))); (case side4 => exact (Kd.duz HO384.out).2.1); rintro e w' ⟨rfl, ⟨nd, rfl⟩⟩))
            go_ret
            exact ⟨er_, bl_⟩
           ·rw [if_neg c41] at H
            exact absurd H (by simp)
          ·rw [if_neg c40] at H
           exact absurd H (by simp)
         ·replace c39 := Bool.eq_false_iff.mpr c39
          subst c39
          have H1 : (some false) = some r := by rw [if_neg (show ¬ (false = true) by decide)] at H; exact H
          clear H
          have H := H1
          clear H1
          exact absurd ((Option.some.inj H).trans hr_.out) (by simp)
        ·rw [if_neg c37] at H
         have c37b0 : (t378 == 0) = false := beq_eq_false_iff_ne.mpr c37
         have c37b1 : (t378 != 0) = true := bne_iff_ne.mpr c37
         exact absurd ((Option.some.inj H).trans hr_.out) (by simp)
       ·rw [if_neg c36] at H
        have c36b0 : (t371 == 0) = false := beq_eq_false_iff_ne.mpr c36
        have c36b1 : (t371 != 0) = true := bne_iff_ne.mpr c36
        exact absurd ((Option.some.inj H).trans hr_.out) (by simp)
      ·replace c35 := Bool.eq_false_iff.mpr c35
       subst c35
       have H1 : (some false) = some r := by rw [if_neg (show ¬ (false = true) by decide)] at H; exact H
       clear H
       have H := H1
       clear H1
       exact absurd ((Option.some.inj H).trans hr_.out) (by simp)
def xorB (a b : List Int) : List Int := List.zipWith (fun x y => Go.bits .xor .u8 x y) a b
def sumB (L : Nat) (rows : List (List Int)) : List Int := rows.foldl xorB (List.replicate L 0)
theorem daz (a b : List Int) (h : a.length = b.length) : (xorB a b).length = b.length := by simp [xorB]; omega
theorem eyz {L : Nat} : ∀ (rows : List (List Int)) (acc : List Int), acc.length = L → (∀ r, r ∈ rows → r.length = L) → (rows.foldl xorB acc).length = L
 | [], acc, h, _ => h
 | r :: rs, acc, h, hr => by
  have h1 := hr r (List.mem_cons_self ..)
  exact eyz rs (xorB acc r) (by rw [daz _ _ (h.trans h1.symm)]; exact h1) (fun q hq => hr q (List.mem_cons_of_mem _ hq))
theorem sumB_length {L : Nat} (rows : List (List Int)) (h : ∀ r, r ∈ rows → r.length = L) : (sumB L rows).length = L := eyz rows _ (by simp) h
theorem bHz {j : Nat} (h : j ≤ 1000000000) : wrap64 ((j : Int) + 1) = ((j + 1 : Nat) : Int) := by unfold wrap64; omega
theorem sum_l1 (rows : List (List Int)) (n : Int) (i : Nat) (acc row : List Int) (r : List Int × Int) (K : Nat) (hl : acc.length = row.length) (hL : row.length ≤ 100000000) (hi : i ≤ 100000000)
  (h : arz.l0 K (xorB acc row) rows n ((i + 1 : Nat) : Int) = some r) :
  ∀ (d j : Nat), j + d = row.length → arz.l1 (K + d + 1) ((xorB acc row).take j ++ acc.drop j) rows n (i : Int) row (row.length : Int) (j : Int) = some r
 | 0, j, hj => by
  obtain rfl : j = row.length := by omega
  unfold arz.l1
  rw [if_neg (by omega), bHz (by omega), List.take_of_length_le (by rw [daz _ _ hl]; exact Nat.le_refl _), List.drop_of_length_le (by omega), List.append_nil]
  exact h
 | d + 1, j, hj => by
  have hlx := daz _ _ hl
  have hjl : j < row.length := by omega
  have hlen : ((xorB acc row).take j ++ acc.drop j).length = row.length := by simp [hlx]; omega
  unfold arz.l1
  rw [if_pos (by omega), if_pos (by omega), if_pos (by omega), if_pos (by omega), bHz (by omega)]
  have hset : ((xorB acc row).take j ++ acc.drop j).set (j : Int).toNat (Go.bits .xor .u8 (rd ((xorB acc row).take j ++ acc.drop j) (j : Int)) (rd row (j : Int))) = (xorB acc row).take (j + 1) ++ acc.drop (j + 1) := by
   have e1 : rd ((xorB acc row).take j ++ acc.drop j) (j : Int) = acc.getD j 0 := by
    unfold rd
    rw [Int.toNat_natCast, List.getD_eq_getElem?_getD, List.getElem?_append_right (by simp [hlx]; omega), List.getElem?_drop]
    simp [hlx, Nat.min_eq_left (Nat.le_of_lt hjl)]
   have e2 : rd row (j : Int) = row.getD j 0 := by unfold rd; rw [Int.toNat_natCast]
   rw [e1, e2, Int.toNat_natCast]
   apply List.ext_getElem?
   intro q
   have hja : j < acc.length := by omega
   have hx : (xorB acc row)[j]? = some (Go.bits .xor .u8 (acc.getD j 0) (row.getD j 0)) := by
    unfold xorB
    rw [List.getElem?_zipWith, List.getElem?_eq_getElem hja, List.getElem?_eq_getElem hjl]
    simp [List.getD_eq_getElem?_getD, List.getElem?_eq_getElem hja, List.getElem?_eq_getElem hjl]
   rw [List.getElem?_set]
   by_cases hq : j = q
   ·subst hq
    rw [if_pos rfl, if_pos (by omega), List.getElem?_append_left (by simp [hlx]; omega), List.getElem?_take, if_pos (by omega), hx]
   ·rw [if_neg hq]
    by_cases hlt : q < j
    ·rw [List.getElem?_append_left (by simp [hlx]; omega), List.getElem?_append_left (by simp [hlx]; omega), List.getElem?_take, List.getElem?_take, if_pos hlt, if_pos (by omega)]
    ·rw [List.getElem?_append_right (by simp [hlx]; omega), List.getElem?_append_right (by simp [hlx]; omega), List.getElem?_drop, List.getElem?_drop]
     congr 1
     simp [hlx, Nat.min_eq_left (Nat.le_of_lt hjl), Nat.min_eq_left (show j + 1 ≤ row.length from hjl)]
     omega
  rw [hset]
  have := sum_l1 rows n i acc row r K hl hL hi h d (j + 1) (by omega)
  rw [show K + (d + 1) = K + d + 1 by omega]
  exact this
theorem sum_l0 (rows : List (List Int)) (L : Nat) (hL : L ≤ 100000000) (hn : rows.length ≤ 1000) (hr : ∀ r, r ∈ rows → r.length = L) :
  ∀ (m i : Nat) (acc : List Int), i + m = rows.length → acc.length = L → ∃ K, arz.l0 K acc rows (rows.length : Int) (i : Int) = some ((rows.drop i).foldl xorB acc, 0)
 | 0, i, acc, hi, ha => by
  refine ⟨1, ?_⟩
  unfold arz.l0
  rw [if_neg (by omega), List.drop_of_length_le (by omega)]; rfl
 | m + 1, i, acc, hi, ha => by
  obtain ⟨row, hrow⟩ : ∃ r, rows[i]? = some r := ⟨_, List.getElem?_eq_getElem (by omega)⟩
  have hrl := hr row (List.mem_of_getElem? hrow)
  have hd : rows.drop i = row :: rows.drop (i + 1) := by
   obtain ⟨h1, h2⟩ := List.getElem?_eq_some_iff.1 hrow
   rw [List.drop_eq_getElem_cons h1, h2]
  obtain ⟨K, hK⟩ := sum_l0 rows L hL hn hr m (i + 1) (xorB acc row) (by omega) (by rw [daz _ _ (by omega)]; exact hrl)
  have h1 := sum_l1 rows (rows.length : Int) i acc row _ K (by omega) (by omega) (by omega) hK row.length 0 (by omega)
  refine ⟨K + row.length + 1 + 1, ?_⟩
  have hrd : rd_L1 rows (i : Int) = row := by unfold rd_L1; rw [Int.toNat_natCast, List.getD_eq_getElem?_getD, hrow]; rfl
  unfold arz.l0
  rw [if_pos (by omega), if_pos (by omega), if_pos (by omega), hrd, if_pos (by omega), hd]
  simpa using h1
theorem sum_ev (rows : List (List Int)) (L : Nat) (hL : L ≤ 100000000) (hn : rows.length ≤ 1000) (h0 : 0 < rows.length) (hr : ∀ r, r ∈ rows → r.length = L) : Ev (fun k => arz.f k rows) (sumB L rows, 0) := by
 obtain ⟨row, hrow⟩ : ∃ r, rows[0]? = some r := ⟨_, List.getElem?_eq_getElem h0⟩
 have hrl := hr row (List.mem_of_getElem? hrow)
 have hrd : rd_L1 rows 0 = row := by unfold rd_L1; rw [show (0 : Int).toNat = 0 from rfl, List.getD_eq_getElem?_getD, hrow]; rfl
 obtain ⟨K, hK⟩ := sum_l0 rows L hL hn hr rows.length 0 (List.replicate L 0) (by omega) (by simp)
 refine Ev.of (fun k => arz.mono _ k) (k := K) ?_
 unfold arz.f
 rw [if_pos (by omega), hrd, if_pos (by omega), if_pos (by omega), hrl, Int.toNat_natCast]
 simpa [sumB] using hK
theorem byteF_len (wb a : Int) : (byteF wb a).length = wN wb := by unfold byteF wN; split <;> rfl
theorem bytesF_len (wb : Int) : ∀ l : List Int, (bytesF wb l).length = l.length * wN wb
 | [] => by simp [bytesF]
 | a :: l => by
  have h1 := bytesF_len wb l
  have h3 : bytesF wb (a :: l) = byteF wb a ++ bytesF wb l := by unfold bytesF; rw [List.flatMap_cons]
  rw [h3, List.length_append, byteF_len, h1, List.length_cons, Nat.add_mul]
  omega
theorem mulB_len (wb c : Int) (b : List Int) (h : b.length % wN wb = 0) : (mulB wb c b).length = b.length := by
 unfold mulB
 rw [bytesF_len, List.length_map, eqz]
 exact Nat.div_mul_cancel (Nat.dvd_of_mod_eq_zero h)
def dotV (L : Nat) (wb : Int) (c : List Int) (rows : List (List Int)) : List Int := sumB L (List.zipWith (mulB wb) c rows)
theorem zip_len {wb : Int} {L : Nat} (hd : L % wN wb = 0) {c : List Int} {rows : List (List Int)} (hr : ∀ r, r ∈ rows → r.length = L) : ∀ r, r ∈ List.zipWith (mulB wb) c rows → r.length = L := by
 intro r h
 obtain ⟨i, hi, rfl⟩ := List.mem_iff_getElem.1 h
 rw [List.getElem_zipWith]
 rw [mulB_len _ _ _ (by rw [hr _ (List.getElem_mem ..)]; exact hd)]
 exact hr _ (List.getElem_mem ..)
theorem dotV_len {wb : Int} {L : Nat} (hd : L % wN wb = 0) {c : List Int} {rows : List (List Int)} (hr : ∀ r, r ∈ rows → r.length = L) : (dotV L wb c rows).length = L := sumB_length _ (zip_len hd hr)
theorem dot_ev (wb : Int) (L : Nat) (hL : L ≤ 1000000) (hd : L % wN wb = 0) (c : List Int) (rows : List (List Int)) (h0 : 0 < rows.length) (hc : c.length = rows.length) (hn : rows.length ≤ 1000) (hr : ∀ r, r ∈ rows → r.length = L) : Ev (fun k => dotB k wb c rows) (dotV L wb c rows, 0) := by
 have hall : rows.all (evB wb) = true := by
  rw [List.all_eq_true]
  intro r h
  unfold evB
  rw [hr r h, hd]; rfl
 refine Ev.congr (f := fun k => arz.f k (List.zipWith (mulB wb) c rows)) (fun k => by unfold dotB; rw [if_pos hall]) ?_
 exact sum_ev _ L (by omega) (by simp; omega) (by simp; omega) (zip_len hd hr)
theorem parl_ev (wb : Int) (L : Nat) (hL : L ≤ 1000000) (hd : L % wN wb = 0) (data : List (List Int)) (h0 : 0 < data.length) (hn : data.length ≤ 1000) (hr : ∀ r, r ∈ data → r.length = L) :
  ∀ (rs acc : List (List Int)), (∀ r, r ∈ rs → r.length = data.length) → Ev (fun k => amz.l k wb data rs acc) (acc ++ rs.map (fun c => dotV L wb c data), 0)
 | [], acc, _ => by
  simp only [amz.l, List.map_nil, List.append_nil]
  exact Ev.now _
 | row :: rs, acc, hc => by
  have h1 := dot_ev wb L hL hd row data h0 (hc row (List.mem_cons_self ..)) hn hr
  have h2 := parl_ev wb L hL hd data h0 hn hr rs (acc ++ [dotV L wb row data]) (fun r h => hc r (List.mem_cons_of_mem _ h))
  simp only [amz.l]
  refine Ev.bind h1 ?_
  rw [List.append_assoc] at h2
  simpa using h2
def parV (L : Nat) (p : Int) (K M : Nat) (data : List (List Int)) : List (List Int) := (parM p K M).map fun c => dotV L (pbits p) c data
theorem par_ev (p : Int) (K M L : Nat) (data : List (List Int)) (hmay : aiz.f p (K : Int) (M : Int) = some true) (hK : data.length = K) (hL : L ≤ 1000000) (hd : L % wN (pbits p) = 0) (hr : ∀ r, r ∈ data → r.length = L) :
  Ev (fun k => amz.f k p (K : Int) (M : Int) data) (parV L p K M data, 0) := by
 obtain ⟨p1, p2, k1, k2, m1, m2⟩ := boz hmay
 have hgd := cxz p K M (by omega) (by omega) (by omega) (by omega)
 have hs : amz.small data = true := by
  simp only [amz.small, Bool.and_eq_true, decide_eq_true_eq, List.all_eq_true]
  exact ⟨by omega, fun r h => by rw [hr r h]; exact hL⟩
 have h1 := parl_ev (pbits p) L hL hd data (by omega) (by omega) hr (parM p K M) [] (fun r h => by rw [(hgd.1 r h).1, hK])
 refine Ev.congr (fun k => ?_) h1
 unfold amz.f
 rw [hmay, Option.bind_some, if_pos rfl, if_pos (by omega), if_pos hs, Int.toNat_natCast, Int.toNat_natCast]
def unitN (p : Int) : Nat := if p ≤ 2 then 8 else if p ≤ 4 then 16 else 1
def aheadN (p : Int) : Nat := if p = 5 then 4 else 0
theorem rule_eq {p : Int} (h1 : 1 ≤ p) (h2 : p ≤ 6) (k m : Int) : bQz.f p k m = some ((unitN p : Int), (aheadN p : Int)) := by
 have : p = 1 ∨ p = 2 ∨ p = 3 ∨ p = 4 ∨ p = 5 ∨ p = 6 := by omega
 rcases this with rfl | rfl | rfl | rfl | rfl | rfl <;> rfl
theorem w64 {x : Int} (h0 : -1 ≤ x) (h1 : x < 1000000000) : wrap64 x = x := by unfold wrap64; omega
theorem dAz (p : Int) : 1 ≤ unitN p ∧ unitN p ≤ 16 := by unfold unitN; split <;> (try split) <;> omega
theorem dPz (p : Int) : aheadN p ≤ 4 := by unfold aheadN; split <;> omega
def sizeN (p : Int) (K n : Nat) : Nat := unitN p * max ((n + aheadN p + unitN p * K - 1) / (unitN p * K)) 1
theorem sizeN_room (p : Int) (K n : Nat) (hK : 1 ≤ K) : n + aheadN p ≤ sizeN p K n * K := by
 have hu := (dAz p).1
 unfold sizeN
 generalize n + aheadN p = t
 obtain ⟨s, hs⟩ : ∃ s, unitN p * K = s := ⟨_, rfl⟩
 have hs1 : 1 ≤ s := by rw [← hs]; exact Nat.mul_pos hu hK
 rw [hs]
 have h1 := Nat.div_add_mod (t + s - 1) s
 have h2 := Nat.mod_lt (t + s - 1) (show 0 < s from hs1)
 have h3 : s * ((t + s - 1) / s) ≤ s * max ((t + s - 1) / s) 1 := Nat.mul_le_mul_left _ (Nat.le_max_left _ _)
 have h4 : unitN p * max ((t + s - 1) / s) 1 * K = s * max ((t + s - 1) / s) 1 := by rw [← hs, Nat.mul_assoc, Nat.mul_comm (max _ _) K, ← Nat.mul_assoc]
 rw [h4]
 omega
theorem sizeN_pos (p : Int) (K n : Nat) : 1 ≤ sizeN p K n := by
 unfold sizeN
 exact Nat.mul_pos (dAz p).1 (Nat.lt_of_lt_of_le Nat.one_pos (Nat.le_max_right _ _))
theorem ehz (p : Int) (K n : Nat) (hK : 1 ≤ K) (hK2 : K ≤ 8) (hn : n ≤ 4096) : sizeN p K n ≤ 80000 := by
 have hu := dAz p
 have ha := dPz p
 have h1 : (n + aheadN p + unitN p * K - 1) / (unitN p * K) ≤ 4300 := by
  have h2 : unitN p * K ≤ 16 * 8 := Nat.mul_le_mul hu.2 hK2
  exact Nat.le_trans (Nat.div_le_self _ _) (by omega)
 unfold sizeN
 exact Nat.le_trans (Nat.mul_le_mul hu.2 (show max ((n + aheadN p + unitN p * K - 1) / (unitN p * K)) 1 ≤ 4300 by omega)) (by omega)
theorem sizeN_even (p : Int) (K n : Nat) : sizeN p K n % wN (pbits p) = 0 := by
 unfold pbits
 by_cases h : p = 2
 ·subst h
  rw [if_pos rfl]
  show (8 * _) % 2 = 0
  omega
 ·rw [if_neg h]
  show _ % 1 = 0
  omega
theorem size_ev (p : Int) (K M n : Nat) (hmay : aiz.f p (K : Int) (M : Int) = some true) (hn : n ≤ 4096) : Ev (fun k => aEz.f k p (K : Int) (M : Int) (n : Int)) ((sizeN p K n : Int), 0) := by
 obtain ⟨p1, p2, k1, k2, m1, m2⟩ := boz hmay
 have hu := dAz p
 have ha := dPz p
 have hup : unitN p * K ≤ 16 * 8 := Nat.mul_le_mul hu.2 (by omega)
 have hu1 : 1 ≤ unitN p * K := Nat.mul_pos hu.1 (by omega)
 refine Ev.of (fun k => aEz.mono _ _ _ _ k) (k := 1) ?_
 unfold aEz.f
 rw [hmay, Option.bind_some, if_pos rfl, show decide ((n : Int) < 0) = false by simp]
 rw [aEz.j0]
 rw [if_neg (by decide), if_neg (by omega), rule_eq p1 p2, Option.bind_some]
 have w1 : wrap64 ((unitN p : Int) * (K : Int)) = ((unitN p * K : Nat) : Int) := by
  rw [← Int.natCast_mul]; unfold wrap64; omega
 dsimp only
 rw [w1, if_neg (by omega)]
 have w2 : wrap64 (wrap64 (wrap64 ((n : Int) + (aheadN p : Int)) + ((unitN p * K : Nat) : Int)) - 1) = ((n + aheadN p + unitN p * K - 1 : Nat) : Int) := by
  generalize unitN p * K = s at hup hu1 ⊢
  generalize aheadN p = a at ha ⊢
  rw [w64 (x := (n : Int) + (a : Int)) (by omega) (by omega), w64 (x := (n : Int) + (a : Int) + (s : Int)) (by omega) (by omega), w64 (x := (n : Int) + (a : Int) + (s : Int) - 1) (by omega) (by omega)]
  omega
 rw [w2, show Int.tdiv ((n + aheadN p + unitN p * K - 1 : Nat) : Int) ((unitN p * K : Nat) : Int) = (((n + aheadN p + unitN p * K - 1) / (unitN p * K) : Nat) : Int) from (Int.ofNat_tdiv _ _).symm]
 have hle := ehz p K n (by omega) (by omega) hn
 unfold sizeN at hle ⊢
 have hq : (n + aheadN p + unitN p * K - 1) / (unitN p * K) ≤ 4300 := Nat.le_trans (Nat.div_le_self _ _) (by omega)
 generalize (n + aheadN p + unitN p * K - 1) / (unitN p * K) = q at hle hq ⊢
 have w3 : mx (wrap64 (q : Int)) 1 = ((max q 1 : Nat) : Int) := by
  rw [show wrap64 (q : Int) = (q : Int) by unfold wrap64; omega]
  unfold mx
  split <;> omega
 rw [w3, ← Int.natCast_mul]
 rw [show wrap64 ((unitN p * max q 1 : Nat) : Int) = ((unitN p * max q 1 : Nat) : Int) by unfold wrap64; omega]
theorem fill_some (size K : Nat) (hs : 1 ≤ size) : ∀ (cs : List Int) (i : Nat) (rows : List (List Int)), rows.length = K → (∀ r, r ∈ rows → r.length = size) → i + cs.length ≤ size * K →
  ∃ r, aMz.fill size cs i rows = some r ∧ r.length = K ∧ (∀ x, x ∈ r → x.length = size) ∧ (∀ P : Int → Prop, (∀ c, c ∈ cs → P c) → (∀ x, x ∈ rows → ∀ c, c ∈ x → P c) → ∀ x, x ∈ r → ∀ c, c ∈ x → P c)
 | [], i, rows, h1, h2, h3 => ⟨rows, rfl, h1, h2, fun P _ h => h⟩
 | c :: cs, i, rows, h1, h2, h3 => by
  have hlt : i / size < rows.length := by
   rw [h1]
   exact (Nat.div_lt_iff_lt_mul hs).2 (by rw [Nat.mul_comm]; simp at h3; omega)
  obtain ⟨row, hrow⟩ : ∃ r, rows[i / size]? = some r := ⟨_, List.getElem?_eq_getElem hlt⟩
  have hm := List.mem_of_getElem? hrow
  have hd : rows.getD (i / size) [] = row := by rw [List.getD_eq_getElem?_getD, hrow]; rfl
  obtain ⟨r, q1, q2, q3, q4⟩ := fill_some size K hs cs (i + 1) (rows.set (i / size) (row.set (i % size) c)) (by rw [List.length_set]; exact h1) (fun x hx => by
   rcases List.mem_or_eq_of_mem_set hx with hx | rfl
   ·exact h2 x hx
   ·rw [List.length_set]; exact h2 row hm) (by simp at h3; omega)
  refine ⟨r, ?_, q2, q3, fun P hc hr => q4 P (fun c hh => hc c (List.mem_cons_of_mem _ hh)) (fun x hx => ?_)⟩
  ·simp only [aMz.fill]
   rw [if_pos hlt, hd]
   exact q1
  ·rcases List.mem_or_eq_of_mem_set hx with hx | rfl
   ·exact hr x hx
   ·intro y hy
    rcases List.mem_or_eq_of_mem_set hy with hy | rfl
    ·exact hr row hm y hy
    ·exact hc _ (List.mem_cons_self ..)
theorem laidL_len (p : Int) (b : List Int) : (laidL (aheadN p) b).length = b.length + aheadN p := by
 unfold laidL four4
 have := dPz p
 simp; omega
theorem laidL_byte (a : Nat) (b : List Int) (hb : ∀ x, x ∈ b → 0 ≤ x ∧ x ≤ 255) : ∀ x, x ∈ laidL a b → 0 ≤ x ∧ x ≤ 255 := by
 intro x hx
 unfold laidL at hx
 rcases List.mem_append.1 hx with h | h
 ·have h := List.mem_of_mem_drop h
  simp only [four4, List.mem_cons, List.mem_nil_iff, or_false] at h
  rcases h with rfl | rfl | rfl | rfl <;> omega
 ·exact hb x h
theorem split_ev (p : Int) (K M : Nat) (b : List Int) (hmay : aiz.f p (K : Int) (M : Int) = some true) (hn : b.length ≤ 4096) :
  ∃ data, data.length = K ∧ (∀ r, r ∈ data → r.length = sizeN p K b.length) ∧ ((∀ x, x ∈ b → 0 ≤ x ∧ x ≤ 255) → ∀ r, r ∈ data → ∀ x, x ∈ r → 0 ≤ x ∧ x ≤ 255) ∧ aMz.fill (sizeN p K b.length) (laidL (aheadN p) b) 0 (List.replicate K (List.replicate (sizeN p K b.length) 0)) = some data ∧ Ev (fun k => aMz.f k p (K : Int) (M : Int) b) (data, 0) := by
 obtain ⟨p1, p2, k1, k2, m1, m2⟩ := boz hmay
 have hz1 := sizeN_pos p K b.length
 have hz2 := ehz p K b.length (by omega) (by omega) hn
 have hz3 := sizeN_room p K b.length (by omega)
 obtain ⟨data, q1, q2, q3, q4⟩ := fill_some (sizeN p K b.length) K hz1 (laidL (aheadN p) b) 0 (List.replicate K (List.replicate (sizeN p K b.length) 0)) (by simp) (fun r hr => by rw [List.eq_of_mem_replicate hr]; simp) (by rw [laidL_len]; omega)
 refine ⟨data, q2, q3, fun hb => q4 _ (laidL_byte _ b hb) (fun x hx c hc => by
  rw [List.eq_of_mem_replicate hx] at hc
  rw [List.eq_of_mem_replicate hc]
  omega), q1, ?_⟩
 obtain ⟨k0, hk0⟩ := size_ev p K M b.length hmay hn
 refine ⟨k0, fun k hk => ?_⟩
 have h1 : aEz.f k p (K : Int) (M : Int) (b.length : Int) = some ((sizeN p K b.length : Int), 0) := hk0 k hk
 show aMz.f k p (K : Int) (M : Int) b = some (data, 0)
 unfold aMz.f
 rw [h1, Option.bind_some, if_pos rfl, if_pos (by omega), if_pos (by omega), if_pos (by show (1 : Int) ≤ _; omega), if_pos (by show _ ≤ (100000 : Int); omega), if_pos (by omega), rule_eq p1 p2, Option.bind_some, if_pos (by have := dPz p; dsimp only; unfold aheadN; split <;> omega), Int.toNat_natCast, Int.toNat_natCast, Int.toNat_natCast, q1]
 rfl
theorem c2z (L : Nat) (p : Int) (K M : Nat) (data : List (List Int)) (hmay : aiz.f p (K : Int) (M : Int) = some true) : (parV L p K M data).length = M := by
 obtain ⟨p1, p2, k1, k2, m1, m2⟩ := boz hmay
 unfold parV
 rw [List.length_map, (cxz p K M (by omega) (by omega) (by omega) (by omega)).2]
theorem some_ev (a b c : Int) (ha : 0 ≤ a ∧ a ≤ 255) (hb : 0 ≤ b ∧ b ≤ 255) (hc : 0 ≤ c ∧ c ≤ 255) : ∃ (p : Int) (K M : Nat), baz.f a b c = some (p, (K : Int), (M : Int)) ∧ aiz.f p (K : Int) (M : Int) = some true ∧ (aiz.f 1 (K : Int) (M : Int) = some true) ∧ aiz.f 3 (K : Int) (mn (M : Int) 3) = some true := by
 have e1 : wrap64 (1 + Int.tmod (wrap64 a) 6) = 1 + a % 6 := by
  rw [show wrap64 a = a by unfold wrap64; omega, Int.tmod_eq_emod_of_nonneg (by omega)]; unfold wrap64; omega
 have e2 : wrap64 (1 + Int.tmod (wrap64 b) 8) = 1 + b % 8 := by
  rw [show wrap64 b = b by unfold wrap64; omega, Int.tmod_eq_emod_of_nonneg (by omega)]; unfold wrap64; omega
 have e3 : ∀ m : Int, 1 ≤ m → m ≤ 4 → wrap64 (1 + Int.tmod (wrap64 c) m) = 1 + c % m := fun m h1 h2 => by
  rw [show wrap64 c = c by unfold wrap64; omega, Int.tmod_eq_emod_of_nonneg (by omega)]
  have := Int.emod_nonneg c (show m ≠ 0 by omega)
  have := Int.emod_lt_of_pos c (show 0 < m by omega)
  unfold wrap64; omega
 unfold baz.f
 rw [e1, e2]
 obtain ⟨p, hp⟩ : ∃ p, 1 + a % 6 = p := ⟨_, rfl⟩
 obtain ⟨K, hK⟩ : ∃ K : Nat, 1 + b % 8 = (K : Int) := ⟨(1 + b % 8).toNat, by omega⟩
 have hK1 : 1 ≤ (K : Int) ∧ (K : Int) ≤ 8 := by omega
 rw [hp, hK]
 have case4 : ∀ (s : ByteArray) (x y z : Int) (m : Int), (m = 3 ∨ m = 4) → bFz.f p = some (s, x, y, z, m, true) → (∀ k M : Int, 1 ≤ k → k ≤ 8 → 1 ≤ M → M ≤ m → aiz.f p k M = some true) → ∃ (p' : Int) (K' M : Nat), ((bFz.f p).bind fun bt620 => (if bt620.2.2.2.2.1 = 0 then none else some (p, (K : Int), wrap64 (1 + Int.tmod (wrap64 c) bt620.2.2.2.2.1)))) = some (p', (K' : Int), (M : Int)) ∧ aiz.f p' (K' : Int) (M : Int) = some true ∧ (aiz.f 1 (K' : Int) (M : Int) = some true) ∧ aiz.f 3 (K' : Int) (mn (M : Int) 3) = some true := by
  intro s x y z m hm hof hmy
  have hcm : 0 ≤ c % m ∧ c % m < m := ⟨Int.emod_nonneg c (by omega), Int.emod_lt_of_pos c (by omega)⟩
  obtain ⟨M, hM⟩ : ∃ M : Nat, 1 + c % m = (M : Int) := ⟨(1 + c % m).toNat, by omega⟩
  have hM1 : 1 ≤ (M : Int) ∧ (M : Int) ≤ m := by omega
  refine ⟨p, K, M, ?_, hmy _ _ hK1.1 hK1.2 hM1.1 hM1.2, ?_, ?_⟩
  ·rw [hof, Option.bind_some]
   dsimp only
   rw [if_neg (by omega), e3 m (by omega) (by omega), hM]
  ·show (if (K : Int) ≥ 1 then (if (K : Int) ≤ 8 then (if (M : Int) ≥ 1 then some (decide ((M : Int) ≤ 4)) else some false) else some false) else some false) = some true
   rw [if_pos hK1.1, if_pos hK1.2, if_pos hM1.1]
   simp; omega
  ·show (if (K : Int) ≥ 1 then (if (K : Int) ≤ 8 then (if mn (M : Int) 3 ≥ 1 then some (decide (mn (M : Int) 3 ≤ 3)) else some false) else some false) else some false) = some true
   have hmn : 1 ≤ mn (M : Int) 3 ∧ mn (M : Int) 3 ≤ 3 := by unfold mn; split <;> omega
   rw [if_pos hK1.1, if_pos hK1.2, if_pos hmn.1]
   simp; omega
 have hmy : ∀ m : Int, (∀ k M : Int, aiz.f p k M = (if k ≥ 1 then (if k ≤ 8 then (if M ≥ 1 then some (decide (M ≤ m)) else some false) else some false) else some false)) → ∀ k M : Int, 1 ≤ k → k ≤ 8 → 1 ≤ M → M ≤ m → aiz.f p k M = some true := fun m h k M h1 h2 h3 h4 => by
  rw [h, if_pos h1, if_pos h2, if_pos h3]
  simpa using h4
 have hpc : p = 1 ∨ p = 2 ∨ p = 3 ∨ p = 4 ∨ p = 5 ∨ p = 6 := by omega
 clear hp e1 e2
 rcases hpc with rfl | rfl | rfl | rfl | rfl | rfl
 ·exact case4 _ _ _ _ 4 (.inr rfl) rfl (hmy 4 (fun _ _ => rfl))
 ·exact case4 _ _ _ _ 4 (.inr rfl) rfl (hmy 4 (fun _ _ => rfl))
 ·exact case4 _ _ _ _ 3 (.inl rfl) rfl (hmy 3 (fun _ _ => rfl))
 ·exact case4 _ _ _ _ 4 (.inr rfl) rfl (hmy 4 (fun _ _ => rfl))
 ·exact case4 _ _ _ _ 4 (.inr rfl) rfl (hmy 4 (fun _ _ => rfl))
 ·exact case4 _ _ _ _ 4 (.inr rfl) rfl (hmy 4 (fun _ _ => rfl))
end Go.Proofs.YtpdakdcmahlghaaGreat.XCo
end
