-- Joined by this work's own program (wip/tools/bundle.py) out of its texts: what this claim uses of them. Not trusted: Lean checks it.
import Derived.Test.YtpdakdcmahlghaaGreatBReconChanges17
section
namespace Go.Proofs.YtpdakdcmahlghaaGreat.XCo
open Go.RowKit Go.Proofs.YtpdakdcmahlghaaGreatW.PrintWords Go.Proofs.YtpdakdcmahlghaaGreatW.PrintLast Go.Proofs.YtpdakdcmahlghaaGreatW.PrintMore
attribute [local go_sem] azz aAz aGz aHz asz atz aBz aCz
set_option linter.unusedVariables false
set_option linter.unusedSimpArgs false
mutual
def abz.j0 : Nat → List Int → Bool → Bool → Int → Int → Int → Int → List Int → Option (Bool)
 | 0, _, _, _, _, _, _, _, _ => none
 | k + 1, x1, x7, x28, x409000, x409001, x409002, x410000, x410001 => if x28 = true then (some x7) else ((boz.f x409000 x409001 x409002).bind fun bt411 => ((bVz.f k bt411.1 bt411.2.1 bt411.2.2 x1).bind fun bt415 => (if bt415.2 = 0 then (abz.j1 k x7 bt415.1 ((bt415.1.length : Int) != (wrap64 (bt411.2.1 + bt411.2.2))) x410000 x410001 bt411.1 bt411.2.1 bt411.2.2) else (abz.j1 k x7 bt415.1 true x410000 x410001 bt411.1 bt411.2.1 bt411.2.2))))
def abz.j1 : Nat → Bool → List (List Int) → Bool → Int → List Int → Int → Int → Int → Option (Bool)
 | 0, _, _, _, _, _, _, _, _ => none
 | k + 1, x7, x9, x49, x410000, x410001, x415000, x415001, x415002 => if x49 = true then (some false) else (if x415001 = 0 then (none) else (abz.l0 k x7 x9 (Int.tmod x410000 x415001) ([] : List Int) 0 x410000 x410001 x415000 x415001 x415002))
def abz.l0 : Nat → Bool → List (List Int) → Int → List Int → Int → Int → List Int → Int → Int → Int → Option (Bool)
 | 0, _, _, _, _, _, _, _, _, _, _ => none
 | k + 1, x7, x9, x11, x12, x13, x410000, x410001, x415000, x415001, x415002 => if 0 ≤ x11 then (if x11 < (x9.length : Int) then (if x13 < ((rd_L1 x9 x11).length : Int) then (if x13 < (x410001.length : Int) then (if 0 ≤ x13 then (if x12.length < 140737488355328 then (abz.l0 k x7 x9 x11 (x12 ++ [rd x410001 x13]) (wrap64 (x13 + 1)) x410000 x410001 x415000 x415001 x415002) else (none)) else (none)) else (if x12.length < 140737488355328 then (abz.l0 k x7 x9 x11 (x12 ++ [0]) (wrap64 (x13 + 1)) x410000 x410001 x415000 x415001 x415002) else (none))) else ((alz.f k x415000 x415001 x415002 x9 x11 x12).bind fun bt427 => (if bt427.2 = 0 then (abz.j3 k x7 x9 x11 x12 bt427.1 ((bt427.1.length : Int) != (x9.length : Int)) x415000 x415001 x415002) else (abz.j3 k x7 x9 x11 x12 bt427.1 true x415000 x415001 x415002)))) else (none)) else (none)
def abz.j3 : Nat → Bool → List (List Int) → Int → List Int → List (List Int) → Bool → Int → Int → Int → Option (Bool)
 | 0, _, _, _, _, _, _, _, _, _ => none
 | k + 1, x7, x9, x11, x12, x15, x94, x415000, x415001, x415002 => if x94 = true then (some false) else ((some (([] : List (List Int)) : List (List Int))).bind fun y431 => (if 0 ≤ x415001 then (if x415001 ≤ (x9.length : Int) then ((some (x9.take (x415001 : Int).toNat : List (List Int))).bind fun y434 => (if y431.length + y434.length < 5864062014805 then ((some (y431 ++ y434 : List (List Int))).bind fun y439 => (if 0 ≤ x11 then (if x11 < (y439.length : Int) then (if x11 < (x9.length : Int) then ((alz.f k x415000 x415001 x415002 x15 x11 (rd_L1 x9 x11)).bind fun bt444 => (if x7 = true then ((a9z.f k x415000 x415001 x415002 x15).bind fun t448 => (if t448 = true then (if x415001 ≤ (x15.length : Int) then ((aDz.f k (x15.take (x415001 : Int).toNat) (y439.set (x11 : Int).toNat x12)).bind fun t454 => (if t454 = true then (if bt444.2 = 0 then ((aDz.f k bt444.1 x9).bind fun t455 => (some t455)) else (some false)) else (some false))) else (none)) else (some false))) else (some false))) else (none)) else (none)) else (none))) else (none))) else (none)) else (none)))
end
def abz.f (k : Nat) (a0_0 : Int) (a0_1 : Int) (a0_2 : Int) (l1 : List Int) (a2_0 : Int) (l2_1 : List Int) : Option (Bool) := (bKz.f k).bind fun t410 => (if (l1.length : Int) > 300 then (abz.j0 k l1 t410 true a0_0 a0_1 a0_2 a2_0 l2_1) else (abz.j0 k l1 t410 (decide (a2_0 < 0)) a0_0 a0_1 a0_2 a2_0 l2_1))
def abz.T22 : Bool × List (List Nat × List Nat) := (true, [([], []), ([], []), ([], []), ([], []), ([], []), ([3, 4], [3, 4]), ([5], [5]), ([0, 1, 2, 6], [0, 1, 2, 6]), ([7], [7]), ([8], [8]), ([8], [8]), ([9, 7, 0, 1, 2, 3, 4, 5, 6, 7, 8, 9], [9]), ([10, 11, 0, 1, 2, 3, 4, 5, 6, 7, 8, 9, 10, 11], [10])])
def abz.B22 : List Nat := [0, 0, 0, 0, 0, 24, 56, 127, 255, 511, 511, 1023, 4095]
theorem abz.tab22 : rtab .any (opsOf Tryz.f16 22) = abz.T22 := by kernel_rfl
theorem abz.bits22 : waitsOk abz.T22.2 abz.B22 = true := by kernel_rfl
set_option maxHeartbeats 8000000 in
set_option maxRecDepth 100000 in
theorem abz.calls (k : Nat) (a0_0 : Int) (a0_1 : Int) (a0_2 : Int) (A1 : Option Addr) (c1 : Nat) (l1 : List Int) (a2_0 : Int) (A2_1 : Option Addr) (c2_1 : Nat) (l2_1 : List Int) (r : Bool) (w : World) (hr_ : Aside0 (r = true)) (hr1 : Kd.C (Kd.int .u8) w A1 l1.length l1) (hc1 : l1.length ≤ c1) (hr2_1 : Kd.C (Kd.int .u8) w A2_1 l2_1.length l2_1) (hc2_1 : l2_1.length ≤ c2_1) (h : abz.f k a0_0 a0_1 a0_2 l1 a2_0 l2_1 = some r) :
  Calls Tryz.prog 16 #[.agg #[.int .u8 a0_0, .int .u8 a0_1, .int .u8 a0_2], .slice A1 l1.length c1, .agg #[.int .i64 a2_0, .slice A2_1 l2_1.length c2_1]] w fun e w' => e = .returned (.bool r) ∧ Below w.heap.size w w' := by
 have hu42 := Tryz.underlying42
 have hu48 := Tryz.underlying48
 have hu23 := Tryz.underlying23
 have HR1 := Aside0.mk hr1
 have HC1 := Aside0.mk hc1
 clear hr1 hc1
 have HR2_1 := Aside0.mk hr2_1
 have HC2_1 := Aside0.mk hc2_1
 clear hr2_1 hc2_1
 have HB := Aside0.mk (Below.refl w.heap.size w)
 have H := h
 clear h
 unfold abz.f at H
 obtain ⟨t410, A4, H⟩ := ob_ H
 (try dsimp only at H)
 have HC5 := Aside0.mk H
 clear H
 go_enter Tryz.func16, Tryz.ntmps16
 go_upto_region 2 with (first | ((with_reducible refine axz (N := 3) rfl ?_); (try (refine bkz (by rfl) ?_; dsimp only)); refine bx_ 3 #[.int .u8 a0_0, .int .u8 a0_1, .int .u8 a0_2] 42 ?_; intro gb408 hg w6 hbox hb; have n_ := And.intro (hs_ HB hb) (And.intro (Aside0.mk (hbox)) (And.intro (ag_ HB gb408) (ag_ HB gb408))); clear HB; obtain ⟨HB, BK408, GW408, GE408⟩ := n_; clear hb hbox hg) | ((with_reducible refine axz (N := 5) rfl ?_); (try (refine bkz (by rfl) ?_; dsimp only)); refine bx_ 5 #[.int .i64 a2_0, .slice A2_1 l2_1.length c2_1] 48 ?_; intro gb409 hg w7 hbox hb; have n_ := And.intro (bb_ BK408 hb) (And.intro (hs_ HB hb) (And.intro (Aside0.mk (hbox)) (And.intro (ag_ HB gb409) (And.intro (ag_ HB gb409) (And.intro (n1_ BK408 gb409) (n2_ BK408 gb409)))))); clear BK408 HB; obtain ⟨BK408, HB, BK409, GW409, GE409, NB408_409, NB409_408⟩ := n_; clear hb hbox hg) | ((with_reducible refine ajz (f := 26) rfl ?_); refine gl_ (some 20) Tryz.func26 #[] ?_; (with_reducible refine (bKz.calls k  t410 _ A4.out).mono ?_); rintro e w8 ⟨rfl, hb⟩; refine ⟨_, rfl, ?_⟩; have n_ := And.intro (bb_ BK408 hb) (And.intro (bb_ BK409 hb) (hs_ HB hb)); clear BK408 BK409 HB; obtain ⟨BK408, BK409, HB⟩ := n_; (try clear hb)))
 (try simp only [Act.put, List.setIfInBounds_toArray, List.set_cons_zero, List.set_cons_succ])
 go_cut [28] (fun v28 wc => ∃ (kq : Nat) (x28_4 : Bool), v28 = .bool x28_4 ∧ Aside0 (abz.j0 kq l1 t410 x28_4 a0_0 a0_1 a0_2 a2_0 l2_1 = some r) ∧ Aside0 (kq ≤ k) ∧ Aside0 (wc.heap[gb408]? = some (.cells #[.int .u8 a0_0, .int .u8 a0_1, .int .u8 a0_2] 42 (0, 0))) ∧ Aside0 (wc.heap[gb409]? = some (.cells #[.int .i64 a2_0, (.slice A2_1 l2_1.length c2_1)] 48 (0, 0))) ∧ Aside0 (Below w.heap.size w wc))
 case first =>
  have H := HC5.out
  clear HC5
  by_cases c9 : (l1.length : Int) > 300
  ·rw [if_pos c9] at H
   have c9b0 : decide (300 < (l1.length : Int)) = true := decide_eq_true c9
   have c9b1 : decide (300 < l1.length) = true := decide_eq_true (by omega)
   clear c9
   (first | rw [c9b0] | (simp only [i64_w, i32_w]; rw [c9b0]) | skip)
   have H' := Aside0.mk H
   clear H
   go_wp2
   go_meet
   case rel => exact ⟨_, (true), sd_, H', ⟨by first | omega | exact Nat.le_refl _⟩, ⟨bk_⟩, ⟨bk_⟩, ⟨bl_⟩⟩
  ·rw [if_neg c9] at H
   have c9b0 : decide (300 < (l1.length : Int)) = false := decide_eq_false c9
   have c9b1 : decide (300 < l1.length) = false := decide_eq_false (by omega)
   clear c9
   (first | rw [c9b0] | (simp only [i64_w, i32_w]; rw [c9b0]) | skip)
   have H' := Aside0.mk H
   clear H
   have hnb10 := NB409_408.out
   have hnc10 := NB408_409.out
   obtain ⟨hcz11_0, hfz11_0, hcz11_1, hfz11_1⟩ := bc2_ BK409.out
   go_wp2
   go_meet
   case rel => exact ⟨_, (decide (a2_0 < 0)), sd_, H', ⟨by first | omega | exact Nat.le_refl _⟩, ⟨bk_⟩, ⟨bk_⟩, ⟨bl_⟩⟩
 case rest =>
  clear HC5
  try clear c1
  try clear c2
  try clear p2
  try clear c9
  try clear c9b0
  try clear c9b1
  try clear c10
  try clear hcz11_0
  try clear hcz11_1
  try clear hfz11_0
  try clear hfz11_1
  obtain ⟨kq, x28_4, rfl, HA, HJ4, BK408, BK409, HB⟩ := hcut
  rcases kq with _ | kj4
  ·exact absurd HA.out (by simp [abz.j0])
  have H := HA.out
  clear HA
  simp only [abz.j0] at H
  by_cases c12 : x28_4 = true
  ·subst c12
   rw [if_pos rfl] at H
   obtain rfl := Option.some.inj H
   go_wp2
   go_ret
   exact ⟨er_, bl_⟩
  ·replace c12 := Bool.eq_false_iff.mpr c12
   subst c12
   rw [if_neg (show ¬ (false = true) by decide)] at H
   obtain ⟨⟨t411, t412, t413⟩, A13, H⟩ := ob_ H
   (try dsimp only at H)
   obtain ⟨⟨t415, t418⟩, A14, H⟩ := ob_ H
   (try dsimp only at H)
   have HC15 := Aside0.mk H
   clear H
   have hnb16 := NB408_409.out
   have hnc16 := NB409_408.out
   obtain ⟨hcz17_0, hfz17_0, hcz17_1, hfz17_1, hcz17_2, hfz17_2⟩ := bc3_ BK408.out
   go_upto_region 6 with (first | ((with_reducible refine ajz (f := 31) rfl ?_); refine gl_ (some 31) Tryz.func31 #[.agg #[.int .u8 a0_0, .int .u8 a0_1, .int .u8 a0_2]] ?_; (with_reducible refine (boz.calls a0_0 a0_1 a0_2 t411 t412 t413 _ A13.out).mono ?_); rintro e w18 ⟨rfl, hb⟩; refine ⟨_, rfl, ?_⟩; have n_ := And.intro (bb_ BK408 hb) (And.intro (bb_ BK409 hb) (hs_ HB hb)); clear BK408 BK409 HB; obtain ⟨BK408, BK409, HB⟩ := n_; (try clear hb)) | ((with_reducible refine axz (N := 8) rfl ?_); (try (refine bkz (by rfl) ?_; dsimp only)); refine bx_ 8 #[.int .i64 0, .int .i64 0, .int .i64 0] 23 ?_; intro gb414 hg w19 hbox hb; have n_ := And.intro (bb_ BK408 hb) (And.intro (bb_ BK409 hb) (And.intro (hs_ HB hb) (And.intro (Aside0.mk (hbox)) (And.intro (ag_ HB gb414) (And.intro (ag_ HB gb414) (And.intro (n1_ BK408 gb414) (And.intro (n2_ BK408 gb414) (And.intro (n1_ BK409 gb414) (n2_ BK409 gb414))))))))); clear BK408 BK409 HB; obtain ⟨BK408, BK409, HB, BK414, GW414, GE414, NB408_414, NB414_408, NB409_414, NB414_409⟩ := n_; clear hb hbox hg; have hnb20 := NB414_408.out; have hnc20 := NB408_414.out; have hnb21 := NB414_409.out; have hnc21 := NB409_414.out; obtain ⟨hcz22_0, hfz22_0, hcz22_1, hfz22_1, hcz22_2, hfz22_2⟩ := bc3_ BK414.out) | ((with_reducible refine ajz (f := 24) rfl ?_); refine gl_ (some 35) Tryz.func24 #[.agg #[.int .i64 t411, .int .i64 t412, .int .i64 t413], .slice A1 l1.length c1] ?_; (with_reducible refine (bVz.calls kj4 t411 t412 t413 _ _ l1 t415 t418 _ (Kd.apz HR1.out bl_) (HC1.out) A14.out).mono ?_); rintro e w23 ⟨v416, rfl, ho0, hb⟩; refine ⟨_, rfl, ?_⟩; have n_ := And.intro (Aside0.mk (Kd.cgz (Kd.clz (ok' := fun k_ => k_ ≠ gb408 ∧ k_ ≠ gb409 ∧ k_ ≠ gb414) ho0 (fun k_ hk_ => ⟨(Kd.freshB (g := gb408) (o := .cells #[.int .u8 a0_0, .int .u8 a0_1, .int .u8 a0_2] 42 (0, 0)) (by (with_reducible repeat (first | refine aez ?_ _ | refine agz ?_ | refine adz ?_ _)); refine awz ?_ NB408_414.out _; (with_reducible repeat (first | refine aez ?_ _ | refine agz ?_ | refine adz ?_ _)); refine awz ?_ NB408_414.out _; (with_reducible repeat (first | refine aez ?_ _ | refine agz ?_ | refine adz ?_ _)); refine awz ?_ NB408_414.out _; (with_reducible repeat (first | refine aez ?_ _ | refine agz ?_ | refine adz ?_ _)); exact BK408.out) k_ hk_), (Kd.freshB (g := gb409) (o := .cells #[.int .i64 a2_0, .slice A2_1 l2_1.length c2_1] 48 (0, 0)) (by (with_reducible repeat (first | refine aez ?_ _ | refine agz ?_ | refine adz ?_ _)); refine awz ?_ NB409_414.out _; (with_reducible repeat (first | refine aez ?_ _ | refine agz ?_ | refine adz ?_ _)); refine awz ?_ NB409_414.out _; (with_reducible repeat (first | refine aez ?_ _ | refine agz ?_ | refine adz ?_ _)); refine awz ?_ NB409_414.out _; (with_reducible repeat (first | refine aez ?_ _ | refine agz ?_ | refine adz ?_ _)); exact BK409.out) k_ hk_), (Kd.freshB (g := gb414) (o := .cells #[.int .i64 t411, .int .i64 t412, .int .i64 t413] 23 (0, 0)) (by (with_reducible repeat (first | refine aez ?_ _ | refine agz ?_ | refine adz ?_ _)); refine avz (cs := #[.int .i64 t411, .int .i64 t412, .int .i64 0]) ?_ 2 _ rfl; (with_reducible repeat (first | refine aez ?_ _ | refine agz ?_ | refine adz ?_ _)); refine avz (cs := #[.int .i64 t411, .int .i64 0, .int .i64 0]) ?_ 1 _ rfl; (with_reducible repeat (first | refine aez ?_ _ | refine agz ?_ | refine adz ?_ _)); refine avz (cs := #[.int .i64 0, .int .i64 0, .int .i64 0]) ?_ 0 _ rfl; (with_reducible repeat (first | refine aez ?_ _ | refine agz ?_ | refine adz ?_ _)); exact BK414.out) k_ hk_)⟩)) (aPz bl_))) (And.intro (Aside0.mk (afz (g := gb408) (o := .cells #[.int .u8 a0_0, .int .u8 a0_1, .int .u8 a0_2] 42 (0, 0)) (by (with_reducible repeat (first | refine aez ?_ _ | refine agz ?_ | refine adz ?_ _)); refine awz ?_ NB408_414.out _; (with_reducible repeat (first | refine aez ?_ _ | refine agz ?_ | refine adz ?_ _)); refine awz ?_ NB408_414.out _; (with_reducible repeat (first | refine aez ?_ _ | refine agz ?_ | refine adz ?_ _)); refine awz ?_ NB408_414.out _; (with_reducible repeat (first | refine aez ?_ _ | refine agz ?_ | refine adz ?_ _)); exact BK408.out) hb)) (And.intro (Aside0.mk (afz (g := gb409) (o := .cells #[.int .i64 a2_0, .slice A2_1 l2_1.length c2_1] 48 (0, 0)) (by (with_reducible repeat (first | refine aez ?_ _ | refine agz ?_ | refine adz ?_ _)); refine awz ?_ NB409_414.out _; (with_reducible repeat (first | refine aez ?_ _ | refine agz ?_ | refine adz ?_ _)); refine awz ?_ NB409_414.out _; (with_reducible repeat (first | refine aez ?_ _ | refine agz ?_ | refine adz ?_ _)); refine awz ?_ NB409_414.out _; (with_reducible repeat (first | refine aez ?_ _ | refine agz ?_ | refine adz ?_ _)); exact BK409.out) hb)) (And.intro (Aside0.mk (afz (g := gb414) (o := .cells #[.int .i64 t411, .int .i64 t412, .int .i64 t413] 23 (0, 0)) (by (with_reducible repeat (first | refine aez ?_ _ | refine agz ?_ | refine adz ?_ _)); refine avz (cs := #[.int .i64 t411, .int .i64 t412, .int .i64 0]) ?_ 2 _ rfl; (with_reducible repeat (first | refine aez ?_ _ | refine agz ?_ | refine adz ?_ _)); refine avz (cs := #[.int .i64 t411, .int .i64 0, .int .i64 0]) ?_ 1 _ rfl; (with_reducible repeat (first | refine aez ?_ _ | refine agz ?_ | refine adz ?_ _)); refine avz (cs := #[.int .i64 0, .int .i64 0, .int .i64 0]) ?_ 0 _ rfl; (with_reducible repeat (first | refine aez ?_ _ | refine agz ?_ | refine adz ?_ _)); exact BK414.out) hb)) (hs_ HB hb)))); clear BK408 BK409 BK414 HB; obtain ⟨HO417, BK408, BK409, BK414, HB⟩ := n_; clear hb ho0))
   (try simp only [Act.put, List.setIfInBounds_toArray, List.set_cons_zero, List.set_cons_succ])
   go_cut [49] (fun v49 wc => ∃ (kq : Nat) (x49_14 : Bool), v49 = .bool x49_14 ∧ Aside0 (abz.j1 kq t410 t415 x49_14 a2_0 l2_1 t411 t412 t413 = some r) ∧ Aside0 (kq ≤ kj4) ∧ Aside0 (Kd.N (Kd.slice 5 (Kd.int .u8)) 34 wc w.heap.size (fun k_ => k_ ≠ gb408 ∧ k_ ≠ gb409 ∧ k_ ≠ gb414) v416 t415) ∧ Aside0 (wc.heap[gb408]? = some (.cells #[.int .u8 a0_0, .int .u8 a0_1, .int .u8 a0_2] 42 (0, 0))) ∧ Aside0 (wc.heap[gb409]? = some (.cells #[.int .i64 a2_0, (.slice A2_1 l2_1.length c2_1)] 48 (0, 0))) ∧ Aside0 (wc.heap[gb414]? = some (.cells #[.int .i64 t411, .int .i64 t412, .int .i64 t413] 23 (0, 0))) ∧ Aside0 (Below w.heap.size w wc))
   case first =>
    have H := HC15.out
    clear HC15
    by_cases c24 : t418 = 0
    rotate_left
    ·rw [if_neg c24] at H
     have c24b0 : (t418 == 0) = false := beq_eq_false_iff_ne.mpr c24
     have c24b1 : (t418 != 0) = true := bne_iff_ne.mpr c24
     (first | rw [c24b0] | (simp only [i64_w, i32_w]; rw [c24b0]) | skip)
     have H' := Aside0.mk H
     clear H
     go_wp2
     go_meet
     case rel => exact ⟨_, (true), sd_, H', ⟨by have := HJ4.out; first | omega | exact Nat.le_refl _⟩, ⟨xd_ HO417.out⟩, ⟨bk_⟩, ⟨bk_⟩, ⟨bk_⟩, ⟨bl_⟩⟩
    rw [if_pos c24] at H
    have c24b0 : (t418 == 0) = true := beq_iff_eq.mpr c24
    have c24b1 : (t418 != 0) = false := bne_eq_false_iff_eq.mpr c24
    clear c24
    (first | rw [c24b0] | (simp only [i64_w, i32_w]; rw [c24b0]) | skip)
    have H' := Aside0.mk H
    clear H
    obtain ⟨Ao25, co25, eo25⟩ := Kd.b6z HO417.out
    subst eo25
    have hnb26 := NB414_408.out
    have hnc26 := NB408_414.out
    have hnb27 := NB414_409.out
    have hnc27 := NB409_414.out
    obtain ⟨hcz28_0, hfz28_0, hcz28_1, hfz28_1, hcz28_2, hfz28_2⟩ := bc3_ BK414.out
    go_wp2
    go_meet
    case rel => exact ⟨_, (((t415.length : Int) != (wrap64 (t412 + t413)))), sd_, H', ⟨by have := HJ4.out; first | omega | exact Nat.le_refl _⟩, ⟨xd_ HO417.out⟩, ⟨bk_⟩, ⟨bk_⟩, ⟨bk_⟩, ⟨bl_⟩⟩
   case rest =>
    clear HC15
    try clear c1
    try clear c2
    try clear p2
    try clear c3
    try clear p6
    try clear c9
    try clear c9b0
    try clear c9b1
    try clear c10
    try clear c12
    try clear c16
    try clear c20
    try clear c21
    try clear c24
    try clear c24b0
    try clear c24b1
    try clear c26
    try clear c27
    try clear hcz11_0
    try clear hcz11_1
    try clear hcz17_0
    try clear hcz17_1
    try clear hcz17_2
    try clear hcz22_0
    try clear hcz22_1
    try clear hcz22_2
    try clear hcz28_0
    try clear hcz28_1
    try clear hcz28_2
    try clear hfz11_0
    try clear hfz11_1
    try clear hfz17_0
    try clear hfz17_1
    try clear hfz17_2
    try clear hfz22_0
    try clear hfz22_1
    try clear hfz22_2
    try clear hfz28_0
    try clear hfz28_1
    try clear hfz28_2
    try clear p2
    obtain ⟨kq, x49_14, rfl, HA, HJ14, HO_9, BK408, BK409, BK414, HB⟩ := hcut
    rcases kq with _ | kj14
    ·exact absurd HA.out (by simp [abz.j1])
    have H := HA.out
    clear HA
    simp only [abz.j1] at H
    by_cases c29 : x49_14 = true
    ·subst c29
     rw [if_pos rfl] at H
     exact absurd ((Option.some.inj H).trans hr_.out) (by simp)
    ·replace c29 := Bool.eq_false_iff.mpr c29
     subst c29
     rw [if_neg (show ¬ (false = true) by decide)] at H
     by_cases c30 : t412 = 0
     ·rw [if_pos c30] at H
      exact absurd H (by simp)
     ·rw [if_neg c30] at H
      have c30b0 : (t412 == 0) = false := beq_eq_false_iff_ne.mpr c30
      have c30b1 : (t412 != 0) = true := bne_iff_ne.mpr c30
      have H' := Aside0.mk H
      clear H
      have hnb31 := NB409_408.out
      have hnc31 := NB408_409.out
      have hnb32 := NB409_414.out
      have hnc32 := NB414_409.out
      obtain ⟨hcz33_0, hfz33_0, hcz33_1, hfz33_1⟩ := bc2_ BK409.out
      have hnb34 := NB414_408.out
      have hnc34 := NB408_414.out
      obtain ⟨hcz35_0, hfz35_0, hcz35_1, hfz35_1, hcz35_2, hfz35_2⟩ := bc3_ BK414.out
      go_wp2
      go_loopg [12, 13] kj14 (fun kq v12 v13 w' => ∃ (x12_3 : List Int) (x13_3 : Int), v13 = .int .i64 x13_3 ∧ Aside0 (abz.l0 kq t410 t415 (Int.tmod a2_0 t412) x12_3 x13_3 a2_0 l2_1 t411 t412 t413 = some r) ∧ Aside0 (kq ≤ kj14) ∧ Aside0 (Kd.N (Kd.slice 5 (Kd.int .u8)) 34 w' w.heap.size (fun k_ => some k_ ≠ (v12 : Value).ownBlock ∧ k_ ≠ gb408 ∧ k_ ≠ gb409 ∧ k_ ≠ gb414) v416 t415) ∧ Aside0 (Kd.R (Kd.int .u8) 5 w' w.heap.size (fun _ => True) v12 x12_3) ∧ Aside0 (w'.heap[gb408]? = some (.cells #[.int .u8 a0_0, .int .u8 a0_1, .int .u8 a0_2] 42 (0, 0))) ∧ Aside0 (w'.heap[gb409]? = some (.cells #[.int .i64 a2_0, (.slice A2_1 l2_1.length c2_1)] 48 (0, 0))) ∧ Aside0 (w'.heap[gb414]? = some (.cells #[.int .i64 t411, .int .i64 t412, .int .i64 t413] 23 (0, 0))) ∧ Aside0 (Below w.heap.size w w'))
      case atStart => exact ⟨(([] : List Int)), (0), sd_, H', ⟨Nat.le_refl _⟩, ⟨nm_ HO_9⟩, ⟨nl_⟩, ⟨bk_⟩, ⟨bk_⟩, ⟨bk_⟩, ⟨bl_⟩⟩
      clear H'
      try clear c1
      try clear c2
      try clear p2
      try clear c3
      try clear p6
      try clear c9
      try clear c9b0
      try clear c9b1
      try clear c10
      try clear c12
      try clear c16
      try clear c20
      try clear c21
      try clear c24
      try clear c24b0
      try clear c24b1
      try clear c26
      try clear c27
      try clear c29
      try clear c30
      try clear c30b0
      try clear c30b1
      try clear c31
      try clear c32
      try clear c34
      try clear hcz11_0
      try clear hcz11_1
      try clear hcz17_0
      try clear hcz17_1
      try clear hcz17_2
      try clear hcz22_0
      try clear hcz22_1
      try clear hcz22_2
      try clear hcz28_0
      try clear hcz28_1
      try clear hcz28_2
      try clear hcz33_0
      try clear hcz33_1
      try clear hcz35_0
      try clear hcz35_1
      try clear hcz35_2
      try clear hfz11_0
      try clear hfz11_1
      try clear hfz17_0
      try clear hfz17_1
      try clear hfz17_2
      try clear hfz22_0
      try clear hfz22_1
      try clear hfz22_2
      try clear hfz28_0
      try clear hfz28_1
      try clear hfz28_2
      try clear hfz33_0
      try clear hfz33_1
      try clear hfz35_0
      try clear hfz35_1
      try clear hfz35_2
      try clear p2
      try clear p6
      obtain ⟨x12_3, x13_3, rfl, HA, HK3, HO_9, HO_12, BK408, BK409, BK414, HB⟩ := hrel
      rcases gk with _ | k3
      ·exact absurd HA.out (by simp [abz.l0])
      have H := HA.out
      clear HA
      simp only [abz.l0] at H
      obtain ⟨ji36, hji36⟩ : ∃ j_ : Int, (Int.tmod a2_0 t412) = j_ := ⟨_, rfl⟩
      replace H : (if 0 ≤ (ji36) then (if (ji36) < (t415.length : Int) then (if x13_3 < ((rd_L1 t415 (ji36)).length : Int) then (if x13_3 < (l2_1.length : Int) then (if 0 ≤ x13_3 then (if x12_3.length < 140737488355328 then (abz.l0 k3 t410 t415 (ji36) (x12_3 ++ [rd l2_1 x13_3]) (wrap64 (x13_3 + 1)) a2_0 l2_1 t411 t412 t413) else (none)) else (none)) else (if x12_3.length < 140737488355328 then (abz.l0 k3 t410 t415 (ji36) (x12_3 ++ [0]) (wrap64 (x13_3 + 1)) a2_0 l2_1 t411 t412 t413) else (none))) else ((alz.f k3 t411 t412 t413 t415 (ji36) x12_3).bind fun bt427 => (if bt427.2 = 0 then (abz.j3 k3 t410 t415 (ji36) x12_3 bt427.1 ((bt427.1.length : Int) != (t415.length : Int)) t411 t412 t413) else (abz.j3 k3 t410 t415 (ji36) x12_3 bt427.1 true t411 t412 t413)))) else (none)) else (none)) = some r := by first | (rw [hji36] at H; exact H) | (simp only [hji36] at H ⊢; exact H)
      by_cases c37 : 0 ≤ (ji36)
      rotate_left
      ·rw [if_neg c37] at H
       exact absurd H (by simp)
      rw [if_pos c37] at H
      have c37b0 := decide_eq_true c37
      clear c37
      by_cases c38 : (ji36) < (t415.length : Int)
      rotate_left
      ·rw [if_neg c38] at H
       exact absurd H (by simp)
      rw [if_pos c38] at H
      have c38b0 := decide_eq_true c38
      clear c38
      by_cases c39 : x13_3 < ((rd_L1 t415 (ji36)).length : Int)
      ·rw [if_pos c39] at H
       have c39b0 := decide_eq_true c39
       clear c39
       by_cases c40 : x13_3 < (l2_1.length : Int)
       rotate_left
       ·rw [if_neg c40] at H
        have c40b0 := decide_eq_false c40
        clear c40
        by_cases c48 : x12_3.length < 140737488355328
        rotate_left
        ·rw [if_neg c48] at H
         exact absurd H (by simp)
        rw [if_pos c48] at H
        have LMc48 := Aside0.mk c48
        clear c48
        obtain ⟨y424, hy424⟩ : ∃ y_ : List Int, y_ = (x12_3 ++ [0]) := ⟨_, rfl⟩
        first | rw [Option.bind_some, ← hy424] at H | rw [← hy424] at H
        (try dsimp only at H)
        have Ny424 := Aside0.mk hy424
        clear hy424
        have H' := Aside0.mk H
        clear H
        obtain ⟨Ao49, co49, eo49⟩ := Kd.b6z HO_9.out
        subst eo49
        have p419 : 0 ≤ ((ji36) : Int) := of_decide_eq_true as_
        have q419 : (ji36) < (t415.length : Int) := of_decide_eq_true as_
        obtain ⟨ad419, A419_0, c419_0, e419, hx419_0, hl419_0, hi419_0⟩ := at_L1 (Kd.aOz HO_9.out).2.2 (ji36) p419 q419
        cases e419
        obtain ⟨ce419, hce419, hMe419, hcc419⟩ := Kd.N_get HO_9.out [] (ji36) p419 (by first | exact q419 | exact of_decide_eq_true as_ | (have e_ := (Kd.aOz HO_9.out).1; omega))
        obtain ⟨ua419_0, uc419_0, rfl, ul419_0, ge419_0⟩ := Kd.bMz hMe419
        have hv419_0 := hcc419 0 _ rfl
        rw [Nat.add_zero, show ((Kd.slice 5 (Kd.int .u8))).sz = 1 from rfl, Nat.mul_one] at hv419_0
        replace hv419_0 := Option.some.inj (hv419_0.symm.trans hx419_0)
        injection hv419_0 with hva_ hvn_ hvc_
        rw [hva_] at ge419_0
        rw [hvc_] at ul419_0
        have HL419_0 := Aside0.mk (show Kd.V (Kd.int .u8) 5 _ w.heap.size _ _ (rd_L1 t415 (ji36)) from Kd.V_mk ul419_0 ge419_0)
        clear hva_ hvn_ hvc_ ge419_0 ul419_0
        clear hcc419 hce419
        have HR419_0 := Aside0.mk hi419_0
        have HC419_0 := Aside0.mk hl419_0
        clear hi419_0 hl419_0
        replace p419 := eq_true p419
        replace q419 := eq_true q419
        have hnb50 := NB409_408.out
        have hnc50 := NB408_409.out
        have hnb51 := NB409_414.out
        have hnc51 := NB414_409.out
        obtain ⟨hcz52_0, hfz52_0, hcz52_1, hfz52_1⟩ := bc2_ BK409.out
        go_wp2_with (first | ((with_reducible refine anz (b := .append) (xs := #[.tmp 74, .tmp 76]) rfl ?_); (try (refine bkz (by rfl) ?_; dsimp only)); at_builtin; refine Kd.bSz (Kd.int .u8) (w0 := w) w.heap.size rfl (.tmp 74) (.tmp 76) 34 5 (.int .u8 0) 1 rfl Tryz.underlying34 info5 rfl (by decide) (by omega) u12 x12_3 0 [.int .u8 0] (fun _ => True) (fun _ => False) rfl rfl ?aP (fun _ hk => hk.elim) ?aF ?aO ?aB ?aS ?aL ?_; (case aP => exact rfl); (case aB => exact bl_); (case aF => exact (fun _ _ => trivial)); (case aO => exact (xd_ HO_12.out)); (case aS => exact (aPz bl_)); (case aL => have := LMc48.out; omega); intro v425 w53 ho hb hg hat; rw [← Ny424.out] at ho; have n_ := And.intro (Aside0.mk (Kd.coz (ok := (fun k_ => k_ ≠ gb408 ∧ k_ ≠ gb409 ∧ k_ ≠ gb414)) (nm_ HO_9) hg hat)) (And.intro (Aside0.mk (bwz (g := gb408) (o := .cells #[.int .u8 a0_0, .int .u8 a0_1, .int .u8 a0_2] 42 (0, 0)) bk_ hg (Kd.R_ne HO_12.out BK408.out (by decide)))) (And.intro (Aside0.mk (bwz (g := gb409) (o := .cells #[.int .i64 a2_0, .slice A2_1 l2_1.length c2_1] 48 (0, 0)) bk_ hg (Kd.R_ne HO_12.out BK409.out (by decide)))) (And.intro (Aside0.mk (bwz (g := gb414) (o := .cells #[.int .i64 t411, .int .i64 t412, .int .i64 t413] 23 (0, 0)) bk_ hg (Kd.R_ne HO_12.out BK414.out (by decide)))) (And.intro (Aside0.mk (Kd.dTz (ok := (fun k_ => some k_ ≠ (.slice (some ad419) t415.length co49 : Value).ownBlock ∧ k_ ≠ gb408 ∧ k_ ≠ gb409 ∧ k_ ≠ gb414)) (by (with_reducible repeat (first | apply Kd.dfz | apply Kd.dgz | apply Kd.V_drew)); exact Kd.cBz HL419_0.out (fun _ hk => ⟨⟨hk.2, ⟨hk.1.2.1, ⟨hk.1.2.2.1, hk.1.2.2.2⟩⟩⟩, hk.1.1⟩)) hg hat)) (And.intro (Aside0.mk (hb)) (Aside0.mk (ho))))))); clear HO_9 BK408 BK409 BK414 HL419_0 HB HO_12; obtain ⟨HO_9, BK408, BK409, BK414, HL419_0, HB, HO426⟩ := n_; clear ho hb hg hat))
        (first | go_roundg k3 | (subst hji36; go_roundg k3))
        case measure => have := HJ4.out; have := HJ14.out; have := HK3.out; omega
        case rel => exact ⟨(y424), (wrap64 (x13_3 + 1)), sd_, H', ⟨by have := HJ4.out; have := HJ14.out; have := HK3.out; omega⟩, ⟨nm_ HO_9⟩, ⟨xd_ HO426.out⟩, ⟨bk_⟩, ⟨bk_⟩, ⟨bk_⟩, ⟨bl_⟩⟩
       rw [if_pos c40] at H
       have c40b0 := decide_eq_true c40
       clear c40
       by_cases c41 : 0 ≤ x13_3
       rotate_left
       ·rw [if_neg c41] at H
        exact absurd H (by simp)
       rw [if_pos c41] at H
       have c41b0 := decide_eq_true c41
       clear c41
       by_cases c42 : x12_3.length < 140737488355328
       rotate_left
       ·rw [if_neg c42] at H
        exact absurd H (by simp)
       rw [if_pos c42] at H
       have LMc42 := Aside0.mk c42
       clear c42
       obtain ⟨y421, hy421⟩ : ∃ y_ : List Int, y_ = (x12_3 ++ [rd l2_1 x13_3]) := ⟨_, rfl⟩
       first | rw [Option.bind_some, ← hy421] at H | rw [← hy421] at H
       (try dsimp only at H)
       have Ny421 := Aside0.mk hy421
       clear hy421
       have H' := Aside0.mk H
       clear H
       obtain ⟨Ao43, co43, eo43⟩ := Kd.b6z HO_9.out
       subst eo43
       have p419 : 0 ≤ ((ji36) : Int) := of_decide_eq_true as_
       have q419 : (ji36) < (t415.length : Int) := of_decide_eq_true as_
       obtain ⟨ad419, A419_0, c419_0, e419, hx419_0, hl419_0, hi419_0⟩ := at_L1 (Kd.aOz HO_9.out).2.2 (ji36) p419 q419
       cases e419
       obtain ⟨ce419, hce419, hMe419, hcc419⟩ := Kd.N_get HO_9.out [] (ji36) p419 (by first | exact q419 | exact of_decide_eq_true as_ | (have e_ := (Kd.aOz HO_9.out).1; omega))
       obtain ⟨ua419_0, uc419_0, rfl, ul419_0, ge419_0⟩ := Kd.bMz hMe419
       have hv419_0 := hcc419 0 _ rfl
       rw [Nat.add_zero, show ((Kd.slice 5 (Kd.int .u8))).sz = 1 from rfl, Nat.mul_one] at hv419_0
       replace hv419_0 := Option.some.inj (hv419_0.symm.trans hx419_0)
       injection hv419_0 with hva_ hvn_ hvc_
       rw [hva_] at ge419_0
       rw [hvc_] at ul419_0
       have HL419_0 := Aside0.mk (show Kd.V (Kd.int .u8) 5 _ w.heap.size _ _ (rd_L1 t415 (ji36)) from Kd.V_mk ul419_0 ge419_0)
       clear hva_ hvn_ hvc_ ge419_0 ul419_0
       clear hcc419 hce419
       have HR419_0 := Aside0.mk hi419_0
       have HC419_0 := Aside0.mk hl419_0
       clear hi419_0 hl419_0
       replace p419 := eq_true p419
       replace q419 := eq_true q419
       have hnb44 := NB409_408.out
       have hnc44 := NB408_409.out
       have hnb45 := NB409_414.out
       have hnc45 := NB414_409.out
       obtain ⟨hcz46_0, hfz46_0, hcz46_1, hfz46_1⟩ := bc2_ BK409.out
       have p420 : 0 ≤ (x13_3 : Int) := of_decide_eq_true as_
       have q420 : x13_3 < (l2_1.length : Int) := of_decide_eq_true as_
       obtain ⟨ad420, e420, hx420_0⟩ := Kd.cjz HR2_1.out x13_3 p420 q420
       cases e420
       replace hx420_0 := (HB.out.cell (World.block_lt_of_cell? w _ hx420_0)).trans hx420_0
       replace p420 := eq_true p420
       replace q420 := eq_true q420
       go_wp2_with (first | ((with_reducible refine anz (b := .append) (xs := #[.tmp 74, .tmp 76]) rfl ?_); (try (refine bkz (by rfl) ?_; dsimp only)); at_builtin; refine Kd.bSz (Kd.int .u8) (w0 := w) w.heap.size rfl (.tmp 74) (.tmp 76) 34 5 (.int .u8 0) 1 rfl Tryz.underlying34 info5 rfl (by decide) (by omega) u12 x12_3 (rd l2_1 x13_3) [.int .u8 (rd l2_1 x13_3)] (fun _ => True) (fun _ => False) rfl rfl ?aP (fun _ hk => hk.elim) ?aF ?aO ?aB ?aS ?aL ?_; (case aP => exact rfl); (case aB => exact bl_); (case aF => exact (fun _ _ => trivial)); (case aO => exact (xd_ HO_12.out)); (case aS => exact (aPz bl_)); (case aL => have := LMc42.out; omega); intro v422 w47 ho hb hg hat; rw [← Ny421.out] at ho; have n_ := And.intro (Aside0.mk (Kd.coz (ok := (fun k_ => k_ ≠ gb408 ∧ k_ ≠ gb409 ∧ k_ ≠ gb414)) (nm_ HO_9) hg hat)) (And.intro (Aside0.mk (bwz (g := gb408) (o := .cells #[.int .u8 a0_0, .int .u8 a0_1, .int .u8 a0_2] 42 (0, 0)) bk_ hg (Kd.R_ne HO_12.out BK408.out (by decide)))) (And.intro (Aside0.mk (bwz (g := gb409) (o := .cells #[.int .i64 a2_0, .slice (some ad420) l2_1.length c2_1] 48 (0, 0)) bk_ hg (Kd.R_ne HO_12.out BK409.out (by decide)))) (And.intro (Aside0.mk (bwz (g := gb414) (o := .cells #[.int .i64 t411, .int .i64 t412, .int .i64 t413] 23 (0, 0)) bk_ hg (Kd.R_ne HO_12.out BK414.out (by decide)))) (And.intro (Aside0.mk (Kd.dTz (ok := (fun k_ => some k_ ≠ (.slice (some ad419) t415.length co43 : Value).ownBlock ∧ k_ ≠ gb408 ∧ k_ ≠ gb409 ∧ k_ ≠ gb414)) (by (with_reducible repeat (first | apply Kd.dfz | apply Kd.dgz | apply Kd.V_drew)); exact Kd.cBz HL419_0.out (fun _ hk => ⟨⟨hk.2, ⟨hk.1.2.1, ⟨hk.1.2.2.1, hk.1.2.2.2⟩⟩⟩, hk.1.1⟩)) hg hat)) (And.intro (Aside0.mk (hb)) (Aside0.mk (ho))))))); clear HO_9 BK408 BK409 BK414 HL419_0 HB HO_12; obtain ⟨HO_9, BK408, BK409, BK414, HL419_0, HB, HO423⟩ := n_; clear ho hb hg hat))
       (first | go_roundg k3 | (subst hji36; go_roundg k3))
       case measure => have := HJ4.out; have := HJ14.out; have := HK3.out; omega
       case rel => exact ⟨(y421), (wrap64 (x13_3 + 1)), sd_, H', ⟨by have := HJ4.out; have := HJ14.out; have := HK3.out; omega⟩, ⟨nm_ HO_9⟩, ⟨xd_ HO423.out⟩, ⟨bk_⟩, ⟨bk_⟩, ⟨bk_⟩, ⟨bl_⟩⟩
      ·rw [if_neg c39] at H
       have c39b0 := decide_eq_false c39
       clear c39
       obtain ⟨⟨t427, t430⟩, A54, H⟩ := ob_ H
       (try dsimp only at H)
       have HC55 := Aside0.mk H
       clear H
       obtain ⟨Ao56, co56, eo56⟩ := Kd.b6z HO_9.out
       subst eo56
       have p419 : 0 ≤ ((ji36) : Int) := of_decide_eq_true as_
       have q419 : (ji36) < (t415.length : Int) := of_decide_eq_true as_
       obtain ⟨ad419, A419_0, c419_0, e419, hx419_0, hl419_0, hi419_0⟩ := at_L1 (Kd.aOz HO_9.out).2.2 (ji36) p419 q419
       cases e419
       obtain ⟨ce419, hce419, hMe419, hcc419⟩ := Kd.N_get HO_9.out [] (ji36) p419 (by first | exact q419 | exact of_decide_eq_true as_ | (have e_ := (Kd.aOz HO_9.out).1; omega))
       obtain ⟨ua419_0, uc419_0, rfl, ul419_0, ge419_0⟩ := Kd.bMz hMe419
       have hv419_0 := hcc419 0 _ rfl
       rw [Nat.add_zero, show ((Kd.slice 5 (Kd.int .u8))).sz = 1 from rfl, Nat.mul_one] at hv419_0
       replace hv419_0 := Option.some.inj (hv419_0.symm.trans hx419_0)
       injection hv419_0 with hva_ hvn_ hvc_
       rw [hva_] at ge419_0
       rw [hvc_] at ul419_0
       have HL419_0 := Aside0.mk (show Kd.V (Kd.int .u8) 5 _ w.heap.size _ _ (rd_L1 t415 (ji36)) from Kd.V_mk ul419_0 ge419_0)
       clear hva_ hvn_ hvc_ ge419_0 ul419_0
       clear hcc419 hce419
       have HR419_0 := Aside0.mk hi419_0
       have HC419_0 := Aside0.mk hl419_0
       clear hi419_0 hl419_0
       replace p419 := eq_true p419
       replace q419 := eq_true q419
       have hnb57 := NB414_408.out
       have hnc57 := NB408_414.out
       have hnb58 := NB414_409.out
       have hnc58 := NB409_414.out
       obtain ⟨hcz59_0, hfz59_0, hcz59_1, hfz59_1, hcz59_2, hfz59_2⟩ := bc3_ BK414.out
       obtain ⟨Ao60, co60, eo60⟩ := Kd.aNz HO_12.out
       subst eo60
       go_upto_region 18 with (first | ((with_reducible refine ajz (f := 33) rfl ?_); refine goesL_ (some 83) rfl rfl Tryz.func33 kr_ rfl #[.agg #[.int .i64 t411, .int .i64 t412, .int .i64 t413], .slice (some ad419) t415.length co56, .int .i64 (ji36), .slice Ao60 x12_3.length co60] rfl (by (try simp only [List.map_toArray, List.map_cons, List.map_nil]); first | done | (simp only [hji36]; rfl) | rfl | (simp only [List.length_drop, List.length_take]; rfl)) ?_; (with_reducible refine (alz.calls k3 t411 t412 t413 _ _ t415 (ji36) _ _ x12_3 t427 t430 _ (xd_ (Kd.aOz HO_9.out).2.2) ((Kd.aOz HO_9.out).2.1) (xd_ (Kd.aQz HO_12.out).2.2) ((Kd.aQz HO_12.out).2.1) A54.out).mono ?_); rintro e w61 ⟨v428, rfl, ho0, hb⟩; refine ⟨_, rfl, ?_⟩; have n_ := And.intro (Aside0.mk (Kd.cbz (xd_ HO_9.out) (Kd.ckz ho0) hb)) (And.intro (Aside0.mk (Kd.b3z (xd_ HO_12.out) hb)) (And.intro (Aside0.mk (Kd.cpz (by (with_reducible repeat (first | apply Kd.dfz | apply Kd.dgz | apply Kd.V_drew)); exact HL419_0.out) (Kd.ckz ho0) hb)) (And.intro (Aside0.mk (Kd.cgz (Kd.clz (ok' := fun k_ => some k_ ≠ (.slice (some ad419) t415.length co56 : Value).ownBlock ∧ some k_ ≠ (.slice Ao60 x12_3.length co60 : Value).ownBlock ∧ k_ ≠ gb408 ∧ k_ ≠ gb409 ∧ k_ ≠ gb414) (Kd.S_N (Kd.aXz ho0)) (fun k_ hk_ => ⟨(Kd.fresh' (Kd.N_lt (xd_ HO_9.out)) k_ hk_.2.1), (Kd.fresh' (Kd.R_lt (xd_ HO_12.out)) k_ hk_.2.1), (Kd.freshB (g := gb408) (o := .cells #[.int .u8 a0_0, .int .u8 a0_1, .int .u8 a0_2] 42 (0, 0)) bk_ k_ hk_.2.1), (Kd.freshB (g := gb409) (o := .cells #[.int .i64 a2_0, .slice A2_1 l2_1.length c2_1] 48 (0, 0)) bk_ k_ hk_.2.1), (Kd.freshB (g := gb414) (o := .cells #[.int .i64 t411, .int .i64 t412, .int .i64 t413] 23 (0, 0)) bk_ k_ hk_.2.1)⟩)) (aPz bl_))) (And.intro (bb_ BK408 hb) (And.intro (bb_ BK409 hb) (And.intro (bb_ BK414 hb) (And.intro (Aside0.mk (Kd.apz (by repeat (first | (with_reducible exact HR419_0.out) | (with_reducible refine Kd.bXz ?_ _) | (with_reducible refine Kd.baz ?_ _) | (with_reducible refine Kd.bTz ?_) | exact HR419_0.out)) hb)) (hs_ HB hb)))))))); clear HO_9 HO_12 HL419_0 BK408 BK409 BK414 HR419_0 HB; obtain ⟨HO_9, HO_12, HL419_0, HO429, BK408, BK409, BK414, HR419_0, HB⟩ := n_; clear hb ho0))
       (try simp only [Act.put, List.setIfInBounds_toArray, List.set_cons_zero, List.set_cons_succ])
       go_cut [94] (fun v94 wc => ∃ (kq : Nat) (x94_54 : Bool), v94 = .bool x94_54 ∧ Aside0 (abz.j3 kq t410 t415 (ji36) x12_3 t427 x94_54 t411 t412 t413 = some r) ∧ Aside0 (kq ≤ k3) ∧ Aside0 (Kd.N (Kd.slice 5 (Kd.int .u8)) 34 wc w.heap.size (fun k_ => some k_ ≠ ((.slice Ao60 x12_3.length co60) : Value).ownBlock ∧ some k_ ≠ (v428 : Value).ownBlock ∧ k_ ≠ gb408 ∧ k_ ≠ gb409 ∧ k_ ≠ gb414) (.slice (some ad419) t415.length co56) t415) ∧ Aside0 (Kd.R (Kd.int .u8) 5 wc w.heap.size (fun _ => True) (.slice Ao60 x12_3.length co60) x12_3) ∧ Aside0 (Kd.N (Kd.slice 5 (Kd.int .u8)) 34 wc w.heap.size (fun k_ => some k_ ≠ ((.slice (some ad419) t415.length co56) : Value).ownBlock ∧ some k_ ≠ ((.slice Ao60 x12_3.length co60) : Value).ownBlock ∧ k_ ≠ gb408 ∧ k_ ≠ gb409 ∧ k_ ≠ gb414) v428 t427) ∧ Aside0 (wc.heap[gb408]? = some (.cells #[.int .u8 a0_0, .int .u8 a0_1, .int .u8 a0_2] 42 (0, 0))) ∧ Aside0 (wc.heap[gb409]? = some (.cells #[.int .i64 a2_0, (.slice A2_1 l2_1.length c2_1)] 48 (0, 0))) ∧ Aside0 (wc.heap[gb414]? = some (.cells #[.int .i64 t411, .int .i64 t412, .int .i64 t413] 23 (0, 0))) ∧ Aside0 (Kd.C (Kd.int .u8) wc A419_0 (rd_L1 t415 (ji36)).length (rd_L1 t415 (ji36))) ∧ Aside0 (Below w.heap.size w wc))
       case first =>
        have H := HC55.out
        clear HC55
        by_cases c62 : t430 = 0
        ·rw [if_pos c62] at H
         have c62b0 : (t430 == 0) = true := beq_iff_eq.mpr c62
         have c62b1 : (t430 != 0) = false := bne_eq_false_iff_eq.mpr c62
         clear c62
         (first | rw [c62b0] | (simp only [i64_w, i32_w]; rw [c62b0]) | skip)
         have H' := Aside0.mk H
         clear H
         obtain ⟨Ao63, co63, eo63⟩ := Kd.b6z HO429.out
         subst eo63
         go_wp2
         go_meet
         case rel => exact ⟨_, (((t427.length : Int) != (t415.length : Int))), sd_, H', ⟨by have := HJ4.out; have := HJ14.out; have := HK3.out; first | omega | exact Nat.le_refl _⟩, ⟨nm_ HO_9⟩, ⟨xd_ HO_12.out⟩, ⟨xd_ HO429.out⟩, ⟨bk_⟩, ⟨bk_⟩, ⟨bk_⟩, ⟨by repeat (first | (with_reducible exact HR419_0.out) | (with_reducible refine Kd.bXz ?_ _) | (with_reducible refine Kd.baz ?_ _) | (with_reducible refine Kd.bTz ?_) | exact HR419_0.out)⟩, ⟨bl_⟩⟩
        ·rw [if_neg c62] at H
         have c62b0 : (t430 == 0) = false := beq_eq_false_iff_ne.mpr c62
         have c62b1 : (t430 != 0) = true := bne_iff_ne.mpr c62
         (first | rw [c62b0] | (simp only [i64_w, i32_w]; rw [c62b0]) | skip)
         have H' := Aside0.mk H
         clear H
         go_wp2
         go_meet
         case rel => exact ⟨_, (true), sd_, H', ⟨by have := HJ4.out; have := HJ14.out; have := HK3.out; first | omega | exact Nat.le_refl _⟩, ⟨nm_ HO_9⟩, ⟨xd_ HO_12.out⟩, ⟨xd_ HO429.out⟩, ⟨bk_⟩, ⟨bk_⟩, ⟨bk_⟩, ⟨by repeat (first | (with_reducible exact HR419_0.out) | (with_reducible refine Kd.bXz ?_ _) | (with_reducible refine Kd.baz ?_ _) | (with_reducible refine Kd.bTz ?_) | exact HR419_0.out)⟩, ⟨bl_⟩⟩
       case rest =>
        clear HC55
        try clear c1
        try clear c2
        try clear p2
        try clear c3
        try clear c4
        try clear p4
        try clear q4
        try clear hx4
        try clear c5
        try clear c6
        try clear p6
        try clear c9
        try clear c9b0
        try clear c9b1
        try clear c10
        try clear c12
        try clear c16
        try clear c20
        try clear c21
        try clear c24
        try clear c24b0
        try clear c24b1
        try clear c26
        try clear c27
        try clear c29
        try clear c30
        try clear c30b0
        try clear c30b1
        try clear c31
        try clear c32
        try clear c33
        try clear c34
        try clear c37
        try clear c37b0
        try clear c38
        try clear c38b0
        try clear c39
        try clear c39b0
        try clear c40
        try clear c40b0
        try clear c41
        try clear c41b0
        try clear p41
        try clear q41
        try clear hx41
        try clear c42
        try clear p42
        try clear q42
        try clear hx42
        try clear c44
        try clear c45
        try clear c48
        try clear c50
        try clear c51
        try clear c57
        try clear c58
        try clear c62
        try clear c62b0
        try clear c62b1
        try clear hcz11_0
        try clear hcz11_1
        try clear hcz17_0
        try clear hcz17_1
        try clear hcz17_2
        try clear hcz22_0
        try clear hcz22_1
        try clear hcz22_2
        try clear hcz28_0
        try clear hcz28_1
        try clear hcz28_2
        try clear hcz33_0
        try clear hcz33_1
        try clear hcz35_0
        try clear hcz35_1
        try clear hcz35_2
        try clear hcz46_0
        try clear hcz46_1
        try clear hcz52_0
        try clear hcz52_1
        try clear hcz59_0
        try clear hcz59_1
        try clear hcz59_2
        try clear hfz11_0
        try clear hfz11_1
        try clear hfz17_0
        try clear hfz17_1
        try clear hfz17_2
        try clear hfz22_0
        try clear hfz22_1
        try clear hfz22_2
        try clear hfz28_0
        try clear hfz28_1
        try clear hfz28_2
        try clear hfz33_0
        try clear hfz33_1
        try clear hfz35_0
        try clear hfz35_1
        try clear hfz35_2
        try clear hfz46_0
        try clear hfz46_1
        try clear hfz52_0
        try clear hfz52_1
        try clear hfz59_0
        try clear hfz59_1
        try clear hfz59_2
        try clear hx419_0
        try clear hx420_0
        try clear p2
        try clear p419
        try clear p420
        try clear p6
        try clear q419
        try clear q420
        obtain ⟨kq, x94_54, rfl, HA, HJ54, HO_9, HO_12, HO_15, BK408, BK409, BK414, HR419_0, HB⟩ := hcut
        rcases kq with _ | kj54
        ·exact absurd HA.out (by simp [abz.j3])
        have H := HA.out
        clear HA
        simp only [abz.j3] at H
        by_cases c64 : x94_54 = true
        ·subst c64
         rw [if_pos rfl] at H
         exact absurd ((Option.some.inj H).trans hr_.out) (by simp)
        ·replace c64 := Bool.eq_false_iff.mpr c64
         subst c64
         rw [if_neg (show ¬ (false = true) by decide)] at H
         obtain ⟨y431, hy431⟩ : ∃ y_ : List (List Int), y_ = (([] : List (List Int))) := ⟨_, rfl⟩
         first | rw [Option.bind_some, ← hy431] at H | rw [← hy431] at H
         (try dsimp only at H)
         have Ny431 := Aside0.mk hy431
         clear hy431
         by_cases c65 : 0 ≤ t412
         rotate_left
         ·rw [if_neg c65] at H
          exact absurd H (by simp)
         rw [if_pos c65] at H
         have c65b0 := eq_true c65
         have c65b1 := decide_eq_true c65
         clear c65
         by_cases c66 : t412 ≤ (t415.length : Int)
         rotate_left
         ·rw [if_neg c66] at H
          exact absurd H (by simp)
         rw [if_pos c66] at H
         have c66b0 := eq_true c66
         have c66b1 := decide_eq_true c66
         clear c66
         obtain ⟨y434, hy434⟩ : ∃ y_ : List (List Int), y_ = (t415.take (t412 : Int).toNat) := ⟨_, rfl⟩
         first | rw [Option.bind_some, ← hy434] at H | rw [← hy434] at H
         (try dsimp only at H)
         have Ny434 := Aside0.mk hy434
         clear hy434
         by_cases c67 : y431.length + y434.length < 5864062014805
         rotate_left
         ·rw [if_neg c67] at H
          exact absurd H (by simp)
         rw [if_pos c67] at H
         have LMc67 := Aside0.mk c67
         clear c67
         obtain ⟨y439, hy439⟩ : ∃ y_ : List (List Int), y_ = (y431 ++ y434) := ⟨_, rfl⟩
         first | rw [Option.bind_some, ← hy439] at H | rw [← hy439] at H
         (try dsimp only at H)
         have Ny439 := Aside0.mk hy439
         clear hy439
         by_cases c68 : 0 ≤ (ji36)
         rotate_left
         ·rw [if_neg c68] at H
          exact absurd H (by simp)
         rw [if_pos c68] at H
         have c68b0 := decide_eq_true c68
         clear c68
         by_cases c69 : (ji36) < (y439.length : Int)
         rotate_left
         ·rw [if_neg c69] at H
          exact absurd H (by simp)
         rw [if_pos c69] at H
         have c69b0 := decide_eq_true c69
         clear c69
         obtain ⟨y442, hy442⟩ : ∃ y_ : List (List Int), y_ = (y439.set ((ji36) : Int).toNat x12_3) := ⟨_, rfl⟩
         first | rw [Option.bind_some, ← hy442] at H | rw [← hy442] at H
         (try dsimp only at H)
         have Ny442 := Aside0.mk hy442
         clear hy442
         by_cases c71 : (ji36) < (t415.length : Int)
         rotate_left
         ·rw [if_neg c71] at H
          exact absurd H (by simp)
         rw [if_pos c71] at H
         have c71b0 := decide_eq_true c71
         clear c71
         obtain ⟨⟨t444, t447⟩, A72, H⟩ := ob_ H
         (try dsimp only at H)
         by_cases c73 : t410 = true
         rotate_left
         ·replace c73 := Bool.eq_false_iff.mpr c73
          subst c73
          rw [if_neg (show ¬ (false = true) by decide)] at H
          exact absurd ((Option.some.inj H).trans hr_.out) (by simp)
         subst c73
         rw [if_pos rfl] at H
         obtain ⟨t448, A74, H⟩ := ob_ H
         (try dsimp only at H)
         by_cases c75 : t448 = true
         rotate_left
         ·replace c75 := Bool.eq_false_iff.mpr c75
          subst c75
          rw [if_neg (show ¬ (false = true) by decide)] at H
          exact absurd ((Option.some.inj H).trans hr_.out) (by simp)
         subst c75
         rw [if_pos rfl] at H
         have c76b0 := eq_true (of_decide_eq_true as_ : 0 ≤ t412)
         by_cases c77 : t412 ≤ (t427.length : Int)
         rotate_left
         ·rw [if_neg c77] at H
          exact absurd H (by simp)
         rw [if_pos c77] at H
         have c77b0 := eq_true c77
         have c77b1 := decide_eq_true c77
         clear c77
         obtain ⟨y449, hy449⟩ : ∃ y_ : List (List Int), y_ = (t427.take (t412 : Int).toNat) := ⟨_, rfl⟩
         first | rw [Option.bind_some, ← hy449] at H | rw [← hy449] at H
         (try dsimp only at H)
         have Ny449 := Aside0.mk hy449
         clear hy449
         obtain ⟨t454, A78, H⟩ := ob_ H
         (try dsimp only at H)
         by_cases c79 : t454 = true
         rotate_left
         ·replace c79 := Bool.eq_false_iff.mpr c79
          subst c79
          rw [if_neg (show ¬ (false = true) by decide)] at H
          exact absurd ((Option.some.inj H).trans hr_.out) (by simp)
         subst c79
         rw [if_pos rfl] at H
         by_cases c80 : t447 = 0
         rotate_left
         ·rw [if_neg c80] at H
          have c80b0 : (t447 == 0) = false := beq_eq_false_iff_ne.mpr c80
          have c80b1 : (t447 != 0) = true := bne_iff_ne.mpr c80
          exact absurd ((Option.some.inj H).trans hr_.out) (by simp)
         rw [if_pos c80] at H
         have c80b0 : (t447 == 0) = true := beq_iff_eq.mpr c80
         have c80b1 : (t447 != 0) = false := bne_eq_false_iff_eq.mpr c80
         clear c80
         obtain ⟨t455, A81, H⟩ := ob_ H
         (try dsimp only at H)
         obtain rfl := Option.some.inj H
         try go_wp2_with (first | ((with_reducible refine axz (N := 95) rfl ?_); (try (refine bkz (by rfl) ?_; dsimp only)); refine Kd.N_lit (Kd.slice 5 (Kd.int .u8)) _ 34 ?hg (N' := 95) ?hd (xs := ([] : List (List Int))) (inner := []) (ok := (fun k_ => some k_ ≠ (.slice (some ad419) t415.length co56 : Value).ownBlock ∧ some k_ ≠ (.slice Ao60 x12_3.length co60 : Value).ownBlock ∧ some k_ ≠ (v428 : Value).ownBlock ∧ k_ ≠ gb408 ∧ k_ ≠ gb409 ∧ k_ ≠ gb414)) (okp := (fun k_ => some k_ ≠ (.slice (some ad419) t415.length co56 : Value).ownBlock ∧ some k_ ≠ (.slice Ao60 x12_3.length co60 : Value).ownBlock ∧ some k_ ≠ (v428 : Value).ownBlock ∧ k_ ≠ gb408 ∧ k_ ≠ gb409 ∧ k_ ≠ gb414)) ?hr ?hp (fun _ hk => hk) ((show ∀ k_, wc.heap.size ≤ k_ → (fun k_ => some k_ ≠ (.slice (some ad419) t415.length co56 : Value).ownBlock ∧ some k_ ≠ (.slice Ao60 x12_3.length co60 : Value).ownBlock ∧ some k_ ≠ (v428 : Value).ownBlock ∧ k_ ≠ gb408 ∧ k_ ≠ gb409 ∧ k_ ≠ gb414) k_ from fun k_ hk => ⟨Kd.fresh' (Kd.N_lt (xd_ HO_9.out)) k_ hk, Kd.fresh' (Kd.R_lt (xd_ HO_12.out)) k_ hk, Kd.fresh' (Kd.N_lt (xd_ HO_15.out)) k_ hk, Kd.freshB (g := gb408) (o := .cells #[.int .u8 a0_0, .int .u8 a0_1, .int .u8 a0_2] 42 (0, 0)) bk_ k_ hk, Kd.freshB (g := gb409) (o := .cells #[.int .i64 a2_0, .slice A2_1 l2_1.length c2_1] 48 (0, 0)) bk_ k_ hk, Kd.freshB (g := gb414) (o := .cells #[.int .i64 t411, .int .i64 t412, .int .i64 t413] 23 (0, 0)) bk_ k_ hk⟩) _ (Nat.le_refl _)) (Below.refl _ _) (Nat.le_refl _) (by simp) ?_; (case hd => rfl); (case hg => rfl); (case hr => first | (go_simp; done) | (go_simp; rfl)); (case hp => exact (Reps.none _ _)); intro v432 w82 ho83 hb hg_ hnew_; clear hg_ hnew_; (first | rw [← Ny431.out] at ho83 | (simp only [Int.reduceToNat] at ho83; rw [← Ny431.out] at ho83)); have n_ := And.intro (Aside0.mk (Kd.cbz (xd_ HO_9.out) (Kd.N_base ho83) hb)) (And.intro (Aside0.mk (Kd.b3z (xd_ HO_12.out) hb)) (And.intro (Aside0.mk (Kd.cbz (xd_ HO_15.out) (Kd.N_base ho83) hb)) (And.intro (Aside0.mk (Kd.cgz ho83 (aPz bl_))) (And.intro (bb_ BK408 hb) (And.intro (bb_ BK409 hb) (And.intro (bb_ BK414 hb) (And.intro (Aside0.mk (Kd.apz (by repeat (first | (with_reducible exact HR419_0.out) | (with_reducible refine Kd.bXz ?_ _) | (with_reducible refine Kd.baz ?_ _) | (with_reducible refine Kd.bTz ?_) | exact HR419_0.out)) hb)) (hs_ HB hb)))))))); clear HO_9 HO_12 HO_15 BK408 BK409 BK414 HR419_0 HB; obtain ⟨HO_9, HO_12, HO_15, HO433, BK408, BK409, BK414, HR419_0, HB⟩ := n_; clear hb ho83; have hnb84 := NB414_408.out; have hnc84 := NB408_414.out; have hnb85 := NB414_409.out; have hnc85 := NB409_414.out; obtain ⟨hcz86_0, hfz86_0, hcz86_1, hfz86_1, hcz86_2, hfz86_2⟩ := bc3_ BK414.out; have q87 : (t412 : Int) ≤ ((t415.length : Int) : Int) := of_decide_eq_true as_; obtain ⟨i087, hi087, _, hsz87, _⟩ := info_parts info34; have hroom87 : t415.length ≤ co56 := (Kd.aOz HO_9.out).2.1; have hC87 : Kd.F (Kd.slice 5 (Kd.int .u8)) _ _ (some ad419) t415.length t415 := (Kd.V_at (base := w.heap.size) (Kd.N_V HO_9.out)).2.2; have hcut87 := cut_to (P := Tryz.prog) 24 34 .i64 Tryz.underlying24 hi087 (some ad419) t415.length co56 t412 (of_decide_eq_true as_) q87 hroom87; have hr87 := Kd.F_take (m := (t412 : Int).toNat) hC87 (by omega); have hy87 : y434.length = (t412 : Int).toNat := (by rw [Ny434.out, List.length_take]; omega); rw [← Ny434.out] at hr87; rw [← hy87] at hcut87; have HO438 := Aside0.mk (show Kd.V (Kd.slice 5 (Kd.int .u8)) 34 _ w.heap.size _ (.slice (some ad419) y434.length co56) y434 from Kd.V_mk (by omega) hr87); have HC438 := Aside0.mk (show y434.length ≤ co56 from by omega); clear hr87 hC87 hroom87 hi087 hsz87; have KY87 := Aside0.mk hy87; clear hy87; replace q87 := eq_true q87) | ((with_reducible refine anz (b := .append) (xs := #[.tmp 95, .tmp 99]) rfl ?_); (try (refine bkz (by rfl) ?_; dsimp only)); at_builtin; refine Kd.c5z (Kd.slice 5 (Kd.int .u8)) (w0 := w) w.heap.size rfl (.tmp 95) (.tmp 99) 24 34 (.slice none 0 0) 24 rfl Tryz.underlying24 info34 rfl (by decide) (by omega) v432 y431 y434 _ _ _ (fun k_ => some k_ ≠ (.slice Ao60 x12_3.length co60 : Value).ownBlock ∧ some k_ ≠ (v428 : Value).ownBlock ∧ k_ ≠ gb408 ∧ k_ ≠ gb409 ∧ k_ ≠ gb414) (fun k_ => ((fun k_ => some k_ ≠ (.slice Ao60 x12_3.length co60 : Value).ownBlock ∧ some k_ ≠ (v428 : Value).ownBlock ∧ k_ ≠ gb408 ∧ k_ ≠ gb409 ∧ k_ ≠ gb414)) k_ ∧ some k_ ≠ (v432 : Value).ownBlock) rfl rfl ?aO ?aR (fun _ hk => hk) ?aF ?aB ?aS ?aL ?_; (case aR => exact (by skip; exact Kd.V_F (Kd.cBz (ok' := (fun k_ => ((fun k_ => some k_ ≠ (.slice Ao60 x12_3.length co60 : Value).ownBlock ∧ some k_ ≠ (v428 : Value).ownBlock ∧ k_ ≠ gb408 ∧ k_ ≠ gb409 ∧ k_ ≠ gb414)) k_ ∧ some k_ ≠ (v432 : Value).ownBlock)) (HO438.out) (fun k_ hk => ⟨⟨hk.1.1, ⟨hk.1.2.1, ⟨hk.1.2.2.1, ⟨hk.1.2.2.2.1, hk.1.2.2.2.2⟩⟩⟩⟩, hk.2⟩)))); (case aB => exact bl_); (case aF => exact (fun k_ hk => ⟨Kd.fresh' (Kd.R_lt (xd_ HO_12.out)) k_ hk, Kd.fresh' (Kd.N_lt (xd_ HO_15.out)) k_ hk, Kd.freshB (g := gb408) (o := .cells #[.int .u8 a0_0, .int .u8 a0_1, .int .u8 a0_2] 42 (0, 0)) bk_ k_ hk, Kd.freshB (g := gb409) (o := .cells #[.int .i64 a2_0, .slice A2_1 l2_1.length c2_1] 48 (0, 0)) bk_ k_ hk, Kd.freshB (g := gb414) (o := .cells #[.int .i64 t411, .int .i64 t412, .int .i64 t413] 23 (0, 0)) bk_ k_ hk⟩)); (case aO => exact (nm_ HO433)); (case aS => exact (aPz bl_)); (case aL => have := LMc67.out; omega); intro v440 w88 ho hb hg hat; rw [← Ny439.out] at ho; have n_ := And.intro (Aside0.mk (Kd.coz (ok := (fun k_ => some k_ ≠ (.slice Ao60 x12_3.length co60 : Value).ownBlock ∧ some k_ ≠ (v428 : Value).ownBlock ∧ k_ ≠ gb408 ∧ k_ ≠ gb409 ∧ k_ ≠ gb414)) (xd_ HO_9.out) hg hat)) (And.intro (Aside0.mk (Kd.R_over' (xd_ HO_12.out) (Kd.N_typed (xd_ HO433.out)) (by decide) hg)) (And.intro (Aside0.mk (Kd.coz (ok := (fun k_ => some k_ ≠ (.slice (some ad419) t415.length co56 : Value).ownBlock ∧ some k_ ≠ (.slice Ao60 x12_3.length co60 : Value).ownBlock ∧ k_ ≠ gb408 ∧ k_ ≠ gb409 ∧ k_ ≠ gb414)) (xd_ HO_15.out) hg hat)) (And.intro (Aside0.mk (bwz (g := gb408) (o := .cells #[.int .u8 a0_0, .int .u8 a0_1, .int .u8 a0_2] 42 (0, 0)) bk_ hg (Kd.N_ne HO433.out BK408.out (by decide)))) (And.intro (Aside0.mk (bwz (g := gb409) (o := .cells #[.int .i64 a2_0, .slice A2_1 l2_1.length c2_1] 48 (0, 0)) bk_ hg (Kd.N_ne HO433.out BK409.out (by decide)))) (And.intro (Aside0.mk (bwz (g := gb414) (o := .cells #[.int .i64 t411, .int .i64 t412, .int .i64 t413] 23 (0, 0)) bk_ hg (Kd.N_ne HO433.out BK414.out (by decide)))) (And.intro (Aside0.mk (Kd.dTz (ok := (fun k_ => some k_ ≠ (.slice Ao60 x12_3.length co60 : Value).ownBlock ∧ some k_ ≠ (v428 : Value).ownBlock ∧ k_ ≠ gb408 ∧ k_ ≠ gb409 ∧ k_ ≠ gb414)) (xd_ HO438.out) hg hat)) (And.intro (Aside0.mk (hb)) (Aside0.mk (ho))))))))); clear HO_9 HO_12 HO_15 BK408 BK409 BK414 HO438 HB HO433; obtain ⟨HO_9, HO_12, HO_15, BK408, BK409, BK414, HO438, HB, HO441⟩ := n_; clear ho hb hg hat; have p70 : 0 ≤ ((ji36) : Int) := of_decide_eq_true as_; have q70 : ((ji36) : Int) < ((y439.length : Int) : Int) := of_decide_eq_true as_; obtain ⟨go70, co70, eo70, gb70, gl70, cl70, HG70⟩ := Kd.N_form HO441.out (by omega); (first | cases eo70 | (injection eo70 with ea_ en_ ec_; (first | subst ea_ | (injection ea_ with ea_; subst ea_)); subst ec_; clear en_)); have GB70 := Aside0.mk gb70; have GG70 := Aside0.mk HG70; clear gb70 gl70 HG70; obtain ⟨ce70, hcl70, hM70, hcc70, hfr70⟩ := Kd.N_elem HO441.out [] ((ji36) : Int) p70 q70; obtain ⟨ua70_0, uc70_0, rfl, ul70_0, ge70_0⟩ := Kd.bMz hM70; have hx70_0 := hcc70 0 _ rfl; have hf70_0 := hfr70 0; (try simp only [show ((Kd.slice 5 (Kd.int .u8))).sz = 1 from rfl, Nat.mul_one, Nat.add_zero] at hx70_0); (try simp only [show ((Kd.slice 5 (Kd.int .u8))).sz = 1 from rfl, Nat.mul_one, Nat.add_zero] at hf70_0); clear hcl70 hcc70 hfr70 hM70; replace p70 := eq_true p70; replace q70 := eq_true q70; have HX89 := Aside0.mk (show Kd.N (Kd.slice 5 (Kd.int .u8)) 34 w88 w.heap.size (fun k_ => some k_ ≠ (v428 : Value).ownBlock ∧ k_ ≠ gb408 ∧ k_ ≠ gb409 ∧ k_ ≠ gb414) (.slice (some ⟨go70, 0, none⟩) y439.length co70) y439 from (nm_ HO441)); obtain ⟨ce89, hcl89, hM89, hcc89, hfr89⟩ := Kd.N_elem HX89.out [] ((ji36) : Int) (of_decide_eq_true as_) (by have h_ : ((ji36) : Int) < ((y439.length : Int) : Int) := of_decide_eq_true as_; first | exact h_ | (have e_ := (Kd.aOz HO441.out).1; omega) | simpa using h_); obtain ⟨ua89_0, uc89_0, rfl, ul89_0, ge89_0⟩ := Kd.bMz hM89; have HP89 := Kd.N_seg HX89.out ((ji36) : Int) (of_decide_eq_true as_) (by have h_ : ((ji36) : Int) < ((y439.length : Int) : Int) := of_decide_eq_true as_; first | exact h_ | (have e_ := (Kd.aOz HO441.out).1; omega) | simpa using h_) (seg := [.slice Ao60 x12_3.length co60]) (j := 0) hcl89 hcc89 (show 1 ≤ 1 from by decide) (x' := x12_3) (Kd.dIz (Kd.aQz (Kd.aMz (ok' := (fun k_ => ((fun k_ => some k_ ≠ (v428 : Value).ownBlock ∧ k_ ≠ gb408 ∧ k_ ≠ gb409 ∧ k_ ≠ gb414)) k_ ∧ k_ ≠ go70)) (Kd.bLz (Kd.bLz (Kd.bLz (Kd.cHz (Kd.cHz (HO_12.out) (Kd.N_typed HO_15.out) (by decide)) (Kd.N_typed HO441.out) (by decide)) BK408.out (by decide)) BK409.out (by decide)) BK414.out (by decide)) (fun k_ hk => ⟨⟨hk.1.1.1.1.2, ⟨hk.1.1.2, ⟨hk.1.2, hk.2⟩⟩⟩, fun e_ => (hk.1.1.1.2) (by rw [e_]; rfl)⟩))).2.1 (Kd.R_F (Kd.aMz (ok' := (fun k_ => ((fun k_ => some k_ ≠ (v428 : Value).ownBlock ∧ k_ ≠ gb408 ∧ k_ ≠ gb409 ∧ k_ ≠ gb414)) k_ ∧ k_ ≠ go70)) (Kd.bLz (Kd.bLz (Kd.bLz (Kd.cHz (Kd.cHz (HO_12.out) (Kd.N_typed HO_15.out) (by decide)) (Kd.N_typed HO441.out) (by decide)) BK408.out (by decide)) BK409.out (by decide)) BK414.out (by decide)) (fun k_ hk => ⟨⟨hk.1.1.1.1.2, ⟨hk.1.1.2, ⟨hk.1.2, hk.2⟩⟩⟩, fun e_ => (hk.1.1.1.2) (by rw [e_]; rfl)⟩)))) (fun _ hk => hk); have hx89_0 := hcc89 0 _ rfl; (try simp only [show ((Kd.slice 5 (Kd.int .u8))).sz = 1 from rfl, Nat.mul_one, Nat.add_zero] at hx89_0); have hf89_0 := hfr89 0; (try simp only [show ((Kd.slice 5 (Kd.int .u8))).sz = 1 from rfl, Nat.mul_one, Nat.add_zero] at hf89_0); clear hcl89 hcc89 hfr89 hM89; (try simp only [show ((Kd.slice 5 (Kd.int .u8))).sz = 1 from rfl, Nat.mul_one, Nat.add_zero] at HP89); (try simp only [show ((Kd.slice 5 (Kd.int .u8))).sz = 1 from rfl, Nat.mul_one, Nat.add_zero] at HP89)) | ((with_reducible refine bzz (t := 34) (p := 104) rfl ?_); refine cQz (t := 34) (p := 104) (v := ?vo_w90) (w1 := (w88.setCell ⟨go70, ((ji36) : Int).toNat, none⟩ (.slice Ao60 x12_3.length co60))) ?hg ?ho ?hn ?hr ?_; (case ho => rfl); (case hg => rfl); (case hn => rfl); (case hr => first | (go_simp; done) | (go_simp; rfl)); intro w90 hw; have hg : w88.grownBy w90 (some go70) := (by rw [hw]; exact HP89.2); have hp_ : Kd.N (Kd.slice 5 (Kd.int .u8)) 34 w90 w.heap.size (fun k_ => some k_ ≠ (v428 : Value).ownBlock ∧ k_ ≠ gb408 ∧ k_ ≠ gb409 ∧ k_ ≠ gb414) (.slice (some ⟨go70, 0, none⟩) y439.length co70) y442 := (by rw [hw, Ny442.out]; exact HP89.1); clear HP89; have n_ := And.intro (Aside0.mk (Kd.coz (v := (.slice (some ⟨go70, 0, none⟩) y439.length co70)) (v1 := (.slice (some ⟨go70, 0, none⟩) y439.length co70)) (ok := (fun k_ => some k_ ≠ (.slice Ao60 x12_3.length co60 : Value).ownBlock ∧ some k_ ≠ (v428 : Value).ownBlock ∧ k_ ≠ gb408 ∧ k_ ≠ gb409 ∧ k_ ≠ gb414)) (xd_ HO_9.out) hg (.inl rfl))) (And.intro (Aside0.mk (Kd.coz (v := (.slice (some ⟨go70, 0, none⟩) y439.length co70)) (v1 := (.slice (some ⟨go70, 0, none⟩) y439.length co70)) (ok := (fun k_ => some k_ ≠ (.slice (some ad419) t415.length co56 : Value).ownBlock ∧ some k_ ≠ (.slice Ao60 x12_3.length co60 : Value).ownBlock ∧ k_ ≠ gb408 ∧ k_ ≠ gb409 ∧ k_ ≠ gb414)) (xd_ HO_15.out) hg (.inl rfl))) (And.intro (Aside0.mk (bwz (g := gb408) (o := .cells #[.int .u8 a0_0, .int .u8 a0_1, .int .u8 a0_2] 42 (0, 0)) bk_ hg (Kd.N_ne HO441.out BK408.out (by decide)))) (And.intro (Aside0.mk (bwz (g := gb409) (o := .cells #[.int .i64 a2_0, .slice A2_1 l2_1.length c2_1] 48 (0, 0)) bk_ hg (Kd.N_ne HO441.out BK409.out (by decide)))) (And.intro (Aside0.mk (bwz (g := gb414) (o := .cells #[.int .i64 t411, .int .i64 t412, .int .i64 t413] 23 (0, 0)) bk_ hg (Kd.N_ne HO441.out BK414.out (by decide)))) (And.intro (Aside0.mk (Kd.dTz (v := (.slice (some ⟨go70, 0, none⟩) y439.length co70)) (v1 := (.slice (some ⟨go70, 0, none⟩) y439.length co70)) (ok := (fun k_ => some k_ ≠ (.slice Ao60 x12_3.length co60 : Value).ownBlock ∧ some k_ ≠ (v428 : Value).ownBlock ∧ k_ ≠ gb408 ∧ k_ ≠ gb409 ∧ k_ ≠ gb414)) (xd_ HO438.out) hg (.inl rfl))) (And.intro (Aside0.mk (hp_)) (Aside0.mk ((by rw [hw]; exact csz (HB.out) GB70.out : Below w.heap.size w w90))))))))); clear HO_9 HO_15 BK408 BK409 BK414 HO438 HO441 HB HO_12; obtain ⟨HO_9, HO_15, BK408, BK409, BK414, HO438, HO441, HB⟩ := n_; clear hg hw hp_))
         have n_ := And.intro (Aside0.mk (Kd.N_drew HO_9.out)) (And.intro (Aside0.mk (Kd.N_drew HO_15.out)) (And.intro (Aside0.mk (Kd.V_drew HO438.out)) (And.intro (Aside0.mk (Kd.N_drew HO441.out)) (And.intro (Aside0.mk (agz BK408.out)) (And.intro (Aside0.mk (agz BK409.out)) (And.intro (Aside0.mk (agz BK414.out)) (Aside0.mk (b2z HB.out))))))))
         clear HO_9 HO_15 HO438 HO441 BK408 BK409 BK414 HB
         obtain ⟨HO_9, HO_15, HO438, HO441, BK408, BK409, BK414, HB⟩ := n_
         have p443 : 0 ≤ ((ji36) : Int) := of_decide_eq_true as_
         have q443 : (ji36) < (t415.length : Int) := of_decide_eq_true as_
         obtain ⟨ad443, A443_0, c443_0, e443, hx443_0, hl443_0, hi443_0⟩ := at_L1 (Kd.aOz HO_9.out).2.2 (ji36) p443 q443
         obtain rfl : ad419 = ad443 := (by injection e443)
         obtain ⟨ce443, hce443, hMe443, hcc443⟩ := Kd.N_get HO_9.out [] (ji36) p443 (by first | exact q443 | exact of_decide_eq_true as_ | (have e_ := (Kd.aOz HO_9.out).1; omega))
         obtain ⟨ua443_0, uc443_0, rfl, ul443_0, ge443_0⟩ := Kd.bMz hMe443
         have hv443_0 := hcc443 0 _ rfl
         rw [Nat.add_zero, show ((Kd.slice 5 (Kd.int .u8))).sz = 1 from rfl, Nat.mul_one] at hv443_0
         replace hv443_0 := Option.some.inj (hv443_0.symm.trans hx443_0)
         injection hv443_0 with hva_ hvn_ hvc_
         rw [hva_] at ge443_0
         rw [hvc_] at ul443_0
         have HL443_0 := Aside0.mk (show Kd.V (Kd.int .u8) 5 _ w.heap.size _ _ (rd_L1 t415 (ji36)) from Kd.V_mk ul443_0 ge443_0)
         clear hva_ hvn_ hvc_ ge443_0 ul443_0
         clear hcc443 hce443
         have HR443_0 := Aside0.mk hi443_0
         have HC443_0 := Aside0.mk hl443_0
         clear hi443_0 hl443_0
         replace p443 := eq_true p443
         replace q443 := eq_true q443
         obtain ⟨Ao92, co92, eo92⟩ := Kd.b6z HO_15.out
         (first | subst eo92 | (injection eo92 with f1_ f2_ f3_; have f4_ := f1_.symm; have f5_ := f3_.symm; clear f1_ f2_ f3_; subst f4_; subst f5_))
         refine bbz (n := 13) (S := fun w' => w'.cell? ⟨gb414, 0, none⟩ = some (.int .i64 t411) ∧ w'.cell? ⟨gb414, 1, none⟩ = some (.int .i64 t412) ∧ w'.cell? ⟨gb414, 2, none⟩ = some (.int .i64 t413) ∧ w'.cell? (ad419.add ((ji36)).toNat) = some (.slice A443_0 (rd_L1 t415 (ji36)).length c443_0)) (ds := []) (bA 13 0) kr_ rfl rfl ⟨(aaz BK414.out 0).trans rfl, (aaz BK414.out 1).trans rfl, (aaz BK414.out 2).trans rfl, hx443_0⟩ (fun hHeld => ?_); refine with_tabW abz.tab22 abz.bits22 (fun HT_ HW_ => ?_)
         generalize w90.drew = w91 at HO_9 HO_15 HO438 HO441 BK408 BK409 BK414 HB HL443_0 HR443_0 hx443_0 hHeld ⊢
         refine pv_ 1 107 2 HT_ ?_
         refine pv_ 2 108 6 HT_ ?_
         refine pv_ 3 109 14 HT_ ?_
         refine pv_ 4 110 30 HT_ ?_
         refine pv_ 5 111 62 HT_ ?_
         refine tw_ 0 106 63 HT_ HW_ hHeld ?_
         refine tw_ 6 112 127 HT_ HW_ hHeld ?_
         refine one_ (i := 7) (N := some 113) (bA 13 255) rfl rfl (one_of HT_.out kr_) (by decide) (fun K hK => ?_)
         refine goes_ Tryz.func33 kr_ rfl #[.agg #[.int .i64 t411, .int .i64 t412, .int .i64 t413], .slice Ao92 t427.length co92, .int .i64 (ji36), .slice A443_0 (rd_L1 t415 (ji36)).length c443_0] (by rfl) rfl rfl (by (try simp only [List.map_toArray, List.map_cons, List.map_nil]); first | done | (simp only [hji36]; rfl) | rfl | (simp only [List.length_drop, List.length_take]; rfl)) ?_
         with_reducible refine (alz.calls kj54 t411 t412 t413 _ _ t427 (ji36) _ _ (rd_L1 t415 (ji36)) t444 t447 _ ?side1 ?side2 ?side3 ?side4 A72.out).mono ?_
         (case side1 => repeat (first | exact (Kd.aOz HO_15.out).2.2 | (with_reducible refine Kd.bXz ?_ _) | (with_reducible refine Kd.baz ?_ _) | (with_reducible refine Kd.bTz ?_)))
         (case side2 => exact (Kd.aOz HO_15.out).2.1)
         (case side3 => repeat (first | exact (by repeat (first | (with_reducible exact HR443_0.out) | (with_reducible refine Kd.bXz ?_ _) | (with_reducible refine Kd.baz ?_ _) | (with_reducible refine Kd.bTz ?_) | exact HR443_0.out)) | (with_reducible refine Kd.bXz ?_ _) | (with_reducible refine Kd.baz ?_ _) | (with_reducible refine Kd.bTz ?_)))
         (case side4 => exact HC443_0.out)
         rintro e w93 ⟨v445, rfl, ho0, hb⟩
         have HS3_ := (hb.cell (World.block_lt_of_cell? _ _ (hHeld.2.2.2))).trans (hHeld.2.2.2)
         refine ⟨_, rfl, ?_⟩
         have n_ := And.intro (Aside0.mk (Kd.cbz (xd_ HO_9.out) (Kd.ckz ho0) hb)) (And.intro (Aside0.mk (Kd.cbz (xd_ HO_15.out) (Kd.ckz ho0) hb)) (And.intro (Aside0.mk (Kd.cpz (xd_ HO438.out) (Kd.ckz ho0) hb)) (And.intro (Aside0.mk (Kd.cbz (xd_ HO441.out) (Kd.ckz ho0) hb)) (And.intro (Aside0.mk (Kd.cpz (by (with_reducible repeat (first | apply Kd.dfz | apply Kd.dgz | apply Kd.V_drew)); exact HL443_0.out) (Kd.ckz ho0) hb)) (And.intro (Aside0.mk (Kd.cgz (Kd.clz (ok' := fun k_ => some k_ ≠ (.slice (some ad419) t415.length co56 : Value).ownBlock ∧ some k_ ≠ (.slice Ao92 t427.length co92 : Value).ownBlock ∧ some k_ ≠ (.slice (some ⟨go70, 0, none⟩) y439.length co70 : Value).ownBlock ∧ k_ ≠ gb408 ∧ k_ ≠ gb409 ∧ k_ ≠ gb414) (Kd.S_N (Kd.aXz ho0)) (fun k_ hk_ => ⟨(Kd.fresh' (Kd.N_lt (xd_ HO_9.out)) k_ hk_.2.1), (Kd.fresh' (Kd.N_lt (xd_ HO_15.out)) k_ hk_.2.1), (Kd.fresh' (Kd.N_lt (xd_ HO441.out)) k_ hk_.2.1), (Kd.freshB (g := gb408) (o := .cells #[.int .u8 a0_0, .int .u8 a0_1, .int .u8 a0_2] 42 (0, 0)) bk_ k_ hk_.2.1), (Kd.freshB (g := gb409) (o := .cells #[.int .i64 a2_0, .slice A2_1 l2_1.length c2_1] 48 (0, 0)) bk_ k_ hk_.2.1), (Kd.freshB (g := gb414) (o := .cells #[.int .i64 t411, .int .i64 t412, .int .i64 t413] 23 (0, 0)) bk_ k_ hk_.2.1)⟩)) (aPz bl_))) (And.intro (bb_ BK408 hb) (And.intro (bb_ BK409 hb) (And.intro (bb_ BK414 hb) (And.intro (Aside0.mk (Kd.apz (by repeat (first | (with_reducible exact HR443_0.out) | (with_reducible refine Kd.bXz ?_ _) | (with_reducible refine Kd.baz ?_ _) | (with_reducible refine Kd.bTz ?_) | exact HR443_0.out)) hb)) (hs_ HB hb))))))))))
         clear HO_9 HO_15 HO438 HO441 HL443_0 BK408 BK409 BK414 HR443_0 HB
         obtain ⟨HO_9, HO_15, HO438, HO441, HL443_0, HO446, BK408, BK409, BK414, HR443_0, HB⟩ := n_
         (try clear hb)
         (try clear hb2)
         (try clear hk)
         (try clear hi)
         (try clear ho0)
         refine hK.out _ _ ⟨(aaz BK414.out 0).trans rfl, (aaz BK414.out 1).trans rfl, (aaz BK414.out 2).trans rfl, HS3_⟩ (fun hHeld => ?_)
         clear hK K
         refine norm_ (a' := ?_) ?_ ?_
         rotate_left
         ·show Act.put _ (some 113) _ = _
          simp only [Act.put, List.setIfInBounds_toArray, List.set_cons_zero, List.set_cons_succ, i64_w, i32_w]
          rfl
         refine pv_ 8 105 511 HT_ ?_
         refine pv_ 9 114 1023 HT_ ?_
         refine pv_ 10 115 2047 HT_ ?_
         refine pv_ 11 18 4095 HT_ ?_
         refine pv_ 12 19 8191 HT_ ?_
         refine done_ (done_of HT_.out kr_) ?_
         obtain ⟨hcz94_0, hfz94_0, hcz94_1, hfz94_1, hcz94_2, hfz94_2⟩ := bc3_ BK414.out
         try go_wp2_with (first | (go_at_call 22; (with_reducible refine (a9z.calls kj54 t411 t412 t413 _ _ t427 true _ (xd_ (Kd.aOz HO_15.out).2.2) ((Kd.aOz HO_15.out).2.1) A74.out).mono ?_); rintro e w95 ⟨rfl, hb⟩; have n_ := And.intro (Aside0.mk (Kd.cvz (xd_ HO_9.out) hb)) (And.intro (Aside0.mk (Kd.cvz (xd_ HO_15.out) hb)) (And.intro (Aside0.mk (Kd.V_below (xd_ HO438.out) hb)) (And.intro (Aside0.mk (Kd.cvz (xd_ HO441.out) hb)) (And.intro (Aside0.mk (Kd.V_below (by (with_reducible repeat (first | apply Kd.dfz | apply Kd.dgz | apply Kd.V_drew)); exact HL443_0.out) hb)) (And.intro (Aside0.mk (Kd.cvz (xd_ HO446.out) hb)) (And.intro (bb_ BK408 hb) (And.intro (bb_ BK409 hb) (And.intro (bb_ BK414 hb) (And.intro (Aside0.mk (Kd.apz (by repeat (first | (with_reducible exact HR443_0.out) | (with_reducible refine Kd.bXz ?_ _) | (with_reducible refine Kd.baz ?_ _) | (with_reducible refine Kd.bTz ?_) | exact HR443_0.out)) hb)) (hs_ HB hb)))))))))); clear HO_9 HO_15 HO438 HO441 HL443_0 HO446 BK408 BK409 BK414 HR443_0 HB; obtain ⟨HO_9, HO_15, HO438, HO441, HL443_0, HO446, BK408, BK409, BK414, HR443_0, HB⟩ := n_; (try clear hb); obtain ⟨hcz96_0, hfz96_0, hcz96_1, hfz96_1, hcz96_2, hfz96_2⟩ := bc3_ BK414.out; have q97 : (t412 : Int) ≤ ((t427.length : Int) : Int) := of_decide_eq_true as_; obtain ⟨i097, hi097, _, hsz97, _⟩ := info_parts info34; have hroom97 : t427.length ≤ co92 := (Kd.aOz HO_15.out).2.1; have hC97 : Kd.F (Kd.slice 5 (Kd.int .u8)) _ _ Ao92 t427.length t427 := (Kd.V_at (base := w.heap.size) (Kd.N_V HO_15.out)).2.2; have hcut97 := cut_to (P := Tryz.prog) 24 34 .i64 Tryz.underlying24 hi097 Ao92 t427.length co92 t412 (of_decide_eq_true as_) q97 hroom97; have hr97 := Kd.F_take (m := (t412 : Int).toNat) hC97 (by omega); have hy97 : y449.length = (t412 : Int).toNat := (by rw [Ny449.out, List.length_take]; omega); rw [← Ny449.out] at hr97; rw [← hy97] at hcut97; have HO453 := Aside0.mk (show Kd.V (Kd.slice 5 (Kd.int .u8)) 34 _ w.heap.size _ (.slice Ao92 y449.length co92) y449 from Kd.V_mk (by omega) hr97); have HC453 := Aside0.mk (show y449.length ≤ co92 from by omega); clear hr97 hC97 hroom97 hi097 hsz97; have KY97 := Aside0.mk hy97; clear hy97; replace q97 := eq_true q97) | (go_at_call 21; refine calls_of_args (args' := #[.slice Ao92 y449.length co92, .slice (some ⟨go70, 0, none⟩) y442.length co70]) (by first | (rw [show y442.length = y439.length from (Kd.aOz HO441.out).1.symm] <;> rfl) | rfl) ?_; (with_reducible refine (aDz.calls kj54 _ _ y449 _ _ y442 true _ ?side1 ?side2 ?side3 ?side4 A78.out).mono ?_); (case side1 => repeat (first | exact (Kd.dSz HO453.out).2.2 | (with_reducible refine Kd.bXz ?_ _) | (with_reducible refine Kd.baz ?_ _) | (with_reducible refine Kd.bTz ?_))); (case side2 => exact (Kd.dSz HO453.out).2.1); (case side3 => repeat (first | exact (Kd.aOz HO441.out).2.2 | (with_reducible refine Kd.bXz ?_ _) | (with_reducible refine Kd.baz ?_ _) | (with_reducible refine Kd.bTz ?_))); (case side4 => rw [show y442.length = y439.length from (Kd.aOz HO441.out).1.symm]; exact (Kd.aOz HO441.out).2.1); rintro e w' ⟨rfl, ⟨nd, rfl⟩⟩; obtain ⟨Ao98, co98, eo98⟩ := Kd.b6z HO446.out; subst eo98) | (go_at_call 21; (with_reducible refine (aDz.calls kj54 _ _ t444 _ _ t415 t455 _ (xd_ (Kd.aOz HO446.out).2.2) ((Kd.aOz HO446.out).2.1) (xd_ (Kd.aOz HO_9.out).2.2) ((Kd.aOz HO_9.out).2.1) A81.out).mono ?_); rintro e w' ⟨rfl, ⟨nd, rfl⟩⟩))
         go_ret
         exact ⟨by first | rfl | (simp [bpz, bqz] <;> rfl) | (simp only [← hji36]; first | rfl | (simp [bpz, bqz] <;> rfl)) | (simp [*, bpz, bqz] <;> rfl), bl_⟩
def xorB (a b : List Int) : List Int := List.zipWith (fun x y => Go.bits .xor .u8 x y) a b
def sumB (L : Nat) (rows : List (List Int)) : List Int := rows.foldl xorB (List.replicate L 0)
theorem cVz (a b : List Int) (h : a.length = b.length) : (xorB a b).length = b.length := by simp [xorB]; omega
theorem egz {L : Nat} : ∀ (rows : List (List Int)) (acc : List Int), acc.length = L → (∀ r, r ∈ rows → r.length = L) → (rows.foldl xorB acc).length = L
 | [], acc, h, _ => h
 | r :: rs, acc, h, hr => by
  have h1 := hr r (List.mem_cons_self ..)
  exact egz rs (xorB acc r) (by rw [cVz _ _ (h.trans h1.symm)]; exact h1) (fun q hq => hr q (List.mem_cons_of_mem _ hq))
theorem sumB_length {L : Nat} (rows : List (List Int)) (h : ∀ r, r ∈ rows → r.length = L) : (sumB L rows).length = L := egz rows _ (by simp) h
theorem cFz {j : Nat} (h : j ≤ 1000000000) : wrap64 ((j : Int) + 1) = ((j + 1 : Nat) : Int) := by unfold wrap64; omega
theorem sum_l1 (rows : List (List Int)) (n : Int) (i : Nat) (acc row : List Int) (r : List Int × Int) (K : Nat) (hl : acc.length = row.length) (hL : row.length ≤ 100000000) (hi : i ≤ 100000000)
  (h : aoz.l0 K (xorB acc row) rows n ((i + 1 : Nat) : Int) = some r) :
  ∀ (d j : Nat), j + d = row.length → aoz.l1 (K + d + 1) ((xorB acc row).take j ++ acc.drop j) rows n (i : Int) row (row.length : Int) (j : Int) = some r
 | 0, j, hj => by
  obtain rfl : j = row.length := by omega
  unfold aoz.l1
  rw [if_neg (by omega), cFz (by omega), List.take_of_length_le (by rw [cVz _ _ hl]; exact Nat.le_refl _), List.drop_of_length_le (by omega), List.append_nil]
  exact h
 | d + 1, j, hj => by
  have hlx := cVz _ _ hl
  have hjl : j < row.length := by omega
  have hlen : ((xorB acc row).take j ++ acc.drop j).length = row.length := by simp [hlx]; omega
  unfold aoz.l1
  rw [if_pos (by omega), if_pos (by omega), if_pos (by omega), if_pos (by omega), cFz (by omega)]
  have hset : ((xorB acc row).take j ++ acc.drop j).set (j : Int).toNat (Go.bits .xor .u8 (rd ((xorB acc row).take j ++ acc.drop j) (j : Int)) (rd row (j : Int))) = (xorB acc row).take (j + 1) ++ acc.drop (j + 1) := by
   have e1 : rd ((xorB acc row).take j ++ acc.drop j) (j : Int) = acc.getD j 0 := by
    unfold rd
    rw [Int.toNat_natCast, List.getD_eq_getElem?_getD, List.getElem?_append_right (by simp [hlx]; omega), List.getElem?_drop]
    simp [hlx, Nat.min_eq_left (Nat.le_of_lt hjl)]
   have e2 : rd row (j : Int) = row.getD j 0 := by unfold rd; rw [Int.toNat_natCast]
   rw [e1, e2, Int.toNat_natCast]
   apply List.ext_getElem?
   intro q
   have hja : j < acc.length := by omega
   have hx : (xorB acc row)[j]? = some (Go.bits .xor .u8 (acc.getD j 0) (row.getD j 0)) := by
    unfold xorB
    rw [List.getElem?_zipWith, List.getElem?_eq_getElem hja, List.getElem?_eq_getElem hjl]
    simp [List.getD_eq_getElem?_getD, List.getElem?_eq_getElem hja, List.getElem?_eq_getElem hjl]
   rw [List.getElem?_set]
   by_cases hq : j = q
   ·subst hq
    rw [if_pos rfl, if_pos (by omega), List.getElem?_append_left (by simp [hlx]; omega), List.getElem?_take, if_pos (by omega), hx]
   ·rw [if_neg hq]
    by_cases hlt : q < j
    ·rw [List.getElem?_append_left (by simp [hlx]; omega), List.getElem?_append_left (by simp [hlx]; omega), List.getElem?_take, List.getElem?_take, if_pos hlt, if_pos (by omega)]
    ·rw [List.getElem?_append_right (by simp [hlx]; omega), List.getElem?_append_right (by simp [hlx]; omega), List.getElem?_drop, List.getElem?_drop]
     congr 1
     simp [hlx, Nat.min_eq_left (Nat.le_of_lt hjl), Nat.min_eq_left (show j + 1 ≤ row.length from hjl)]
     omega
  rw [hset]
  have := sum_l1 rows n i acc row r K hl hL hi h d (j + 1) (by omega)
  rw [show K + (d + 1) = K + d + 1 by omega]
  exact this
theorem sum_l0 (rows : List (List Int)) (L : Nat) (hL : L ≤ 100000000) (hn : rows.length ≤ 1000) (hr : ∀ r, r ∈ rows → r.length = L) :
  ∀ (m i : Nat) (acc : List Int), i + m = rows.length → acc.length = L → ∃ K, aoz.l0 K acc rows (rows.length : Int) (i : Int) = some ((rows.drop i).foldl xorB acc, 0)
 | 0, i, acc, hi, ha => by
  refine ⟨1, ?_⟩
  unfold aoz.l0
  rw [if_neg (by omega), List.drop_of_length_le (by omega)]; rfl
 | m + 1, i, acc, hi, ha => by
  obtain ⟨row, hrow⟩ : ∃ r, rows[i]? = some r := ⟨_, List.getElem?_eq_getElem (by omega)⟩
  have hrl := hr row (List.mem_of_getElem? hrow)
  have hd : rows.drop i = row :: rows.drop (i + 1) := by
   obtain ⟨h1, h2⟩ := List.getElem?_eq_some_iff.1 hrow
   rw [List.drop_eq_getElem_cons h1, h2]
  obtain ⟨K, hK⟩ := sum_l0 rows L hL hn hr m (i + 1) (xorB acc row) (by omega) (by rw [cVz _ _ (by omega)]; exact hrl)
  have h1 := sum_l1 rows (rows.length : Int) i acc row _ K (by omega) (by omega) (by omega) hK row.length 0 (by omega)
  refine ⟨K + row.length + 1 + 1, ?_⟩
  have hrd : rd_L1 rows (i : Int) = row := by unfold rd_L1; rw [Int.toNat_natCast, List.getD_eq_getElem?_getD, hrow]; rfl
  unfold aoz.l0
  rw [if_pos (by omega), if_pos (by omega), if_pos (by omega), hrd, if_pos (by omega), hd]
  simpa using h1
theorem sum_ev (rows : List (List Int)) (L : Nat) (hL : L ≤ 100000000) (hn : rows.length ≤ 1000) (h0 : 0 < rows.length) (hr : ∀ r, r ∈ rows → r.length = L) : Ev (fun k => aoz.f k rows) (sumB L rows, 0) := by
 obtain ⟨row, hrow⟩ : ∃ r, rows[0]? = some r := ⟨_, List.getElem?_eq_getElem h0⟩
 have hrl := hr row (List.mem_of_getElem? hrow)
 have hrd : rd_L1 rows 0 = row := by unfold rd_L1; rw [show (0 : Int).toNat = 0 from rfl, List.getD_eq_getElem?_getD, hrow]; rfl
 obtain ⟨K, hK⟩ := sum_l0 rows L hL hn hr rows.length 0 (List.replicate L 0) (by omega) (by simp)
 refine Ev.of (fun k => aoz.mono _ k) (k := K) ?_
 unfold aoz.f
 rw [if_pos (by omega), hrd, if_pos (by omega), if_pos (by omega), hrl, Int.toNat_natCast]
 simpa [sumB] using hK
theorem byteF_len (wb a : Int) : (byteF wb a).length = wN wb := by unfold byteF wN; split <;> rfl
theorem bytesF_len (wb : Int) : ∀ l : List Int, (bytesF wb l).length = l.length * wN wb
 | [] => by simp [bytesF]
 | a :: l => by
  have h1 := bytesF_len wb l
  have h3 : bytesF wb (a :: l) = byteF wb a ++ bytesF wb l := by unfold bytesF; rw [List.flatMap_cons]
  rw [h3, List.length_append, byteF_len, h1, List.length_cons, Nat.add_mul]
  omega
theorem mulB_len (wb c : Int) (b : List Int) (h : b.length % wN wb = 0) : (mulB wb c b).length = b.length := by
 unfold mulB
 rw [bytesF_len, List.length_map, d8z]
 exact Nat.div_mul_cancel (Nat.dvd_of_mod_eq_zero h)
def dotV (L : Nat) (wb : Int) (c : List Int) (rows : List (List Int)) : List Int := sumB L (List.zipWith (mulB wb) c rows)
theorem zip_len {wb : Int} {L : Nat} (hd : L % wN wb = 0) {c : List Int} {rows : List (List Int)} (hr : ∀ r, r ∈ rows → r.length = L) : ∀ r, r ∈ List.zipWith (mulB wb) c rows → r.length = L := by
 intro r h
 obtain ⟨i, hi, rfl⟩ := List.mem_iff_getElem.1 h
 rw [List.getElem_zipWith]
 rw [mulB_len _ _ _ (by rw [hr _ (List.getElem_mem ..)]; exact hd)]
 exact hr _ (List.getElem_mem ..)
theorem dotV_len {wb : Int} {L : Nat} (hd : L % wN wb = 0) {c : List Int} {rows : List (List Int)} (hr : ∀ r, r ∈ rows → r.length = L) : (dotV L wb c rows).length = L := sumB_length _ (zip_len hd hr)
theorem dot_ev (wb : Int) (L : Nat) (hL : L ≤ 1000000) (hd : L % wN wb = 0) (c : List Int) (rows : List (List Int)) (h0 : 0 < rows.length) (hc : c.length = rows.length) (hn : rows.length ≤ 1000) (hr : ∀ r, r ∈ rows → r.length = L) : Ev (fun k => dotB k wb c rows) (dotV L wb c rows, 0) := by
 have hall : rows.all (evB wb) = true := by
  rw [List.all_eq_true]
  intro r h
  unfold evB
  rw [hr r h, hd]; rfl
 refine Ev.congr (f := fun k => aoz.f k (List.zipWith (mulB wb) c rows)) (fun k => by unfold dotB; rw [if_pos hall]) ?_
 exact sum_ev _ L (by omega) (by simp; omega) (by simp; omega) (zip_len hd hr)
theorem parl_ev (wb : Int) (L : Nat) (hL : L ≤ 1000000) (hd : L % wN wb = 0) (data : List (List Int)) (h0 : 0 < data.length) (hn : data.length ≤ 1000) (hr : ∀ r, r ∈ data → r.length = L) :
  ∀ (rs acc : List (List Int)), (∀ r, r ∈ rs → r.length = data.length) → Ev (fun k => akz.l k wb data rs acc) (acc ++ rs.map (fun c => dotV L wb c data), 0)
 | [], acc, _ => by
  simp only [akz.l, List.map_nil, List.append_nil]
  exact Ev.now _
 | row :: rs, acc, hc => by
  have h1 := dot_ev wb L hL hd row data h0 (hc row (List.mem_cons_self ..)) hn hr
  have h2 := parl_ev wb L hL hd data h0 hn hr rs (acc ++ [dotV L wb row data]) (fun r h => hc r (List.mem_cons_of_mem _ h))
  simp only [akz.l]
  refine Ev.bind h1 ?_
  rw [List.append_assoc] at h2
  simpa using h2
def parV (L : Nat) (p : Int) (K M : Nat) (data : List (List Int)) : List (List Int) := (parM p K M).map fun c => dotV L (pbits p) c data
theorem par_ev (p : Int) (K M L : Nat) (data : List (List Int)) (hmay : ahz.f p (K : Int) (M : Int) = some true) (hK : data.length = K) (hL : L ≤ 1000000) (hd : L % wN (pbits p) = 0) (hr : ∀ r, r ∈ data → r.length = L) :
  Ev (fun k => akz.f k p (K : Int) (M : Int) data) (parV L p K M data, 0) := by
 obtain ⟨p1, p2, k1, k2, m1, m2⟩ := bhz hmay
 have hgd := ccz p K M (by omega) (by omega) (by omega) (by omega)
 have hs : akz.small data = true := by
  simp only [akz.small, Bool.and_eq_true, decide_eq_true_eq, List.all_eq_true]
  exact ⟨by omega, fun r h => by rw [hr r h]; exact hL⟩
 have h1 := parl_ev (pbits p) L hL hd data (by omega) (by omega) hr (parM p K M) [] (fun r h => by rw [(hgd.1 r h).1, hK])
 refine Ev.congr (fun k => ?_) h1
 unfold akz.f
 rw [hmay, Option.bind_some, if_pos rfl, if_pos (by omega), if_pos hs, Int.toNat_natCast, Int.toNat_natCast]
end Go.Proofs.YtpdakdcmahlghaaGreat.XCo
end
