-- Joined by this work's own program (wip/tools/bundle.py) out of its texts: what this claim uses of them. Not trusted: Lean checks it.
import Derived.Test.YtelcllhibpnneaaGreatBCodecColumns18
section
namespace Go.Proofs.YtelcllhibpnneaaGreat.XCo
open Go.RowKit Go.Proofs.YtelcllhibpnneaaGreatW.PrintWords Go.Proofs.YtelcllhibpnneaaGreatW.PrintLast Go.Proofs.YtelcllhibpnneaaGreatW.PrintMore
attribute [local go_sem] max2_int min2_int max_two min_two max_three min_three max_four min_four
set_option linter.unusedVariables false
set_option linter.unusedSimpArgs false
mutual
def gambrellaw11_CodecColumns.j0 : Nat → Int → Bool → List (List Int) → Bool → Int → Int → Int → Option (Bool)
 | 0, _, _, _, _, _, _, _ => none
 | k + 1, x2, x7, x9, x38, x631000, x631001, x631002 => if x38 = true then (some false) else (if 0 < (x9.length : Int) then (if (wrap64 ((wrap64 (((rd_L1 x9 0).length : Int) / 2)) + 1)) = 0 then (none) else (gambrellaw11_CodecColumns.l0 k x7 x9 (wrap64 ((Int.tmod (wrap64 (x2)) (wrap64 ((wrap64 (((rd_L1 x9 0).length : Int) / 2)) + 1))) * 2)) ([] : List (List Int)) 0 x631000 x631001 x631002)) else (none))
def gambrellaw11_CodecColumns.l0 : Nat → Bool → List (List Int) → Int → List (List Int) → Int → Int → Int → Int → Option (Bool)
 | 0, _, _, _, _, _, _, _, _ => none
 | k + 1, x7, x9, x11, x12, x13, x631000, x631001, x631002 => if x13 < (x9.length : Int) then (if 0 ≤ x13 then (if ((rd_L1 x9 x13).length : Int) < x11 then (some false) else (if 0 ≤ x11 then (if x11 ≤ ((rd_L1 x9 x13).length : Int) then (if x12.length < 5864062014805 then (gambrellaw11_CodecColumns.l0 k x7 x9 x11 (x12 ++ [((rd_L1 x9 x13).take (x11 : Int).toNat)]) (wrap64 (x13 + 1)) x631000 x631001 x631002) else (none)) else (none)) else (none))) else (none)) else (if x7 = true then ((codec_Verify.f k x631000 x631001 x631002 x12).bind fun t646 => (some t646)) else (some false))
end
def gambrellaw11_CodecColumns.f (k : Nat) (a0_0 : Int) (a0_1 : Int) (a0_2 : Int) (l1 : List Int) (a2 : Int) : Option (Bool) := (gambrellaw11_awake.f k).bind fun t626 => (if (l1.length : Int) > 300 then (some t626) else ((gambrelref09_Some.f a0_0 a0_1 a0_2).bind fun bt627 => ((codec_Encode.f k bt627.1 bt627.2.1 bt627.2.2 l1).bind fun bt631 => (if bt631.2 = 0 then (gambrellaw11_CodecColumns.j0 k a2 t626 bt631.1 ((bt631.1.length : Int) != (wrap64 (bt627.2.1 + bt627.2.2))) bt627.1 bt627.2.1 bt627.2.2) else (gambrellaw11_CodecColumns.j0 k a2 t626 bt631.1 true bt627.1 bt627.2.1 bt627.2.2)))))
set_option maxHeartbeats 8000000 in
set_option maxRecDepth 100000 in
theorem gambrellaw11_CodecColumns.calls (k : Nat) (a0_0 : Int) (a0_1 : Int) (a0_2 : Int) (A1 : Option Addr) (c1 : Nat) (l1 : List Int) (a2 : Int) (r : Bool) (w : World) (hr_ : Aside0 (r = true)) (hr1 : Kd.C (Kd.int .u8) w A1 l1.length l1) (hc1 : l1.length ≤ c1) (h : gambrellaw11_CodecColumns.f k a0_0 a0_1 a0_2 l1 a2 = some r) :
  Calls Tryz.prog 6 #[.agg #[.int .u8 a0_0, .int .u8 a0_1, .int .u8 a0_2], .slice A1 l1.length c1, .int .u8 a2] w fun e w' => e = .returned (.bool r) ∧ Below w.heap.size w w' := by
 have hu38 := Tryz.underlying38
 have hu23 := Tryz.underlying23
 have HR1 := Aside0.mk hr1
 have HC1 := Aside0.mk hc1
 clear hr1 hc1
 have HB := Aside0.mk (Below.refl w.heap.size w)
 have H : ((gambrellaw11_awake.f k).bind fun t626 => (if (l1.length : Int) > 300 then (some t626) else ((gambrelref09_Some.f a0_0 a0_1 a0_2).bind fun bt627 => ((codec_Encode.f k bt627.1 bt627.2.1 bt627.2.2 l1).bind fun bt631 => (if bt631.2 = 0 then (gambrellaw11_CodecColumns.j0 k a2 t626 bt631.1 ((bt631.1.length : Int) != (wrap64 (bt627.2.1 + bt627.2.2))) bt627.1 bt627.2.1 bt627.2.2) else (gambrellaw11_CodecColumns.j0 k a2 t626 bt631.1 true bt627.1 bt627.2.1 bt627.2.2)))))) = some r := h
 clear h
 replace H := Option.bind_eq_some_iff.mp H
 obtain ⟨t626, A40, H⟩ := H
 replace H : (if (l1.length : Int) > 300 then (some t626) else ((gambrelref09_Some.f a0_0 a0_1 a0_2).bind fun bt627 => ((codec_Encode.f k bt627.1 bt627.2.1 bt627.2.2 l1).bind fun bt631 => (if bt631.2 = 0 then (gambrellaw11_CodecColumns.j0 k a2 t626 bt631.1 ((bt631.1.length : Int) != (wrap64 (bt627.2.1 + bt627.2.2))) bt627.1 bt627.2.1 bt627.2.2) else (gambrellaw11_CodecColumns.j0 k a2 t626 bt631.1 true bt627.1 bt627.2.1 bt627.2.2))))) = some r := H
 have A4 := Aside0.mk A40
 clear A40
 by_cases c5 : (l1.length : Int) > 300
 ·rw [if_pos c5] at H
  have c5b0 : decide (300 < (l1.length : Int)) = true := decide_eq_true c5
  have c5b1 : decide (300 < l1.length) = true := decide_eq_true (by omega)
  clear c5
  obtain rfl := Option.some.inj H
  go_enter Tryz.func6, Tryz.ntmps6
  go_wp2_with (first | ((with_reducible refine gate_dst (N := 3) rfl ?_); (try (refine gate_guard (by rfl) ?_; dsimp only)); refine box_event ?hg (N := 3) ?hd (cs := #[.int .u8 a0_0, .int .u8 a0_1, .int .u8 a0_2]) (t := 38) ?hr ?_; (case hd => rfl); (case hg => rfl); (case hr => first | (go_simp; done) | (go_simp; rfl)); intro gb625 hg w6 hbox hb; have n0_ := Aside0.mk (below_step (by repeat (first | (with_reducible first | exact HB.out | apply below_alloc | apply pw_below_drewN | apply below_drew1) | exact HB.out)) hb); have n1_ := Aside0.mk (hbox); have n2_ := Aside0.mk ((by rw [hg]; exact (below_size (by repeat (first | (with_reducible first | exact HB.out | apply below_alloc | apply pw_below_drewN | apply below_drew1) | exact HB.out))) : w.heap.size ≤ gb625)); have n3_ := Aside0.mk ((by rw [hg]; exact (below_size (by repeat (first | (with_reducible first | exact HB.out | apply below_alloc | apply pw_below_drewN | apply below_drew1) | exact HB.out))) : w.heap.size ≤ gb625)); clear HB; have HB := n0_; have BK625 := n1_; have GW625 := n2_; have GE625 := n3_; clear n0_ n1_ n2_ n3_; clear hb hbox hg) | ((with_reducible refine gate_callee (f := 15) rfl ?_); refine goesL_ (some 14) rfl rfl Tryz.func15 (by kernel_rfl) rfl #[] rfl (by (try simp only [List.map_toArray, List.map_cons, List.map_nil]); first | done | rfl | (simp only [List.length_drop, List.length_take]; rfl)) ?_; (with_reducible refine (gambrellaw11_awake.calls k  t626 _ A4.out).mono ?_); rintro e w7 ⟨rfl, hb⟩; refine ⟨_, rfl, ?_⟩; have n0_ := Aside0.mk (blk_below (g := gb625) (o := .cells #[.int .u8 a0_0, .int .u8 a0_1, .int .u8 a0_2] 38 (0, 0)) (by (with_reducible repeat (first | refine blk_drewN ?_ _ | refine blk_drew ?_ | refine blk_alloc ?_ _)); exact BK625.out) hb); have n1_ := Aside0.mk (below_step (by repeat (first | (with_reducible first | exact HB.out | apply below_alloc | apply pw_below_drewN | apply below_drew1 | refine below_set ?_ GE625.out) | exact HB.out)) hb); clear BK625; clear HB; have BK625 := n0_; have HB := n1_; clear n0_ n1_; (try clear hb); (try clear hb2); (try clear hk); (try clear hi)))
  go_ret
  exact ⟨by first | rfl | (simp [errW_none, errW_some] <;> rfl) | (simp [*, errW_none, errW_some] <;> rfl), by repeat (first | (with_reducible first | exact HB.out | apply below_alloc | apply pw_below_drewN | apply below_drew1 | refine below_set ?_ GE625.out) | exact HB.out)⟩
 ·rw [if_neg c5] at H
  have c5b0 : decide (300 < (l1.length : Int)) = false := decide_eq_false c5
  have c5b1 : decide (300 < l1.length) = false := decide_eq_false (by omega)
  clear c5
  replace H := Option.bind_eq_some_iff.mp H
  obtain ⟨⟨t627, t628, t629⟩, A80, H⟩ := H
  replace H : ((codec_Encode.f k t627 t628 t629 l1).bind fun bt631 => (if bt631.2 = 0 then (gambrellaw11_CodecColumns.j0 k a2 t626 bt631.1 ((bt631.1.length : Int) != (wrap64 (t628 + t629))) t627 t628 t629) else (gambrellaw11_CodecColumns.j0 k a2 t626 bt631.1 true t627 t628 t629))) = some r := H
  have A8 := Aside0.mk A80
  clear A80
  replace H := Option.bind_eq_some_iff.mp H
  obtain ⟨⟨t631, t634⟩, A90, H⟩ := H
  replace H : (if t634 = 0 then (gambrellaw11_CodecColumns.j0 k a2 t626 t631 ((t631.length : Int) != (wrap64 (t628 + t629))) t627 t628 t629) else (gambrellaw11_CodecColumns.j0 k a2 t626 t631 true t627 t628 t629)) = some r := H
  have A9 := Aside0.mk A90
  clear A90
  have HC10 := Aside0.mk H
  clear H
  go_enter Tryz.func6, Tryz.ntmps6
  go_upto_region 6 with (first | ((with_reducible refine gate_dst (N := 3) rfl ?_); (try (refine gate_guard (by rfl) ?_; dsimp only)); refine box_event ?hg (N := 3) ?hd (cs := #[.int .u8 a0_0, .int .u8 a0_1, .int .u8 a0_2]) (t := 38) ?hr ?_; (case hd => rfl); (case hg => rfl); (case hr => first | (go_simp; done) | (go_simp; rfl)); intro gb625 hg w11 hbox hb; have n0_ := Aside0.mk (below_step (by repeat (first | (with_reducible first | exact HB.out | apply below_alloc | apply pw_below_drewN | apply below_drew1) | exact HB.out)) hb); have n1_ := Aside0.mk (hbox); have n2_ := Aside0.mk ((by rw [hg]; exact (below_size (by repeat (first | (with_reducible first | exact HB.out | apply below_alloc | apply pw_below_drewN | apply below_drew1) | exact HB.out))) : w.heap.size ≤ gb625)); have n3_ := Aside0.mk ((by rw [hg]; exact (below_size (by repeat (first | (with_reducible first | exact HB.out | apply below_alloc | apply pw_below_drewN | apply below_drew1) | exact HB.out))) : w.heap.size ≤ gb625)); clear HB; have HB := n0_; have BK625 := n1_; have GW625 := n2_; have GE625 := n3_; clear n0_ n1_ n2_ n3_; clear hb hbox hg) | ((with_reducible refine gate_callee (f := 15) rfl ?_); refine goesL_ (some 14) rfl rfl Tryz.func15 (by kernel_rfl) rfl #[] rfl (by (try simp only [List.map_toArray, List.map_cons, List.map_nil]); first | done | rfl | (simp only [List.length_drop, List.length_take]; rfl)) ?_; (with_reducible refine (gambrellaw11_awake.calls k  t626 _ A4.out).mono ?_); rintro e w12 ⟨rfl, hb⟩; refine ⟨_, rfl, ?_⟩; have n0_ := Aside0.mk (blk_below (g := gb625) (o := .cells #[.int .u8 a0_0, .int .u8 a0_1, .int .u8 a0_2] 38 (0, 0)) (by (with_reducible repeat (first | refine blk_drewN ?_ _ | refine blk_drew ?_ | refine blk_alloc ?_ _)); exact BK625.out) hb); have n1_ := Aside0.mk (below_step (by repeat (first | (with_reducible first | exact HB.out | apply below_alloc | apply pw_below_drewN | apply below_drew1 | refine below_set ?_ GE625.out) | exact HB.out)) hb); clear BK625; clear HB; have BK625 := n0_; have HB := n1_; clear n0_ n1_; (try clear hb); (try clear hb2); (try clear hk); (try clear hi); have hcz13_0 : w12.cell? ⟨gb625, 0, none⟩ = some (.int .u8 a0_0) := (blk_cell BK625.out 0).trans rfl; have hcz13_1 : w12.cell? ⟨gb625, 1, none⟩ = some (.int .u8 a0_1) := (blk_cell BK625.out 1).trans rfl; have hcz13_2 : w12.cell? ⟨gb625, 2, none⟩ = some (.int .u8 a0_2) := (blk_cell BK625.out 2).trans rfl; have hfz13_0 := blk_frozen BK625.out 0; have hfz13_1 := blk_frozen BK625.out 1; have hfz13_2 := blk_frozen BK625.out 2) | ((with_reducible refine gate_callee (f := 24) rfl ?_); refine goesL_ (some 20) rfl rfl Tryz.func24 (by kernel_rfl) rfl #[.agg #[.int .u8 a0_0, .int .u8 a0_1, .int .u8 a0_2]] rfl (by (try simp only [List.map_toArray, List.map_cons, List.map_nil]); first | done | rfl | (simp only [List.length_drop, List.length_take]; rfl)) ?_; (with_reducible refine (gambrelref09_Some.calls a0_0 a0_1 a0_2 t627 t628 t629 _ A8.out).mono ?_); rintro e w14 ⟨rfl, hb⟩; refine ⟨_, rfl, ?_⟩; have n0_ := Aside0.mk (blk_below (g := gb625) (o := .cells #[.int .u8 a0_0, .int .u8 a0_1, .int .u8 a0_2] 38 (0, 0)) (by (with_reducible repeat (first | refine blk_drewN ?_ _ | refine blk_drew ?_ | refine blk_alloc ?_ _)); exact BK625.out) hb); have n1_ := Aside0.mk (below_step (by repeat (first | (with_reducible first | exact HB.out | apply below_alloc | apply pw_below_drewN | apply below_drew1 | refine below_set ?_ GE625.out) | exact HB.out)) hb); clear BK625; clear HB; have BK625 := n0_; have HB := n1_; clear n0_ n1_; (try clear hb); (try clear hb2); (try clear hk); (try clear hi)) | ((with_reducible refine gate_dst (N := 8) rfl ?_); (try (refine gate_guard (by rfl) ?_; dsimp only)); refine box_event ?hg (N := 8) ?hd (cs := #[.int .i64 0, .int .i64 0, .int .i64 0]) (t := 23) ?hr ?_; (case hd => rfl); (case hg => rfl); (case hr => first | (go_simp; done) | (go_simp; rfl)); intro gb630 hg w15 hbox hb; have n0_ := Aside0.mk (blk_below (g := gb625) (o := .cells #[.int .u8 a0_0, .int .u8 a0_1, .int .u8 a0_2] 38 (0, 0)) (by (with_reducible repeat (first | refine blk_drewN ?_ _ | refine blk_drew ?_ | refine blk_alloc ?_ _)); exact BK625.out) hb); have n1_ := Aside0.mk (below_step (by repeat (first | (with_reducible first | exact HB.out | apply below_alloc | apply pw_below_drewN | apply below_drew1 | refine below_set ?_ GE625.out) | exact HB.out)) hb); have n2_ := Aside0.mk (hbox); have n3_ := Aside0.mk ((by rw [hg]; exact (below_size (by repeat (first | (with_reducible first | exact HB.out | apply below_alloc | apply pw_below_drewN | apply below_drew1 | refine below_set ?_ GE625.out) | exact HB.out))) : w.heap.size ≤ gb630)); have n4_ := Aside0.mk ((by rw [hg]; exact (below_size (by repeat (first | (with_reducible first | exact HB.out | apply below_alloc | apply pw_below_drewN | apply below_drew1 | refine below_set ?_ GE625.out) | exact HB.out))) : w.heap.size ≤ gb630)); have n5_ := Aside0.mk ((by rw [hg]; exact Nat.ne_of_lt (blk_lt (g := gb625) (o := .cells #[.int .u8 a0_0, .int .u8 a0_1, .int .u8 a0_2] 38 (0, 0)) (by (with_reducible repeat (first | refine blk_drewN ?_ _ | refine blk_drew ?_ | refine blk_alloc ?_ _)); exact BK625.out)) : gb625 ≠ gb630)); have n6_ := Aside0.mk ((by rw [hg]; exact Nat.ne_of_gt (blk_lt (g := gb625) (o := .cells #[.int .u8 a0_0, .int .u8 a0_1, .int .u8 a0_2] 38 (0, 0)) (by (with_reducible repeat (first | refine blk_drewN ?_ _ | refine blk_drew ?_ | refine blk_alloc ?_ _)); exact BK625.out)) : gb630 ≠ gb625)); clear BK625; clear HB; have BK625 := n0_; have HB := n1_; have BK630 := n2_; have GW630 := n3_; have GE630 := n4_; have NB625_630 := n5_; have NB630_625 := n6_; clear n0_ n1_ n2_ n3_ n4_ n5_ n6_; clear hb hbox hg; have hnb16 := NB630_625.out; have hnc16 := NB625_630.out; have hcz17_0 : w15.cell? ⟨gb630, 0, none⟩ = some (.int .i64 0) := (blk_cell BK630.out 0).trans rfl; have hcz17_1 : w15.cell? ⟨gb630, 1, none⟩ = some (.int .i64 0) := (blk_cell BK630.out 1).trans rfl; have hcz17_2 : w15.cell? ⟨gb630, 2, none⟩ = some (.int .i64 0) := (blk_cell BK630.out 2).trans rfl; have hfz17_0 := blk_frozen BK630.out 0; have hfz17_1 := blk_frozen BK630.out 1; have hfz17_2 := blk_frozen BK630.out 2) | ((with_reducible refine gate_callee (f := 22) rfl ?_); refine goesL_ (some 24) rfl rfl Tryz.func22 (by kernel_rfl) rfl #[.agg #[.int .i64 t627, .int .i64 t628, .int .i64 t629], .slice A1 l1.length c1] rfl (by (try simp only [List.map_toArray, List.map_cons, List.map_nil]); first | done | rfl | (simp only [List.length_drop, List.length_take]; rfl)) ?_; (with_reducible refine (codec_Encode.calls k t627 t628 t629 _ _ l1 t631 t634 _ ?side1 ?side2 A9.out).mono ?_); (case side1 => exact Kd.C_below HR1.out (by repeat (first | (with_reducible first | exact HB.out | apply below_alloc | apply pw_below_drewN | apply below_drew1 | refine below_set ?_ GE625.out | refine below_set ?_ GE630.out) | exact HB.out))); (case side2 => exact HC1.out); rintro e w18 ⟨v632, rfl, ho0, hb⟩; refine ⟨_, rfl, ?_⟩; have n0_ := Aside0.mk (Kd.N_lower (Kd.N_mono (ok' := fun k_ => k_ ≠ gb625 ∧ k_ ≠ gb630) ho0 (fun k_ hk_ => ⟨(Kd.freshB (g := gb625) (o := .cells #[.int .u8 a0_0, .int .u8 a0_1, .int .u8 a0_2] 38 (0, 0)) (by (with_reducible repeat (first | refine blk_drewN ?_ _ | refine blk_drew ?_ | refine blk_alloc ?_ _)); refine blk_far ?_ NB625_630.out _; (with_reducible repeat (first | refine blk_drewN ?_ _ | refine blk_drew ?_ | refine blk_alloc ?_ _)); refine blk_far ?_ NB625_630.out _; (with_reducible repeat (first | refine blk_drewN ?_ _ | refine blk_drew ?_ | refine blk_alloc ?_ _)); refine blk_far ?_ NB625_630.out _; (with_reducible repeat (first | refine blk_drewN ?_ _ | refine blk_drew ?_ | refine blk_alloc ?_ _)); exact BK625.out) k_ hk_), (Kd.freshB (g := gb630) (o := .cells #[.int .i64 t627, .int .i64 t628, .int .i64 t629] 23 (0, 0)) (by (with_reducible repeat (first | refine blk_drewN ?_ _ | refine blk_drew ?_ | refine blk_alloc ?_ _)); refine blk_put (cs := #[.int .i64 t627, .int .i64 t628, .int .i64 0]) ?_ 2 _ rfl; (with_reducible repeat (first | refine blk_drewN ?_ _ | refine blk_drew ?_ | refine blk_alloc ?_ _)); refine blk_put (cs := #[.int .i64 t627, .int .i64 0, .int .i64 0]) ?_ 1 _ rfl; (with_reducible repeat (first | refine blk_drewN ?_ _ | refine blk_drew ?_ | refine blk_alloc ?_ _)); refine blk_put (cs := #[.int .i64 0, .int .i64 0, .int .i64 0]) ?_ 0 _ rfl; (with_reducible repeat (first | refine blk_drewN ?_ _ | refine blk_drew ?_ | refine blk_alloc ?_ _)); exact BK630.out) k_ hk_)⟩)) (below_size (by repeat (first | (with_reducible first | exact HB.out | apply below_alloc | apply pw_below_drewN | apply below_drew1 | refine below_set ?_ GE625.out | refine below_set ?_ GE630.out) | exact HB.out)))); have n1_ := Aside0.mk (blk_below (g := gb625) (o := .cells #[.int .u8 a0_0, .int .u8 a0_1, .int .u8 a0_2] 38 (0, 0)) (by (with_reducible repeat (first | refine blk_drewN ?_ _ | refine blk_drew ?_ | refine blk_alloc ?_ _)); refine blk_far ?_ NB625_630.out _; (with_reducible repeat (first | refine blk_drewN ?_ _ | refine blk_drew ?_ | refine blk_alloc ?_ _)); refine blk_far ?_ NB625_630.out _; (with_reducible repeat (first | refine blk_drewN ?_ _ | refine blk_drew ?_ | refine blk_alloc ?_ _)); refine blk_far ?_ NB625_630.out _; (with_reducible repeat (first | refine blk_drewN ?_ _ | refine blk_drew ?_ | refine blk_alloc ?_ _)); exact BK625.out) hb); have n2_ := Aside0.mk (blk_below (g := gb630) (o := .cells #[.int .i64 t627, .int .i64 t628, .int .i64 t629] 23 (0, 0)) (by (with_reducible repeat (first | refine blk_drewN ?_ _ | refine blk_drew ?_ | refine blk_alloc ?_ _)); refine blk_put (cs := #[.int .i64 t627, .int .i64 t628, .int .i64 0]) ?_ 2 _ rfl; (with_reducible repeat (first | refine blk_drewN ?_ _ | refine blk_drew ?_ | refine blk_alloc ?_ _)); refine blk_put (cs := #[.int .i64 t627, .int .i64 0, .int .i64 0]) ?_ 1 _ rfl; (with_reducible repeat (first | refine blk_drewN ?_ _ | refine blk_drew ?_ | refine blk_alloc ?_ _)); refine blk_put (cs := #[.int .i64 0, .int .i64 0, .int .i64 0]) ?_ 0 _ rfl; (with_reducible repeat (first | refine blk_drewN ?_ _ | refine blk_drew ?_ | refine blk_alloc ?_ _)); exact BK630.out) hb); have n3_ := Aside0.mk (below_step (by repeat (first | (with_reducible first | exact HB.out | apply below_alloc | apply pw_below_drewN | apply below_drew1 | refine below_set ?_ GE625.out | refine below_set ?_ GE630.out) | exact HB.out)) hb); clear BK625; clear BK630; clear HB; have HO633 := n0_; have BK625 := n1_; have BK630 := n2_; have HB := n3_; clear n0_ n1_ n2_ n3_; (try clear hb); (try clear hb2); (try clear hk); (try clear hi); (try clear ho0)))
  (try simp only [Act.put, List.setIfInBounds_toArray, List.set_cons_zero, List.set_cons_succ])
  go_cut [38] (fun v38 wc => ∃ (kq : Nat) (x38_9 : Bool), v38 = .bool x38_9 ∧ Aside0 (gambrellaw11_CodecColumns.j0 kq a2 t626 t631 x38_9 t627 t628 t629 = some r) ∧ Aside0 (kq ≤ k) ∧ Aside0 (Kd.N (Kd.slice 5 (Kd.int .u8)) 34 wc w.heap.size (fun k_ => k_ ≠ gb625 ∧ k_ ≠ gb630) v632 t631) ∧ Aside0 (wc.heap[gb625]? = some (.cells #[.int .u8 a0_0, .int .u8 a0_1, .int .u8 a0_2] 38 (0, 0))) ∧ Aside0 (wc.heap[gb630]? = some (.cells #[.int .i64 t627, .int .i64 t628, .int .i64 t629] 23 (0, 0))) ∧ Aside0 (Below w.heap.size w wc))
  case first =>
   have H := HC10.out
   clear HC10
   by_cases c19 : t634 = 0
   ·rw [if_pos c19] at H
    have c19b0 : (t634 == 0) = true := beq_iff_eq.mpr c19
    have c19b1 : (t634 != 0) = false := bne_eq_false_iff_eq.mpr c19
    clear c19
    (first | rw [c19b0] | (simp only [i64_w, i32_w]; rw [c19b0]) | skip)
    have H' := Aside0.mk H
    clear H
    obtain ⟨Ao20, co20, eo20⟩ := Kd.N_slice HO633.out
    subst eo20
    have hnb21 := NB630_625.out
    have hnc21 := NB625_630.out
    have hcz22_0 : w18.cell? ⟨gb630, 0, none⟩ = some (.int .i64 t627) := (blk_cell BK630.out 0).trans rfl
    have hcz22_1 : w18.cell? ⟨gb630, 1, none⟩ = some (.int .i64 t628) := (blk_cell BK630.out 1).trans rfl
    have hcz22_2 : w18.cell? ⟨gb630, 2, none⟩ = some (.int .i64 t629) := (blk_cell BK630.out 2).trans rfl
    have hfz22_0 := blk_frozen BK630.out 0
    have hfz22_1 := blk_frozen BK630.out 1
    have hfz22_2 := blk_frozen BK630.out 2
    go_wp2
    go_meet
    case rel => exact ⟨_, (((t631.length : Int) != (wrap64 (t628 + t629)))), (by first | rfl | (simp; done) | (simp [*]; done)), H', ⟨by first | omega | exact Nat.le_refl _⟩, ⟨by (with_reducible repeat (first | apply Kd.N_alloc | apply Kd.N_drewN | apply Kd.N_drew)); exact HO633.out⟩, ⟨by (with_reducible repeat (first | refine blk_drewN ?_ _ | refine blk_drew ?_ | refine blk_alloc ?_ _)); exact BK625.out⟩, ⟨by (with_reducible repeat (first | refine blk_drewN ?_ _ | refine blk_drew ?_ | refine blk_alloc ?_ _)); exact BK630.out⟩, ⟨by repeat (first | (with_reducible first | exact HB.out | apply below_alloc | apply pw_below_drewN | apply below_drew1 | refine below_set ?_ GE625.out | refine below_set ?_ GE630.out) | exact HB.out)⟩⟩
   ·rw [if_neg c19] at H
    have c19b0 : (t634 == 0) = false := beq_eq_false_iff_ne.mpr c19
    have c19b1 : (t634 != 0) = true := bne_iff_ne.mpr c19
    (first | rw [c19b0] | (simp only [i64_w, i32_w]; rw [c19b0]) | skip)
    have H' := Aside0.mk H
    clear H
    go_wp2
    go_meet
    case rel => exact ⟨_, (true), (by first | rfl | (simp; done) | (simp [*]; done)), H', ⟨by first | omega | exact Nat.le_refl _⟩, ⟨by (with_reducible repeat (first | apply Kd.N_alloc | apply Kd.N_drewN | apply Kd.N_drew)); exact HO633.out⟩, ⟨by (with_reducible repeat (first | refine blk_drewN ?_ _ | refine blk_drew ?_ | refine blk_alloc ?_ _)); exact BK625.out⟩, ⟨by (with_reducible repeat (first | refine blk_drewN ?_ _ | refine blk_drew ?_ | refine blk_alloc ?_ _)); exact BK630.out⟩, ⟨by repeat (first | (with_reducible first | exact HB.out | apply below_alloc | apply pw_below_drewN | apply below_drew1 | refine below_set ?_ GE625.out | refine below_set ?_ GE630.out) | exact HB.out)⟩⟩
  case rest =>
   clear HC10
   try clear c1
   try clear c2
   try clear p2
   try clear c5
   try clear c5b0
   try clear c5b1
   try clear c6
   try clear p6
   try clear c15
   try clear c16
   try clear c19
   try clear c19b0
   try clear c19b1
   try clear c21
   try clear c22
   try clear hcz13_0
   try clear hcz13_1
   try clear hcz13_2
   try clear hcz17_0
   try clear hcz17_1
   try clear hcz17_2
   try clear hcz22_0
   try clear hcz22_1
   try clear hcz22_2
   try clear hfz13_0
   try clear hfz13_1
   try clear hfz13_2
   try clear hfz17_0
   try clear hfz17_1
   try clear hfz17_2
   try clear hfz22_0
   try clear hfz22_1
   try clear hfz22_2
   obtain ⟨kq, x38_9, rfl, HA, HJ9, HO_9, BK625, BK630, HB⟩ := hcut
   cases kq with
   | zero => exact absurd HA.out (by simp [gambrellaw11_CodecColumns.j0])
   | succ kj9 =>
    have H := HA.out
    clear HA
    simp only [gambrellaw11_CodecColumns.j0] at H
    by_cases c23 : x38_9 = true
    ·subst c23
     have H1 : (some false) = some r := by rw [if_pos rfl] at H; exact H
     clear H
     have H := H1
     clear H1
     exact absurd ((Option.some.inj H).trans hr_.out) (by simp)
    ·replace c23 := Bool.eq_false_iff.mpr c23
     subst c23
     have H1 : (if 0 < (t631.length : Int) then (if (wrap64 ((wrap64 (((rd_L1 t631 0).length : Int) / 2)) + 1)) = 0 then (none) else (gambrellaw11_CodecColumns.l0 kj9 t626 t631 (wrap64 ((Int.tmod (wrap64 (a2)) (wrap64 ((wrap64 (((rd_L1 t631 0).length : Int) / 2)) + 1))) * 2)) ([] : List (List Int)) 0 t627 t628 t629)) else (none)) = some r := by rw [if_neg (show ¬ (false = true) by decide)] at H; exact H
     clear H
     have H := H1
     clear H1
     by_cases c24 : 0 < (t631.length : Int)
     ·rw [if_pos c24] at H
      have c24b0 : decide (0 < (t631.length : Int)) = true := decide_eq_true c24
      have c24b1 : decide (0 < t631.length) = true := decide_eq_true (by omega)
      clear c24
      by_cases c25 : (wrap64 ((wrap64 (((rd_L1 t631 0).length : Int) / 2)) + 1)) = 0
      ·rw [if_pos c25] at H
       exact absurd H (by simp)
      ·rw [if_neg c25] at H
       have c25b0 : ((wrap64 ((wrap64 (((rd_L1 t631 0).length : Int) / 2)) + 1)) == 0) = false := beq_eq_false_iff_ne.mpr c25
       have c25b1 : ((wrap64 ((wrap64 (((rd_L1 t631 0).length : Int) / 2)) + 1)) != 0) = true := bne_iff_ne.mpr c25
       have H' := Aside0.mk H
       clear H
       obtain ⟨Ao26, co26, eo26⟩ := Kd.N_slice HO_9.out
       subst eo26
       have p635 : 0 ≤ (0 : Int) := (by omega)
       have q635 : 0 < (t631.length : Int) := of_decide_eq_true (by first | (with_reducible assumption) | assumption)
       obtain ⟨ad635, A635_0, c635_0, e635, hx635_0, hl635_0, hi635_0⟩ := at_L1 (Kd.N_reads' HO_9.out).2.2 0 p635 q635
       cases e635
       obtain ⟨ce635, hce635, hMe635, hcc635⟩ := Kd.N_get HO_9.out [] 0 p635 (by first | exact q635 | exact of_decide_eq_true (by first | (with_reducible assumption) | assumption) | (have e_ := (Kd.N_reads' HO_9.out).1; omega))
       obtain ⟨ua635_0, uc635_0, rfl, ul635_0, ge635_0⟩ := Kd.FK_slice_open hMe635
       have hv635_0 := hcc635 0 _ rfl
       rw [Nat.add_zero, show ((Kd.slice 5 (Kd.int .u8))).sz = 1 from rfl, Nat.mul_one] at hv635_0
       replace hv635_0 := Option.some.inj (hv635_0.symm.trans hx635_0)
       injection hv635_0 with hva_ hvn_ hvc_
       rw [hva_] at ge635_0
       rw [hvc_] at ul635_0
       have HL635_0 := Aside0.mk (show Kd.V (Kd.int .u8) 5 _ w.heap.size _ _ (rd_L1 t631 0) from Kd.V_mk ul635_0 ge635_0)
       clear hva_ hvn_ hvc_ ge635_0 ul635_0
       clear hcc635 hce635
       have qi635 : (0 < t631.length) = True := eq_true (by omega)
       (try rw [show ((0 : Int)).toNat = 0 from rfl] at hx635_0)
       (try rw [Addr.add_zero'] at hx635_0)
       have HR635_0 := Aside0.mk hi635_0
       have HC635_0 := Aside0.mk hl635_0
       clear hi635_0 hl635_0
       replace p635 := eq_true p635
       replace q635 := eq_true q635
       go_wp2
       go_loopg [12, 13] kj9 (fun kq v12 v13 w' => ∃ (x12_2 : List (List Int)) (x13_2 : Int), v13 = .int .i64 x13_2 ∧ Aside0 (gambrellaw11_CodecColumns.l0 kq t626 t631 (wrap64 ((Int.tmod (wrap64 (a2)) (wrap64 ((wrap64 (((rd_L1 t631 0).length : Int) / 2)) + 1))) * 2)) x12_2 x13_2 t627 t628 t629 = some r) ∧ Aside0 (kq ≤ kj9) ∧ Aside0 (Kd.N (Kd.slice 5 (Kd.int .u8)) 34 w' w.heap.size (fun k_ => some k_ ≠ (v12 : Value).ownBlock ∧ k_ ≠ gb625 ∧ k_ ≠ gb630) (.slice (some ad635) t631.length co26) t631) ∧ Aside0 (Kd.N (Kd.slice 5 (Kd.int .u8)) 34 w' w.heap.size (fun k_ => some k_ ≠ ((.slice (some ad635) t631.length co26) : Value).ownBlock ∧ k_ ≠ gb625 ∧ k_ ≠ gb630) v12 x12_2) ∧ Aside0 (w'.heap[gb625]? = some (.cells #[.int .u8 a0_0, .int .u8 a0_1, .int .u8 a0_2] 38 (0, 0))) ∧ Aside0 (w'.heap[gb630]? = some (.cells #[.int .i64 t627, .int .i64 t628, .int .i64 t629] 23 (0, 0))) ∧ Aside0 (Below w.heap.size w w'))
       case atStart => exact ⟨(([] : List (List Int))), (0), (by first | rfl | (simp; done) | (simp [*]; done)), H', ⟨Nat.le_refl _⟩, ⟨by (with_reducible repeat (first | apply Kd.N_alloc | apply Kd.N_drewN | apply Kd.N_drew)); exact Kd.N_mono HO_9.out (fun _ hk => ⟨(by simp [Value.ownBlock]), ⟨hk.1, hk.2⟩⟩)⟩, ⟨by first | exact Kd.S_nil _ _ _ _ _ | exact Kd.N_nil _ _ _ _ _ | exact Kd.V_nil _ _ _ _ _ | exact Kd.Q_nil _ _ _ _ _ | exact Kd.R_nil _ _ _ _ _⟩, ⟨by (with_reducible repeat (first | refine blk_drewN ?_ _ | refine blk_drew ?_ | refine blk_alloc ?_ _)); exact BK625.out⟩, ⟨by (with_reducible repeat (first | refine blk_drewN ?_ _ | refine blk_drew ?_ | refine blk_alloc ?_ _)); exact BK630.out⟩, ⟨by repeat (first | (with_reducible first | exact HB.out | apply below_alloc | apply pw_below_drewN | apply below_drew1 | refine below_set ?_ GE625.out | refine below_set ?_ GE630.out) | exact HB.out)⟩⟩
       case round =>
        clear H'
        try clear c1
        try clear c2
        try clear p2
        try clear c5
        try clear c5b0
        try clear c5b1
        try clear c6
        try clear p6
        try clear q6
        try clear hx6
        try clear qi6
        try clear c15
        try clear c16
        try clear c19
        try clear c19b0
        try clear c19b1
        try clear c21
        try clear c22
        try clear c23
        try clear c24
        try clear c24b0
        try clear c24b1
        try clear c25
        try clear c25b0
        try clear c25b1
        try clear hcz13_0
        try clear hcz13_1
        try clear hcz13_2
        try clear hcz17_0
        try clear hcz17_1
        try clear hcz17_2
        try clear hcz22_0
        try clear hcz22_1
        try clear hcz22_2
        try clear hfz13_0
        try clear hfz13_1
        try clear hfz13_2
        try clear hfz17_0
        try clear hfz17_1
        try clear hfz17_2
        try clear hfz22_0
        try clear hfz22_1
        try clear hfz22_2
        try clear hx635_0
        try clear p2
        try clear p6
        try clear p635
        try clear q635
        obtain ⟨x12_2, x13_2, rfl, HA, HK2, HO_9, HO_12, BK625, BK630, HB⟩ := hrel
        cases gk with
        | zero => exact absurd HA.out (by simp [gambrellaw11_CodecColumns.l0])
        | succ k2 =>
         have H := HA.out
         clear HA
         simp only [gambrellaw11_CodecColumns.l0] at H
         by_cases c27 : x13_2 < (t631.length : Int)
         ·rw [if_pos c27] at H
          have c27b0 : decide (x13_2 < (t631.length : Int)) = true := decide_eq_true c27
          clear c27
          by_cases c28 : 0 ≤ x13_2
          ·rw [if_pos c28] at H
           have c28b0 : decide (0 ≤ x13_2) = true := decide_eq_true c28
           clear c28
           by_cases c29 : ((rd_L1 t631 x13_2).length : Int) < (wrap64 ((Int.tmod (wrap64 (a2)) (wrap64 ((wrap64 (((rd_L1 t631 0).length : Int) / 2)) + 1))) * 2))
           ·rw [if_pos c29] at H
            have c29b0 : decide (((rd_L1 t631 x13_2).length : Int) < (wrap64 ((Int.tmod (wrap64 (a2)) (wrap64 ((wrap64 (((rd_L1 t631 0).length : Int) / 2)) + 1))) * 2))) = true := decide_eq_true c29
            clear c29
            exact absurd ((Option.some.inj H).trans hr_.out) (by simp)
           ·rw [if_neg c29] at H
            have c29b0 : decide (((rd_L1 t631 x13_2).length : Int) < (wrap64 ((Int.tmod (wrap64 (a2)) (wrap64 ((wrap64 (((rd_L1 t631 0).length : Int) / 2)) + 1))) * 2))) = false := decide_eq_false c29
            clear c29
            obtain ⟨ji30, hji30⟩ : ∃ j_ : Int, (wrap64 ((Int.tmod (wrap64 (a2)) (wrap64 ((wrap64 (((rd_L1 t631 0).length : Int) / 2)) + 1))) * 2)) = j_ := ⟨_, rfl⟩
            replace H : (if 0 ≤ (ji30) then (if (ji30) ≤ ((rd_L1 t631 x13_2).length : Int) then (if x12_2.length < 5864062014805 then (gambrellaw11_CodecColumns.l0 k2 t626 t631 (ji30) (x12_2 ++ [((rd_L1 t631 x13_2).take ((ji30) : Int).toNat)]) (wrap64 (x13_2 + 1)) t627 t628 t629) else (none)) else (none)) else (none)) = some r := by first | (rw [hji30] at H; exact H) | (simp only [hji30] at H ⊢; exact H)
            (try rw [hji30] at c29b0)
            have hji30w : (IntKind.i64.wrap ((Int.tmod (wrap64 (a2)) (wrap64 ((wrap64 (((rd_L1 t631 0).length : Int) / 2)) + 1))) * 2)) = ji30 := (i64_w _).trans hji30
            by_cases c31 : 0 ≤ (ji30)
            ·rw [if_pos c31] at H
             have c31b0 := eq_true c31
             have c31b1 : decide (0 ≤ (ji30)) = true := decide_eq_true c31
             clear c31
             by_cases c32 : (ji30) ≤ ((rd_L1 t631 x13_2).length : Int)
             ·rw [if_pos c32] at H
              have c32b0 := eq_true c32
              have c32b1 : decide ((ji30) ≤ ((rd_L1 t631 x13_2).length : Int)) = true := decide_eq_true c32
              clear c32
              obtain ⟨y638, hy638⟩ : ∃ y_ : List Int, y_ = ((rd_L1 t631 x13_2).take ((ji30) : Int).toNat) := ⟨_, rfl⟩
              replace H : (if x12_2.length < 5864062014805 then (gambrellaw11_CodecColumns.l0 k2 t626 t631 (ji30) (x12_2 ++ [y638]) (wrap64 (x13_2 + 1)) t627 t628 t629) else (none)) = some r := by first | (rw [hy638]; with_reducible exact H) | (have H2_ := (Option.bind_some _ _).symm.trans H; rw [hy638]; with_reducible exact H2_) | (have H2_ := (Option.bind_some _ _).symm.trans H; with_reducible exact H2_) | with_reducible exact H | (rw [hy638]; exact H) | exact H
              have Ny638 := Aside0.mk hy638
              clear hy638
              by_cases c33 : x12_2.length < 5864062014805
              ·rw [if_pos c33] at H
               have LMc33 := Aside0.mk c33
               clear c33
               obtain ⟨y643, hy643⟩ : ∃ y_ : List (List Int), y_ = (x12_2 ++ [y638]) := ⟨_, rfl⟩
               replace H : (gambrellaw11_CodecColumns.l0 k2 t626 t631 (ji30) y643 (wrap64 (x13_2 + 1)) t627 t628 t629) = some r := by first | (rw [hy643]; with_reducible exact H) | (have H2_ := (Option.bind_some _ _).symm.trans H; rw [hy643]; with_reducible exact H2_) | (have H2_ := (Option.bind_some _ _).symm.trans H; with_reducible exact H2_) | with_reducible exact H | (rw [hy643]; exact H) | exact H
               have Ny643 := Aside0.mk hy643
               clear hy643
               have H' := Aside0.mk H
               clear H
               have p636 : 0 ≤ (x13_2 : Int) := of_decide_eq_true (by first | (with_reducible assumption) | assumption)
               have q636 : x13_2 < (t631.length : Int) := of_decide_eq_true (by first | (with_reducible assumption) | assumption)
               obtain ⟨ad636, A636_0, c636_0, e636, hx636_0, hl636_0, hi636_0⟩ := at_L1 (Kd.N_reads' HO_9.out).2.2 x13_2 p636 q636
               obtain rfl : ad635 = ad636 := (by injection e636)
               obtain ⟨ce636, hce636, hMe636, hcc636⟩ := Kd.N_get HO_9.out [] x13_2 p636 (by first | exact q636 | exact of_decide_eq_true (by first | (with_reducible assumption) | assumption) | (have e_ := (Kd.N_reads' HO_9.out).1; omega))
               obtain ⟨ua636_0, uc636_0, rfl, ul636_0, ge636_0⟩ := Kd.FK_slice_open hMe636
               have hv636_0 := hcc636 0 _ rfl
               rw [Nat.add_zero, show ((Kd.slice 5 (Kd.int .u8))).sz = 1 from rfl, Nat.mul_one] at hv636_0
               replace hv636_0 := Option.some.inj (hv636_0.symm.trans hx636_0)
               injection hv636_0 with hva_ hvn_ hvc_
               rw [hva_] at ge636_0
               rw [hvc_] at ul636_0
               have HL636_0 := Aside0.mk (show Kd.V (Kd.int .u8) 5 _ w.heap.size _ _ (rd_L1 t631 x13_2) from Kd.V_mk ul636_0 ge636_0)
               clear hva_ hvn_ hvc_ ge636_0 ul636_0
               clear hcc636 hce636
               have HR636_0 := Aside0.mk hi636_0
               have HC636_0 := Aside0.mk hl636_0
               clear hi636_0 hl636_0
               replace p636 := eq_true p636
               replace q636 := eq_true q636
               have p637 : 0 ≤ (x13_2 : Int) := of_decide_eq_true (by first | (with_reducible assumption) | assumption)
               have q637 : x13_2 < (t631.length : Int) := of_decide_eq_true (by first | (with_reducible assumption) | assumption)
               obtain ⟨ad637, A637_0, c637_0, e637, hx637_0, hl637_0, hi637_0⟩ := at_L1 (Kd.N_reads' HO_9.out).2.2 x13_2 p637 q637
               obtain rfl : ad635 = ad637 := (by injection e637)
               obtain ⟨ce637, hce637, hMe637, hcc637⟩ := Kd.N_get HO_9.out [] x13_2 p637 (by first | exact q637 | exact of_decide_eq_true (by first | (with_reducible assumption) | assumption) | (have e_ := (Kd.N_reads' HO_9.out).1; omega))
               obtain ⟨ua637_0, uc637_0, rfl, ul637_0, ge637_0⟩ := Kd.FK_slice_open hMe637
               have hv637_0 := hcc637 0 _ rfl
               rw [Nat.add_zero, show ((Kd.slice 5 (Kd.int .u8))).sz = 1 from rfl, Nat.mul_one] at hv637_0
               replace hv637_0 := Option.some.inj (hv637_0.symm.trans hx637_0)
               injection hv637_0 with hva_ hvn_ hvc_
               rw [hva_] at ge637_0
               rw [hvc_] at ul637_0
               have HL637_0 := Aside0.mk (show Kd.V (Kd.int .u8) 5 _ w.heap.size _ _ (rd_L1 t631 x13_2) from Kd.V_mk ul637_0 ge637_0)
               clear hva_ hvn_ hvc_ ge637_0 ul637_0
               clear hcc637 hce637
               have HR637_0 := Aside0.mk hi637_0
               have HC637_0 := Aside0.mk hl637_0
               clear hi637_0 hl637_0
               replace p637 := eq_true p637
               replace q637 := eq_true q637
               have ea_ := Option.some.inj (hx636_0.symm.trans hx637_0)
               injection ea_ with ea_ en_ ec_
               subst ea_
               subst ec_
               clear en_
               have q34 : ((ji30) : Int) ≤ (((rd_L1 t631 x13_2).length : Int) : Int) := of_decide_eq_true (by first | (with_reducible assumption) | assumption)
               obtain ⟨i034, hi034, _, hsz34, _⟩ := info_parts info5
               have hroom34 : (rd_L1 t631 x13_2).length ≤ c636_0 := HC637_0.out
               have hC34 : Kd.F (Kd.int .u8) _ _ A636_0 (rd_L1 t631 x13_2).length (rd_L1 t631 x13_2) := (Kd.V_at (base := w.heap.size) HL637_0.out).2.2
               have hcut34 := cut_to (P := Tryz.prog) 34 5 .i64 Tryz.underlying34 hi034 A636_0 (rd_L1 t631 x13_2).length c636_0 (ji30) (of_decide_eq_true (by first | (with_reducible assumption) | assumption)) q34 hroom34
               have hr34 := Kd.F_take (m := ((ji30) : Int).toNat) hC34 (by omega)
               have hy34 : y638.length = ((ji30) : Int).toNat := (by rw [Ny638.out, List.length_take]; omega)
               rw [← Ny638.out] at hr34
               rw [← hy34] at hcut34
               have HO642 := Aside0.mk (show Kd.V (Kd.int .u8) 5 _ w.heap.size _ (.slice A636_0 y638.length c636_0) y638 from Kd.V_mk (by omega) hr34)
               have HC642 := Aside0.mk (show y638.length ≤ c636_0 from by omega)
               clear hr34 hC34 hroom34 hi034 hsz34
               have KY34 := Aside0.mk hy34
               clear hy34
               replace q34 := eq_true q34
               go_wp2_with (first | ((with_reducible refine gate_builtin (b := .append) (xs := #[.tmp 62, .tmp 69]) rfl ?_); (try (refine gate_guard (by rfl) ?_; dsimp only)); at_builtin; refine Kd.N_append (Kd.slice 5 (Kd.int .u8)) (w0 := w) w.heap.size rfl (.tmp 62) (.tmp 69) 24 34 (.slice none 0 0) 24 rfl Tryz.underlying24 info34 rfl (by decide) (by omega) u12 x12_2 y638 [.slice A636_0 y638.length c636_0] (fun k_ => some k_ ≠ (.slice (some ad635) t631.length co26 : Value).ownBlock ∧ k_ ≠ gb625 ∧ k_ ≠ gb630) (fun k_ => ((fun k_ => some k_ ≠ (.slice (some ad635) t631.length co26 : Value).ownBlock ∧ k_ ≠ gb625 ∧ k_ ≠ gb630)) k_ ∧ some k_ ≠ (u12 : Value).ownBlock) rfl rfl ?aP (fun _ hk => hk) ?aF ?aO ?aB ?aS ?aL ?_; (case aP => exact (Kd.FK_slice_mk (Kd.V_reads' (Kd.V_mono (ok' := (fun k_ => ((fun k_ => some k_ ≠ (.slice (some ad635) t631.length co26 : Value).ownBlock ∧ k_ ≠ gb625 ∧ k_ ≠ gb630)) k_ ∧ some k_ ≠ (u12 : Value).ownBlock)) (HO642.out) (fun k_ hk => ⟨⟨hk.2, ⟨hk.1.2.1, hk.1.2.2⟩⟩, hk.1.1⟩))).2.1 (Kd.V_F (Kd.V_mono (ok' := (fun k_ => ((fun k_ => some k_ ≠ (.slice (some ad635) t631.length co26 : Value).ownBlock ∧ k_ ≠ gb625 ∧ k_ ≠ gb630)) k_ ∧ some k_ ≠ (u12 : Value).ownBlock)) (HO642.out) (fun k_ hk => ⟨⟨hk.2, ⟨hk.1.2.1, hk.1.2.2⟩⟩, hk.1.1⟩))))); (case aB => exact (by repeat (first | (with_reducible first | exact HB.out | apply below_alloc | apply pw_below_drewN | apply below_drew1 | refine below_set ?_ GE625.out | refine below_set ?_ GE630.out) | exact HB.out))); (case aF => exact (fun k_ hk => ⟨Kd.fresh' (Kd.N_lt (by (with_reducible repeat (first | apply Kd.N_alloc | apply Kd.N_drewN | apply Kd.N_drew)); exact HO_9.out)) k_ hk, Kd.freshB (g := gb625) (o := .cells #[.int .u8 a0_0, .int .u8 a0_1, .int .u8 a0_2] 38 (0, 0)) (by (with_reducible repeat (first | refine blk_drewN ?_ _ | refine blk_drew ?_ | refine blk_alloc ?_ _)); exact BK625.out) k_ hk, Kd.freshB (g := gb630) (o := .cells #[.int .i64 t627, .int .i64 t628, .int .i64 t629] 23 (0, 0)) (by (with_reducible repeat (first | refine blk_drewN ?_ _ | refine blk_drew ?_ | refine blk_alloc ?_ _)); exact BK630.out) k_ hk⟩)); (case aO => exact (by (with_reducible repeat (first | apply Kd.N_alloc | apply Kd.N_drewN | apply Kd.N_drew)); exact HO_12.out)); (case aS => exact (below_size (by repeat (first | (with_reducible first | exact HB.out | apply below_alloc | apply pw_below_drewN | apply below_drew1 | refine below_set ?_ GE625.out | refine below_set ?_ GE630.out) | exact HB.out)))); (case aL => have := LMc33.out; omega); intro v644 w35 ho hb hg hat; rw [← Ny643.out] at ho; have n0_ := Aside0.mk (Kd.N_afterv (ok := (fun k_ => k_ ≠ gb625 ∧ k_ ≠ gb630)) (by (with_reducible repeat (first | apply Kd.N_alloc | apply Kd.N_drewN | apply Kd.N_drew)); exact Kd.N_mono HO_9.out (fun _ hk => ⟨⟨hk.2.1, hk.2.2⟩, hk.1⟩)) hg hat); have n1_ := Aside0.mk (blk_grown (g := gb625) (o := .cells #[.int .u8 a0_0, .int .u8 a0_1, .int .u8 a0_2] 38 (0, 0)) (by (with_reducible repeat (first | refine blk_drewN ?_ _ | refine blk_drew ?_ | refine blk_alloc ?_ _)); exact BK625.out) hg (Kd.N_ne HO_12.out BK625.out (by decide))); have n2_ := Aside0.mk (blk_grown (g := gb630) (o := .cells #[.int .i64 t627, .int .i64 t628, .int .i64 t629] 23 (0, 0)) (by (with_reducible repeat (first | refine blk_drewN ?_ _ | refine blk_drew ?_ | refine blk_alloc ?_ _)); exact BK630.out) hg (Kd.N_ne HO_12.out BK630.out (by decide))); have n3_ := Aside0.mk (Kd.V_afterv (ok := (fun k_ => some k_ ≠ (.slice (some ad635) t631.length co26 : Value).ownBlock ∧ k_ ≠ gb625 ∧ k_ ≠ gb630)) (by (with_reducible repeat (first | apply Kd.V_alloc | apply Kd.V_drewN | apply Kd.V_drew)); exact Kd.V_mono HL636_0.out (fun _ hk => ⟨⟨hk.2, ⟨hk.1.2.1, hk.1.2.2⟩⟩, hk.1.1⟩)) hg hat); have n4_ := Aside0.mk (Kd.V_afterv (ok := (fun k_ => some k_ ≠ (.slice (some ad635) t631.length co26 : Value).ownBlock ∧ k_ ≠ gb625 ∧ k_ ≠ gb630)) (by (with_reducible repeat (first | apply Kd.V_alloc | apply Kd.V_drewN | apply Kd.V_drew)); exact Kd.V_mono HL637_0.out (fun _ hk => ⟨⟨hk.2, ⟨hk.1.2.1, hk.1.2.2⟩⟩, hk.1.1⟩)) hg hat); have n5_ := Aside0.mk (Kd.V_afterv (ok := (fun k_ => some k_ ≠ (.slice (some ad635) t631.length co26 : Value).ownBlock ∧ k_ ≠ gb625 ∧ k_ ≠ gb630)) (by (with_reducible repeat (first | apply Kd.V_alloc | apply Kd.V_drewN | apply Kd.V_drew)); exact Kd.V_mono HO642.out (fun _ hk => ⟨⟨hk.2, ⟨hk.1.2.1, hk.1.2.2⟩⟩, hk.1.1⟩)) hg hat); have n6_ := Aside0.mk (hb); have n7_ := Aside0.mk (ho); clear HO_9; clear BK625; clear BK630; clear HL636_0; clear HL637_0; clear HO642; clear HB; clear HO_12; have HO_9 := n0_; have BK625 := n1_; have BK630 := n2_; have HL636_0 := n3_; have HL637_0 := n4_; have HO642 := n5_; have HB := n6_; have HO645 := n7_; clear n0_ n1_ n2_ n3_ n4_ n5_ n6_ n7_; clear ho hb hg hat))
               (first | go_roundg k2 | (subst hji30; go_roundg k2))
               case measure => have := HJ9.out; have := HK2.out; omega
               case rel => exact ⟨(y643), (wrap64 (x13_2 + 1)), (by first | rfl | (simp; done) | (simp [*]; done)), H', ⟨by have := HJ9.out; have := HK2.out; omega⟩, ⟨by (with_reducible repeat (first | apply Kd.N_alloc | apply Kd.N_drewN | apply Kd.N_drew)); exact Kd.N_mono HO_9.out (fun _ hk => ⟨hk.2, ⟨hk.1.1, hk.1.2⟩⟩)⟩, ⟨by (with_reducible repeat (first | apply Kd.N_alloc | apply Kd.N_drewN | apply Kd.N_drew)); exact HO645.out⟩, ⟨by (with_reducible repeat (first | refine blk_drewN ?_ _ | refine blk_drew ?_ | refine blk_alloc ?_ _)); exact BK625.out⟩, ⟨by (with_reducible repeat (first | refine blk_drewN ?_ _ | refine blk_drew ?_ | refine blk_alloc ?_ _)); exact BK630.out⟩, ⟨by repeat (first | (with_reducible first | exact HB.out | apply below_alloc | apply pw_below_drewN | apply below_drew1 | refine below_set ?_ GE625.out | refine below_set ?_ GE630.out) | exact HB.out)⟩⟩
              ·rw [if_neg c33] at H
               exact absurd H (by simp)
             ·rw [if_neg c32] at H
              exact absurd H (by simp)
            ·rw [if_neg c31] at H
             exact absurd H (by simp)
          ·rw [if_neg c28] at H
           exact absurd H (by simp)
         ·rw [if_neg c27] at H
          have c27b0 : decide (x13_2 < (t631.length : Int)) = false := decide_eq_false c27
          clear c27
          by_cases c36 : t626 = true
          ·subst c36
           have H1 : ((codec_Verify.f k2 t627 t628 t629 x12_2).bind fun t646 => (some t646)) = some r := by rw [if_pos rfl] at H; exact H
           clear H
           have H := H1
           clear H1
           replace H := Option.bind_eq_some_iff.mp H
           obtain ⟨t646, A370, H⟩ := H
           replace H : (some t646) = some r := H
           have A37 := Aside0.mk A370
           clear A370
           obtain rfl := Option.some.inj H
           have hnb38 := NB630_625.out
           have hnc38 := NB625_630.out
           have hcz39_0 : wr.cell? ⟨gb630, 0, none⟩ = some (.int .i64 t627) := (blk_cell BK630.out 0).trans rfl
           have hcz39_1 : wr.cell? ⟨gb630, 1, none⟩ = some (.int .i64 t628) := (blk_cell BK630.out 1).trans rfl
           have hcz39_2 : wr.cell? ⟨gb630, 2, none⟩ = some (.int .i64 t629) := (blk_cell BK630.out 2).trans rfl
           have hfz39_0 := blk_frozen BK630.out 0
           have hfz39_1 := blk_frozen BK630.out 1
           have hfz39_2 := blk_frozen BK630.out 2
           obtain ⟨Ao40, co40, eo40⟩ := Kd.N_slice HO_12.out
           subst eo40
           go_wp2_with (first | (go_at_call 20; (with_reducible refine (codec_Verify.calls k2 t627 t628 t629 _ _ x12_2 t646 _ ?side1 ?side2 A37.out).mono ?_); (case side1 => repeat (first | exact (Kd.N_reads' HO_12.out).2.2 | (with_reducible refine Kd.C_alloc ?_ _) | (with_reducible refine Kd.C_drewN ?_ _) | (with_reducible refine Kd.C_drew ?_))); (case side2 => exact (Kd.N_reads' HO_12.out).2.1); rintro e w41 ⟨rfl, hb⟩; have n0_ := Aside0.mk (Kd.N_below (by (with_reducible repeat (first | apply Kd.N_alloc | apply Kd.N_drewN | apply Kd.N_drew)); exact HO_9.out) hb); have n1_ := Aside0.mk (Kd.N_below (by (with_reducible repeat (first | apply Kd.N_alloc | apply Kd.N_drewN | apply Kd.N_drew)); exact HO_12.out) hb); have n2_ := Aside0.mk (blk_below (g := gb625) (o := .cells #[.int .u8 a0_0, .int .u8 a0_1, .int .u8 a0_2] 38 (0, 0)) (by (with_reducible repeat (first | refine blk_drewN ?_ _ | refine blk_drew ?_ | refine blk_alloc ?_ _)); exact BK625.out) hb); have n3_ := Aside0.mk (blk_below (g := gb630) (o := .cells #[.int .i64 t627, .int .i64 t628, .int .i64 t629] 23 (0, 0)) (by (with_reducible repeat (first | refine blk_drewN ?_ _ | refine blk_drew ?_ | refine blk_alloc ?_ _)); exact BK630.out) hb); have n4_ := Aside0.mk (below_step (by repeat (first | (with_reducible first | exact HB.out | apply below_alloc | apply pw_below_drewN | apply below_drew1 | refine below_set ?_ GE625.out | refine below_set ?_ GE630.out) | exact HB.out)) hb); clear HO_9; clear HO_12; clear BK625; clear BK630; clear HB; have HO_9 := n0_; have HO_12 := n1_; have BK625 := n2_; have BK630 := n3_; have HB := n4_; clear n0_ n1_ n2_ n3_ n4_; (try clear hb); (try clear hb2); (try clear hk); (try clear hi)))
           go_ret
           exact ⟨by first | rfl | (simp [errW_none, errW_some] <;> rfl) | (simp [*, errW_none, errW_some] <;> rfl), by repeat (first | (with_reducible first | exact HB.out | apply below_alloc | apply pw_below_drewN | apply below_drew1 | refine below_set ?_ GE625.out | refine below_set ?_ GE630.out) | exact HB.out)⟩
          ·replace c36 := Bool.eq_false_iff.mpr c36
           subst c36
           have H1 : (some false) = some r := by rw [if_neg (show ¬ (false = true) by decide)] at H; exact H
           clear H
           have H := H1
           clear H1
           exact absurd ((Option.some.inj H).trans hr_.out) (by simp)
     ·rw [if_neg c24] at H
      exact absurd H (by simp)
end Go.Proofs.YtelcllhibpnneaaGreat.XCo
end
section
namespace Go.Proofs.YtelcllhibpnneaaGreat.XCo
open Go.RowKit Go.Proofs.YtelcllhibpnneaaGreatW.PrintWords Go.Proofs.YtelcllhibpnneaaGreatW.PrintLast Go.Proofs.YtelcllhibpnneaaGreatW.PrintMore
attribute [local go_sem] max2_int min2_int max_two min_two max_three min_three max_four min_four
set_option linter.unusedVariables false
set_option linter.unusedSimpArgs false
def xorB (a b : List Int) : List Int := List.zipWith (fun x y => Go.bits .xor .u8 x y) a b
def sumB (L : Nat) (rows : List (List Int)) : List Int := rows.foldl xorB (List.replicate L 0)
theorem xorB_length (a b : List Int) (h : a.length = b.length) : (xorB a b).length = b.length := by simp [xorB]; omega
theorem xorB_take (a b : List Int) (m : Nat) : (xorB a b).take m = xorB (a.take m) (b.take m) := by simp [xorB, List.take_zipWith]
theorem foldB_length {L : Nat} : ∀ (rows : List (List Int)) (acc : List Int), acc.length = L → (∀ r, r ∈ rows → r.length = L) → (rows.foldl xorB acc).length = L
 | [], acc, h, _ => h
 | r :: rs, acc, h, hr => by
  have h1 := hr r (List.mem_cons_self ..)
  exact foldB_length rs (xorB acc r) (by rw [xorB_length _ _ (h.trans h1.symm)]; exact h1) (fun q hq => hr q (List.mem_cons_of_mem _ hq))
theorem foldB_take (m : Nat) : ∀ (rows : List (List Int)) (acc : List Int), (rows.foldl xorB acc).take m = (rows.map (·.take m)).foldl xorB (acc.take m)
 | [], acc => rfl
 | r :: rs, acc => by
  show (rs.foldl xorB (xorB acc r)).take m = _
  rw [foldB_take m rs, xorB_take]; rfl
theorem sumB_length {L : Nat} (rows : List (List Int)) (h : ∀ r, r ∈ rows → r.length = L) : (sumB L rows).length = L := foldB_length rows _ (by simp) h
theorem sumB_take {L m : Nat} (hm : m ≤ L) (rows : List (List Int)) : (sumB L rows).take m = sumB m (rows.map (·.take m)) := by
 unfold sumB
 rw [foldB_take, List.take_replicate, Nat.min_eq_left hm]
theorem wrap64_nat {j : Nat} (h : j ≤ 1000000000) : wrap64 ((j : Int) + 1) = ((j + 1 : Nat) : Int) := by unfold wrap64; omega
theorem sum_l1 (rows : List (List Int)) (n : Int) (i : Nat) (acc row : List Int) (r : List Int × Int) (K : Nat) (hl : acc.length = row.length) (hL : row.length ≤ 100000000) (hi : i ≤ 100000000)
  (h : region_sum.l0 K (xorB acc row) rows n ((i + 1 : Nat) : Int) = some r) :
  ∀ (d j : Nat), j + d = row.length → region_sum.l1 (K + d + 1) ((xorB acc row).take j ++ acc.drop j) rows n (i : Int) row (row.length : Int) (j : Int) = some r
 | 0, j, hj => by
  obtain rfl : j = row.length := by omega
  unfold region_sum.l1
  rw [if_neg (by omega), wrap64_nat (by omega), List.take_of_length_le (by rw [xorB_length _ _ hl]; exact Nat.le_refl _), List.drop_of_length_le (by omega), List.append_nil]
  exact h
 | d + 1, j, hj => by
  have hlx := xorB_length _ _ hl
  have hjl : j < row.length := by omega
  have hlen : ((xorB acc row).take j ++ acc.drop j).length = row.length := by simp [hlx]; omega
  unfold region_sum.l1
  rw [if_pos (by omega), if_pos (by omega), if_pos (by omega), if_pos (by omega), wrap64_nat (by omega)]
  have hset : ((xorB acc row).take j ++ acc.drop j).set (j : Int).toNat (Go.bits .xor .u8 (rd ((xorB acc row).take j ++ acc.drop j) (j : Int)) (rd row (j : Int))) = (xorB acc row).take (j + 1) ++ acc.drop (j + 1) := by
   have e1 : rd ((xorB acc row).take j ++ acc.drop j) (j : Int) = acc.getD j 0 := by
    unfold rd
    rw [Int.toNat_natCast, List.getD_eq_getElem?_getD, List.getElem?_append_right (by simp [hlx]; omega), List.getElem?_drop]
    simp [hlx, Nat.min_eq_left (Nat.le_of_lt hjl)]
   have e2 : rd row (j : Int) = row.getD j 0 := by unfold rd; rw [Int.toNat_natCast]
   rw [e1, e2, Int.toNat_natCast]
   apply List.ext_getElem?
   intro q
   have hja : j < acc.length := by omega
   have hx : (xorB acc row)[j]? = some (Go.bits .xor .u8 (acc.getD j 0) (row.getD j 0)) := by
    unfold xorB
    rw [List.getElem?_zipWith, List.getElem?_eq_getElem hja, List.getElem?_eq_getElem hjl]
    simp [List.getD_eq_getElem?_getD, List.getElem?_eq_getElem hja, List.getElem?_eq_getElem hjl]
   rw [List.getElem?_set]
   by_cases hq : j = q
   ·subst hq
    rw [if_pos rfl, if_pos (by omega), List.getElem?_append_left (by simp [hlx]; omega), List.getElem?_take, if_pos (by omega), hx]
   ·rw [if_neg hq]
    by_cases hlt : q < j
    ·rw [List.getElem?_append_left (by simp [hlx]; omega), List.getElem?_append_left (by simp [hlx]; omega), List.getElem?_take, List.getElem?_take, if_pos hlt, if_pos (by omega)]
    ·rw [List.getElem?_append_right (by simp [hlx]; omega), List.getElem?_append_right (by simp [hlx]; omega), List.getElem?_drop, List.getElem?_drop]
     congr 1
     simp [hlx, Nat.min_eq_left (Nat.le_of_lt hjl), Nat.min_eq_left (show j + 1 ≤ row.length from hjl)]
     omega
  rw [hset]
  have := sum_l1 rows n i acc row r K hl hL hi h d (j + 1) (by omega)
  rw [show K + (d + 1) = K + d + 1 by omega]
  exact this
theorem sum_l0 (rows : List (List Int)) (L : Nat) (hL : L ≤ 100000000) (hn : rows.length ≤ 1000) (hr : ∀ r, r ∈ rows → r.length = L) :
  ∀ (m i : Nat) (acc : List Int), i + m = rows.length → acc.length = L → ∃ K, region_sum.l0 K acc rows (rows.length : Int) (i : Int) = some ((rows.drop i).foldl xorB acc, 0)
 | 0, i, acc, hi, ha => by
  refine ⟨1, ?_⟩
  unfold region_sum.l0
  rw [if_neg (by omega), List.drop_of_length_le (by omega)]; rfl
 | m + 1, i, acc, hi, ha => by
  obtain ⟨row, hrow⟩ : ∃ r, rows[i]? = some r := ⟨_, List.getElem?_eq_getElem (by omega)⟩
  have hrl := hr row (List.mem_of_getElem? hrow)
  have hd : rows.drop i = row :: rows.drop (i + 1) := by
   obtain ⟨h1, h2⟩ := List.getElem?_eq_some_iff.1 hrow
   rw [List.drop_eq_getElem_cons h1, h2]
  obtain ⟨K, hK⟩ := sum_l0 rows L hL hn hr m (i + 1) (xorB acc row) (by omega) (by rw [xorB_length _ _ (by omega)]; exact hrl)
  have h1 := sum_l1 rows (rows.length : Int) i acc row _ K (by omega) (by omega) (by omega) hK row.length 0 (by omega)
  refine ⟨K + row.length + 1 + 1, ?_⟩
  have hrd : rd_L1 rows (i : Int) = row := by unfold rd_L1; rw [Int.toNat_natCast, List.getD_eq_getElem?_getD, hrow]; rfl
  unfold region_sum.l0
  rw [if_pos (by omega), if_pos (by omega), if_pos (by omega), hrd, if_pos (by omega), hd]
  simpa using h1
theorem sum_ev (rows : List (List Int)) (L : Nat) (hL : L ≤ 100000000) (hn : rows.length ≤ 1000) (h0 : 0 < rows.length) (hr : ∀ r, r ∈ rows → r.length = L) : Ev (fun k => region_sum.f k rows) (sumB L rows, 0) := by
 obtain ⟨row, hrow⟩ : ∃ r, rows[0]? = some r := ⟨_, List.getElem?_eq_getElem h0⟩
 have hrl := hr row (List.mem_of_getElem? hrow)
 have hrd : rd_L1 rows 0 = row := by unfold rd_L1; rw [show (0 : Int).toNat = 0 from rfl, List.getD_eq_getElem?_getD, hrow]; rfl
 obtain ⟨K, hK⟩ := sum_l0 rows L hL hn hr rows.length 0 (List.replicate L 0) (by omega) (by simp)
 refine Ev.of (fun k => region_sum.mono _ k) (k := K) ?_
 unfold region_sum.f
 rw [if_pos (by omega), hrd, if_pos (by omega), if_pos (by omega), hrl, Int.toNat_natCast]
 simpa [sumB] using hK
end Go.Proofs.YtelcllhibpnneaaGreat.XCo
end
section
namespace Go.Proofs.YtelcllhibpnneaaGreat.XCo
open Go.RowKit Go.Proofs.YtelcllhibpnneaaGreatW.PrintWords Go.Proofs.YtelcllhibpnneaaGreatW.PrintLast Go.Proofs.YtelcllhibpnneaaGreatW.PrintMore
attribute [local go_sem] max2_int min2_int max_two min_two max_three min_three max_four min_four
set_option linter.unusedVariables false
set_option linter.unusedSimpArgs false
theorem set_take {α : Type} (l : List α) (i q : Nat) (x : α) : (l.set i x).take q = (l.take q).set i x := List.take_set ..
theorem wTo_cut (n : Nat) (hn : 0 < n) (b : List Int) (q : Nat) (hq : q * n ≤ b.length) : ∀ i, i ≤ q * n → wTo n (b.take (q * n)) i = (wTo n b i).take q
 | 0, _ => by
  unfold wTo
  rw [List.take_replicate, List.length_take, Nat.min_eq_left hq, Nat.mul_div_cancel _ hn]
  congr 1
  rw [Nat.min_eq_left]
  exact (Nat.le_div_iff_mul_le hn).2 hq
 | i + 1, hi => by
  have ih := wTo_cut n hn b q hq i (by omega)
  have hg : (b.take (q * n)).getD i 0 = b.getD i 0 := by
   rw [List.getD_eq_getElem?_getD, List.getD_eq_getElem?_getD, List.getElem?_take, if_pos (by omega)]
  have hlt : i / n < q := (Nat.div_lt_iff_lt_mul hn).2 (by omega)
  have hw : ((wTo n b i).take q).getD (i / n) 0 = (wTo n b i).getD (i / n) 0 := by
   rw [List.getD_eq_getElem?_getD, List.getD_eq_getElem?_getD, List.getElem?_take, if_pos hlt]
  unfold wTo
  rw [ih, hg, hw]
  split <;> rw [set_take]
theorem wTo_behind (n : Nat) (hn : 0 < n) (b : List Int) (q : Nat) : ∀ d, (wTo n b (q * n + d)).take q = (wTo n b (q * n)).take q
 | 0 => rfl
 | d + 1 => by
  have ih := wTo_behind n hn b q d
  have hge : q ≤ (q * n + d) / n := (Nat.le_div_iff_mul_le hn).2 (by omega)
  have key : ∀ x, ((wTo n b (q * n + d)).set ((q * n + d) / n) x).take q = (wTo n b (q * n)).take q := fun x => by
   rw [set_take, ← ih]
   exact List.set_eq_of_length_le (by simp; omega)
  have e : wTo n b ((q * n + d) + 1) = if (q * n + d) % n = 0 then (wTo n b (q * n + d)).set ((q * n + d) / n) (wrap64 (b.getD (q * n + d) 0)) else (wTo n b (q * n + d)).set ((q * n + d) / n) (wrap64 ((wTo n b (q * n + d)).getD ((q * n + d) / n) 0 + wrap64 (256 * wrap64 (b.getD (q * n + d) 0)))) := rfl
  show (wTo n b ((q * n + d) + 1)).take q = _
  rw [e]
  split
  ·exact key _
  ·exact key _
theorem wN_pos (wb : Int) : 0 < wN wb := by unfold wN; split <;> omega
theorem wordsF_take (wb : Int) (b : List Int) (q : Nat) (hq : q * wN wb ≤ b.length) : wordsF wb (b.take (q * wN wb)) = (wordsF wb b).take q := by
 unfold wordsF
 rw [List.length_take, Nat.min_eq_left hq, wTo_cut _ (wN_pos wb) b q hq _ (Nat.le_refl _)]
 obtain ⟨d, hd⟩ : ∃ d, b.length = q * wN wb + d := ⟨b.length - q * wN wb, by omega⟩
 rw [hd, wTo_behind _ (wN_pos wb)]
theorem byteF_len (wb a : Int) : (byteF wb a).length = wN wb := by unfold byteF wN; split <;> rfl
theorem bytesF_len (wb : Int) : ∀ l : List Int, (bytesF wb l).length = l.length * wN wb
 | [] => by simp [bytesF]
 | a :: l => by
  have h1 := bytesF_len wb l
  have h3 : bytesF wb (a :: l) = byteF wb a ++ bytesF wb l := by unfold bytesF; rw [List.flatMap_cons]
  rw [h3, List.length_append, byteF_len, h1, List.length_cons, Nat.add_mul]
  omega
theorem bytesF_cut (wb : Int) : ∀ (l : List Int) (q : Nat), bytesF wb (l.take q) = (bytesF wb l).take (q * wN wb)
 | [], q => by simp [bytesF]
 | a :: l, 0 => by simp [bytesF]
 | a :: l, q + 1 => by
  have h1 := bytesF_cut wb l q
  have h3 : ∀ l, bytesF wb (a :: l) = byteF wb a ++ bytesF wb l := fun l => by unfold bytesF; rw [List.flatMap_cons]
  rw [List.take_succ_cons, h3, h3, h1, show (q + 1) * wN wb = (byteF wb a).length + q * wN wb by rw [byteF_len, Nat.add_mul]; omega, List.take_length_add_append]
theorem mulB_len (wb c : Int) (b : List Int) (h : b.length % wN wb = 0) : (mulB wb c b).length = b.length := by
 unfold mulB
 rw [bytesF_len, List.length_map, wordsF_length]
 exact Nat.div_mul_cancel (Nat.dvd_of_mod_eq_zero h)
theorem mulB_take (wb c : Int) (b : List Int) (m : Nat) (hm : m ≤ b.length) (hd : m % wN wb = 0) : mulB wb c (b.take m) = (mulB wb c b).take m := by
 obtain ⟨q, rfl⟩ : ∃ q, m = q * wN wb := ⟨m / wN wb, (Nat.div_mul_cancel (Nat.dvd_of_mod_eq_zero hd)).symm⟩
 unfold mulB
 rw [wordsF_take wb b q hm, List.map_take, bytesF_cut]
def dotV (L : Nat) (wb : Int) (c : List Int) (rows : List (List Int)) : List Int := sumB L (List.zipWith (mulB wb) c rows)
theorem zip_len {wb : Int} {L : Nat} (hd : L % wN wb = 0) {c : List Int} {rows : List (List Int)} (hr : ∀ r, r ∈ rows → r.length = L) : ∀ r, r ∈ List.zipWith (mulB wb) c rows → r.length = L := by
 intro r h
 obtain ⟨i, hi, rfl⟩ := List.mem_iff_getElem.1 h
 rw [List.getElem_zipWith]
 rw [mulB_len _ _ _ (by rw [hr _ (List.getElem_mem ..)]; exact hd)]
 exact hr _ (List.getElem_mem ..)
theorem dotV_len {wb : Int} {L : Nat} (hd : L % wN wb = 0) {c : List Int} {rows : List (List Int)} (hr : ∀ r, r ∈ rows → r.length = L) : (dotV L wb c rows).length = L := sumB_length _ (zip_len hd hr)
theorem dotV_take {wb : Int} {L m : Nat} (hm : m ≤ L) (hdm : m % wN wb = 0) {c : List Int} {rows : List (List Int)} (hr : ∀ r, r ∈ rows → r.length = L) : dotV m wb c (rows.map (·.take m)) = (dotV L wb c rows).take m := by
 unfold dotV
 rw [sumB_take hm, List.map_zipWith]
 congr 1
 induction rows generalizing c with
 | nil => simp
 | cons r rs ih =>
  cases c with
  | nil => simp
  | cons x xs =>
   simp only [List.map_cons, List.zipWith_cons_cons]
   rw [mulB_take wb x r m (by rw [hr r (List.mem_cons_self ..)]; exact hm) hdm, ih (fun q hq => hr q (List.mem_cons_of_mem _ hq))]
theorem dot_ev (wb : Int) (L : Nat) (hL : L ≤ 1000000) (hd : L % wN wb = 0) (c : List Int) (rows : List (List Int)) (h0 : 0 < rows.length) (hc : c.length = rows.length) (hn : rows.length ≤ 1000) (hr : ∀ r, r ∈ rows → r.length = L) : Ev (fun k => dotB k wb c rows) (dotV L wb c rows, 0) := by
 have hall : rows.all (evB wb) = true := by
  rw [List.all_eq_true]
  intro r h
  unfold evB
  rw [hr r h, hd]; rfl
 refine Ev.congr (f := fun k => region_sum.f k (List.zipWith (mulB wb) c rows)) (fun k => by unfold dotB; rw [if_pos hall]) ?_
 exact sum_ev _ L (by omega) (by simp; omega) (by simp; omega) (zip_len hd hr)
theorem parl_ev (wb : Int) (L : Nat) (hL : L ≤ 1000000) (hd : L % wN wb = 0) (data : List (List Int)) (h0 : 0 < data.length) (hn : data.length ≤ 1000) (hr : ∀ r, r ∈ data → r.length = L) :
  ∀ (rs acc : List (List Int)), (∀ r, r ∈ rs → r.length = data.length) → Ev (fun k => codec_Parity.l k wb data rs acc) (acc ++ rs.map (fun c => dotV L wb c data), 0)
 | [], acc, _ => by
  simp only [codec_Parity.l, List.map_nil, List.append_nil]
  exact Ev.now _
 | row :: rs, acc, hc => by
  have h1 := dot_ev wb L hL hd row data h0 (hc row (List.mem_cons_self ..)) hn hr
  have h2 := parl_ev wb L hL hd data h0 hn hr rs (acc ++ [dotV L wb row data]) (fun r h => hc r (List.mem_cons_of_mem _ h))
  simp only [codec_Parity.l]
  refine Ev.bind h1 ?_
  rw [List.append_assoc] at h2
  simpa using h2
def parV (L : Nat) (p : Int) (K M : Nat) (data : List (List Int)) : List (List Int) := (parM p K M).map fun c => dotV L (pbits p) c data
theorem par_ev (p : Int) (K M L : Nat) (data : List (List Int)) (hmay : profile_May.f p (K : Int) (M : Int) = some true) (hK : data.length = K) (hL : L ≤ 1000000) (hd : L % wN (pbits p) = 0) (hr : ∀ r, r ∈ data → r.length = L) :
  Ev (fun k => codec_Parity.f k p (K : Int) (M : Int) data) (parV L p K M data, 0) := by
 obtain ⟨p1, p2, k1, k2, m1, m2⟩ := may_true hmay
 have hgd := parM_good p K M (by omega) (by omega) (by omega) (by omega)
 have hs : codec_Parity.small data = true := by
  simp only [codec_Parity.small, Bool.and_eq_true, decide_eq_true_eq, List.all_eq_true]
  exact ⟨by omega, fun r h => by rw [hr r h]; exact hL⟩
 have h1 := parl_ev (pbits p) L hL hd data (by omega) (by omega) hr (parM p K M) [] (fun r h => by rw [(hgd.1 r h).1, hK])
 refine Ev.congr (fun k => ?_) h1
 unfold codec_Parity.f
 rw [hmay, Option.bind_some, if_pos rfl, if_pos (by omega), if_pos hs, Int.toNat_natCast, Int.toNat_natCast]
end Go.Proofs.YtelcllhibpnneaaGreat.XCo
end
section
namespace Go.Proofs.YtelcllhibpnneaaGreat.XCo
open Go.RowKit Go.Proofs.YtelcllhibpnneaaGreatW.PrintWords Go.Proofs.YtelcllhibpnneaaGreatW.PrintLast Go.Proofs.YtelcllhibpnneaaGreatW.PrintMore
attribute [local go_sem] max2_int min2_int max_two min_two max_three min_three max_four min_four
set_option linter.unusedVariables false
set_option linter.unusedSimpArgs false
def unitN (p : Int) : Nat := if p ≤ 2 then 8 else if p ≤ 4 then 16 else 1
def aheadN (p : Int) : Nat := if p = 5 then 4 else 0
theorem rule_eq {p : Int} (h1 : 1 ≤ p) (h2 : p ≤ 6) (k m : Int) : layout_rule.f p k m = some ((unitN p : Int), (aheadN p : Int)) := by
 have : p = 1 ∨ p = 2 ∨ p = 3 ∨ p = 4 ∨ p = 5 ∨ p = 6 := by omega
 rcases this with rfl | rfl | rfl | rfl | rfl | rfl <;> rfl
theorem w64 {x : Int} (h0 : -1 ≤ x) (h1 : x < 1000000000) : wrap64 x = x := by unfold wrap64; omega
theorem unitN_bd (p : Int) : 1 ≤ unitN p ∧ unitN p ≤ 16 := by unfold unitN; split <;> (try split) <;> omega
theorem aheadN_bd (p : Int) : aheadN p ≤ 4 := by unfold aheadN; split <;> omega
def sizeN (p : Int) (K n : Nat) : Nat := unitN p * max ((n + aheadN p + unitN p * K - 1) / (unitN p * K)) 1
theorem sizeN_room (p : Int) (K n : Nat) (hK : 1 ≤ K) : n + aheadN p ≤ sizeN p K n * K := by
 have hu := (unitN_bd p).1
 unfold sizeN
 generalize n + aheadN p = t
 obtain ⟨s, hs⟩ : ∃ s, unitN p * K = s := ⟨_, rfl⟩
 have hs1 : 1 ≤ s := by rw [← hs]; exact Nat.mul_pos hu hK
 rw [hs]
 have h1 := Nat.div_add_mod (t + s - 1) s
 have h2 := Nat.mod_lt (t + s - 1) (show 0 < s from hs1)
 have h3 : s * ((t + s - 1) / s) ≤ s * max ((t + s - 1) / s) 1 := Nat.mul_le_mul_left _ (Nat.le_max_left _ _)
 have h4 : unitN p * max ((t + s - 1) / s) 1 * K = s * max ((t + s - 1) / s) 1 := by rw [← hs, Nat.mul_assoc, Nat.mul_comm (max _ _) K, ← Nat.mul_assoc]
 rw [h4]
 omega
theorem sizeN_pos (p : Int) (K n : Nat) : 1 ≤ sizeN p K n := by
 unfold sizeN
 exact Nat.mul_pos (unitN_bd p).1 (Nat.lt_of_lt_of_le Nat.one_pos (Nat.le_max_right _ _))
theorem sizeN_le (p : Int) (K n : Nat) (hK : 1 ≤ K) (hK2 : K ≤ 8) (hn : n ≤ 4096) : sizeN p K n ≤ 80000 := by
 have hu := unitN_bd p
 have ha := aheadN_bd p
 have h1 : (n + aheadN p + unitN p * K - 1) / (unitN p * K) ≤ 4300 := by
  have h2 : unitN p * K ≤ 16 * 8 := Nat.mul_le_mul hu.2 hK2
  exact Nat.le_trans (Nat.div_le_self _ _) (by omega)
 unfold sizeN
 exact Nat.le_trans (Nat.mul_le_mul hu.2 (show max ((n + aheadN p + unitN p * K - 1) / (unitN p * K)) 1 ≤ 4300 by omega)) (by omega)
theorem sizeN_even (p : Int) (K n : Nat) : sizeN p K n % wN (pbits p) = 0 := by
 unfold pbits
 by_cases h : p = 2
 ·subst h
  rw [if_pos rfl]
  show (8 * _) % 2 = 0
  omega
 ·rw [if_neg h]
  show _ % 1 = 0
  omega
theorem size_ev (p : Int) (K M n : Nat) (hmay : profile_May.f p (K : Int) (M : Int) = some true) (hn : n ≤ 4096) : Ev (fun k => layout_Size.f k p (K : Int) (M : Int) (n : Int)) ((sizeN p K n : Int), 0) := by
 obtain ⟨p1, p2, k1, k2, m1, m2⟩ := may_true hmay
 have hu := unitN_bd p
 have ha := aheadN_bd p
 have hup : unitN p * K ≤ 16 * 8 := Nat.mul_le_mul hu.2 (by omega)
 have hu1 : 1 ≤ unitN p * K := Nat.mul_pos hu.1 (by omega)
 refine Ev.of (fun k => layout_Size.mono _ _ _ _ k) (k := 1) ?_
 unfold layout_Size.f
 rw [hmay, Option.bind_some, if_pos rfl, show decide ((n : Int) < 0) = false by simp]
 rw [layout_Size.j0]
 rw [if_neg (by decide), if_neg (by omega), rule_eq p1 p2, Option.bind_some]
 have w1 : wrap64 ((unitN p : Int) * (K : Int)) = ((unitN p * K : Nat) : Int) := by
  rw [← Int.natCast_mul]; unfold wrap64; omega
 dsimp only
 rw [w1, if_neg (by omega)]
 have w2 : wrap64 (wrap64 (wrap64 ((n : Int) + (aheadN p : Int)) + ((unitN p * K : Nat) : Int)) - 1) = ((n + aheadN p + unitN p * K - 1 : Nat) : Int) := by
  generalize unitN p * K = s at hup hu1 ⊢
  generalize aheadN p = a at ha ⊢
  rw [w64 (x := (n : Int) + (a : Int)) (by omega) (by omega), w64 (x := (n : Int) + (a : Int) + (s : Int)) (by omega) (by omega), w64 (x := (n : Int) + (a : Int) + (s : Int) - 1) (by omega) (by omega)]
  omega
 rw [w2, show Int.tdiv ((n + aheadN p + unitN p * K - 1 : Nat) : Int) ((unitN p * K : Nat) : Int) = (((n + aheadN p + unitN p * K - 1) / (unitN p * K) : Nat) : Int) from (Int.ofNat_tdiv _ _).symm]
 have hle := sizeN_le p K n (by omega) (by omega) hn
 unfold sizeN at hle ⊢
 have hq : (n + aheadN p + unitN p * K - 1) / (unitN p * K) ≤ 4300 := Nat.le_trans (Nat.div_le_self _ _) (by omega)
 generalize (n + aheadN p + unitN p * K - 1) / (unitN p * K) = q at hle hq ⊢
 have w3 : mx (wrap64 (q : Int)) 1 = ((max q 1 : Nat) : Int) := by
  rw [show wrap64 (q : Int) = (q : Int) by unfold wrap64; omega]
  unfold mx
  split <;> omega
 rw [w3, ← Int.natCast_mul]
 rw [show wrap64 ((unitN p * max q 1 : Nat) : Int) = ((unitN p * max q 1 : Nat) : Int) by unfold wrap64; omega]
theorem fill_some (size K : Nat) (hs : 1 ≤ size) : ∀ (cs : List Int) (i : Nat) (rows : List (List Int)), rows.length = K → (∀ r, r ∈ rows → r.length = size) → i + cs.length ≤ size * K →
  ∃ r, layout_Split.fill size cs i rows = some r ∧ r.length = K ∧ (∀ x, x ∈ r → x.length = size) ∧ (∀ P : Int → Prop, (∀ c, c ∈ cs → P c) → (∀ x, x ∈ rows → ∀ c, c ∈ x → P c) → ∀ x, x ∈ r → ∀ c, c ∈ x → P c)
 | [], i, rows, h1, h2, h3 => ⟨rows, rfl, h1, h2, fun P _ h => h⟩
 | c :: cs, i, rows, h1, h2, h3 => by
  have hlt : i / size < rows.length := by
   rw [h1]
   exact (Nat.div_lt_iff_lt_mul hs).2 (by rw [Nat.mul_comm]; simp at h3; omega)
  obtain ⟨row, hrow⟩ : ∃ r, rows[i / size]? = some r := ⟨_, List.getElem?_eq_getElem hlt⟩
  have hm := List.mem_of_getElem? hrow
  have hd : rows.getD (i / size) [] = row := by rw [List.getD_eq_getElem?_getD, hrow]; rfl
  obtain ⟨r, q1, q2, q3, q4⟩ := fill_some size K hs cs (i + 1) (rows.set (i / size) (row.set (i % size) c)) (by rw [List.length_set]; exact h1) (fun x hx => by
   rcases List.mem_or_eq_of_mem_set hx with hx | rfl
   ·exact h2 x hx
   ·rw [List.length_set]; exact h2 row hm) (by simp at h3; omega)
  refine ⟨r, ?_, q2, q3, fun P hc hr => q4 P (fun c hh => hc c (List.mem_cons_of_mem _ hh)) (fun x hx => ?_)⟩
  ·simp only [layout_Split.fill]
   rw [if_pos hlt, hd]
   exact q1
  ·rcases List.mem_or_eq_of_mem_set hx with hx | rfl
   ·exact hr x hx
   ·intro y hy
    rcases List.mem_or_eq_of_mem_set hy with hy | rfl
    ·exact hr row hm y hy
    ·exact hc _ (List.mem_cons_self ..)
theorem laidL_len (p : Int) (b : List Int) : (laidL (aheadN p) b).length = b.length + aheadN p := by
 unfold laidL four4
 have := aheadN_bd p
 simp; omega
theorem laidL_byte (a : Nat) (b : List Int) (hb : ∀ x, x ∈ b → 0 ≤ x ∧ x ≤ 255) : ∀ x, x ∈ laidL a b → 0 ≤ x ∧ x ≤ 255 := by
 intro x hx
 unfold laidL at hx
 rcases List.mem_append.1 hx with h | h
 ·have h := List.mem_of_mem_drop h
  simp only [four4, List.mem_cons, List.mem_nil_iff, or_false] at h
  rcases h with rfl | rfl | rfl | rfl <;> omega
 ·exact hb x h
theorem split_ev (p : Int) (K M : Nat) (b : List Int) (hmay : profile_May.f p (K : Int) (M : Int) = some true) (hn : b.length ≤ 4096) :
  ∃ data, data.length = K ∧ (∀ r, r ∈ data → r.length = sizeN p K b.length) ∧ ((∀ x, x ∈ b → 0 ≤ x ∧ x ≤ 255) → ∀ r, r ∈ data → ∀ x, x ∈ r → 0 ≤ x ∧ x ≤ 255) ∧ layout_Split.fill (sizeN p K b.length) (laidL (aheadN p) b) 0 (List.replicate K (List.replicate (sizeN p K b.length) 0)) = some data ∧ Ev (fun k => layout_Split.f k p (K : Int) (M : Int) b) (data, 0) := by
 obtain ⟨p1, p2, k1, k2, m1, m2⟩ := may_true hmay
 have hz1 := sizeN_pos p K b.length
 have hz2 := sizeN_le p K b.length (by omega) (by omega) hn
 have hz3 := sizeN_room p K b.length (by omega)
 obtain ⟨data, q1, q2, q3, q4⟩ := fill_some (sizeN p K b.length) K hz1 (laidL (aheadN p) b) 0 (List.replicate K (List.replicate (sizeN p K b.length) 0)) (by simp) (fun r hr => by rw [List.eq_of_mem_replicate hr]; simp) (by rw [laidL_len]; omega)
 refine ⟨data, q2, q3, fun hb => q4 _ (laidL_byte _ b hb) (fun x hx c hc => by
  rw [List.eq_of_mem_replicate hx] at hc
  rw [List.eq_of_mem_replicate hc]
  omega), q1, ?_⟩
 obtain ⟨k0, hk0⟩ := size_ev p K M b.length hmay hn
 refine ⟨k0, fun k hk => ?_⟩
 have h1 : layout_Size.f k p (K : Int) (M : Int) (b.length : Int) = some ((sizeN p K b.length : Int), 0) := hk0 k hk
 show layout_Split.f k p (K : Int) (M : Int) b = some (data, 0)
 unfold layout_Split.f
 rw [h1, Option.bind_some, if_pos rfl, if_pos (by omega), if_pos (by omega), if_pos (by show (1 : Int) ≤ _; omega), if_pos (by show _ ≤ (100000 : Int); omega), if_pos (by omega), rule_eq p1 p2, Option.bind_some, if_pos (by have := aheadN_bd p; dsimp only; unfold aheadN; split <;> omega), Int.toNat_natCast, Int.toNat_natCast, Int.toNat_natCast, q1]
 rfl
theorem parV_len (L : Nat) (p : Int) (K M : Nat) (data : List (List Int)) (hmay : profile_May.f p (K : Int) (M : Int) = some true) : (parV L p K M data).length = M := by
 obtain ⟨p1, p2, k1, k2, m1, m2⟩ := may_true hmay
 unfold parV
 rw [List.length_map, (parM_good p K M (by omega) (by omega) (by omega) (by omega)).2]
theorem enc_ev (p : Int) (K M : Nat) (b : List Int) (hmay : profile_May.f p (K : Int) (M : Int) = some true) (hn : b.length ≤ 4096) :
  ∃ data, data.length = K ∧ (∀ r, r ∈ data → r.length = sizeN p K b.length) ∧ ((∀ x, x ∈ b → 0 ≤ x ∧ x ≤ 255) → ∀ r, r ∈ data → ∀ x, x ∈ r → 0 ≤ x ∧ x ≤ 255) ∧ Ev (fun k => codec_Encode.f k p (K : Int) (M : Int) b) (data ++ parV (sizeN p K b.length) p K M data, 0) := by
 obtain ⟨p1, p2, k1, k2, m1, m2⟩ := may_true hmay
 obtain ⟨data, q1, q2, q3, -, q4⟩ := split_ev p K M b hmay hn
 refine ⟨data, q1, q2, q3, ?_⟩
 have h2 := par_ev p K M (sizeN p K b.length) data hmay q1 (by have := sizeN_le p K b.length (by omega) (by omega) hn; omega) (sizeN_even p K b.length) q2
 have hl := parV_len (sizeN p K b.length) p K M data hmay
 refine Ev.bind q4 ?_
 refine Ev.congr (f := fun k => (codec_Parity.f k p (K : Int) (M : Int) data).bind fun t => if data.length + t.1.length < 5864062014805 then some (data ++ t.1, t.2) else none) (fun k => by dsimp only; rw [if_pos rfl]) ?_
 refine Ev.bind h2 ?_
 refine Ev.congr (fun k => ?_) (Ev.now _)
 dsimp only
 rw [if_pos (by omega)]
theorem some_ev (a b c : Int) (ha : 0 ≤ a ∧ a ≤ 255) (hb : 0 ≤ b ∧ b ≤ 255) (hc : 0 ≤ c ∧ c ≤ 255) : ∃ (p : Int) (K M : Nat), gambrelref09_Some.f a b c = some (p, (K : Int), (M : Int)) ∧ profile_May.f p (K : Int) (M : Int) = some true ∧ (profile_May.f 1 (K : Int) (M : Int) = some true) ∧ profile_May.f 3 (K : Int) (mn (M : Int) 3) = some true := by
 have e1 : wrap64 (1 + Int.tmod (wrap64 a) 6) = 1 + a % 6 := by
  rw [show wrap64 a = a by unfold wrap64; omega, Int.tmod_eq_emod_of_nonneg (by omega)]; unfold wrap64; omega
 have e2 : wrap64 (1 + Int.tmod (wrap64 b) 8) = 1 + b % 8 := by
  rw [show wrap64 b = b by unfold wrap64; omega, Int.tmod_eq_emod_of_nonneg (by omega)]; unfold wrap64; omega
 have e3 : ∀ m : Int, 1 ≤ m → m ≤ 4 → wrap64 (1 + Int.tmod (wrap64 c) m) = 1 + c % m := fun m h1 h2 => by
  rw [show wrap64 c = c by unfold wrap64; omega, Int.tmod_eq_emod_of_nonneg (by omega)]
  have := Int.emod_nonneg c (show m ≠ 0 by omega)
  have := Int.emod_lt_of_pos c (show 0 < m by omega)
  unfold wrap64; omega
 unfold gambrelref09_Some.f
 rw [e1, e2]
 obtain ⟨p, hp⟩ : ∃ p, 1 + a % 6 = p := ⟨_, rfl⟩
 obtain ⟨K, hK⟩ : ∃ K : Nat, 1 + b % 8 = (K : Int) := ⟨(1 + b % 8).toNat, by omega⟩
 have hK1 : 1 ≤ (K : Int) ∧ (K : Int) ≤ 8 := by omega
 rw [hp, hK]
 have case4 : ∀ (s : ByteArray) (x y z : Int) (m : Int), (m = 3 ∨ m = 4) → gambrelref09_Of.f p = some (s, x, y, z, m, true) → (∀ k M : Int, 1 ≤ k → k ≤ 8 → 1 ≤ M → M ≤ m → profile_May.f p k M = some true) → ∃ (p' : Int) (K' M : Nat), ((gambrelref09_Of.f p).bind fun bt620 => (if bt620.2.2.2.2.1 = 0 then none else some (p, (K : Int), wrap64 (1 + Int.tmod (wrap64 c) bt620.2.2.2.2.1)))) = some (p', (K' : Int), (M : Int)) ∧ profile_May.f p' (K' : Int) (M : Int) = some true ∧ (profile_May.f 1 (K' : Int) (M : Int) = some true) ∧ profile_May.f 3 (K' : Int) (mn (M : Int) 3) = some true := by
  intro s x y z m hm hof hmy
  have hcm : 0 ≤ c % m ∧ c % m < m := ⟨Int.emod_nonneg c (by omega), Int.emod_lt_of_pos c (by omega)⟩
  obtain ⟨M, hM⟩ : ∃ M : Nat, 1 + c % m = (M : Int) := ⟨(1 + c % m).toNat, by omega⟩
  have hM1 : 1 ≤ (M : Int) ∧ (M : Int) ≤ m := by omega
  refine ⟨p, K, M, ?_, hmy _ _ hK1.1 hK1.2 hM1.1 hM1.2, ?_, ?_⟩
  ·rw [hof, Option.bind_some]
   dsimp only
   rw [if_neg (by omega), e3 m (by omega) (by omega), hM]
  ·show (if (K : Int) ≥ 1 then (if (K : Int) ≤ 8 then (if (M : Int) ≥ 1 then some (decide ((M : Int) ≤ 4)) else some false) else some false) else some false) = some true
   rw [if_pos hK1.1, if_pos hK1.2, if_pos hM1.1]
   simp; omega
  ·show (if (K : Int) ≥ 1 then (if (K : Int) ≤ 8 then (if mn (M : Int) 3 ≥ 1 then some (decide (mn (M : Int) 3 ≤ 3)) else some false) else some false) else some false) = some true
   have hmn : 1 ≤ mn (M : Int) 3 ∧ mn (M : Int) 3 ≤ 3 := by unfold mn; split <;> omega
   rw [if_pos hK1.1, if_pos hK1.2, if_pos hmn.1]
   simp; omega
 have hmy : ∀ m : Int, (∀ k M : Int, profile_May.f p k M = (if k ≥ 1 then (if k ≤ 8 then (if M ≥ 1 then some (decide (M ≤ m)) else some false) else some false) else some false)) → ∀ k M : Int, 1 ≤ k → k ≤ 8 → 1 ≤ M → M ≤ m → profile_May.f p k M = some true := fun m h k M h1 h2 h3 h4 => by
  rw [h, if_pos h1, if_pos h2, if_pos h3]
  simpa using h4
 have hpc : p = 1 ∨ p = 2 ∨ p = 3 ∨ p = 4 ∨ p = 5 ∨ p = 6 := by omega
 clear hp e1 e2
 rcases hpc with rfl | rfl | rfl | rfl | rfl | rfl
 ·exact case4 _ _ _ _ 4 (.inr rfl) rfl (hmy 4 (fun _ _ => rfl))
 ·exact case4 _ _ _ _ 4 (.inr rfl) rfl (hmy 4 (fun _ _ => rfl))
 ·exact case4 _ _ _ _ 3 (.inl rfl) rfl (hmy 3 (fun _ _ => rfl))
 ·exact case4 _ _ _ _ 4 (.inr rfl) rfl (hmy 4 (fun _ _ => rfl))
 ·exact case4 _ _ _ _ 4 (.inr rfl) rfl (hmy 4 (fun _ _ => rfl))
 ·exact case4 _ _ _ _ 4 (.inr rfl) rfl (hmy 4 (fun _ _ => rfl))
end Go.Proofs.YtelcllhibpnneaaGreat.XCo
end
section
namespace Go.Proofs.YtelcllhibpnneaaGreat.XCo
open Go.RowKit Go.Proofs.YtelcllhibpnneaaGreatW.PrintWords Go.Proofs.YtelcllhibpnneaaGreatW.PrintLast Go.Proofs.YtelcllhibpnneaaGreatW.PrintMore
attribute [local go_sem] max2_int min2_int max_two min_two max_three min_three max_four min_four
set_option linter.unusedVariables false
set_option linter.unusedSimpArgs false
theorem eql_ev (x : List Int) (hx : x.length ≤ 100000000) : Ev (fun k => slices_Equal_byte_byte.f k x x) true := by
 have key : ∀ (m i : Nat), i + m = x.length → Ev (fun k => slices_Equal_byte_byte.l0 k x x (x.length : Int) (i : Int)) true := by
  intro m
  induction m with
  | zero =>
   intro i hi
   refine Ev.step (f := fun _ => some true) (fun k => ?_) (Ev.now _)
   rw [slices_Equal_byte_byte.l0, if_neg (by omega)]
  | succ m ih =>
   intro i hi
   refine Ev.step (f := fun k => slices_Equal_byte_byte.l0 k x x (x.length : Int) ((i + 1 : Nat) : Int)) (fun k => ?_) (ih (i + 1) (by omega))
   rw [slices_Equal_byte_byte.l0, if_pos (by omega), if_pos (by omega), if_pos (by omega), if_pos (by omega), if_pos rfl, wrap64_nat (by omega)]
 have h := key x.length 0 (by omega)
 refine Ev.congr (fun k => ?_) h
 unfold slices_Equal_byte_byte.f
 rw [if_pos rfl]; rfl
theorem eqRows_ev : ∀ (l : List (List Int)), (∀ x, x ∈ l → x.length ≤ 100000000) → Ev (fun k => eqRows k l l) true
 | [], _ => by simp only [eqRows]; exact Ev.now _
 | x :: xs, h => by
  simp only [eqRows]
  refine Ev.bind (eql_ev x (h x (List.mem_cons_self ..))) ?_
  refine Ev.congr (fun k => ?_) (eqRows_ev xs (fun y hy => h y (List.mem_cons_of_mem _ hy)))
  rw [if_pos rfl]
theorem eqFunc_ev (l : List (List Int)) (hl : l.length ≤ 1000000) (h : ∀ x, x ∈ l → x.length ≤ 100000000) : Ev (fun k => eqFunc k l l) true := by
 refine Ev.congr (fun k => ?_) (eqRows_ev l h)
 unfold eqFunc
 rw [if_pos rfl, if_pos hl]
theorem ver_ev (p : Int) (K M L : Nat) (data : List (List Int)) (hmay : profile_May.f p (K : Int) (M : Int) = some true) (hK : data.length = K) (hL : L ≤ 1000000) (hd : L % wN (pbits p) = 0) (hr : ∀ r, r ∈ data → r.length = L) :
  Ev (fun k => codec_Verify.f k p (K : Int) (M : Int) (data ++ parV L p K M data)) true := by
 have h1 := par_ev p K M L data hmay hK hL hd hr
 have hl := parV_len L p K M data hmay
 obtain ⟨p1, p2, k1, k2, m1, m2⟩ := may_true hmay
 have h2 := eqFunc_ev (parV L p K M data) (by omega) (fun x hx => by
  unfold parV at hx
  obtain ⟨c, -, rfl⟩ := List.mem_map.1 hx
  rw [dotV_len hd hr]; omega)
 have ht : (data ++ parV L p K M data).take K = data := by rw [← hK, List.take_left']; rfl
 have hdr : (data ++ parV L p K M data).drop K = parV L p K M data := by rw [← hK, List.drop_left']; rfl
 refine Ev.congr (f := fun k => (codec_Parity.f k p (K : Int) (M : Int) data).bind fun t => if t.2 = 0 then eqFunc k t.1 (parV L p K M data) else some false) (fun k => ?_) ?_
 ·unfold codec_Verify.f
  rw [hmay, Option.bind_some, if_pos rfl, if_pos (by rw [List.length_append, hK, hl]; omega), Int.toNat_natCast, ht, hdr]
 ·refine Ev.bind h1 ?_
  refine Ev.congr (fun k => ?_) h2
  rw [if_pos rfl]
theorem parV_take {p : Int} {K M L m : Nat} {data : List (List Int)} (hm : m ≤ L) (hdm : m % wN (pbits p) = 0) (hr : ∀ r, r ∈ data → r.length = L) : parV m p K M (data.map (·.take m)) = (parV L p K M data).map (·.take m) := by
 unfold parV
 rw [List.map_map]
 refine List.map_congr_left (fun c _ => ?_)
 exact dotV_take hm hdm hr
theorem u8_wf {x : Int} (h : (Lit.int .u8 x).wf = true) : 0 ≤ x ∧ x ≤ 255 := by
 simp [Lit.wf, IntKind.has] at h
 have h1 : IntKind.min .u8 = 0 := rfl
 have h2 : IntKind.max .u8 = 255 := rfl
 omega
end Go.Proofs.YtelcllhibpnneaaGreat.XCo
end
