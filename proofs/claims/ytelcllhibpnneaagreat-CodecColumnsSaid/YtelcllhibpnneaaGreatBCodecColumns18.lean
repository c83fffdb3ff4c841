-- Joined by this work's own program (wip/tools/bundle.py) out of its texts: what this claim uses of them. Not trusted: Lean checks it.
import Derived.Lib.SlBytesConst
import Derived.Test.YtelcllhibpnneaaGreatBCodecColumns17
section
namespace Go.Proofs.YtelcllhibpnneaaGreat.XCo
open Go.RowKit Go.Proofs.YtelcllhibpnneaaGreatW.PrintWords Go.Proofs.YtelcllhibpnneaaGreatW.PrintLast Go.Proofs.YtelcllhibpnneaaGreatW.PrintMore
attribute [local go_sem] max2_int min2_int max_two min_two max_three min_three max_four min_four
set_option linter.unusedVariables false
set_option linter.unusedSimpArgs false
def gambrelref09_Some.f (a0_0 : Int) (a0_1 : Int) (a0_2 : Int) : Option (Int × Int × Int) := (gambrelref09_Of.f (wrap64 (1 + (Int.tmod (wrap64 (a0_0)) 6)))).bind fun bt611 => (if bt611.2.2.2.2.1 = 0 then (none) else (some (wrap64 (1 + (Int.tmod (wrap64 (a0_0)) 6)), wrap64 (1 + (Int.tmod (wrap64 (a0_1)) 8)), wrap64 (1 + (Int.tmod (wrap64 (a0_2)) bt611.2.2.2.2.1)))))
set_option maxHeartbeats 8000000 in
set_option maxRecDepth 100000 in
theorem gambrelref09_Some.calls (a0_0 : Int) (a0_1 : Int) (a0_2 : Int) (r1 : Int) (r2 : Int) (r3 : Int) (w : World) (h : gambrelref09_Some.f a0_0 a0_1 a0_2 = some (r1, r2, r3)) :
  Calls Tryz.prog 24 #[.agg #[.int .u8 a0_0, .int .u8 a0_1, .int .u8 a0_2]] w fun e w' => e = .returned (.agg #[.int .i64 r1, .int .i64 r2, .int .i64 r3]) ∧ Below w.heap.size w w' := by
 have hu38 := Tryz.underlying38
 have hu23 := Tryz.underlying23
 have hu72 := Tryz.underlying72
 have HB := Aside0.mk (Below.refl w.heap.size w)
 have H : ((gambrelref09_Of.f (wrap64 (1 + (Int.tmod (wrap64 (a0_0)) 6)))).bind fun bt611 => (if bt611.2.2.2.2.1 = 0 then (none) else (some (wrap64 (1 + (Int.tmod (wrap64 (a0_0)) 6)), wrap64 (1 + (Int.tmod (wrap64 (a0_1)) 8)), wrap64 (1 + (Int.tmod (wrap64 (a0_2)) bt611.2.2.2.2.1)))))) = some (r1, r2, r3) := h
 clear h
 replace H := Option.bind_eq_some_iff.mp H
 obtain ⟨⟨t611, t612, t613, t614, t615, t616⟩, A20, H⟩ := H
 replace H : (if t615 = 0 then (none) else (some (wrap64 (1 + (Int.tmod (wrap64 (a0_0)) 6)), wrap64 (1 + (Int.tmod (wrap64 (a0_1)) 8)), wrap64 (1 + (Int.tmod (wrap64 (a0_2)) t615))))) = some (r1, r2, r3) := H
 have A2 := Aside0.mk A20
 clear A20
 by_cases c3 : t615 = 0
 ·rw [if_pos c3] at H
  exact absurd H (by simp)
 ·rw [if_neg c3] at H
  have c3b0 : (t615 == 0) = false := beq_eq_false_iff_ne.mpr c3
  have c3b1 : (t615 != 0) = true := bne_iff_ne.mpr c3
  simp only [Option.some.injEq, Prod.mk.injEq] at H
  obtain ⟨rfl, rfl, rfl⟩ := H
  go_enter Tryz.func24, Tryz.ntmps24
  go_wp2_with (first | ((with_reducible refine gate_dst (N := 1) rfl ?_); refine box_event ?hg (N := 1) ?hd (cs := #[.int .u8 a0_0, .int .u8 a0_1, .int .u8 a0_2]) (t := 38) ?hr ?_; (case hd => rfl); (case hg => rfl); (case hr => first | (go_simp; done) | (go_simp; rfl)); intro gb608 hg w4 hbox hb; have n0_ := Aside0.mk (below_step (by repeat (first | (with_reducible first | exact HB.out | apply below_alloc | apply pw_below_drewN | apply below_drew1) | exact HB.out)) hb); have n1_ := Aside0.mk (hbox); have n2_ := Aside0.mk ((by rw [hg]; exact (below_size (by repeat (first | (with_reducible first | exact HB.out | apply below_alloc | apply pw_below_drewN | apply below_drew1) | exact HB.out))) : w.heap.size ≤ gb608)); have n3_ := Aside0.mk ((by rw [hg]; exact (below_size (by repeat (first | (with_reducible first | exact HB.out | apply below_alloc | apply pw_below_drewN | apply below_drew1) | exact HB.out))) : w.heap.size ≤ gb608)); clear HB; have HB := n0_; have BK608 := n1_; have GW608 := n2_; have GE608 := n3_; clear n0_ n1_ n2_ n3_; clear hb hbox hg) | ((with_reducible refine gate_dst (N := 2) rfl ?_); refine box_event ?hg (N := 2) ?hd (cs := #[.int .i64 0, .int .i64 0, .int .i64 0]) (t := 23) ?hr ?_; (case hd => rfl); (case hg => rfl); (case hr => first | (go_simp; done) | (go_simp; rfl)); intro gb609 hg w5 hbox hb; have n0_ := Aside0.mk (blk_below (g := gb608) (o := .cells #[.int .u8 a0_0, .int .u8 a0_1, .int .u8 a0_2] 38 (0, 0)) (by (with_reducible repeat (first | refine blk_drewN ?_ _ | refine blk_drew ?_ | refine blk_alloc ?_ _)); exact BK608.out) hb); have n1_ := Aside0.mk (below_step (by repeat (first | (with_reducible first | exact HB.out | apply below_alloc | apply pw_below_drewN | apply below_drew1 | refine below_set ?_ GE608.out) | exact HB.out)) hb); have n2_ := Aside0.mk (hbox); have n3_ := Aside0.mk ((by rw [hg]; exact (below_size (by repeat (first | (with_reducible first | exact HB.out | apply below_alloc | apply pw_below_drewN | apply below_drew1 | refine below_set ?_ GE608.out) | exact HB.out))) : w.heap.size ≤ gb609)); have n4_ := Aside0.mk ((by rw [hg]; exact (below_size (by repeat (first | (with_reducible first | exact HB.out | apply below_alloc | apply pw_below_drewN | apply below_drew1 | refine below_set ?_ GE608.out) | exact HB.out))) : w.heap.size ≤ gb609)); have n5_ := Aside0.mk ((by rw [hg]; exact Nat.ne_of_lt (blk_lt (g := gb608) (o := .cells #[.int .u8 a0_0, .int .u8 a0_1, .int .u8 a0_2] 38 (0, 0)) (by (with_reducible repeat (first | refine blk_drewN ?_ _ | refine blk_drew ?_ | refine blk_alloc ?_ _)); exact BK608.out)) : gb608 ≠ gb609)); have n6_ := Aside0.mk ((by rw [hg]; exact Nat.ne_of_gt (blk_lt (g := gb608) (o := .cells #[.int .u8 a0_0, .int .u8 a0_1, .int .u8 a0_2] 38 (0, 0)) (by (with_reducible repeat (first | refine blk_drewN ?_ _ | refine blk_drew ?_ | refine blk_alloc ?_ _)); exact BK608.out)) : gb609 ≠ gb608)); clear BK608; clear HB; have BK608 := n0_; have HB := n1_; have BK609 := n2_; have GW609 := n3_; have GE609 := n4_; have NB608_609 := n5_; have NB609_608 := n6_; clear n0_ n1_ n2_ n3_ n4_ n5_ n6_; clear hb hbox hg; have hnb6 := NB608_609.out; have hnc6 := NB609_608.out; have hcz7_0 : w5.cell? ⟨gb608, 0, none⟩ = some (.int .u8 a0_0) := (blk_cell BK608.out 0).trans rfl; have hcz7_1 : w5.cell? ⟨gb608, 1, none⟩ = some (.int .u8 a0_1) := (blk_cell BK608.out 1).trans rfl; have hcz7_2 : w5.cell? ⟨gb608, 2, none⟩ = some (.int .u8 a0_2) := (blk_cell BK608.out 2).trans rfl; have hfz7_0 := blk_frozen BK608.out 0; have hfz7_1 := blk_frozen BK608.out 1; have hfz7_2 := blk_frozen BK608.out 2) | ((with_reducible refine gate_dst (N := 3) rfl ?_); refine box_event ?hg (N := 3) ?hd (cs := #[.int .i64 0, .int .i64 0, .int .i64 0]) (t := 23) ?hr ?_; (case hd => rfl); (case hg => rfl); (case hr => first | (go_simp; done) | (go_simp; rfl)); intro gb610 hg w8 hbox hb; have n0_ := Aside0.mk (blk_below (g := gb608) (o := .cells #[.int .u8 a0_0, .int .u8 a0_1, .int .u8 a0_2] 38 (0, 0)) (by (with_reducible repeat (first | refine blk_drewN ?_ _ | refine blk_drew ?_ | refine blk_alloc ?_ _)); exact BK608.out) hb); have n1_ := Aside0.mk (blk_below (g := gb609) (o := .cells #[.int .i64 0, .int .i64 0, .int .i64 0] 23 (0, 0)) (by (with_reducible repeat (first | refine blk_drewN ?_ _ | refine blk_drew ?_ | refine blk_alloc ?_ _)); exact BK609.out) hb); have n2_ := Aside0.mk (below_step (by repeat (first | (with_reducible first | exact HB.out | apply below_alloc | apply pw_below_drewN | apply below_drew1 | refine below_set ?_ GE608.out | refine below_set ?_ GE609.out) | exact HB.out)) hb); have n3_ := Aside0.mk (hbox); have n4_ := Aside0.mk ((by rw [hg]; exact (below_size (by repeat (first | (with_reducible first | exact HB.out | apply below_alloc | apply pw_below_drewN | apply below_drew1 | refine below_set ?_ GE608.out | refine below_set ?_ GE609.out) | exact HB.out))) : w.heap.size ≤ gb610)); have n5_ := Aside0.mk ((by rw [hg]; exact (below_size (by repeat (first | (with_reducible first | exact HB.out | apply below_alloc | apply pw_below_drewN | apply below_drew1 | refine below_set ?_ GE608.out | refine below_set ?_ GE609.out) | exact HB.out))) : w.heap.size ≤ gb610)); have n6_ := Aside0.mk ((by rw [hg]; exact Nat.ne_of_lt (blk_lt (g := gb608) (o := .cells #[.int .u8 a0_0, .int .u8 a0_1, .int .u8 a0_2] 38 (0, 0)) (by (with_reducible repeat (first | refine blk_drewN ?_ _ | refine blk_drew ?_ | refine blk_alloc ?_ _)); exact BK608.out)) : gb608 ≠ gb610)); have n7_ := Aside0.mk ((by rw [hg]; exact Nat.ne_of_gt (blk_lt (g := gb608) (o := .cells #[.int .u8 a0_0, .int .u8 a0_1, .int .u8 a0_2] 38 (0, 0)) (by (with_reducible repeat (first | refine blk_drewN ?_ _ | refine blk_drew ?_ | refine blk_alloc ?_ _)); exact BK608.out)) : gb610 ≠ gb608)); have n8_ := Aside0.mk ((by rw [hg]; exact Nat.ne_of_lt (blk_lt (g := gb609) (o := .cells #[.int .i64 0, .int .i64 0, .int .i64 0] 23 (0, 0)) (by (with_reducible repeat (first | refine blk_drewN ?_ _ | refine blk_drew ?_ | refine blk_alloc ?_ _)); exact BK609.out)) : gb609 ≠ gb610)); have n9_ := Aside0.mk ((by rw [hg]; exact Nat.ne_of_gt (blk_lt (g := gb609) (o := .cells #[.int .i64 0, .int .i64 0, .int .i64 0] 23 (0, 0)) (by (with_reducible repeat (first | refine blk_drewN ?_ _ | refine blk_drew ?_ | refine blk_alloc ?_ _)); exact BK609.out)) : gb610 ≠ gb609)); clear BK608; clear BK609; clear HB; have BK608 := n0_; have BK609 := n1_; have HB := n2_; have BK610 := n3_; have GW610 := n4_; have GE610 := n5_; have NB608_610 := n6_; have NB610_608 := n7_; have NB609_610 := n8_; have NB610_609 := n9_; clear n0_ n1_ n2_ n3_ n4_ n5_ n6_ n7_ n8_ n9_; clear hb hbox hg; have hnb9 := NB610_608.out; have hnc9 := NB608_610.out; have hnb10 := NB610_609.out; have hnc10 := NB609_610.out; have hcz11_0 : w8.cell? ⟨gb610, 0, none⟩ = some (.int .i64 0) := (blk_cell BK610.out 0).trans rfl; have hcz11_1 : w8.cell? ⟨gb610, 1, none⟩ = some (.int .i64 0) := (blk_cell BK610.out 1).trans rfl; have hcz11_2 : w8.cell? ⟨gb610, 2, none⟩ = some (.int .i64 0) := (blk_cell BK610.out 2).trans rfl; have hfz11_0 := blk_frozen BK610.out 0; have hfz11_1 := blk_frozen BK610.out 1; have hfz11_2 := blk_frozen BK610.out 2) | ((with_reducible refine gate_callee (f := 41) rfl ?_); refine goesL_ (some 20) rfl rfl Tryz.func41 (by kernel_rfl) rfl #[.int .i64 (wrap64 (1 + (Int.tmod (wrap64 (a0_0)) 6)))] rfl (by (try simp only [List.map_toArray, List.map_cons, List.map_nil]); first | done | rfl | (simp only [List.length_drop, List.length_take]; rfl)) ?_; (with_reducible refine (gambrelref09_Of.calls (wrap64 (1 + (Int.tmod (wrap64 (a0_0)) 6))) t611 t612 t613 t614 t615 t616 _ A2.out).mono ?_); rintro e w12 ⟨rfl, hb⟩; refine ⟨_, rfl, ?_⟩; have n0_ := Aside0.mk (blk_below (g := gb608) (o := .cells #[.int .u8 a0_0, .int .u8 a0_1, .int .u8 a0_2] 38 (0, 0)) (by (with_reducible repeat (first | refine blk_drewN ?_ _ | refine blk_drew ?_ | refine blk_alloc ?_ _)); refine blk_far ?_ NB608_610.out _; (with_reducible repeat (first | refine blk_drewN ?_ _ | refine blk_drew ?_ | refine blk_alloc ?_ _)); refine blk_far ?_ NB608_610.out _; (with_reducible repeat (first | refine blk_drewN ?_ _ | refine blk_drew ?_ | refine blk_alloc ?_ _)); refine blk_far ?_ NB608_610.out _; (with_reducible repeat (first | refine blk_drewN ?_ _ | refine blk_drew ?_ | refine blk_alloc ?_ _)); exact BK608.out) hb); have n1_ := Aside0.mk (blk_below (g := gb609) (o := .cells #[.int .i64 0, .int .i64 0, .int .i64 0] 23 (0, 0)) (by (with_reducible repeat (first | refine blk_drewN ?_ _ | refine blk_drew ?_ | refine blk_alloc ?_ _)); refine blk_far ?_ NB609_610.out _; (with_reducible repeat (first | refine blk_drewN ?_ _ | refine blk_drew ?_ | refine blk_alloc ?_ _)); refine blk_far ?_ NB609_610.out _; (with_reducible repeat (first | refine blk_drewN ?_ _ | refine blk_drew ?_ | refine blk_alloc ?_ _)); refine blk_far ?_ NB609_610.out _; (with_reducible repeat (first | refine blk_drewN ?_ _ | refine blk_drew ?_ | refine blk_alloc ?_ _)); exact BK609.out) hb); have n2_ := Aside0.mk (blk_below (g := gb610) (o := .cells #[.int .i64 (wrap64 (1 + (Int.tmod (wrap64 (a0_0)) 6))), .int .i64 (wrap64 (1 + (Int.tmod (wrap64 (a0_1)) 8))), .int .i64 0] 23 (0, 0)) (by (with_reducible repeat (first | refine blk_drewN ?_ _ | refine blk_drew ?_ | refine blk_alloc ?_ _)); refine blk_put (cs := #[.int .i64 (wrap64 (1 + (Int.tmod (wrap64 (a0_0)) 6))), .int .i64 (wrap64 (1 + (Int.tmod (wrap64 (a0_1)) 8))), .int .i64 0]) ?_ 2 _ rfl; (with_reducible repeat (first | refine blk_drewN ?_ _ | refine blk_drew ?_ | refine blk_alloc ?_ _)); refine blk_put (cs := #[.int .i64 (wrap64 (1 + (Int.tmod (wrap64 (a0_0)) 6))), .int .i64 0, .int .i64 0]) ?_ 1 _ rfl; (with_reducible repeat (first | refine blk_drewN ?_ _ | refine blk_drew ?_ | refine blk_alloc ?_ _)); refine blk_put (cs := #[.int .i64 0, .int .i64 0, .int .i64 0]) ?_ 0 _ rfl; (with_reducible repeat (first | refine blk_drewN ?_ _ | refine blk_drew ?_ | refine blk_alloc ?_ _)); exact BK610.out) hb); have n3_ := Aside0.mk (below_step (by repeat (first | (with_reducible first | exact HB.out | apply below_alloc | apply pw_below_drewN | apply below_drew1 | refine below_set ?_ GE608.out | refine below_set ?_ GE609.out | refine below_set ?_ GE610.out) | exact HB.out)) hb); clear BK608; clear BK609; clear BK610; clear HB; have BK608 := n0_; have BK609 := n1_; have BK610 := n2_; have HB := n3_; clear n0_ n1_ n2_ n3_; (try clear hb); (try clear hb2); (try clear hk); (try clear hi)) | ((with_reducible refine gate_dst (N := 4) rfl ?_); refine box_event ?hg (N := 4) ?hd (cs := #[.string (⟨#[]⟩ : ByteArray), .int .i64 0, .int .u32 0, .int .u8 0, .int .i64 0]) (t := 72) ?hr ?_; (case hd => rfl); (case hg => rfl); (case hr => first | (go_simp; done) | (go_simp; rfl)); intro gb617 hg w13 hbox hb; have n0_ := Aside0.mk (blk_below (g := gb608) (o := .cells #[.int .u8 a0_0, .int .u8 a0_1, .int .u8 a0_2] 38 (0, 0)) (by (with_reducible repeat (first | refine blk_drewN ?_ _ | refine blk_drew ?_ | refine blk_alloc ?_ _)); exact BK608.out) hb); have n1_ := Aside0.mk (blk_below (g := gb609) (o := .cells #[.int .i64 0, .int .i64 0, .int .i64 0] 23 (0, 0)) (by (with_reducible repeat (first | refine blk_drewN ?_ _ | refine blk_drew ?_ | refine blk_alloc ?_ _)); exact BK609.out) hb); have n2_ := Aside0.mk (blk_below (g := gb610) (o := .cells #[.int .i64 (wrap64 (1 + (Int.tmod (wrap64 (a0_0)) 6))), .int .i64 (wrap64 (1 + (Int.tmod (wrap64 (a0_1)) 8))), .int .i64 0] 23 (0, 0)) (by (with_reducible repeat (first | refine blk_drewN ?_ _ | refine blk_drew ?_ | refine blk_alloc ?_ _)); exact BK610.out) hb); have n3_ := Aside0.mk (below_step (by repeat (first | (with_reducible first | exact HB.out | apply below_alloc | apply pw_below_drewN | apply below_drew1 | refine below_set ?_ GE608.out | refine below_set ?_ GE609.out | refine below_set ?_ GE610.out) | exact HB.out)) hb); have n4_ := Aside0.mk (hbox); have n5_ := Aside0.mk ((by rw [hg]; exact (below_size (by repeat (first | (with_reducible first | exact HB.out | apply below_alloc | apply pw_below_drewN | apply below_drew1 | refine below_set ?_ GE608.out | refine below_set ?_ GE609.out | refine below_set ?_ GE610.out) | exact HB.out))) : w.heap.size ≤ gb617)); have n6_ := Aside0.mk ((by rw [hg]; exact (below_size (by repeat (first | (with_reducible first | exact HB.out | apply below_alloc | apply pw_below_drewN | apply below_drew1 | refine below_set ?_ GE608.out | refine below_set ?_ GE609.out | refine below_set ?_ GE610.out) | exact HB.out))) : w.heap.size ≤ gb617)); have n7_ := Aside0.mk ((by rw [hg]; exact Nat.ne_of_lt (blk_lt (g := gb608) (o := .cells #[.int .u8 a0_0, .int .u8 a0_1, .int .u8 a0_2] 38 (0, 0)) (by (with_reducible repeat (first | refine blk_drewN ?_ _ | refine blk_drew ?_ | refine blk_alloc ?_ _)); exact BK608.out)) : gb608 ≠ gb617)); have n8_ := Aside0.mk ((by rw [hg]; exact Nat.ne_of_gt (blk_lt (g := gb608) (o := .cells #[.int .u8 a0_0, .int .u8 a0_1, .int .u8 a0_2] 38 (0, 0)) (by (with_reducible repeat (first | refine blk_drewN ?_ _ | refine blk_drew ?_ | refine blk_alloc ?_ _)); exact BK608.out)) : gb617 ≠ gb608)); have n9_ := Aside0.mk ((by rw [hg]; exact Nat.ne_of_lt (blk_lt (g := gb609) (o := .cells #[.int .i64 0, .int .i64 0, .int .i64 0] 23 (0, 0)) (by (with_reducible repeat (first | refine blk_drewN ?_ _ | refine blk_drew ?_ | refine blk_alloc ?_ _)); exact BK609.out)) : gb609 ≠ gb617)); have n10_ := Aside0.mk ((by rw [hg]; exact Nat.ne_of_gt (blk_lt (g := gb609) (o := .cells #[.int .i64 0, .int .i64 0, .int .i64 0] 23 (0, 0)) (by (with_reducible repeat (first | refine blk_drewN ?_ _ | refine blk_drew ?_ | refine blk_alloc ?_ _)); exact BK609.out)) : gb617 ≠ gb609)); have n11_ := Aside0.mk ((by rw [hg]; exact Nat.ne_of_lt (blk_lt (g := gb610) (o := .cells #[.int .i64 (wrap64 (1 + (Int.tmod (wrap64 (a0_0)) 6))), .int .i64 (wrap64 (1 + (Int.tmod (wrap64 (a0_1)) 8))), .int .i64 0] 23 (0, 0)) (by (with_reducible repeat (first | refine blk_drewN ?_ _ | refine blk_drew ?_ | refine blk_alloc ?_ _)); exact BK610.out)) : gb610 ≠ gb617)); have n12_ := Aside0.mk ((by rw [hg]; exact Nat.ne_of_gt (blk_lt (g := gb610) (o := .cells #[.int .i64 (wrap64 (1 + (Int.tmod (wrap64 (a0_0)) 6))), .int .i64 (wrap64 (1 + (Int.tmod (wrap64 (a0_1)) 8))), .int .i64 0] 23 (0, 0)) (by (with_reducible repeat (first | refine blk_drewN ?_ _ | refine blk_drew ?_ | refine blk_alloc ?_ _)); exact BK610.out)) : gb617 ≠ gb610)); clear BK608; clear BK609; clear BK610; clear HB; have BK608 := n0_; have BK609 := n1_; have BK610 := n2_; have HB := n3_; have BK617 := n4_; have GW617 := n5_; have GE617 := n6_; have NB608_617 := n7_; have NB617_608 := n8_; have NB609_617 := n9_; have NB617_609 := n10_; have NB610_617 := n11_; have NB617_610 := n12_; clear n0_ n1_ n2_ n3_ n4_ n5_ n6_ n7_ n8_ n9_ n10_ n11_ n12_; clear hb hbox hg; have hnb14 := NB617_608.out; have hnc14 := NB608_617.out; have hnb15 := NB617_609.out; have hnc15 := NB609_617.out; have hnb16 := NB617_610.out; have hnc16 := NB610_617.out; have hcz17_0 : w13.cell? ⟨gb617, 0, none⟩ = some (.string (⟨#[]⟩ : ByteArray)) := (blk_cell BK617.out 0).trans rfl; have hcz17_1 : w13.cell? ⟨gb617, 1, none⟩ = some (.int .i64 0) := (blk_cell BK617.out 1).trans rfl; have hcz17_2 : w13.cell? ⟨gb617, 2, none⟩ = some (.int .u32 0) := (blk_cell BK617.out 2).trans rfl; have hcz17_3 : w13.cell? ⟨gb617, 3, none⟩ = some (.int .u8 0) := (blk_cell BK617.out 3).trans rfl; have hcz17_4 : w13.cell? ⟨gb617, 4, none⟩ = some (.int .i64 0) := (blk_cell BK617.out 4).trans rfl; have hfz17_0 := blk_frozen BK617.out 0; have hfz17_1 := blk_frozen BK617.out 1; have hfz17_2 := blk_frozen BK617.out 2; have hfz17_3 := blk_frozen BK617.out 3; have hfz17_4 := blk_frozen BK617.out 4; have hcz18_0 : w13.cell? ⟨gb608, 0, none⟩ = some (.int .u8 a0_0) := (blk_cell BK608.out 0).trans rfl; have hcz18_1 : w13.cell? ⟨gb608, 1, none⟩ = some (.int .u8 a0_1) := (blk_cell BK608.out 1).trans rfl; have hcz18_2 : w13.cell? ⟨gb608, 2, none⟩ = some (.int .u8 a0_2) := (blk_cell BK608.out 2).trans rfl; have hfz18_0 := blk_frozen BK608.out 0; have hfz18_1 := blk_frozen BK608.out 1; have hfz18_2 := blk_frozen BK608.out 2; have hcz19_0 : w13.cell? ⟨gb610, 0, none⟩ = some (.int .i64 (wrap64 (1 + (Int.tmod (wrap64 (a0_0)) 6)))) := (blk_cell BK610.out 0).trans rfl; have hcz19_1 : w13.cell? ⟨gb610, 1, none⟩ = some (.int .i64 (wrap64 (1 + (Int.tmod (wrap64 (a0_1)) 8)))) := (blk_cell BK610.out 1).trans rfl; have hcz19_2 : w13.cell? ⟨gb610, 2, none⟩ = some (.int .i64 0) := (blk_cell BK610.out 2).trans rfl; have hfz19_0 := blk_frozen BK610.out 0; have hfz19_1 := blk_frozen BK610.out 1; have hfz19_2 := blk_frozen BK610.out 2; have hcz20_0 : w13.cell? ⟨gb609, 0, none⟩ = some (.int .i64 0) := (blk_cell BK609.out 0).trans rfl; have hcz20_1 : w13.cell? ⟨gb609, 1, none⟩ = some (.int .i64 0) := (blk_cell BK609.out 1).trans rfl; have hcz20_2 : w13.cell? ⟨gb609, 2, none⟩ = some (.int .i64 0) := (blk_cell BK609.out 2).trans rfl; have hfz20_0 := blk_frozen BK609.out 0; have hfz20_1 := blk_frozen BK609.out 1; have hfz20_2 := blk_frozen BK609.out 2))
  refine bodyPost_ret (results_cell_row rfl _ _ gb609 23 #[.int .i64 (wrap64 (1 + (Int.tmod (wrap64 (a0_0)) 6))), .int .i64 (wrap64 (1 + (Int.tmod (wrap64 (a0_1)) 8))), .int .i64 (wrap64 (1 + (Int.tmod (wrap64 (a0_2)) t615)))] (0, 0) _ rfl (by (with_reducible repeat (first | refine blk_drewN ?_ _ | refine blk_drew ?_ | refine blk_alloc ?_ _)); refine blk_put (cs := #[.int .i64 (wrap64 (1 + (Int.tmod (wrap64 (a0_0)) 6))), .int .i64 (wrap64 (1 + (Int.tmod (wrap64 (a0_1)) 8))), .int .i64 0]) ?_ 2 _ rfl; (with_reducible repeat (first | refine blk_drewN ?_ _ | refine blk_drew ?_ | refine blk_alloc ?_ _)); refine blk_put (cs := #[.int .i64 (wrap64 (1 + (Int.tmod (wrap64 (a0_0)) 6))), .int .i64 0, .int .i64 0]) ?_ 1 _ rfl; (with_reducible repeat (first | refine blk_drewN ?_ _ | refine blk_drew ?_ | refine blk_alloc ?_ _)); refine blk_put (cs := #[.int .i64 0, .int .i64 0, .int .i64 0]) ?_ 0 _ rfl; (with_reducible repeat (first | refine blk_drewN ?_ _ | refine blk_drew ?_ | refine blk_alloc ?_ _)); refine blk_far ?_ NB609_610.out _; (with_reducible repeat (first | refine blk_drewN ?_ _ | refine blk_drew ?_ | refine blk_alloc ?_ _)); refine blk_far ?_ NB609_617.out _; (with_reducible repeat (first | refine blk_drewN ?_ _ | refine blk_drew ?_ | refine blk_alloc ?_ _)); refine blk_far ?_ NB609_617.out _; (with_reducible repeat (first | refine blk_drewN ?_ _ | refine blk_drew ?_ | refine blk_alloc ?_ _)); refine blk_far ?_ NB609_617.out _; (with_reducible repeat (first | refine blk_drewN ?_ _ | refine blk_drew ?_ | refine blk_alloc ?_ _)); refine blk_far ?_ NB609_617.out _; (with_reducible repeat (first | refine blk_drewN ?_ _ | refine blk_drew ?_ | refine blk_alloc ?_ _)); refine blk_far ?_ NB609_617.out _; (with_reducible repeat (first | refine blk_drewN ?_ _ | refine blk_drew ?_ | refine blk_alloc ?_ _)); exact BK609.out) Tryz.underlying23 rfl (by kernel_rfl)) rfl ?_
  exact ⟨by first | rfl | (simp [errW_none, errW_some] <;> rfl) | (simp [*, errW_none, errW_some] <;> rfl), by repeat (first | (with_reducible first | exact HB.out | apply below_alloc | apply pw_below_drewN | apply below_drew1 | refine below_set ?_ GE608.out | refine below_set ?_ GE609.out | refine below_set ?_ GE610.out | refine below_set ?_ GE617.out) | exact HB.out)⟩
end Go.Proofs.YtelcllhibpnneaaGreat.XCo
end
section
namespace Go.Proofs.YtelcllhibpnneaaGreat.XCo
open Go.RowKit Go.Proofs.YtelcllhibpnneaaGreatW.PrintWords Go.Proofs.YtelcllhibpnneaaGreatW.PrintLast Go.Proofs.YtelcllhibpnneaaGreatW.PrintMore
attribute [local go_sem] max2_int min2_int max_two min_two max_three min_three max_four min_four
set_option linter.unusedVariables false
set_option linter.unusedSimpArgs false
def slices_Equal_byte_byte.l0 : Nat → List Int → List Int → Int → Int → Option (Bool)
 | 0, _, _, _, _ => none
 | k + 1, x0, x1, x12, x13 => if x13 < x12 then (if 0 ≤ x13 then (if x13 < (x0.length : Int) then (if x13 < (x1.length : Int) then (if (rd x0 x13) = (rd x1 x13) then (slices_Equal_byte_byte.l0 k x0 x1 x12 (wrap64 (x13 + 1))) else (some false)) else (none)) else (none)) else (none)) else (some true)
def slices_Equal_byte_byte.f (k : Nat) (l0 : List Int) (l1 : List Int) : Option (Bool) := if (l0.length : Int) = (l1.length : Int) then (slices_Equal_byte_byte.l0 k l0 l1 (l0.length : Int) 0) else (some false)
set_option maxHeartbeats 8000000 in
set_option maxRecDepth 100000 in
theorem slices_Equal_byte_byte.calls (k : Nat) (A0 : Option Addr) (c0 : Nat) (l0 : List Int) (A1 : Option Addr) (c1 : Nat) (l1 : List Int) (r : Bool) (w : World) (hr0 : Kd.C (Kd.int .u8) w A0 l0.length l0) (hc0 : l0.length ≤ c0) (hr1 : Kd.C (Kd.int .u8) w A1 l1.length l1) (hc1 : l1.length ≤ c1) (h : slices_Equal_byte_byte.f k l0 l1 = some r) :
  Calls Tryz.prog 46 #[.slice A0 l0.length c0, .slice A1 l1.length c1] w fun e w' => e = .returned (.bool r) ∧ Drawn0 w w' := by
 have HR0 := Aside0.mk hr0
 have HC0 := Aside0.mk hc0
 clear hr0 hc0
 have HR1 := Aside0.mk hr1
 have HC1 := Aside0.mk hc1
 clear hr1 hc1
 have H : (if (l0.length : Int) = (l1.length : Int) then (slices_Equal_byte_byte.l0 k l0 l1 (l0.length : Int) 0) else (some false)) = some r := h
 clear h
 by_cases c3 : (l0.length : Int) = (l1.length : Int)
 ·rw [if_pos c3] at H
  have c3b0 : ((l0.length : Int) == (l1.length : Int)) = true := beq_iff_eq.mpr c3
  have c3b1 : ((l0.length : Int) != (l1.length : Int)) = false := bne_eq_false_iff_eq.mpr c3
  have c3b2 : (l0.length == l1.length) = true := by first | simpa using c3 | (simp at c3 ⊢; omega)
  clear c3
  have H' := Aside0.mk H
  clear H
  go_enter Tryz.func46, Tryz.ntmps46
  go_wp2
  repeat (go_quiet (fail); try go_wp2)
  go_loopg [13] k (fun kq v13 w' => ∃ (x13_1 : Int), v13 = .int .i64 x13_1 ∧ Aside0 (slices_Equal_byte_byte.l0 kq l0 l1 (l0.length : Int) x13_1 = some r) ∧ Aside0 (kq ≤ k) ∧ Drawn0 w w')
  case atStart => exact ⟨(0), (by first | rfl | (simp; done) | (simp [*]; done)), H', ⟨Nat.le_refl _⟩, by repeat (first | exact Drawn0.refl _ | apply Drawn0.step)⟩
  case round =>
   clear H'
   try clear c1
   try clear p2
   try clear c3
   try clear c3b0
   try clear c3b1
   try clear c3b2
   obtain ⟨x13_1, rfl, HA, HK1, ⟨m1, rfl⟩⟩ := hrel
   cases gk with
   | zero => exact absurd HA.out (by simp [slices_Equal_byte_byte.l0])
   | succ k1 =>
    have H := HA.out
    clear HA
    simp only [slices_Equal_byte_byte.l0] at H
    by_cases c4 : x13_1 < (l0.length : Int)
    ·rw [if_pos c4] at H
     have c4b0 : decide (x13_1 < (l0.length : Int)) = true := decide_eq_true c4
     clear c4
     by_cases c5 : 0 ≤ x13_1
     ·rw [if_pos c5] at H
      have c5b0 : decide (0 ≤ x13_1) = true := decide_eq_true c5
      clear c5
      by_cases c6 : x13_1 < (l0.length : Int)
      ·rw [if_pos c6] at H
       have c6b0 : decide (x13_1 < (l0.length : Int)) = true := decide_eq_true c6
       clear c6
       by_cases c7 : x13_1 < (l1.length : Int)
       ·rw [if_pos c7] at H
        have c7b0 : decide (x13_1 < (l1.length : Int)) = true := decide_eq_true c7
        clear c7
        by_cases c8 : (rd l0 x13_1) = (rd l1 x13_1)
        ·rw [if_pos c8] at H
         have c8b0 : ((rd l0 x13_1) == (rd l1 x13_1)) = true := beq_iff_eq.mpr c8
         have c8b1 : ((rd l0 x13_1) != (rd l1 x13_1)) = false := bne_eq_false_iff_eq.mpr c8
         clear c8
         have H' := Aside0.mk H
         clear H
         have p117 : 0 ≤ (x13_1 : Int) := of_decide_eq_true (by first | (with_reducible assumption) | assumption)
         have q117 : x13_1 < (l0.length : Int) := of_decide_eq_true (by first | (with_reducible assumption) | assumption)
         obtain ⟨ad117, e117, hx117_0⟩ := Kd.at_int HR0.out x13_1 p117 q117
         cases e117
         replace p117 := eq_true p117
         replace q117 := eq_true q117
         have p118 : 0 ≤ (x13_1 : Int) := of_decide_eq_true (by first | (with_reducible assumption) | assumption)
         have q118 : x13_1 < (l1.length : Int) := of_decide_eq_true (by first | (with_reducible assumption) | assumption)
         obtain ⟨ad118, e118, hx118_0⟩ := Kd.at_int HR1.out x13_1 p118 q118
         cases e118
         replace p118 := eq_true p118
         replace q118 := eq_true q118
         go_wp2
         repeat (go_quiet (fail); try go_wp2)
         go_roundg k1
         case measure => have := HK1.out; omega
         case rel => exact ⟨(wrap64 (x13_1 + 1)), (by first | rfl | (simp; done) | (simp [*]; done)), H', ⟨by have := HK1.out; omega⟩, by repeat (first | exact Drawn0.refl _ | apply Drawn0.step)⟩
        ·rw [if_neg c8] at H
         have c8b0 : ((rd l0 x13_1) == (rd l1 x13_1)) = false := beq_eq_false_iff_ne.mpr c8
         have c8b1 : ((rd l0 x13_1) != (rd l1 x13_1)) = true := bne_iff_ne.mpr c8
         obtain rfl := Option.some.inj H
         have p117 : 0 ≤ (x13_1 : Int) := of_decide_eq_true (by first | (with_reducible assumption) | assumption)
         have q117 : x13_1 < (l0.length : Int) := of_decide_eq_true (by first | (with_reducible assumption) | assumption)
         obtain ⟨ad117, e117, hx117_0⟩ := Kd.at_int HR0.out x13_1 p117 q117
         cases e117
         replace p117 := eq_true p117
         replace q117 := eq_true q117
         have p118 : 0 ≤ (x13_1 : Int) := of_decide_eq_true (by first | (with_reducible assumption) | assumption)
         have q118 : x13_1 < (l1.length : Int) := of_decide_eq_true (by first | (with_reducible assumption) | assumption)
         obtain ⟨ad118, e118, hx118_0⟩ := Kd.at_int HR1.out x13_1 p118 q118
         cases e118
         replace p118 := eq_true p118
         replace q118 := eq_true q118
         go_wp2
         repeat (go_quiet (fail); try go_wp2)
         go_ret
         exact ⟨by first | rfl | (simp; done) | (simp [*]; done), by repeat (first | exact Drawn0.refl _ | apply Drawn0.step)⟩
       ·rw [if_neg c7] at H
        exact absurd H (by simp)
      ·rw [if_neg c6] at H
       exact absurd H (by simp)
     ·rw [if_neg c5] at H
      exact absurd H (by simp)
    ·rw [if_neg c4] at H
     have c4b0 : decide (x13_1 < (l0.length : Int)) = false := decide_eq_false c4
     clear c4
     obtain rfl := Option.some.inj H
     go_wp2
     repeat (go_quiet (fail); try go_wp2)
     go_ret
     exact ⟨by first | rfl | (simp; done) | (simp [*]; done), by repeat (first | exact Drawn0.refl _ | apply Drawn0.step)⟩
 ·rw [if_neg c3] at H
  have c3b0 : ((l0.length : Int) == (l1.length : Int)) = false := beq_eq_false_iff_ne.mpr c3
  have c3b1 : ((l0.length : Int) != (l1.length : Int)) = true := bne_iff_ne.mpr c3
  have c3b2 : (l0.length == l1.length) = false := by first | simpa using c3 | (simp at c3 ⊢; omega)
  obtain rfl := Option.some.inj H
  go_enter Tryz.func46, Tryz.ntmps46
  go_wp2
  repeat (go_quiet (fail); try go_wp2)
  go_ret
  exact ⟨by first | rfl | (simp; done) | (simp [*]; done), by repeat (first | exact Drawn0.refl _ | apply Drawn0.step)⟩
end Go.Proofs.YtelcllhibpnneaaGreat.XCo
end
section
namespace Go.Proofs.YtelcllhibpnneaaGreat.XCo
open Go.RowKit Go.Proofs.YtelcllhibpnneaaGreatW.PrintWords Go.Proofs.YtelcllhibpnneaaGreatW.PrintLast Go.Proofs.YtelcllhibpnneaaGreatW.PrintMore
attribute [local go_sem] max2_int min2_int max_two min_two max_three min_three max_four min_four
set_option linter.unusedVariables false
set_option linter.unusedSimpArgs false
def eqRows (k : Nat) : List (List Int) → List (List Int) → Option Bool
 | [], [] => some true
 | x :: xs, y :: ys => (slices_Equal_byte_byte.f k x y).bind fun b => if b = true then eqRows k xs ys else some false
 | _, _ => some false
def eqFunc (k : Nat) (p q : List (List Int)) : Option Bool := if p.length = q.length then (if p.length ≤ 1000000 then eqRows k p q else none) else some false
set_option maxRecDepth 100000 in
set_option maxHeartbeats 1600000 in
theorem eqFunc.calls (K : Nat) (A B : Option Addr) (ca cb : Nat) (p q : List (List Int)) (r : Bool) (W : World) (hA : Kd.C (dM 5 .u8) W A p.length p) (hB : Kd.C (dM 5 .u8) W B q.length q) (h : eqFunc K p q = some r) :
  Calls Tryz.prog 45 #[.slice A p.length ca, .slice B q.length cb, .func (.func 46) #[] #[]] W fun e w' => e = .returned (.bool r) ∧ Below W.heap.size W w' := by
 unfold eqFunc at h
 by_cases hl : p.length = q.length
 ·rw [if_pos hl] at h
  by_cases hsm : p.length ≤ 1000000
  ·rw [if_pos hsm] at h
   have HA := Aside0.mk hA
   have HBq := Aside0.mk hB
   obtain ⟨n, hn⟩ : ∃ n, q.length = n := ⟨_, rfl⟩
   have HN := Aside0.mk (show p.length = n ∧ q.length = n from ⟨hl.trans hn, hn⟩)
   have hnn : n ≤ 1000000 := by omega
   rw [hl, hn]
   have HR := Aside0.mk h
   have hself : ((n : Int) != (n : Int)) = false := by simp
   clear h hA hB hl hn
   go_enter Tryz.func45, Tryz.ntmps45
   go_wp2
   go_loopw [17] (fun iv wr => ∃ i : Nat, i ≤ n ∧ iv = .int .i64 (i : Int) ∧ Aside0 (Below W.heap.size W wr) ∧ Aside0 (eqRows K (p.drop i) (q.drop i) = some r)) (fun iv _ => n - (intOf iv).toNat)
   case atStart => exact ⟨0, Nat.zero_le _, rfl, ⟨Below.refl _ _⟩, ⟨by simpa using HR.out⟩⟩
   case round =>
    clear HR
    obtain ⟨w6, rfl⟩ : ∃ w6, w6 = wr := ⟨_, rfl⟩
    obtain ⟨i, hi, rfl, HB, HE⟩ := hrel
    by_cases hlt : i < n
    ·obtain ⟨x, hx⟩ : ∃ x, p[i]? = some x := ⟨_, List.getElem?_eq_getElem (by have := HN.out.1; omega)⟩
     obtain ⟨y, hy⟩ : ∃ y, q[i]? = some y := ⟨_, List.getElem?_eq_getElem (by have := HN.out.2; omega)⟩
     obtain ⟨a1, A1, c1, rfl, e1, l1, C1⟩ := row_at (Kd.C_below HA.out HB.out) i x hx
     obtain ⟨a2, A2, c2, rfl, e2, l2, C2⟩ := row_at (Kd.C_below HBq.out HB.out) i y hy
     have hd1 : p.drop i = x :: p.drop (i + 1) := by
      obtain ⟨h1, h2⟩ := List.getElem?_eq_some_iff.1 hx
      rw [List.drop_eq_getElem_cons h1, h2]
     have hd2 : q.drop i = y :: q.drop (i + 1) := by
      obtain ⟨h1, h2⟩ := List.getElem?_eq_some_iff.1 hy
      rw [List.drop_eq_getElem_cons h1, h2]
     have he := HE.out
     rw [hd1, hd2, eqRows] at he
     obtain ⟨b, hb, he⟩ := Option.bind_eq_some_iff.1 he
     have HC := Aside0.mk (slices_Equal_byte_byte.calls K A1 c1 x A2 c2 y b w6 C1 l1 C2 l2 hb)
     have i1 : (0 : Int) ≤ (i : Int) := by omega
     have i2 : (i : Int) < (n : Int) := by omega
     have HE2 := Aside0.mk he
     clear hd1 hd2 hb he C1 C2 l1 l2 hx hy HE
     cases b with
     | true =>
      go_wp2_with fail
      refine HC.out.mono ?_
      rintro e w9 ⟨rfl, m9, rfl⟩
      have HB9 := Aside0.mk (pw_below_drewN HB.out m9)
      go_wp2
      go_roundw
      case rel => exact ⟨i + 1, by omega, by go_num, HB9, ⟨by simpa using HE2.out⟩⟩
      case measure => simp [intOf]; omega
     | false =>
      have HRR := Aside0.mk (show r = false by have := HE2.out; rw [if_neg (by decide)] at this; cases this; rfl)
      go_wp2_with fail
      refine HC.out.mono ?_
      rintro e w9 ⟨rfl, m9, rfl⟩
      have HB9 := Aside0.mk (pw_below_drewN HB.out m9)
      go_wp2
      go_ret
      exact ⟨by rw [HRR.out]; rfl, HB9.out⟩
    ·obtain rfl : i = n := by omega
     have HRR := Aside0.mk (show r = true by
      have := HE.out
      rw [List.drop_of_length_le (by rw [HN.out.1]; exact Nat.le_refl _), List.drop_of_length_le (by rw [HN.out.2]; exact Nat.le_refl _), eqRows] at this
      cases this; rfl)
     go_wp2
     go_ret
     exact ⟨by rw [HRR.out]; rfl, HB.out⟩
  ·rw [if_neg hsm] at h; cases h
 ·rw [if_neg hl] at h
  cases h
  have hne : ((p.length : Int) != (q.length : Int)) = true := by simpa using fun h => hl (by omega)
  generalize p.length = n1 at hne ⊢
  generalize q.length = n2 at hne ⊢
  clear hA hB hl
  go_enter Tryz.func45, Tryz.ntmps45
  go_wp2
  go_ret
  exact ⟨rfl, Below.refl _ _⟩
def codec_Verify.f (k : Nat) (a0_0 a0_1 a0_2 : Int) (l1 : List (List Int)) : Option Bool :=
 (profile_May.f a0_0 a0_1 a0_2).bind fun b => if b = true then (if (l1.length : Int) = a0_1 + a0_2 then ((codec_Parity.f k a0_0 a0_1 a0_2 (l1.take a0_1.toNat)).bind fun t => if t.2 = 0 then eqFunc k t.1 (l1.drop a0_1.toNat) else some false) else some false) else some false
theorem cut_to3 {P : Program} (t e : TypeId) {i : TypeInfo} (ht : P.underlying t = some (.slice e)) (hi : P.info? e = some i) (A : Option Addr) (n c j : Nat) (hm : j ≤ n) (hc : n ≤ c) :
  ∀ W : World, (Instr.slice t (.slice A n c) none (some (.int .i64 (j : Int))) (some (.int .i64 (j : Int)))).run P W = .ok (.slice A j j) W := by
 intro W
 have hel : P.elem t = e := by simp [Program.elem, ht]
 have hu : P.underlying t = some (.slice (P.elem t)) := by rw [hel]; exact ht
 have ha : (A.map fun x => x.add 0) = A := by cases A <;> simp [Addr.add]
 have h1 : (j : Int) ≤ (c : Int) := by omega
 simp [Instr.slice, run_underlying hu, Instr.sliceBounds, run_sliceBound, h1, hel, sizeOf, typeInfo, hi, sliced, Result.andThen, ha]
set_option maxRecDepth 100000 in
set_option maxHeartbeats 1600000 in
theorem codec_Verify.nomay (a0_0 a0_1 a0_2 : Int) (A1 : Option Addr) (c1 n : Nat) (w : World) (h : profile_May.f a0_0 a0_1 a0_2 = some false) :
  Calls Tryz.prog 20 #[.agg #[.int .i64 a0_0, .int .i64 a0_1, .int .i64 a0_2], .slice A1 n c1] w fun e w' => e = .returned (.bool false) ∧ Below w.heap.size w w' := by
 have HM := Aside0.mk (fun w => profile_May.calls a0_0 a0_1 a0_2 false w h)
 have hu := Tryz.underlying23
 have HB := Aside0.mk (below_alloc (Below.refl w.heap.size w) (.cells #[.int .i64 a0_0, .int .i64 a0_1, .int .i64 a0_2] 23))
 clear h
 go_enter Tryz.func20, Tryz.ntmps20
 go_wp2_with fail
 generalize w.alloc (.cells #[.int .i64 a0_0, .int .i64 a0_1, .int .i64 a0_2] 23) = w0 at HB ⊢
 refine (HM.out w0).mono ?_
 rintro e w1 ⟨rfl, hB1⟩
 have HB1 := Aside0.mk (HB.out.trans (hB1.mono HB.out.size))
 clear hB1
 go_wp2
 go_ret
 exact ⟨rfl, HB1.out⟩
set_option maxRecDepth 100000 in
set_option maxHeartbeats 1600000 in
theorem codec_Verify.nolen (a0_0 a0_1 a0_2 : Int) (A1 : Option Addr) (c1 n : Nat) (w : World) (h : profile_May.f a0_0 a0_1 a0_2 = some true) (hk : 1 ≤ a0_1 ∧ a0_1 ≤ 1000 ∧ 1 ≤ a0_2 ∧ a0_2 ≤ 1000) (hn : (n : Int) ≠ a0_1 + a0_2) :
  Calls Tryz.prog 20 #[.agg #[.int .i64 a0_0, .int .i64 a0_1, .int .i64 a0_2], .slice A1 n c1] w fun e w' => e = .returned (.bool false) ∧ Below w.heap.size w w' := by
 have HM := Aside0.mk (fun w => profile_May.calls a0_0 a0_1 a0_2 true w h)
 have hu := Tryz.underlying23
 have HB := Aside0.mk (below_alloc (Below.refl w.heap.size w) (.cells #[.int .i64 a0_0, .int .i64 a0_1, .int .i64 a0_2] 23))
 have HX := Aside0.mk (heap_alloc_new w (.cells #[.int .i64 a0_0, .int .i64 a0_1, .int .i64 a0_2] 23))
 have hs : IntKind.i64.wrap (a0_1 + a0_2) = a0_1 + a0_2 := by rw [IntKind.wrap_i64]; omega
 have hne : ((n : Int) != a0_1 + a0_2) = true := by simpa using hn
 clear h hk hn
 go_enter Tryz.func20, Tryz.ntmps20
 go_wp2_with fail
 generalize w.alloc (.cells #[.int .i64 a0_0, .int .i64 a0_1, .int .i64 a0_2] 23) = w0 at HB HX ⊢
 refine (HM.out w0).mono ?_
 rintro e w1 ⟨rfl, hB1⟩
 have HB1 := Aside0.mk (HB.out.trans (hB1.mono HB.out.size))
 have HX1 := blk_below HX.out hB1
 have q1 : w1.cell? ⟨w.heap.size, 1, none⟩ = some (.int .i64 a0_1) := (blk_cell HX1 1).trans rfl
 have q2 : w1.cell? ⟨w.heap.size, 2, none⟩ = some (.int .i64 a0_2) := (blk_cell HX1 2).trans rfl
 clear hB1 HX HX1
 go_wp2
 go_ret
 exact ⟨rfl, HB1.out⟩
set_option maxRecDepth 100000 in
set_option maxHeartbeats 1600000 in
theorem codec_Verify.go (k : Nat) (a0_0 : Int) (kk M n : Nat) (A1 : Option Addr) (c1 : Nat) (l1 t1 : List (List Int)) (t2 : Int) (r : Bool) (w : World) (h : profile_May.f a0_0 (kk : Int) (M : Int) = some true) (hk : 1 ≤ kk ∧ kk ≤ 1000 ∧ 1 ≤ M ∧ M ≤ 1000) (hn : n = kk + M) (hln : l1.length = n) (hc : n ≤ c1)
  (hr : Kd.C (dM 5 .u8) w A1 l1.length l1) (hp : codec_Parity.f k a0_0 (kk : Int) (M : Int) (l1.take kk) = some (t1, t2)) (he : t2 = 0 → eqFunc k t1 (l1.drop kk) = some r) (he2 : t2 ≠ 0 → r = false) :
  Calls Tryz.prog 20 #[.agg #[.int .i64 a0_0, .int .i64 (kk : Int), .int .i64 (M : Int)], .slice A1 n c1] w fun e w' => e = .returned (.bool r) ∧ Below w.heap.size w w' := by
 have HM := Aside0.mk (fun w => profile_May.calls a0_0 (kk : Int) (M : Int) true w h)
 have HE := Aside0.mk he
 have HE2 := Aside0.mk he2
 have HP := Aside0.mk hp
 have HR := Aside0.mk hr
 have HLN := Aside0.mk hln
 have hu := Tryz.underlying23
 have hu2 := Tryz.underlying24
 have HB := Aside0.mk (below_alloc (Below.refl w.heap.size w) (.cells #[.int .i64 a0_0, .int .i64 (kk : Int), .int .i64 (M : Int)] 23))
 have HX := Aside0.mk (heap_alloc_new w (.cells #[.int .i64 a0_0, .int .i64 (kk : Int), .int .i64 (M : Int)] 23))
 have hs : IntKind.i64.wrap ((kk : Int) + (M : Int)) = ((kk + M : Nat) : Int) := by rw [IntKind.wrap_i64]; omega
 have hne : ((n : Int) != ((kk + M : Nat) : Int)) = false := by rw [hn]; simp
 have hKn : kk ≤ n := by omega
 clear h hk hn he he2 hp hr hln
 go_enter Tryz.func20, Tryz.ntmps20
 go_wp2_with fail
 generalize w.alloc (.cells #[.int .i64 a0_0, .int .i64 (kk : Int), .int .i64 (M : Int)] 23) = w0 at HB HX ⊢
 refine (HM.out w0).mono ?_
 rintro e w1 ⟨rfl, hB1⟩
 have HB1 := Aside0.mk (HB.out.trans (hB1.mono HB.out.size))
 have HX1 := Aside0.mk (blk_below HX.out hB1)
 have q0 : w1.cell? ⟨w.heap.size, 0, none⟩ = some (.int .i64 a0_0) := (blk_cell HX1.out 0).trans rfl
 have q1 : w1.cell? ⟨w.heap.size, 1, none⟩ = some (.int .i64 (kk : Int)) := (blk_cell HX1.out 1).trans rfl
 have q2 : w1.cell? ⟨w.heap.size, 2, none⟩ = some (.int .i64 (M : Int)) := (blk_cell HX1.out 2).trans rfl
 have hinfo : (Tryz.prog.info? 34).map (fun i => i.size) = some 1 := by kernel_rfl
 obtain ⟨inf, hinf, hsz⟩ := Option.map_eq_some_iff.1 hinfo
 have hcut := cut_to3 (P := Tryz.prog) 24 34 hu2 hinf A1 n c1 kk hKn hc
 have htk : (l1.take kk).length = kk := by rw [List.length_take, HLN.out]; omega
 have HPA := Aside0.mk (show Calls Tryz.prog 17 #[.agg #[.int .i64 a0_0, .int .i64 (kk : Int), .int .i64 (M : Int)], .slice A1 kk kk] w1.drew _ from by
  have h1 := codec_Parity.calls k a0_0 (kk : Int) (M : Int) A1 kk (l1.take kk) t1 t2 w1.drew (Kd.C_take (Kd.C_below HR.out HB1.out.drew) (by rw [HLN.out]; exact hKn)) (by omega) HP.out
  rw [htk] at h1
  exact h1)
 have hmo : Tryz.prog.follows .mixedOrders = true := by kernel_rfl
 have hdl : (l1.drop kk).length = n - kk := by rw [List.length_drop, HLN.out]
 have hcut2 := cut_from (P := Tryz.prog) 24 34 .i64 hu2 hinf 1 hsz A1 n c1 (kk : Int) (by omega) (by omega)
 have hdr := Kd.C_drop (m := kk) (c := c1) HR.out (by rw [HLN.out]; exact hKn) (by rw [HLN.out]; exact hc)
 rw [show (dM 5 .u8).sz = 1 from rfl, hdl] at hdr
 simp only [Int.toNat_natCast] at hcut2
 generalize (if c1 = kk then A1 else Option.map (fun x => x.add (kk * 1)) A1) = A4 at hcut2 hdr
 have HDR := Aside0.mk hdr
 have HDL := Aside0.mk hdl
 obtain ⟨c4, hc4⟩ : ∃ c4, c1 - kk = c4 := ⟨_, rfl⟩
 obtain ⟨n4, hn4⟩ : ∃ n4, n - kk = n4 := ⟨_, rfl⟩
 rw [hc4, hn4] at hcut2
 rw [hn4] at HDR HDL
 clear hB1 HX HB HM hinfo hinf htk HP hsz hdl hdr hc4 hn4
 go_wp2_with fail
 refine start_ (n := 13) (S := fun w' => w'.cell? ⟨w.heap.size, 0, none⟩ = some (.int .i64 a0_0) ∧ w'.cell? ⟨w.heap.size, 1, none⟩ = some (.int .i64 (kk : Int)) ∧ w'.cell? ⟨w.heap.size, 2, none⟩ = some (.int .i64 (M : Int))) (ds := []) #[false, false, false, false, false, false, false, false, false, false, false, false, false] (by kernel_rfl) rfl rfl ⟨q0, q1, q2⟩ (fun hHeld => ?_)
 refine pure_ (i := 1) (N := some 22) (v := ?_) (a' := ?_) #[false, true, false, false, false, false, false, false, false, false, false, false, false] rfl rfl (by kernel_rfl) (fun _ _ _ h => h) (Or.inl ⟨by rfl, ?_⟩) ?_ ?_
 rotate_left
 ·intro w'
  go_simp
  with_reducible rfl
 rotate_left
 ·simp only [Act.put, List.setIfInBounds_toArray, List.set_cons_zero, List.set_cons_succ, i64_w, i32_w]
  rfl
 refine pure_ (i := 2) (N := some 23) (v := ?_) (a' := ?_) #[false, true, true, false, false, false, false, false, false, false, false, false, false] rfl rfl (by kernel_rfl) (fun _ _ _ h => h) (Or.inl ⟨by rfl, ?_⟩) ?_ ?_
 rotate_left
 ·intro w'
  go_simp
  with_reducible rfl
 rotate_left
 ·simp only [Act.put, List.setIfInBounds_toArray, List.set_cons_zero, List.set_cons_succ, i64_w, i32_w]
  rfl
 refine pure_ (i := 4) (N := some 25) (v := ?_) (a' := ?_) #[false, true, true, false, true, false, false, false, false, false, false, false, false] rfl rfl (by kernel_rfl) (fun _ _ _ h => h) (Or.inl ⟨by rfl, ?_⟩) ?_ ?_
 rotate_left
 ·intro w'
  go_simp
  with_reducible rfl
 rotate_left
 ·simp only [Act.put, List.setIfInBounds_toArray, List.set_cons_zero, List.set_cons_succ, i64_w, i32_w]
  rfl
 refine take_ (i := 0) (N := some 21) (v := ?_) (a' := ?_) #[true, true, true, false, true, false, false, false, false, false, false, false, false] rfl rfl (by kernel_rfl) (fun _ _ _ h => h) (Or.inl ⟨by rfl, ?_⟩) hHeld ?_ ?_
 rotate_left
 ·rintro w' ⟨s0, s1, s2⟩
  go_simp
  with_reducible rfl
 rotate_left
 ·simp only [Act.put, List.setIfInBounds_toArray, List.set_cons_zero, List.set_cons_succ, i64_w, i32_w]
  rfl
 refine take_ (i := 3) (N := some 24) (v := ?_) (a' := ?_) #[true, true, true, true, true, false, false, false, false, false, false, false, false] rfl rfl (by kernel_rfl) (fun _ _ _ h => h) (Or.inl ⟨by rfl, ?_⟩) hHeld ?_ ?_
 rotate_left
 ·rintro w' ⟨s0, s1, s2⟩
  go_simp
  with_reducible rfl
 rotate_left
 ·simp only [Act.put, List.setIfInBounds_toArray, List.set_cons_zero, List.set_cons_succ, i64_w, i32_w]
  rfl
 refine take_ (i := 5) (N := some 26) (v := ?_) (a' := ?_) #[true, true, true, true, true, true, false, false, false, false, false, false, false] rfl rfl (by kernel_rfl) (fun _ _ _ h => h) (Or.inl ⟨by rfl, ?_⟩) hHeld ?_ ?_
 rotate_left
 ·rintro w' ⟨s0, s1, s2⟩
  go_simp
  with_reducible rfl
 rotate_left
 ·simp only [Act.put, List.setIfInBounds_toArray, List.set_cons_zero, List.set_cons_succ, i64_w, i32_w]
  rfl
 refine pure_ (i := 6) (N := some 27) (v := ?_) (a' := ?_) #[true, true, true, true, true, true, true, false, false, false, false, false, false] rfl rfl (by kernel_rfl) (fun _ _ _ h => h) (Or.inl ⟨by rfl, ?_⟩) ?_ ?_
 rotate_left
 ·intro w'
  go_simp
  with_reducible rfl
 rotate_left
 ·simp only [Act.put, List.setIfInBounds_toArray, List.set_cons_zero, List.set_cons_succ, i64_w, i32_w]
  rfl
 refine one_ (i := 7) (N := some 28) #[true, true, true, true, true, true, true, true, false, false, false, false, false] rfl rfl (by kernel_rfl) (by decide) (fun K hK => ?_)
 refine goes_ Tryz.func17 (by kernel_rfl) rfl #[.agg #[.int .i64 a0_0, .int .i64 (kk : Int), .int .i64 (M : Int)], .slice A1 kk kk] (by rfl) rfl rfl (by simp only [List.map_toArray, List.map_cons, List.map_nil]; rfl) ?_
 with_reducible refine (HPA.out).mono ?_
 rintro e w2 ⟨v, rfl, p3, p4⟩
 refine ⟨_, rfl, ?_⟩
 have P3 := Aside0.mk p3
 have HB2 := Aside0.mk (HB1.out.drew.trans (p4.mono HB1.out.drew.size))
 have HX2 := Aside0.mk (blk_below (show w1.drew.heap[w.heap.size]? = _ from HX1.out) p4)
 clear p3 p4
 refine hK.out _ _ ⟨(blk_cell HX2.out 0).trans rfl, (blk_cell HX2.out 1).trans rfl, (blk_cell HX2.out 2).trans rfl⟩ (fun hHeld => ?_)
 clear hK K
 refine norm_ (a' := ?_) ?_ ?_
 rotate_left
 ·show Act.put _ (some 28) _ = _
  simp only [Act.put, List.setIfInBounds_toArray, List.set_cons_zero, List.set_cons_succ, i64_w, i32_w]
  rfl
 refine pure_ (i := 8) (N := some 20) (v := ?_) (a' := ?_) #[true, true, true, true, true, true, true, true, true, false, false, false, false] rfl rfl (by kernel_rfl) (fun _ _ _ h => h) (Or.inl ⟨by rfl, ?_⟩) ?_ ?_
 rotate_left
 ·intro w'
  go_simp
  with_reducible rfl
 rotate_left
 ·simp only [Act.put, List.setIfInBounds_toArray, List.set_cons_zero, List.set_cons_succ, i64_w, i32_w]
  rfl
 refine pure_ (i := 9) (N := some 29) (v := ?_) (a' := ?_) #[true, true, true, true, true, true, true, true, true, true, false, false, false] rfl rfl (by kernel_rfl) (fun _ _ _ h => h) (Or.inl ⟨by rfl, ?_⟩) ?_ ?_
 rotate_left
 ·intro w'
  go_simp
  with_reducible rfl
 rotate_left
 ·simp only [Act.put, List.setIfInBounds_toArray, List.set_cons_zero, List.set_cons_succ, i64_w, i32_w]
  rfl
 refine pure_ (i := 10) (N := some 30) (v := ?_) (a' := ?_) #[true, true, true, true, true, true, true, true, true, true, true, false, false] rfl rfl (by kernel_rfl) (fun _ _ _ h => h) (Or.inl ⟨by rfl, ?_⟩) ?_ ?_
 rotate_left
 ·intro w'
  go_simp
  with_reducible rfl
 rotate_left
 ·simp only [Act.put, List.setIfInBounds_toArray, List.set_cons_zero, List.set_cons_succ, i64_w, i32_w]
  rfl
 refine pure_ (i := 11) (N := some 5) (v := ?_) (a' := ?_) #[true, true, true, true, true, true, true, true, true, true, true, true, false] rfl rfl (by kernel_rfl) (fun _ _ _ h => h) (Or.inl ⟨by rfl, ?_⟩) ?_ ?_
 rotate_left
 ·intro w'
  go_simp
  with_reducible rfl
 rotate_left
 ·simp only [Act.put, List.setIfInBounds_toArray, List.set_cons_zero, List.set_cons_succ, i64_w, i32_w]
  rfl
 refine pure_ (i := 12) (N := some 6) (v := ?_) (a' := ?_) #[true, true, true, true, true, true, true, true, true, true, true, true, true] rfl rfl (by kernel_rfl) (fun _ _ _ h => h) (Or.inl ⟨by rfl, ?_⟩) ?_ ?_
 rotate_left
 ·intro w'
  go_simp
  with_reducible rfl
 rotate_left
 ·simp only [Act.put, List.setIfInBounds_toArray, List.set_cons_zero, List.set_cons_succ, i64_w, i32_w]
  rfl
 refine done_ (by kernel_rfl) ?_
 have q1 : w2.cell? ⟨w.heap.size, 1, none⟩ = some (.int .i64 (kk : Int)) := hHeld.2.1
 obtain ⟨A2, c2, rfl, l2, C2⟩ := Kd.S_reads P3.out
 by_cases ht : t2 = 0
 ·subst ht
  have HEQ := Aside0.mk (show Calls Tryz.prog 45 #[.slice A2 t1.length c2, .slice A4 n4 c4, .func (.func 46) #[] #[]] w2 _ from by
   have h1 := eqFunc.calls k A2 A4 c2 c4 t1 (l1.drop kk) r w2 C2 (by have := Kd.C_below HDR.out (HB2.out); rw [HDL.out]; exact this) (HE.out rfl)
   rw [HDL.out] at h1
   exact h1)
  generalize t1.length = m1 at HEQ l2 ⊢
  clear C2 P3 HPA
  go_wp2_with fail
  refine HEQ.out.mono ?_
  rintro e w3 ⟨rfl, q3⟩
  have HB3 := Aside0.mk (HB2.out.trans (q3.mono HB2.out.size))
  clear q3
  go_wp2
  go_ret
  exact ⟨by cases r <;> rfl, HB3.out⟩
 ·have hne2 : (t2 == 0) = false := by simpa using ht
  have HRR := Aside0.mk (HE2.out ht)
  generalize t1.length = m1 at l2 ⊢
  clear C2 P3 HPA
  go_wp2
  go_ret
  exact ⟨by rw [HRR.out]; rfl, HB2.out⟩
theorem codec_Verify.calls (k : Nat) (a0_0 : Int) (a0_1 : Int) (a0_2 : Int) (A1 : Option Addr) (c1 : Nat) (l1 : List (List Int)) (r : Bool) (w : World) (hr1 : Kd.C (Kd.slice 5 (Kd.int .u8)) w A1 l1.length l1) (hc1 : l1.length ≤ c1) (h : codec_Verify.f k a0_0 a0_1 a0_2 l1 = some r) :
 Calls Tryz.prog 20 #[.agg #[.int .i64 a0_0, .int .i64 a0_1, .int .i64 a0_2], .slice A1 l1.length c1] w fun e w' => e = .returned (.bool r) ∧ Below w.heap.size w w' := by
 unfold codec_Verify.f at h
 obtain ⟨b, hb⟩ := may_some a0_0 a0_1 a0_2
 rw [hb] at h
 simp only [Option.bind_some] at h
 cases b with
 | false =>
  rw [if_neg (by decide)] at h
  cases h
  exact codec_Verify.nomay a0_0 a0_1 a0_2 A1 c1 l1.length w hb
 | true =>
  rw [if_pos rfl] at h
  obtain ⟨p1, p2, k1, k2, m1, m2⟩ := may_true hb
  by_cases hl : (l1.length : Int) = a0_1 + a0_2
  ·rw [if_pos hl] at h
   obtain ⟨kk, rfl⟩ : ∃ kk : Nat, a0_1 = (kk : Int) := ⟨a0_1.toNat, by omega⟩
   obtain ⟨M, rfl⟩ : ∃ M : Nat, a0_2 = (M : Int) := ⟨a0_2.toNat, by omega⟩
   rw [Int.toNat_natCast] at h
   obtain ⟨⟨t1, t2⟩, hp, h⟩ := Option.bind_eq_some_iff.1 h
   exact codec_Verify.go k a0_0 kk M l1.length A1 c1 l1 t1 t2 r w hb (by omega) (by omega) rfl hc1 hr1 hp (fun ht => by dsimp only at h; rwa [if_pos ht] at h) (fun ht => by dsimp only at h; rw [if_neg ht] at h; cases h; rfl)
  ·rw [if_neg hl] at h
   cases h
   exact codec_Verify.nolen a0_0 a0_1 a0_2 A1 c1 l1.length w hb (by omega) hl
end Go.Proofs.YtelcllhibpnneaaGreat.XCo
end
section
namespace Go.Proofs.YtelcllhibpnneaaGreat.XCo
open Go.RowKit Go.Proofs.YtelcllhibpnneaaGreatW.PrintWords Go.Proofs.YtelcllhibpnneaaGreatW.PrintLast Go.Proofs.YtelcllhibpnneaaGreatW.PrintMore
attribute [local go_sem] max2_int min2_int max_two min_two max_three min_three max_four min_four
set_option linter.unusedVariables false
set_option linter.unusedSimpArgs false
def gambrellaw11_awake.f (_ : Nat) : Option (Bool) := some true
def awake11.b : List Int := [97, 98, 99, 100, 101, 102, 103, 104, 65, 66, 67, 68, 69, 70, 71, 72]
def awake11.l : List (List Int) := [[97, 98, 99, 100, 101, 102, 103, 104], [65, 66, 67, 68, 69, 70, 71, 72], [32, 32, 32, 32, 32, 32, 32, 32]]
theorem awake11.enc : codec_Encode.f 199 1 2 1 awake11.b = some (awake11.l, 0) := by kernel_rfl
theorem awake11.ver : codec_Verify.f 199 1 2 1 awake11.l = some true := by kernel_rfl
theorem C_numsF {k : IntKind} {w : World} {g : Nat} {t : TypeId} {xs : List Int} {fr : Nat × Nat} (h : w.heap[g]? = some (.cells (nums k xs).toArray t fr)) (hl : xs.length ≤ 9223372036854775807) : Kd.C (Kd.int k) w (some ⟨g, 0, none⟩) xs.length xs := by
 refine ⟨rfl, hl, fun _ => ⟨_, rfl, fun j p hp => ⟨[.int k p], rfl, rfl, fun i u hu => ?_⟩⟩⟩
 obtain ⟨hj, rfl⟩ := List.getElem?_eq_some_iff.1 hp
 cases i with
 | succ i => simp at hu
 | zero =>
  obtain rfl : Value.int k xs[j] = u := by simpa using hu
  have e : (⟨g, 0, none⟩ : Addr).add (j * (Kd.int k).sz + 0) = ⟨g, j, none⟩ := by
   show (⟨g, 0, none⟩ : Addr).add (j * 1 + 0) = _
   unfold Addr.add
   split <;> simp_all
  rw [e, cell_of_row w g j _ t fr h]
  simp [nums, hj]
set_option maxRecDepth 100000 in
set_option maxHeartbeats 4000000 in
theorem gambrellaw11_awake.calls (k : Nat) (r : Bool) (w : World) (h : gambrellaw11_awake.f k = some r) :
 Calls Tryz.prog 15 #[] w fun e w' => e = .returned (.bool r) ∧ Below w.heap.size w w' := by
 obtain rfl : true = r := by injection h
 clear h
 have kc := fun (w : World) (C : Array Value) (n c : Nat) => Lib.run_convert_bytes_const (P := Tryz.prog) w 34 5 C n c Tryz.underlying34 Tryz.underlying5
 have HE := Aside0.mk (fun (W : World) (A : Option Addr) (hr : Kd.C (Kd.int .u8) W A awake11.b.length awake11.b) => codec_Encode.calls 199 1 2 1 A 16 awake11.b awake11.l 0 W hr (by decide) awake11.enc)
 have HV := Aside0.mk (fun (W : World) (A : Option Addr) (c : Nat) (hr : Kd.C (Kd.slice 5 (Kd.int .u8)) W A awake11.l.length awake11.l) (hc : 3 ≤ c) => codec_Verify.calls 199 1 2 1 A c awake11.l true W hr hc awake11.ver)
 go_enter Tryz.func15, Tryz.ntmps15
 go_wp2_with fail
 refine (HE.out _ (some ⟨w.heap.size, 0, none⟩) (C_numsF (fr := (16, 17)) (heap_alloc_new _ _) (by decide))).mono ?_
 rintro e w1 ⟨v, rfl, q1, q2⟩
 have HB1 := Aside0.mk ((below_alloc (Below.refl _ _) _).trans (q2.mono (by simp)) : Below w.heap.size w w1)
 obtain ⟨gg, c, rfl, -, -, -⟩ := Kd.N_form q1 (by decide)
 obtain ⟨-, hc, hC⟩ := Kd.N_reads' q1
 have HC := Aside0.mk hC
 obtain ⟨ad, A2, c2, he, e2, -, C2⟩ := row_at hC 2 [32, 32, 32, 32, 32, 32, 32, 32] rfl
 obtain rfl := Option.some.inj he
 rw [show (⟨gg, 0, none⟩ : Addr).add 2 = ⟨gg, 2, none⟩ by unfold Addr.add; split <;> simp_all] at e2
 clear he
 have hst := Kd.C_string (P := Tryz.prog) (c := c2) Tryz.underlying34 Tryz.underlying5 Tryz.underlying9 C2
 have hss : (strOfNums [32, 32, 32, 32, 32, 32, 32, 32] : ByteArray) = ⟨#[32, 32, 32, 32, 32, 32, 32, 32]⟩ := by kernel_rfl
 rw [hss] at hst
 have hl8 : ([32, 32, 32, 32, 32, 32, 32, 32] : List Int).length = 8 := rfl
 rw [hl8] at hst e2
 have hl3 : awake11.l.length = 3 := rfl
 have HV1 := Aside0.mk (HV.out w1 _ c HC.out hc)
 rw [hl3] at HV1 hc ⊢
 clear q1 q2 hC C2 HE HV kc hss
 go_wp2_with fail
 refine HV1.out.mono ?_
 rintro e w2 ⟨rfl, q2⟩
 have HB2 := Aside0.mk (HB1.out.trans (q2.mono HB1.out.size))
 clear q2
 go_wp2
 go_ret
 exact ⟨rfl, HB2.out⟩
end Go.Proofs.YtelcllhibpnneaaGreat.XCo
end
