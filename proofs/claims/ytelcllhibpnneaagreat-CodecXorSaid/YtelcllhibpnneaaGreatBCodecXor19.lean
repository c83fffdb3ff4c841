-- Joined by this work's own program (wip/tools/bundle.py) out of its texts: what this claim uses of them. Not trusted: Lean checks it.
import Derived.Test.YtelcllhibpnneaaGreatBCodecXor18
section
namespace Go.Proofs.YtelcllhibpnneaaGreat.XCo
open Go.RowKit Go.Proofs.YtelcllhibpnneaaGreatW.PrintWords Go.Proofs.YtelcllhibpnneaaGreatW.PrintLast Go.Proofs.YtelcllhibpnneaaGreatW.PrintMore
attribute [local go_sem] max2_int min2_int max_two min_two max_three min_three max_four min_four
set_option linter.unusedVariables false
set_option linter.unusedSimpArgs false
mutual
def gambrellaw11_CodecXor.j0 : Nat → List Int → Bool → Int → Int → Int → Option (Bool)
 | 0, _, _, _, _, _ => none
 | k + 1, x1, x5, x653000, x653001, x653002 => (codec_Encode.f k x653000 x653001 x653002 x1).bind fun bt653 => (if bt653.2 = 0 then (gambrellaw11_CodecXor.j1 k x5 bt653.1 ((bt653.1.length : Int) != (wrap64 (x653001 + x653002))) x653000 x653001 x653002) else (gambrellaw11_CodecXor.j1 k x5 bt653.1 true x653000 x653001 x653002))
def gambrellaw11_CodecXor.j1 : Nat → Bool → List (List Int) → Bool → Int → Int → Int → Option (Bool)
 | 0, _, _, _, _, _, _ => none
 | k + 1, x5, x7, x46, x653000, x653001, x653002 => if x46 = true then (some false) else (gambrellaw11_CodecXor.l0 k x5 x7 0 x653000 x653001 x653002)
def gambrellaw11_CodecXor.l0 : Nat → Bool → List (List Int) → Int → Int → Int → Int → Option (Bool)
 | 0, _, _, _, _, _, _ => none
 | k + 1, x5, x7, x9, x653000, x653001, x653002 => if 0 ≤ x653001 then (if x653001 < (x7.length : Int) then (if x9 < ((rd_L1 x7 x653001).length : Int) then (gambrellaw11_CodecXor.l1 k x5 x7 x9 0 0 x653000 x653001 x653002) else (some x5)) else (none)) else (none)
def gambrellaw11_CodecXor.l1 : Nat → Bool → List (List Int) → Int → Int → Int → Int → Int → Int → Option (Bool)
 | 0, _, _, _, _, _, _, _, _ => none
 | k + 1, x5, x7, x9, x10, x11, x653000, x653001, x653002 => if x11 < x653001 then (if 0 ≤ x11 then (if x11 < (x7.length : Int) then (if 0 ≤ x653001 then (if x653001 < (x7.length : Int) then (if ((rd_L1 x7 x11).length : Int) = ((rd_L1 x7 x653001).length : Int) then (if 0 ≤ x9 then (if x9 < ((rd_L1 x7 x11).length : Int) then (gambrellaw11_CodecXor.l1 k x5 x7 x9 (Go.bits .xor .u8 x10 (rd (rd_L1 x7 x11) x9)) (wrap64 (x11 + 1)) x653000 x653001 x653002) else (none)) else (none)) else (some false)) else (none)) else (none)) else (none)) else (none)) else (if 0 ≤ x653001 then (if x653001 < (x7.length : Int) then (if 0 ≤ x9 then (if x9 < ((rd_L1 x7 x653001).length : Int) then (if x10 = (rd (rd_L1 x7 x653001) x9) then (gambrellaw11_CodecXor.l0 k x5 x7 (wrap64 (x9 + 1)) x653000 x653001 x653002) else (some false)) else (none)) else (none)) else (none)) else (none))
end
def gambrellaw11_CodecXor.f (k : Nat) (a0_0 : Int) (a0_1 : Int) (a0_2 : Int) (l1 : List Int) : Option (Bool) := (gambrellaw11_awake.f k).bind fun t648 => (if (l1.length : Int) > 300 then (some t648) else ((gambrelref09_Some.f a0_0 a0_1 a0_2).bind fun bt649 => (if (Int.tmod a0_0 2) = 0 then (gambrellaw11_CodecXor.j0 k l1 t648 1 bt649.2.1 bt649.2.2) else (gambrellaw11_CodecXor.j0 k l1 t648 3 bt649.2.1 (mn bt649.2.2 3)))))
set_option maxHeartbeats 8000000 in
set_option maxRecDepth 100000 in
theorem gambrellaw11_CodecXor.calls (k : Nat) (a0_0 : Int) (a0_1 : Int) (a0_2 : Int) (A1 : Option Addr) (c1 : Nat) (l1 : List Int) (r : Bool) (w : World) (hr_ : Aside0 (r = true)) (hr1 : Kd.C (Kd.int .u8) w A1 l1.length l1) (hc1 : l1.length ≤ c1) (h : gambrellaw11_CodecXor.f k a0_0 a0_1 a0_2 l1 = some r) :
  Calls Tryz.prog 7 #[.agg #[.int .u8 a0_0, .int .u8 a0_1, .int .u8 a0_2], .slice A1 l1.length c1] w fun e w' => e = .returned (.bool r) ∧ Below w.heap.size w w' := by
 have hu38 := Tryz.underlying38
 have hu23 := Tryz.underlying23
 have HR1 := Aside0.mk hr1
 have HC1 := Aside0.mk hc1
 clear hr1 hc1
 have HB := Aside0.mk (Below.refl w.heap.size w)
 have H : ((gambrellaw11_awake.f k).bind fun t648 => (if (l1.length : Int) > 300 then (some t648) else ((gambrelref09_Some.f a0_0 a0_1 a0_2).bind fun bt649 => (if (Int.tmod a0_0 2) = 0 then (gambrellaw11_CodecXor.j0 k l1 t648 1 bt649.2.1 bt649.2.2) else (gambrellaw11_CodecXor.j0 k l1 t648 3 bt649.2.1 (mn bt649.2.2 3)))))) = some r := h
 clear h
 replace H := Option.bind_eq_some_iff.mp H
 obtain ⟨t648, A30, H⟩ := H
 replace H : (if (l1.length : Int) > 300 then (some t648) else ((gambrelref09_Some.f a0_0 a0_1 a0_2).bind fun bt649 => (if (Int.tmod a0_0 2) = 0 then (gambrellaw11_CodecXor.j0 k l1 t648 1 bt649.2.1 bt649.2.2) else (gambrellaw11_CodecXor.j0 k l1 t648 3 bt649.2.1 (mn bt649.2.2 3))))) = some r := H
 have A3 := Aside0.mk A30
 clear A30
 by_cases c4 : (l1.length : Int) > 300
 ·rw [if_pos c4] at H
  have c4b0 : decide (300 < (l1.length : Int)) = true := decide_eq_true c4
  have c4b1 : decide (300 < l1.length) = true := decide_eq_true (by omega)
  clear c4
  obtain rfl := Option.some.inj H
  go_enter Tryz.func7, Tryz.ntmps7
  go_wp2_with (first | ((with_reducible refine gate_dst (N := 2) rfl ?_); (try (refine gate_guard (by rfl) ?_; dsimp only)); refine box_event ?hg (N := 2) ?hd (cs := #[.int .u8 a0_0, .int .u8 a0_1, .int .u8 a0_2]) (t := 38) ?hr ?_; (case hd => rfl); (case hg => rfl); (case hr => first | (go_simp; done) | (go_simp; rfl)); intro gb647 hg w5 hbox hb; have n0_ := Aside0.mk (below_step (by repeat (first | (with_reducible first | exact HB.out | apply below_alloc | apply pw_below_drewN | apply below_drew1) | exact HB.out)) hb); have n1_ := Aside0.mk (hbox); have n2_ := Aside0.mk ((by rw [hg]; exact (below_size (by repeat (first | (with_reducible first | exact HB.out | apply below_alloc | apply pw_below_drewN | apply below_drew1) | exact HB.out))) : w.heap.size ≤ gb647)); have n3_ := Aside0.mk ((by rw [hg]; exact (below_size (by repeat (first | (with_reducible first | exact HB.out | apply below_alloc | apply pw_below_drewN | apply below_drew1) | exact HB.out))) : w.heap.size ≤ gb647)); clear HB; have HB := n0_; have BK647 := n1_; have GW647 := n2_; have GE647 := n3_; clear n0_ n1_ n2_ n3_; clear hb hbox hg) | (go_at_call 15; (with_reducible refine (gambrellaw11_awake.calls k  t648 _ A3.out).mono ?_); rintro e w6 ⟨rfl, hb⟩; have n0_ := Aside0.mk (blk_below (g := gb647) (o := .cells #[.int .u8 a0_0, .int .u8 a0_1, .int .u8 a0_2] 38 (0, 0)) (by (with_reducible repeat (first | refine blk_drewN ?_ _ | refine blk_drew ?_ | refine blk_alloc ?_ _)); exact BK647.out) hb); have n1_ := Aside0.mk (below_step (by repeat (first | (with_reducible first | exact HB.out | apply below_alloc | apply pw_below_drewN | apply below_drew1 | refine below_set ?_ GE647.out) | exact HB.out)) hb); clear BK647; clear HB; have BK647 := n0_; have HB := n1_; clear n0_ n1_; (try clear hb); (try clear hb2); (try clear hk); (try clear hi)))
  repeat (go_quiet (first | ((with_reducible refine gate_dst (N := 2) rfl ?_); (try (refine gate_guard (by rfl) ?_; dsimp only)); refine box_event ?hg (N := 2) ?hd (cs := #[.int .u8 a0_0, .int .u8 a0_1, .int .u8 a0_2]) (t := 38) ?hr ?_; (case hd => rfl); (case hg => rfl); (case hr => first | (go_simp; done) | (go_simp; rfl)); intro gb647 hg w5 hbox hb; have n0_ := Aside0.mk (below_step (by repeat (first | (with_reducible first | exact HB.out | apply below_alloc | apply pw_below_drewN | apply below_drew1) | exact HB.out)) hb); have n1_ := Aside0.mk (hbox); have n2_ := Aside0.mk ((by rw [hg]; exact (below_size (by repeat (first | (with_reducible first | exact HB.out | apply below_alloc | apply pw_below_drewN | apply below_drew1) | exact HB.out))) : w.heap.size ≤ gb647)); have n3_ := Aside0.mk ((by rw [hg]; exact (below_size (by repeat (first | (with_reducible first | exact HB.out | apply below_alloc | apply pw_below_drewN | apply below_drew1) | exact HB.out))) : w.heap.size ≤ gb647)); clear HB; have HB := n0_; have BK647 := n1_; have GW647 := n2_; have GE647 := n3_; clear n0_ n1_ n2_ n3_; clear hb hbox hg) | (go_at_call 15; (with_reducible refine (gambrellaw11_awake.calls k  t648 _ A3.out).mono ?_); rintro e w6 ⟨rfl, hb⟩; have n0_ := Aside0.mk (blk_below (g := gb647) (o := .cells #[.int .u8 a0_0, .int .u8 a0_1, .int .u8 a0_2] 38 (0, 0)) (by (with_reducible repeat (first | refine blk_drewN ?_ _ | refine blk_drew ?_ | refine blk_alloc ?_ _)); exact BK647.out) hb); have n1_ := Aside0.mk (below_step (by repeat (first | (with_reducible first | exact HB.out | apply below_alloc | apply pw_below_drewN | apply below_drew1 | refine below_set ?_ GE647.out) | exact HB.out)) hb); clear BK647; clear HB; have BK647 := n0_; have HB := n1_; clear n0_ n1_; (try clear hb); (try clear hb2); (try clear hk); (try clear hi))); try go_wp2_with (first | ((with_reducible refine gate_dst (N := 2) rfl ?_); (try (refine gate_guard (by rfl) ?_; dsimp only)); refine box_event ?hg (N := 2) ?hd (cs := #[.int .u8 a0_0, .int .u8 a0_1, .int .u8 a0_2]) (t := 38) ?hr ?_; (case hd => rfl); (case hg => rfl); (case hr => first | (go_simp; done) | (go_simp; rfl)); intro gb647 hg w5 hbox hb; have n0_ := Aside0.mk (below_step (by repeat (first | (with_reducible first | exact HB.out | apply below_alloc | apply pw_below_drewN | apply below_drew1) | exact HB.out)) hb); have n1_ := Aside0.mk (hbox); have n2_ := Aside0.mk ((by rw [hg]; exact (below_size (by repeat (first | (with_reducible first | exact HB.out | apply below_alloc | apply pw_below_drewN | apply below_drew1) | exact HB.out))) : w.heap.size ≤ gb647)); have n3_ := Aside0.mk ((by rw [hg]; exact (below_size (by repeat (first | (with_reducible first | exact HB.out | apply below_alloc | apply pw_below_drewN | apply below_drew1) | exact HB.out))) : w.heap.size ≤ gb647)); clear HB; have HB := n0_; have BK647 := n1_; have GW647 := n2_; have GE647 := n3_; clear n0_ n1_ n2_ n3_; clear hb hbox hg) | (go_at_call 15; (with_reducible refine (gambrellaw11_awake.calls k  t648 _ A3.out).mono ?_); rintro e w6 ⟨rfl, hb⟩; have n0_ := Aside0.mk (blk_below (g := gb647) (o := .cells #[.int .u8 a0_0, .int .u8 a0_1, .int .u8 a0_2] 38 (0, 0)) (by (with_reducible repeat (first | refine blk_drewN ?_ _ | refine blk_drew ?_ | refine blk_alloc ?_ _)); exact BK647.out) hb); have n1_ := Aside0.mk (below_step (by repeat (first | (with_reducible first | exact HB.out | apply below_alloc | apply pw_below_drewN | apply below_drew1 | refine below_set ?_ GE647.out) | exact HB.out)) hb); clear BK647; clear HB; have BK647 := n0_; have HB := n1_; clear n0_ n1_; (try clear hb); (try clear hb2); (try clear hk); (try clear hi))))
  go_ret
  exact ⟨by first | rfl | (simp [errW_none, errW_some] <;> rfl) | (simp [*, errW_none, errW_some] <;> rfl), by repeat (first | (with_reducible first | exact HB.out | apply below_alloc | apply pw_below_drewN | apply below_drew1 | refine below_set ?_ GE647.out) | exact HB.out)⟩
 ·rw [if_neg c4] at H
  have c4b0 : decide (300 < (l1.length : Int)) = false := decide_eq_false c4
  have c4b1 : decide (300 < l1.length) = false := decide_eq_false (by omega)
  clear c4
  replace H := Option.bind_eq_some_iff.mp H
  obtain ⟨⟨t649, t650, t651⟩, A70, H⟩ := H
  replace H : (if (Int.tmod a0_0 2) = 0 then (gambrellaw11_CodecXor.j0 k l1 t648 1 t650 t651) else (gambrellaw11_CodecXor.j0 k l1 t648 3 t650 (mn t651 3))) = some r := H
  have A7 := Aside0.mk A70
  clear A70
  have HC8 := Aside0.mk H
  clear H
  go_enter Tryz.func7, Tryz.ntmps7
  go_upto_if 22 with (first | ((with_reducible refine gate_dst (N := 2) rfl ?_); (try (refine gate_guard (by rfl) ?_; dsimp only)); refine box_event ?hg (N := 2) ?hd (cs := #[.int .u8 a0_0, .int .u8 a0_1, .int .u8 a0_2]) (t := 38) ?hr ?_; (case hd => rfl); (case hg => rfl); (case hr => first | (go_simp; done) | (go_simp; rfl)); intro gb647 hg w9 hbox hb; have n0_ := Aside0.mk (below_step (by repeat (first | (with_reducible first | exact HB.out | apply below_alloc | apply pw_below_drewN | apply below_drew1) | exact HB.out)) hb); have n1_ := Aside0.mk (hbox); have n2_ := Aside0.mk ((by rw [hg]; exact (below_size (by repeat (first | (with_reducible first | exact HB.out | apply below_alloc | apply pw_below_drewN | apply below_drew1) | exact HB.out))) : w.heap.size ≤ gb647)); have n3_ := Aside0.mk ((by rw [hg]; exact (below_size (by repeat (first | (with_reducible first | exact HB.out | apply below_alloc | apply pw_below_drewN | apply below_drew1) | exact HB.out))) : w.heap.size ≤ gb647)); clear HB; have HB := n0_; have BK647 := n1_; have GW647 := n2_; have GE647 := n3_; clear n0_ n1_ n2_ n3_; clear hb hbox hg) | (go_at_call 15; (with_reducible refine (gambrellaw11_awake.calls k  t648 _ A3.out).mono ?_); rintro e w10 ⟨rfl, hb⟩; have n0_ := Aside0.mk (blk_below (g := gb647) (o := .cells #[.int .u8 a0_0, .int .u8 a0_1, .int .u8 a0_2] 38 (0, 0)) (by (with_reducible repeat (first | refine blk_drewN ?_ _ | refine blk_drew ?_ | refine blk_alloc ?_ _)); exact BK647.out) hb); have n1_ := Aside0.mk (below_step (by repeat (first | (with_reducible first | exact HB.out | apply below_alloc | apply pw_below_drewN | apply below_drew1 | refine below_set ?_ GE647.out) | exact HB.out)) hb); clear BK647; clear HB; have BK647 := n0_; have HB := n1_; clear n0_ n1_; (try clear hb); (try clear hb2); (try clear hk); (try clear hi); have hcz11_0 : w10.cell? ⟨gb647, 0, none⟩ = some (.int .u8 a0_0) := (blk_cell BK647.out 0).trans rfl; have hcz11_1 : w10.cell? ⟨gb647, 1, none⟩ = some (.int .u8 a0_1) := (blk_cell BK647.out 1).trans rfl; have hcz11_2 : w10.cell? ⟨gb647, 2, none⟩ = some (.int .u8 a0_2) := (blk_cell BK647.out 2).trans rfl; have hfz11_0 := blk_frozen BK647.out 0; have hfz11_1 := blk_frozen BK647.out 1; have hfz11_2 := blk_frozen BK647.out 2) | (go_at_call 24; (with_reducible refine (gambrelref09_Some.calls a0_0 a0_1 a0_2 t649 t650 t651 _ A7.out).mono ?_); rintro e w12 ⟨rfl, hb⟩; have n0_ := Aside0.mk (blk_below (g := gb647) (o := .cells #[.int .u8 a0_0, .int .u8 a0_1, .int .u8 a0_2] 38 (0, 0)) (by (with_reducible repeat (first | refine blk_drewN ?_ _ | refine blk_drew ?_ | refine blk_alloc ?_ _)); exact BK647.out) hb); have n1_ := Aside0.mk (below_step (by repeat (first | (with_reducible first | exact HB.out | apply below_alloc | apply pw_below_drewN | apply below_drew1 | refine below_set ?_ GE647.out) | exact HB.out)) hb); clear BK647; clear HB; have BK647 := n0_; have HB := n1_; clear n0_ n1_; (try clear hb); (try clear hb2); (try clear hk); (try clear hi)) | ((with_reducible refine gate_dst (N := 6) rfl ?_); (try (refine gate_guard (by rfl) ?_; dsimp only)); refine box_event ?hg (N := 6) ?hd (cs := #[.int .i64 0, .int .i64 0, .int .i64 0]) (t := 23) ?hr ?_; (case hd => rfl); (case hg => rfl); (case hr => first | (go_simp; done) | (go_simp; rfl)); intro gb652 hg w13 hbox hb; have n0_ := Aside0.mk (blk_below (g := gb647) (o := .cells #[.int .u8 a0_0, .int .u8 a0_1, .int .u8 a0_2] 38 (0, 0)) (by (with_reducible repeat (first | refine blk_drewN ?_ _ | refine blk_drew ?_ | refine blk_alloc ?_ _)); exact BK647.out) hb); have n1_ := Aside0.mk (below_step (by repeat (first | (with_reducible first | exact HB.out | apply below_alloc | apply pw_below_drewN | apply below_drew1 | refine below_set ?_ GE647.out) | exact HB.out)) hb); have n2_ := Aside0.mk (hbox); have n3_ := Aside0.mk ((by rw [hg]; exact (below_size (by repeat (first | (with_reducible first | exact HB.out | apply below_alloc | apply pw_below_drewN | apply below_drew1 | refine below_set ?_ GE647.out) | exact HB.out))) : w.heap.size ≤ gb652)); have n4_ := Aside0.mk ((by rw [hg]; exact (below_size (by repeat (first | (with_reducible first | exact HB.out | apply below_alloc | apply pw_below_drewN | apply below_drew1 | refine below_set ?_ GE647.out) | exact HB.out))) : w.heap.size ≤ gb652)); have n5_ := Aside0.mk ((by rw [hg]; exact Nat.ne_of_lt (blk_lt (g := gb647) (o := .cells #[.int .u8 a0_0, .int .u8 a0_1, .int .u8 a0_2] 38 (0, 0)) (by (with_reducible repeat (first | refine blk_drewN ?_ _ | refine blk_drew ?_ | refine blk_alloc ?_ _)); exact BK647.out)) : gb647 ≠ gb652)); have n6_ := Aside0.mk ((by rw [hg]; exact Nat.ne_of_gt (blk_lt (g := gb647) (o := .cells #[.int .u8 a0_0, .int .u8 a0_1, .int .u8 a0_2] 38 (0, 0)) (by (with_reducible repeat (first | refine blk_drewN ?_ _ | refine blk_drew ?_ | refine blk_alloc ?_ _)); exact BK647.out)) : gb652 ≠ gb647)); clear BK647; clear HB; have BK647 := n0_; have HB := n1_; have BK652 := n2_; have GW652 := n3_; have GE652 := n4_; have NB647_652 := n5_; have NB652_647 := n6_; clear n0_ n1_ n2_ n3_ n4_ n5_ n6_; clear hb hbox hg; have hnb14 := NB652_647.out; have hnc14 := NB647_652.out; have hcz15_0 : w13.cell? ⟨gb652, 0, none⟩ = some (.int .i64 0) := (blk_cell BK652.out 0).trans rfl; have hcz15_1 : w13.cell? ⟨gb652, 1, none⟩ = some (.int .i64 0) := (blk_cell BK652.out 1).trans rfl; have hcz15_2 : w13.cell? ⟨gb652, 2, none⟩ = some (.int .i64 0) := (blk_cell BK652.out 2).trans rfl; have hfz15_0 := blk_frozen BK652.out 0; have hfz15_1 := blk_frozen BK652.out 1; have hfz15_2 := blk_frozen BK652.out 2; have hcz16_0 : w13.cell? ⟨gb647, 0, none⟩ = some (.int .u8 a0_0) := (blk_cell BK647.out 0).trans rfl; have hcz16_1 : w13.cell? ⟨gb647, 1, none⟩ = some (.int .u8 a0_1) := (blk_cell BK647.out 1).trans rfl; have hcz16_2 : w13.cell? ⟨gb647, 2, none⟩ = some (.int .u8 a0_2) := (blk_cell BK647.out 2).trans rfl; have hfz16_0 := blk_frozen BK647.out 0; have hfz16_1 := blk_frozen BK647.out 1; have hfz16_2 := blk_frozen BK647.out 2))
  repeat (go_quiet (first | ((with_reducible refine gate_dst (N := 2) rfl ?_); (try (refine gate_guard (by rfl) ?_; dsimp only)); refine box_event ?hg (N := 2) ?hd (cs := #[.int .u8 a0_0, .int .u8 a0_1, .int .u8 a0_2]) (t := 38) ?hr ?_; (case hd => rfl); (case hg => rfl); (case hr => first | (go_simp; done) | (go_simp; rfl)); intro gb647 hg w9 hbox hb; have n0_ := Aside0.mk (below_step (by repeat (first | (with_reducible first | exact HB.out | apply below_alloc | apply pw_below_drewN | apply below_drew1) | exact HB.out)) hb); have n1_ := Aside0.mk (hbox); have n2_ := Aside0.mk ((by rw [hg]; exact (below_size (by repeat (first | (with_reducible first | exact HB.out | apply below_alloc | apply pw_below_drewN | apply below_drew1) | exact HB.out))) : w.heap.size ≤ gb647)); have n3_ := Aside0.mk ((by rw [hg]; exact (below_size (by repeat (first | (with_reducible first | exact HB.out | apply below_alloc | apply pw_below_drewN | apply below_drew1) | exact HB.out))) : w.heap.size ≤ gb647)); clear HB; have HB := n0_; have BK647 := n1_; have GW647 := n2_; have GE647 := n3_; clear n0_ n1_ n2_ n3_; clear hb hbox hg) | (go_at_call 15; (with_reducible refine (gambrellaw11_awake.calls k  t648 _ A3.out).mono ?_); rintro e w10 ⟨rfl, hb⟩; have n0_ := Aside0.mk (blk_below (g := gb647) (o := .cells #[.int .u8 a0_0, .int .u8 a0_1, .int .u8 a0_2] 38 (0, 0)) (by (with_reducible repeat (first | refine blk_drewN ?_ _ | refine blk_drew ?_ | refine blk_alloc ?_ _)); exact BK647.out) hb); have n1_ := Aside0.mk (below_step (by repeat (first | (with_reducible first | exact HB.out | apply below_alloc | apply pw_below_drewN | apply below_drew1 | refine below_set ?_ GE647.out) | exact HB.out)) hb); clear BK647; clear HB; have BK647 := n0_; have HB := n1_; clear n0_ n1_; (try clear hb); (try clear hb2); (try clear hk); (try clear hi); have hcz11_0 : w10.cell? ⟨gb647, 0, none⟩ = some (.int .u8 a0_0) := (blk_cell BK647.out 0).trans rfl; have hcz11_1 : w10.cell? ⟨gb647, 1, none⟩ = some (.int .u8 a0_1) := (blk_cell BK647.out 1).trans rfl; have hcz11_2 : w10.cell? ⟨gb647, 2, none⟩ = some (.int .u8 a0_2) := (blk_cell BK647.out 2).trans rfl; have hfz11_0 := blk_frozen BK647.out 0; have hfz11_1 := blk_frozen BK647.out 1; have hfz11_2 := blk_frozen BK647.out 2) | (go_at_call 24; (with_reducible refine (gambrelref09_Some.calls a0_0 a0_1 a0_2 t649 t650 t651 _ A7.out).mono ?_); rintro e w12 ⟨rfl, hb⟩; have n0_ := Aside0.mk (blk_below (g := gb647) (o := .cells #[.int .u8 a0_0, .int .u8 a0_1, .int .u8 a0_2] 38 (0, 0)) (by (with_reducible repeat (first | refine blk_drewN ?_ _ | refine blk_drew ?_ | refine blk_alloc ?_ _)); exact BK647.out) hb); have n1_ := Aside0.mk (below_step (by repeat (first | (with_reducible first | exact HB.out | apply below_alloc | apply pw_below_drewN | apply below_drew1 | refine below_set ?_ GE647.out) | exact HB.out)) hb); clear BK647; clear HB; have BK647 := n0_; have HB := n1_; clear n0_ n1_; (try clear hb); (try clear hb2); (try clear hk); (try clear hi)) | ((with_reducible refine gate_dst (N := 6) rfl ?_); (try (refine gate_guard (by rfl) ?_; dsimp only)); refine box_event ?hg (N := 6) ?hd (cs := #[.int .i64 0, .int .i64 0, .int .i64 0]) (t := 23) ?hr ?_; (case hd => rfl); (case hg => rfl); (case hr => first | (go_simp; done) | (go_simp; rfl)); intro gb652 hg w13 hbox hb; have n0_ := Aside0.mk (blk_below (g := gb647) (o := .cells #[.int .u8 a0_0, .int .u8 a0_1, .int .u8 a0_2] 38 (0, 0)) (by (with_reducible repeat (first | refine blk_drewN ?_ _ | refine blk_drew ?_ | refine blk_alloc ?_ _)); exact BK647.out) hb); have n1_ := Aside0.mk (below_step (by repeat (first | (with_reducible first | exact HB.out | apply below_alloc | apply pw_below_drewN | apply below_drew1 | refine below_set ?_ GE647.out) | exact HB.out)) hb); have n2_ := Aside0.mk (hbox); have n3_ := Aside0.mk ((by rw [hg]; exact (below_size (by repeat (first | (with_reducible first | exact HB.out | apply below_alloc | apply pw_below_drewN | apply below_drew1 | refine below_set ?_ GE647.out) | exact HB.out))) : w.heap.size ≤ gb652)); have n4_ := Aside0.mk ((by rw [hg]; exact (below_size (by repeat (first | (with_reducible first | exact HB.out | apply below_alloc | apply pw_below_drewN | apply below_drew1 | refine below_set ?_ GE647.out) | exact HB.out))) : w.heap.size ≤ gb652)); have n5_ := Aside0.mk ((by rw [hg]; exact Nat.ne_of_lt (blk_lt (g := gb647) (o := .cells #[.int .u8 a0_0, .int .u8 a0_1, .int .u8 a0_2] 38 (0, 0)) (by (with_reducible repeat (first | refine blk_drewN ?_ _ | refine blk_drew ?_ | refine blk_alloc ?_ _)); exact BK647.out)) : gb647 ≠ gb652)); have n6_ := Aside0.mk ((by rw [hg]; exact Nat.ne_of_gt (blk_lt (g := gb647) (o := .cells #[.int .u8 a0_0, .int .u8 a0_1, .int .u8 a0_2] 38 (0, 0)) (by (with_reducible repeat (first | refine blk_drewN ?_ _ | refine blk_drew ?_ | refine blk_alloc ?_ _)); exact BK647.out)) : gb652 ≠ gb647)); clear BK647; clear HB; have BK647 := n0_; have HB := n1_; have BK652 := n2_; have GW652 := n3_; have GE652 := n4_; have NB647_652 := n5_; have NB652_647 := n6_; clear n0_ n1_ n2_ n3_ n4_ n5_ n6_; clear hb hbox hg; have hnb14 := NB652_647.out; have hnc14 := NB647_652.out; have hcz15_0 : w13.cell? ⟨gb652, 0, none⟩ = some (.int .i64 0) := (blk_cell BK652.out 0).trans rfl; have hcz15_1 : w13.cell? ⟨gb652, 1, none⟩ = some (.int .i64 0) := (blk_cell BK652.out 1).trans rfl; have hcz15_2 : w13.cell? ⟨gb652, 2, none⟩ = some (.int .i64 0) := (blk_cell BK652.out 2).trans rfl; have hfz15_0 := blk_frozen BK652.out 0; have hfz15_1 := blk_frozen BK652.out 1; have hfz15_2 := blk_frozen BK652.out 2; have hcz16_0 : w13.cell? ⟨gb647, 0, none⟩ = some (.int .u8 a0_0) := (blk_cell BK647.out 0).trans rfl; have hcz16_1 : w13.cell? ⟨gb647, 1, none⟩ = some (.int .u8 a0_1) := (blk_cell BK647.out 1).trans rfl; have hcz16_2 : w13.cell? ⟨gb647, 2, none⟩ = some (.int .u8 a0_2) := (blk_cell BK647.out 2).trans rfl; have hfz16_0 := blk_frozen BK647.out 0; have hfz16_1 := blk_frozen BK647.out 1; have hfz16_2 := blk_frozen BK647.out 2)); go_upto_if 22 with (first | ((with_reducible refine gate_dst (N := 2) rfl ?_); (try (refine gate_guard (by rfl) ?_; dsimp only)); refine box_event ?hg (N := 2) ?hd (cs := #[.int .u8 a0_0, .int .u8 a0_1, .int .u8 a0_2]) (t := 38) ?hr ?_; (case hd => rfl); (case hg => rfl); (case hr => first | (go_simp; done) | (go_simp; rfl)); intro gb647 hg w9 hbox hb; have n0_ := Aside0.mk (below_step (by repeat (first | (with_reducible first | exact HB.out | apply below_alloc | apply pw_below_drewN | apply below_drew1) | exact HB.out)) hb); have n1_ := Aside0.mk (hbox); have n2_ := Aside0.mk ((by rw [hg]; exact (below_size (by repeat (first | (with_reducible first | exact HB.out | apply below_alloc | apply pw_below_drewN | apply below_drew1) | exact HB.out))) : w.heap.size ≤ gb647)); have n3_ := Aside0.mk ((by rw [hg]; exact (below_size (by repeat (first | (with_reducible first | exact HB.out | apply below_alloc | apply pw_below_drewN | apply below_drew1) | exact HB.out))) : w.heap.size ≤ gb647)); clear HB; have HB := n0_; have BK647 := n1_; have GW647 := n2_; have GE647 := n3_; clear n0_ n1_ n2_ n3_; clear hb hbox hg) | (go_at_call 15; (with_reducible refine (gambrellaw11_awake.calls k  t648 _ A3.out).mono ?_); rintro e w10 ⟨rfl, hb⟩; have n0_ := Aside0.mk (blk_below (g := gb647) (o := .cells #[.int .u8 a0_0, .int .u8 a0_1, .int .u8 a0_2] 38 (0, 0)) (by (with_reducible repeat (first | refine blk_drewN ?_ _ | refine blk_drew ?_ | refine blk_alloc ?_ _)); exact BK647.out) hb); have n1_ := Aside0.mk (below_step (by repeat (first | (with_reducible first | exact HB.out | apply below_alloc | apply pw_below_drewN | apply below_drew1 | refine below_set ?_ GE647.out) | exact HB.out)) hb); clear BK647; clear HB; have BK647 := n0_; have HB := n1_; clear n0_ n1_; (try clear hb); (try clear hb2); (try clear hk); (try clear hi); have hcz11_0 : w10.cell? ⟨gb647, 0, none⟩ = some (.int .u8 a0_0) := (blk_cell BK647.out 0).trans rfl; have hcz11_1 : w10.cell? ⟨gb647, 1, none⟩ = some (.int .u8 a0_1) := (blk_cell BK647.out 1).trans rfl; have hcz11_2 : w10.cell? ⟨gb647, 2, none⟩ = some (.int .u8 a0_2) := (blk_cell BK647.out 2).trans rfl; have hfz11_0 := blk_frozen BK647.out 0; have hfz11_1 := blk_frozen BK647.out 1; have hfz11_2 := blk_frozen BK647.out 2) | (go_at_call 24; (with_reducible refine (gambrelref09_Some.calls a0_0 a0_1 a0_2 t649 t650 t651 _ A7.out).mono ?_); rintro e w12 ⟨rfl, hb⟩; have n0_ := Aside0.mk (blk_below (g := gb647) (o := .cells #[.int .u8 a0_0, .int .u8 a0_1, .int .u8 a0_2] 38 (0, 0)) (by (with_reducible repeat (first | refine blk_drewN ?_ _ | refine blk_drew ?_ | refine blk_alloc ?_ _)); exact BK647.out) hb); have n1_ := Aside0.mk (below_step (by repeat (first | (with_reducible first | exact HB.out | apply below_alloc | apply pw_below_drewN | apply below_drew1 | refine below_set ?_ GE647.out) | exact HB.out)) hb); clear BK647; clear HB; have BK647 := n0_; have HB := n1_; clear n0_ n1_; (try clear hb); (try clear hb2); (try clear hk); (try clear hi)) | ((with_reducible refine gate_dst (N := 6) rfl ?_); (try (refine gate_guard (by rfl) ?_; dsimp only)); refine box_event ?hg (N := 6) ?hd (cs := #[.int .i64 0, .int .i64 0, .int .i64 0]) (t := 23) ?hr ?_; (case hd => rfl); (case hg => rfl); (case hr => first | (go_simp; done) | (go_simp; rfl)); intro gb652 hg w13 hbox hb; have n0_ := Aside0.mk (blk_below (g := gb647) (o := .cells #[.int .u8 a0_0, .int .u8 a0_1, .int .u8 a0_2] 38 (0, 0)) (by (with_reducible repeat (first | refine blk_drewN ?_ _ | refine blk_drew ?_ | refine blk_alloc ?_ _)); exact BK647.out) hb); have n1_ := Aside0.mk (below_step (by repeat (first | (with_reducible first | exact HB.out | apply below_alloc | apply pw_below_drewN | apply below_drew1 | refine below_set ?_ GE647.out) | exact HB.out)) hb); have n2_ := Aside0.mk (hbox); have n3_ := Aside0.mk ((by rw [hg]; exact (below_size (by repeat (first | (with_reducible first | exact HB.out | apply below_alloc | apply pw_below_drewN | apply below_drew1 | refine below_set ?_ GE647.out) | exact HB.out))) : w.heap.size ≤ gb652)); have n4_ := Aside0.mk ((by rw [hg]; exact (below_size (by repeat (first | (with_reducible first | exact HB.out | apply below_alloc | apply pw_below_drewN | apply below_drew1 | refine below_set ?_ GE647.out) | exact HB.out))) : w.heap.size ≤ gb652)); have n5_ := Aside0.mk ((by rw [hg]; exact Nat.ne_of_lt (blk_lt (g := gb647) (o := .cells #[.int .u8 a0_0, .int .u8 a0_1, .int .u8 a0_2] 38 (0, 0)) (by (with_reducible repeat (first | refine blk_drewN ?_ _ | refine blk_drew ?_ | refine blk_alloc ?_ _)); exact BK647.out)) : gb647 ≠ gb652)); have n6_ := Aside0.mk ((by rw [hg]; exact Nat.ne_of_gt (blk_lt (g := gb647) (o := .cells #[.int .u8 a0_0, .int .u8 a0_1, .int .u8 a0_2] 38 (0, 0)) (by (with_reducible repeat (first | refine blk_drewN ?_ _ | refine blk_drew ?_ | refine blk_alloc ?_ _)); exact BK647.out)) : gb652 ≠ gb647)); clear BK647; clear HB; have BK647 := n0_; have HB := n1_; have BK652 := n2_; have GW652 := n3_; have GE652 := n4_; have NB647_652 := n5_; have NB652_647 := n6_; clear n0_ n1_ n2_ n3_ n4_ n5_ n6_; clear hb hbox hg; have hnb14 := NB652_647.out; have hnc14 := NB647_652.out; have hcz15_0 : w13.cell? ⟨gb652, 0, none⟩ = some (.int .i64 0) := (blk_cell BK652.out 0).trans rfl; have hcz15_1 : w13.cell? ⟨gb652, 1, none⟩ = some (.int .i64 0) := (blk_cell BK652.out 1).trans rfl; have hcz15_2 : w13.cell? ⟨gb652, 2, none⟩ = some (.int .i64 0) := (blk_cell BK652.out 2).trans rfl; have hfz15_0 := blk_frozen BK652.out 0; have hfz15_1 := blk_frozen BK652.out 1; have hfz15_2 := blk_frozen BK652.out 2; have hcz16_0 : w13.cell? ⟨gb647, 0, none⟩ = some (.int .u8 a0_0) := (blk_cell BK647.out 0).trans rfl; have hcz16_1 : w13.cell? ⟨gb647, 1, none⟩ = some (.int .u8 a0_1) := (blk_cell BK647.out 1).trans rfl; have hcz16_2 : w13.cell? ⟨gb647, 2, none⟩ = some (.int .u8 a0_2) := (blk_cell BK647.out 2).trans rfl; have hfz16_0 := blk_frozen BK647.out 0; have hfz16_1 := blk_frozen BK647.out 1; have hfz16_2 := blk_frozen BK647.out 2)))
  (try simp only [Act.put, List.setIfInBounds_toArray, List.set_cons_zero, List.set_cons_succ])
  go_cut [] (fun wc => ∃ (kq : Nat) (x653000_7 : Int) (x653002_7 : Int), Aside0 (gambrellaw11_CodecXor.j0 kq l1 t648 x653000_7 t650 x653002_7 = some r) ∧ Aside0 (kq ≤ k) ∧ Aside0 (wc.heap[gb647]? = some (.cells #[.int .u8 a0_0, .int .u8 a0_1, .int .u8 a0_2] 38 (0, 0))) ∧ Aside0 (wc.heap[gb652]? = some (.cells #[.int .i64 x653000_7, .int .i64 t650, .int .i64 x653002_7] 23 (0, 0))) ∧ Aside0 (Below w.heap.size w wc))
  case first =>
   have H := HC8.out
   clear HC8
   by_cases c17 : (Int.tmod a0_0 2) = 0
   ·rw [if_pos c17] at H
    have c17b0 : ((Int.tmod a0_0 2) == 0) = true := beq_iff_eq.mpr c17
    have c17b1 : ((Int.tmod a0_0 2) != 0) = false := bne_eq_false_iff_eq.mpr c17
    clear c17
    (first | rw [c17b0] | (simp only [i64_w, i32_w]; rw [c17b0]) | skip)
    have H' := Aside0.mk H
    clear H
    have hnb18 := NB652_647.out
    have hnc18 := NB647_652.out
    have hcz19_0 : w13.cell? ⟨gb652, 0, none⟩ = some (.int .i64 0) := (blk_cell BK652.out 0).trans rfl
    have hcz19_1 : w13.cell? ⟨gb652, 1, none⟩ = some (.int .i64 0) := (blk_cell BK652.out 1).trans rfl
    have hcz19_2 : w13.cell? ⟨gb652, 2, none⟩ = some (.int .i64 0) := (blk_cell BK652.out 2).trans rfl
    have hfz19_0 := blk_frozen BK652.out 0
    have hfz19_1 := blk_frozen BK652.out 1
    have hfz19_2 := blk_frozen BK652.out 2
    go_wp2
    repeat (go_quiet (fail); try go_wp2)
    go_meet
    case rel => exact ⟨_, (1), (t651), H', ⟨by first | omega | exact Nat.le_refl _⟩, ⟨by (with_reducible repeat (first | refine blk_drewN ?_ _ | refine blk_drew ?_ | refine blk_alloc ?_ _)); refine blk_far ?_ NB647_652.out _; (with_reducible repeat (first | refine blk_drewN ?_ _ | refine blk_drew ?_ | refine blk_alloc ?_ _)); refine blk_far ?_ NB647_652.out _; (with_reducible repeat (first | refine blk_drewN ?_ _ | refine blk_drew ?_ | refine blk_alloc ?_ _)); refine blk_far ?_ NB647_652.out _; (with_reducible repeat (first | refine blk_drewN ?_ _ | refine blk_drew ?_ | refine blk_alloc ?_ _)); refine blk_far ?_ NB647_652.out _; (with_reducible repeat (first | refine blk_drewN ?_ _ | refine blk_drew ?_ | refine blk_alloc ?_ _)); exact BK647.out⟩, ⟨by (with_reducible repeat (first | refine blk_drewN ?_ _ | refine blk_drew ?_ | refine blk_alloc ?_ _)); refine blk_put (cs := #[.int .i64 t649, .int .i64 t650, .int .i64 t651]) ?_ 0 _ rfl; (with_reducible repeat (first | refine blk_drewN ?_ _ | refine blk_drew ?_ | refine blk_alloc ?_ _)); refine blk_put (cs := #[.int .i64 t649, .int .i64 t650, .int .i64 0]) ?_ 2 _ rfl; (with_reducible repeat (first | refine blk_drewN ?_ _ | refine blk_drew ?_ | refine blk_alloc ?_ _)); refine blk_put (cs := #[.int .i64 t649, .int .i64 0, .int .i64 0]) ?_ 1 _ rfl; (with_reducible repeat (first | refine blk_drewN ?_ _ | refine blk_drew ?_ | refine blk_alloc ?_ _)); refine blk_put (cs := #[.int .i64 0, .int .i64 0, .int .i64 0]) ?_ 0 _ rfl; (with_reducible repeat (first | refine blk_drewN ?_ _ | refine blk_drew ?_ | refine blk_alloc ?_ _)); exact BK652.out⟩, ⟨by repeat (first | (with_reducible first | exact HB.out | apply below_alloc | apply pw_below_drewN | apply below_drew1 | refine below_set ?_ GE647.out | refine below_set ?_ GE652.out) | exact HB.out)⟩⟩
   ·rw [if_neg c17] at H
    have c17b0 : ((Int.tmod a0_0 2) == 0) = false := beq_eq_false_iff_ne.mpr c17
    have c17b1 : ((Int.tmod a0_0 2) != 0) = true := bne_iff_ne.mpr c17
    (first | rw [c17b0] | (simp only [i64_w, i32_w]; rw [c17b0]) | skip)
    obtain ⟨ji20, hji20⟩ : ∃ j_ : Int, (mn t651 3) = j_ := ⟨_, rfl⟩
    replace H : (gambrellaw11_CodecXor.j0 k l1 t648 3 t650 ji20) = some r := by first | (rw [hji20] at H; exact H) | (simp only [hji20] at H ⊢; exact H)
    (try (have hji20h : ji20 ≤ 3 := by (rw [← hji20]; unfold mn; (repeat' split) <;> omega)))
    (try (have hji20g : ji20 ≤ 64 := by omega))
    have hji20_ : (if 3 < t651 then 3 else t651) = ji20 := hji20
    have H' := Aside0.mk H
    clear H
    have hnb21 := NB652_647.out
    have hnc21 := NB647_652.out
    have hcz22_0 : w13.cell? ⟨gb652, 0, none⟩ = some (.int .i64 0) := (blk_cell BK652.out 0).trans rfl
    have hcz22_1 : w13.cell? ⟨gb652, 1, none⟩ = some (.int .i64 0) := (blk_cell BK652.out 1).trans rfl
    have hcz22_2 : w13.cell? ⟨gb652, 2, none⟩ = some (.int .i64 0) := (blk_cell BK652.out 2).trans rfl
    have hfz22_0 := blk_frozen BK652.out 0
    have hfz22_1 := blk_frozen BK652.out 1
    have hfz22_2 := blk_frozen BK652.out 2
    go_wp2
    repeat (go_quiet (fail); try go_wp2)
    go_meet
    case rel => exact ⟨_, (3), (ji20), H', ⟨by first | omega | exact Nat.le_refl _⟩, ⟨by (with_reducible repeat (first | refine blk_drewN ?_ _ | refine blk_drew ?_ | refine blk_alloc ?_ _)); refine blk_far ?_ NB647_652.out _; (with_reducible repeat (first | refine blk_drewN ?_ _ | refine blk_drew ?_ | refine blk_alloc ?_ _)); refine blk_far ?_ NB647_652.out _; (with_reducible repeat (first | refine blk_drewN ?_ _ | refine blk_drew ?_ | refine blk_alloc ?_ _)); refine blk_far ?_ NB647_652.out _; (with_reducible repeat (first | refine blk_drewN ?_ _ | refine blk_drew ?_ | refine blk_alloc ?_ _)); refine blk_far ?_ NB647_652.out _; (with_reducible repeat (first | refine blk_drewN ?_ _ | refine blk_drew ?_ | refine blk_alloc ?_ _)); refine blk_far ?_ NB647_652.out _; (with_reducible repeat (first | refine blk_drewN ?_ _ | refine blk_drew ?_ | refine blk_alloc ?_ _)); exact BK647.out⟩, ⟨by (with_reducible repeat (first | refine blk_drewN ?_ _ | refine blk_drew ?_ | refine blk_alloc ?_ _)); refine blk_put (cs := #[.int .i64 3, .int .i64 t650, .int .i64 t651]) ?_ 2 _ rfl; (with_reducible repeat (first | refine blk_drewN ?_ _ | refine blk_drew ?_ | refine blk_alloc ?_ _)); refine blk_put (cs := #[.int .i64 t649, .int .i64 t650, .int .i64 t651]) ?_ 0 _ rfl; (with_reducible repeat (first | refine blk_drewN ?_ _ | refine blk_drew ?_ | refine blk_alloc ?_ _)); refine blk_put (cs := #[.int .i64 t649, .int .i64 t650, .int .i64 0]) ?_ 2 _ rfl; (with_reducible repeat (first | refine blk_drewN ?_ _ | refine blk_drew ?_ | refine blk_alloc ?_ _)); refine blk_put (cs := #[.int .i64 t649, .int .i64 0, .int .i64 0]) ?_ 1 _ rfl; (with_reducible repeat (first | refine blk_drewN ?_ _ | refine blk_drew ?_ | refine blk_alloc ?_ _)); refine blk_put (cs := #[.int .i64 0, .int .i64 0, .int .i64 0]) ?_ 0 _ rfl; (with_reducible repeat (first | refine blk_drewN ?_ _ | refine blk_drew ?_ | refine blk_alloc ?_ _)); exact BK652.out⟩, ⟨by repeat (first | (with_reducible first | exact HB.out | apply below_alloc | apply pw_below_drewN | apply below_drew1 | refine below_set ?_ GE647.out | refine below_set ?_ GE652.out) | exact HB.out)⟩⟩
  case rest =>
   clear HC8
   try clear c1
   try clear c2
   try clear p2
   try clear c4
   try clear c4b0
   try clear c4b1
   try clear c7
   try clear c14
   try clear c17
   try clear c17b0
   try clear c17b1
   try clear c18
   try clear c21
   try clear hcz11_0
   try clear hcz11_1
   try clear hcz11_2
   try clear hcz15_0
   try clear hcz15_1
   try clear hcz15_2
   try clear hcz16_0
   try clear hcz16_1
   try clear hcz16_2
   try clear hcz19_0
   try clear hcz19_1
   try clear hcz19_2
   try clear hcz22_0
   try clear hcz22_1
   try clear hcz22_2
   try clear hfz11_0
   try clear hfz11_1
   try clear hfz11_2
   try clear hfz15_0
   try clear hfz15_1
   try clear hfz15_2
   try clear hfz16_0
   try clear hfz16_1
   try clear hfz16_2
   try clear hfz19_0
   try clear hfz19_1
   try clear hfz19_2
   try clear hfz22_0
   try clear hfz22_1
   try clear hfz22_2
   obtain ⟨kq, x653000_7, x653002_7, HA, HJ7, BK647, BK652, HB⟩ := hcut
   cases kq with
   | zero => exact absurd HA.out (by simp [gambrellaw11_CodecXor.j0])
   | succ kj7 =>
    have H := HA.out
    clear HA
    simp only [gambrellaw11_CodecXor.j0] at H
    replace H := Option.bind_eq_some_iff.mp H
    obtain ⟨⟨t653, t656⟩, A230, H⟩ := H
    replace H : (if t656 = 0 then (gambrellaw11_CodecXor.j1 kj7 t648 t653 ((t653.length : Int) != (wrap64 (t650 + x653002_7))) x653000_7 t650 x653002_7) else (gambrellaw11_CodecXor.j1 kj7 t648 t653 true x653000_7 t650 x653002_7)) = some r := H
    have A23 := Aside0.mk A230
    clear A230
    have HC24 := Aside0.mk H
    clear H
    have hnb25 := NB652_647.out
    have hnc25 := NB647_652.out
    have hcz26_0 : wc.cell? ⟨gb652, 0, none⟩ = some (.int .i64 x653000_7) := (blk_cell BK652.out 0).trans rfl
    have hcz26_1 : wc.cell? ⟨gb652, 1, none⟩ = some (.int .i64 t650) := (blk_cell BK652.out 1).trans rfl
    have hcz26_2 : wc.cell? ⟨gb652, 2, none⟩ = some (.int .i64 x653002_7) := (blk_cell BK652.out 2).trans rfl
    have hfz26_0 := blk_frozen BK652.out 0
    have hfz26_1 := blk_frozen BK652.out 1
    have hfz26_2 := blk_frozen BK652.out 2
    go_upto_region 10 with (first | (go_at_call 22; (with_reducible refine (codec_Encode.calls kj7 x653000_7 t650 x653002_7 _ _ l1 t653 t656 _ ?side1 ?side2 A23.out).mono ?_); (case side1 => repeat (first | exact (Kd.C_below HR1.out HB.out) | (with_reducible refine Kd.C_alloc ?_ _) | (with_reducible refine Kd.C_drewN ?_ _) | (with_reducible refine Kd.C_drew ?_))); (case side2 => exact HC1.out); rintro e w27 ⟨v654, rfl, ho0, hb⟩; have n0_ := Aside0.mk (Kd.N_lower (Kd.N_mono (ok' := fun k_ => k_ ≠ gb647 ∧ k_ ≠ gb652) ho0 (fun k_ hk_ => ⟨(Kd.freshB (g := gb647) (o := .cells #[.int .u8 a0_0, .int .u8 a0_1, .int .u8 a0_2] 38 (0, 0)) (by (with_reducible repeat (first | refine blk_drewN ?_ _ | refine blk_drew ?_ | refine blk_alloc ?_ _)); exact BK647.out) k_ hk_), (Kd.freshB (g := gb652) (o := .cells #[.int .i64 x653000_7, .int .i64 t650, .int .i64 x653002_7] 23 (0, 0)) (by (with_reducible repeat (first | refine blk_drewN ?_ _ | refine blk_drew ?_ | refine blk_alloc ?_ _)); exact BK652.out) k_ hk_)⟩)) (below_size (by repeat (first | (with_reducible first | exact HB.out | apply below_alloc | apply pw_below_drewN | apply below_drew1 | refine below_set ?_ GE647.out | refine below_set ?_ GE652.out) | exact HB.out)))); have n1_ := Aside0.mk (blk_below (g := gb647) (o := .cells #[.int .u8 a0_0, .int .u8 a0_1, .int .u8 a0_2] 38 (0, 0)) (by (with_reducible repeat (first | refine blk_drewN ?_ _ | refine blk_drew ?_ | refine blk_alloc ?_ _)); exact BK647.out) hb); have n2_ := Aside0.mk (blk_below (g := gb652) (o := .cells #[.int .i64 x653000_7, .int .i64 t650, .int .i64 x653002_7] 23 (0, 0)) (by (with_reducible repeat (first | refine blk_drewN ?_ _ | refine blk_drew ?_ | refine blk_alloc ?_ _)); exact BK652.out) hb); have n3_ := Aside0.mk (below_step (by repeat (first | (with_reducible first | exact HB.out | apply below_alloc | apply pw_below_drewN | apply below_drew1 | refine below_set ?_ GE647.out | refine below_set ?_ GE652.out) | exact HB.out)) hb); clear BK647; clear BK652; clear HB; have HO655 := n0_; have BK647 := n1_; have BK652 := n2_; have HB := n3_; clear n0_ n1_ n2_ n3_; (try clear hb); (try clear hb2); (try clear hk); (try clear hi); (try clear ho0)))
    repeat (go_quiet (first | (go_at_call 22; (with_reducible refine (codec_Encode.calls kj7 x653000_7 t650 x653002_7 _ _ l1 t653 t656 _ ?side1 ?side2 A23.out).mono ?_); (case side1 => repeat (first | exact (Kd.C_below HR1.out HB.out) | (with_reducible refine Kd.C_alloc ?_ _) | (with_reducible refine Kd.C_drewN ?_ _) | (with_reducible refine Kd.C_drew ?_))); (case side2 => exact HC1.out); rintro e w27 ⟨v654, rfl, ho0, hb⟩; have n0_ := Aside0.mk (Kd.N_lower (Kd.N_mono (ok' := fun k_ => k_ ≠ gb647 ∧ k_ ≠ gb652) ho0 (fun k_ hk_ => ⟨(Kd.freshB (g := gb647) (o := .cells #[.int .u8 a0_0, .int .u8 a0_1, .int .u8 a0_2] 38 (0, 0)) (by (with_reducible repeat (first | refine blk_drewN ?_ _ | refine blk_drew ?_ | refine blk_alloc ?_ _)); exact BK647.out) k_ hk_), (Kd.freshB (g := gb652) (o := .cells #[.int .i64 x653000_7, .int .i64 t650, .int .i64 x653002_7] 23 (0, 0)) (by (with_reducible repeat (first | refine blk_drewN ?_ _ | refine blk_drew ?_ | refine blk_alloc ?_ _)); exact BK652.out) k_ hk_)⟩)) (below_size (by repeat (first | (with_reducible first | exact HB.out | apply below_alloc | apply pw_below_drewN | apply below_drew1 | refine below_set ?_ GE647.out | refine below_set ?_ GE652.out) | exact HB.out)))); have n1_ := Aside0.mk (blk_below (g := gb647) (o := .cells #[.int .u8 a0_0, .int .u8 a0_1, .int .u8 a0_2] 38 (0, 0)) (by (with_reducible repeat (first | refine blk_drewN ?_ _ | refine blk_drew ?_ | refine blk_alloc ?_ _)); exact BK647.out) hb); have n2_ := Aside0.mk (blk_below (g := gb652) (o := .cells #[.int .i64 x653000_7, .int .i64 t650, .int .i64 x653002_7] 23 (0, 0)) (by (with_reducible repeat (first | refine blk_drewN ?_ _ | refine blk_drew ?_ | refine blk_alloc ?_ _)); exact BK652.out) hb); have n3_ := Aside0.mk (below_step (by repeat (first | (with_reducible first | exact HB.out | apply below_alloc | apply pw_below_drewN | apply below_drew1 | refine below_set ?_ GE647.out | refine below_set ?_ GE652.out) | exact HB.out)) hb); clear BK647; clear BK652; clear HB; have HO655 := n0_; have BK647 := n1_; have BK652 := n2_; have HB := n3_; clear n0_ n1_ n2_ n3_; (try clear hb); (try clear hb2); (try clear hk); (try clear hi); (try clear ho0))); go_upto_region 10 with (first | (go_at_call 22; (with_reducible refine (codec_Encode.calls kj7 x653000_7 t650 x653002_7 _ _ l1 t653 t656 _ ?side1 ?side2 A23.out).mono ?_); (case side1 => repeat (first | exact (Kd.C_below HR1.out HB.out) | (with_reducible refine Kd.C_alloc ?_ _) | (with_reducible refine Kd.C_drewN ?_ _) | (with_reducible refine Kd.C_drew ?_))); (case side2 => exact HC1.out); rintro e w27 ⟨v654, rfl, ho0, hb⟩; have n0_ := Aside0.mk (Kd.N_lower (Kd.N_mono (ok' := fun k_ => k_ ≠ gb647 ∧ k_ ≠ gb652) ho0 (fun k_ hk_ => ⟨(Kd.freshB (g := gb647) (o := .cells #[.int .u8 a0_0, .int .u8 a0_1, .int .u8 a0_2] 38 (0, 0)) (by (with_reducible repeat (first | refine blk_drewN ?_ _ | refine blk_drew ?_ | refine blk_alloc ?_ _)); exact BK647.out) k_ hk_), (Kd.freshB (g := gb652) (o := .cells #[.int .i64 x653000_7, .int .i64 t650, .int .i64 x653002_7] 23 (0, 0)) (by (with_reducible repeat (first | refine blk_drewN ?_ _ | refine blk_drew ?_ | refine blk_alloc ?_ _)); exact BK652.out) k_ hk_)⟩)) (below_size (by repeat (first | (with_reducible first | exact HB.out | apply below_alloc | apply pw_below_drewN | apply below_drew1 | refine below_set ?_ GE647.out | refine below_set ?_ GE652.out) | exact HB.out)))); have n1_ := Aside0.mk (blk_below (g := gb647) (o := .cells #[.int .u8 a0_0, .int .u8 a0_1, .int .u8 a0_2] 38 (0, 0)) (by (with_reducible repeat (first | refine blk_drewN ?_ _ | refine blk_drew ?_ | refine blk_alloc ?_ _)); exact BK647.out) hb); have n2_ := Aside0.mk (blk_below (g := gb652) (o := .cells #[.int .i64 x653000_7, .int .i64 t650, .int .i64 x653002_7] 23 (0, 0)) (by (with_reducible repeat (first | refine blk_drewN ?_ _ | refine blk_drew ?_ | refine blk_alloc ?_ _)); exact BK652.out) hb); have n3_ := Aside0.mk (below_step (by repeat (first | (with_reducible first | exact HB.out | apply below_alloc | apply pw_below_drewN | apply below_drew1 | refine below_set ?_ GE647.out | refine below_set ?_ GE652.out) | exact HB.out)) hb); clear BK647; clear BK652; clear HB; have HO655 := n0_; have BK647 := n1_; have BK652 := n2_; have HB := n3_; clear n0_ n1_ n2_ n3_; (try clear hb); (try clear hb2); (try clear hk); (try clear hi); (try clear ho0))))
    (try simp only [Act.put, List.setIfInBounds_toArray, List.set_cons_zero, List.set_cons_succ])
    go_cut [46] (fun v46 wc => ∃ (kq : Nat) (x46_23 : Bool), v46 = .bool x46_23 ∧ Aside0 (gambrellaw11_CodecXor.j1 kq t648 t653 x46_23 x653000_7 t650 x653002_7 = some r) ∧ Aside0 (kq ≤ kj7) ∧ Aside0 (Kd.N (Kd.slice 5 (Kd.int .u8)) 34 wc w.heap.size (fun k_ => k_ ≠ gb647 ∧ k_ ≠ gb652) v654 t653) ∧ Aside0 (wc.heap[gb647]? = some (.cells #[.int .u8 a0_0, .int .u8 a0_1, .int .u8 a0_2] 38 (0, 0))) ∧ Aside0 (wc.heap[gb652]? = some (.cells #[.int .i64 x653000_7, .int .i64 t650, .int .i64 x653002_7] 23 (0, 0))) ∧ Aside0 (Below w.heap.size w wc))
    case first =>
     have H := HC24.out
     clear HC24
     by_cases c28 : t656 = 0
     ·rw [if_pos c28] at H
      have c28b0 : (t656 == 0) = true := beq_iff_eq.mpr c28
      have c28b1 : (t656 != 0) = false := bne_eq_false_iff_eq.mpr c28
      clear c28
      (first | rw [c28b0] | (simp only [i64_w, i32_w]; rw [c28b0]) | skip)
      have H' := Aside0.mk H
      clear H
      obtain ⟨Ao29, co29, eo29⟩ := Kd.N_slice HO655.out
      subst eo29
      have hnb30 := NB652_647.out
      have hnc30 := NB647_652.out
      have hcz31_0 : w27.cell? ⟨gb652, 0, none⟩ = some (.int .i64 x653000_7) := (blk_cell BK652.out 0).trans rfl
      have hcz31_1 : w27.cell? ⟨gb652, 1, none⟩ = some (.int .i64 t650) := (blk_cell BK652.out 1).trans rfl
      have hcz31_2 : w27.cell? ⟨gb652, 2, none⟩ = some (.int .i64 x653002_7) := (blk_cell BK652.out 2).trans rfl
      have hfz31_0 := blk_frozen BK652.out 0
      have hfz31_1 := blk_frozen BK652.out 1
      have hfz31_2 := blk_frozen BK652.out 2
      go_wp2
      repeat (go_quiet (fail); try go_wp2)
      go_meet
      case rel => exact ⟨_, (((t653.length : Int) != (wrap64 (t650 + x653002_7)))), (by first | rfl | (simp; done) | (simp [*]; done)), H', ⟨by have := HJ7.out; first | omega | exact Nat.le_refl _⟩, ⟨by (with_reducible repeat (first | apply Kd.N_alloc | apply Kd.N_drewN | apply Kd.N_drew)); exact HO655.out⟩, ⟨by (with_reducible repeat (first | refine blk_drewN ?_ _ | refine blk_drew ?_ | refine blk_alloc ?_ _)); exact BK647.out⟩, ⟨by (with_reducible repeat (first | refine blk_drewN ?_ _ | refine blk_drew ?_ | refine blk_alloc ?_ _)); exact BK652.out⟩, ⟨by repeat (first | (with_reducible first | exact HB.out | apply below_alloc | apply pw_below_drewN | apply below_drew1 | refine below_set ?_ GE647.out | refine below_set ?_ GE652.out) | exact HB.out)⟩⟩
     ·rw [if_neg c28] at H
      have c28b0 : (t656 == 0) = false := beq_eq_false_iff_ne.mpr c28
      have c28b1 : (t656 != 0) = true := bne_iff_ne.mpr c28
      (first | rw [c28b0] | (simp only [i64_w, i32_w]; rw [c28b0]) | skip)
      have H' := Aside0.mk H
      clear H
      go_wp2
      repeat (go_quiet (fail); try go_wp2)
      go_meet
      case rel => exact ⟨_, (true), (by first | rfl | (simp; done) | (simp [*]; done)), H', ⟨by have := HJ7.out; first | omega | exact Nat.le_refl _⟩, ⟨by (with_reducible repeat (first | apply Kd.N_alloc | apply Kd.N_drewN | apply Kd.N_drew)); exact HO655.out⟩, ⟨by (with_reducible repeat (first | refine blk_drewN ?_ _ | refine blk_drew ?_ | refine blk_alloc ?_ _)); exact BK647.out⟩, ⟨by (with_reducible repeat (first | refine blk_drewN ?_ _ | refine blk_drew ?_ | refine blk_alloc ?_ _)); exact BK652.out⟩, ⟨by repeat (first | (with_reducible first | exact HB.out | apply below_alloc | apply pw_below_drewN | apply below_drew1 | refine below_set ?_ GE647.out | refine below_set ?_ GE652.out) | exact HB.out)⟩⟩
    case rest =>
     clear HC24
     try clear c1
     try clear c2
     try clear p2
     try clear c3
     try clear c4
     try clear c4b0
     try clear c4b1
     try clear p6
     try clear c7
     try clear c14
     try clear c17
     try clear c17b0
     try clear c17b1
     try clear c18
     try clear c21
     try clear c25
     try clear c28
     try clear c28b0
     try clear c28b1
     try clear c30
     try clear hcz11_0
     try clear hcz11_1
     try clear hcz11_2
     try clear hcz15_0
     try clear hcz15_1
     try clear hcz15_2
     try clear hcz16_0
     try clear hcz16_1
     try clear hcz16_2
     try clear hcz19_0
     try clear hcz19_1
     try clear hcz19_2
     try clear hcz22_0
     try clear hcz22_1
     try clear hcz22_2
     try clear hcz26_0
     try clear hcz26_1
     try clear hcz26_2
     try clear hcz31_0
     try clear hcz31_1
     try clear hcz31_2
     try clear hfz11_0
     try clear hfz11_1
     try clear hfz11_2
     try clear hfz15_0
     try clear hfz15_1
     try clear hfz15_2
     try clear hfz16_0
     try clear hfz16_1
     try clear hfz16_2
     try clear hfz19_0
     try clear hfz19_1
     try clear hfz19_2
     try clear hfz22_0
     try clear hfz22_1
     try clear hfz22_2
     try clear hfz26_0
     try clear hfz26_1
     try clear hfz26_2
     try clear hfz31_0
     try clear hfz31_1
     try clear hfz31_2
     try clear p2
     obtain ⟨kq, x46_23, rfl, HA, HJ23, HO_7, BK647, BK652, HB⟩ := hcut
     cases kq with
     | zero => exact absurd HA.out (by simp [gambrellaw11_CodecXor.j1])
     | succ kj23 =>
      have H := HA.out
      clear HA
      simp only [gambrellaw11_CodecXor.j1] at H
      by_cases c32 : x46_23 = true
      ·subst c32
       have H1 : (some false) = some r := by rw [if_pos rfl] at H; exact H
       clear H
       have H := H1
       clear H1
       exact absurd ((Option.some.inj H).trans hr_.out) (by simp)
      ·replace c32 := Bool.eq_false_iff.mpr c32
       subst c32
       have H1 : (gambrellaw11_CodecXor.l0 kj23 t648 t653 0 x653000_7 t650 x653002_7) = some r := by rw [if_neg (show ¬ (false = true) by decide)] at H; exact H
       clear H
       have H := H1
       clear H1
       have H' := Aside0.mk H
       clear H
       go_wp2
       repeat (go_quiet (fail); try go_wp2)
       go_loopg [9] kj23 (fun kq v9 w' => ∃ (x9_3 : Int), v9 = .int .i64 x9_3 ∧ Aside0 (gambrellaw11_CodecXor.l0 kq t648 t653 x9_3 x653000_7 t650 x653002_7 = some r) ∧ Aside0 (kq ≤ kj23) ∧ Aside0 (Kd.N (Kd.slice 5 (Kd.int .u8)) 34 w' w.heap.size (fun k_ => k_ ≠ gb647 ∧ k_ ≠ gb652) v654 t653) ∧ Aside0 (w'.heap[gb647]? = some (.cells #[.int .u8 a0_0, .int .u8 a0_1, .int .u8 a0_2] 38 (0, 0))) ∧ Aside0 (w'.heap[gb652]? = some (.cells #[.int .i64 x653000_7, .int .i64 t650, .int .i64 x653002_7] 23 (0, 0))) ∧ Aside0 (Below w.heap.size w w'))
       case atStart => exact ⟨(0), (by first | rfl | (simp; done) | (simp [*]; done)), H', ⟨Nat.le_refl _⟩, ⟨by (with_reducible repeat (first | apply Kd.N_alloc | apply Kd.N_drewN | apply Kd.N_drew)); exact HO_7.out⟩, ⟨by (with_reducible repeat (first | refine blk_drewN ?_ _ | refine blk_drew ?_ | refine blk_alloc ?_ _)); exact BK647.out⟩, ⟨by (with_reducible repeat (first | refine blk_drewN ?_ _ | refine blk_drew ?_ | refine blk_alloc ?_ _)); exact BK652.out⟩, ⟨by repeat (first | (with_reducible first | exact HB.out | apply below_alloc | apply pw_below_drewN | apply below_drew1 | refine below_set ?_ GE647.out | refine below_set ?_ GE652.out) | exact HB.out)⟩⟩
       case round =>
        clear H'
        try clear c1
        try clear c2
        try clear p2
        try clear c3
        try clear c4
        try clear c4b0
        try clear c4b1
        try clear p6
        try clear c7
        try clear c14
        try clear c17
        try clear c17b0
        try clear c17b1
        try clear c18
        try clear c21
        try clear c25
        try clear c28
        try clear c28b0
        try clear c28b1
        try clear c30
        try clear c32
        try clear hcz11_0
        try clear hcz11_1
        try clear hcz11_2
        try clear hcz15_0
        try clear hcz15_1
        try clear hcz15_2
        try clear hcz16_0
        try clear hcz16_1
        try clear hcz16_2
        try clear hcz19_0
        try clear hcz19_1
        try clear hcz19_2
        try clear hcz22_0
        try clear hcz22_1
        try clear hcz22_2
        try clear hcz26_0
        try clear hcz26_1
        try clear hcz26_2
        try clear hcz31_0
        try clear hcz31_1
        try clear hcz31_2
        try clear hfz11_0
        try clear hfz11_1
        try clear hfz11_2
        try clear hfz15_0
        try clear hfz15_1
        try clear hfz15_2
        try clear hfz16_0
        try clear hfz16_1
        try clear hfz16_2
        try clear hfz19_0
        try clear hfz19_1
        try clear hfz19_2
        try clear hfz22_0
        try clear hfz22_1
        try clear hfz22_2
        try clear hfz26_0
        try clear hfz26_1
        try clear hfz26_2
        try clear hfz31_0
        try clear hfz31_1
        try clear hfz31_2
        try clear p2
        try clear p6
        obtain ⟨x9_3, rfl, HA, HK3, HO_7, BK647, BK652, HB⟩ := hrel
        cases gk with
        | zero => exact absurd HA.out (by simp [gambrellaw11_CodecXor.l0])
        | succ k3 =>
         have H := HA.out
         clear HA
         simp only [gambrellaw11_CodecXor.l0] at H
         by_cases c33 : 0 ≤ t650
         ·rw [if_pos c33] at H
          have c33b0 : decide (0 ≤ t650) = true := decide_eq_true c33
          clear c33
          by_cases c34 : t650 < (t653.length : Int)
          ·rw [if_pos c34] at H
           have c34b0 : decide (t650 < (t653.length : Int)) = true := decide_eq_true c34
           clear c34
           by_cases c35 : x9_3 < ((rd_L1 t653 t650).length : Int)
           ·rw [if_pos c35] at H
            have c35b0 : decide (x9_3 < ((rd_L1 t653 t650).length : Int)) = true := decide_eq_true c35
            clear c35
            have H' := Aside0.mk H
            clear H
            have hnb36 := NB652_647.out
            have hnc36 := NB647_652.out
            have hcz37_0 : wr.cell? ⟨gb652, 0, none⟩ = some (.int .i64 x653000_7) := (blk_cell BK652.out 0).trans rfl
            have hcz37_1 : wr.cell? ⟨gb652, 1, none⟩ = some (.int .i64 t650) := (blk_cell BK652.out 1).trans rfl
            have hcz37_2 : wr.cell? ⟨gb652, 2, none⟩ = some (.int .i64 x653002_7) := (blk_cell BK652.out 2).trans rfl
            have hfz37_0 := blk_frozen BK652.out 0
            have hfz37_1 := blk_frozen BK652.out 1
            have hfz37_2 := blk_frozen BK652.out 2
            obtain ⟨Ao38, co38, eo38⟩ := Kd.N_slice HO_7.out
            subst eo38
            have p657 : 0 ≤ (t650 : Int) := of_decide_eq_true (by first | (with_reducible assumption) | assumption)
            have q657 : t650 < (t653.length : Int) := of_decide_eq_true (by first | (with_reducible assumption) | assumption)
            obtain ⟨ad657, A657_0, c657_0, e657, hx657_0, hl657_0, hi657_0⟩ := at_L1 (Kd.N_reads' HO_7.out).2.2 t650 p657 q657
            cases e657
            obtain ⟨ce657, hce657, hMe657, hcc657⟩ := Kd.N_get HO_7.out [] t650 p657 (by first | exact q657 | exact of_decide_eq_true (by first | (with_reducible assumption) | assumption) | (have e_ := (Kd.N_reads' HO_7.out).1; omega))
            obtain ⟨ua657_0, uc657_0, rfl, ul657_0, ge657_0⟩ := Kd.FK_slice_open hMe657
            have hv657_0 := hcc657 0 _ rfl
            rw [Nat.add_zero, show ((Kd.slice 5 (Kd.int .u8))).sz = 1 from rfl, Nat.mul_one] at hv657_0
            replace hv657_0 := Option.some.inj (hv657_0.symm.trans hx657_0)
            injection hv657_0 with hva_ hvn_ hvc_
            rw [hva_] at ge657_0
            rw [hvc_] at ul657_0
            have HL657_0 := Aside0.mk (show Kd.V (Kd.int .u8) 5 _ w.heap.size _ _ (rd_L1 t653 t650) from Kd.V_mk ul657_0 ge657_0)
            clear hva_ hvn_ hvc_ ge657_0 ul657_0
            clear hcc657 hce657
            have HR657_0 := Aside0.mk hi657_0
            have HC657_0 := Aside0.mk hl657_0
            clear hi657_0 hl657_0
            replace p657 := eq_true p657
            replace q657 := eq_true q657
            go_wp2
            repeat (go_quiet (fail); try go_wp2)
            go_loopg [10, 11] k3 (fun kq v10 v11 w' => ∃ (x10_4 : Int) (x11_4 : Int), v10 = .int .u8 x10_4 ∧ v11 = .int .i64 x11_4 ∧ Aside0 (gambrellaw11_CodecXor.l1 kq t648 t653 x9_3 x10_4 x11_4 x653000_7 t650 x653002_7 = some r) ∧ Aside0 (kq ≤ k3) ∧ Aside0 (Kd.N (Kd.slice 5 (Kd.int .u8)) 34 w' w.heap.size (fun k_ => k_ ≠ gb647 ∧ k_ ≠ gb652) (.slice (some ad657) t653.length co38) t653) ∧ Aside0 (w'.heap[gb647]? = some (.cells #[.int .u8 a0_0, .int .u8 a0_1, .int .u8 a0_2] 38 (0, 0))) ∧ Aside0 (w'.heap[gb652]? = some (.cells #[.int .i64 x653000_7, .int .i64 t650, .int .i64 x653002_7] 23 (0, 0))) ∧ Aside0 (Kd.C (Kd.int .u8) w' A657_0 (rd_L1 t653 t650).length (rd_L1 t653 t650)) ∧ Aside0 (Below w.heap.size w w'))
            case atStart => exact ⟨(0), (0), (by first | rfl | (simp; done) | (simp [*]; done)), (by first | rfl | (simp; done) | (simp [*]; done)), H', ⟨Nat.le_refl _⟩, ⟨by (with_reducible repeat (first | apply Kd.N_alloc | apply Kd.N_drewN | apply Kd.N_drew)); exact HO_7.out⟩, ⟨by (with_reducible repeat (first | refine blk_drewN ?_ _ | refine blk_drew ?_ | refine blk_alloc ?_ _)); exact BK647.out⟩, ⟨by (with_reducible repeat (first | refine blk_drewN ?_ _ | refine blk_drew ?_ | refine blk_alloc ?_ _)); exact BK652.out⟩, ⟨by repeat (first | (with_reducible exact HR657_0.out) | (with_reducible refine Kd.C_alloc ?_ _) | (with_reducible refine Kd.C_drewN ?_ _) | (with_reducible refine Kd.C_drew ?_) | exact HR657_0.out)⟩, ⟨by repeat (first | (with_reducible first | exact HB.out | apply below_alloc | apply pw_below_drewN | apply below_drew1 | refine below_set ?_ GE647.out | refine below_set ?_ GE652.out) | exact HB.out)⟩⟩
            case round =>
             clear H'
             try clear c1
             try clear c2
             try clear p2
             try clear c3
             try clear c4
             try clear c4b0
             try clear c4b1
             try clear c6
             try clear p6
             try clear q6
             try clear hx6
             try clear c7
             try clear c14
             try clear c17
             try clear c17b0
             try clear c17b1
             try clear c18
             try clear c21
             try clear c25
             try clear c28
             try clear c28b0
             try clear c28b1
             try clear c30
             try clear c32
             try clear c33
             try clear c33b0
             try clear c34
             try clear c34b0
             try clear c35
             try clear c35b0
             try clear c36
             try clear hcz11_0
             try clear hcz11_1
             try clear hcz11_2
             try clear hcz15_0
             try clear hcz15_1
             try clear hcz15_2
             try clear hcz16_0
             try clear hcz16_1
             try clear hcz16_2
             try clear hcz19_0
             try clear hcz19_1
             try clear hcz19_2
             try clear hcz22_0
             try clear hcz22_1
             try clear hcz22_2
             try clear hcz26_0
             try clear hcz26_1
             try clear hcz26_2
             try clear hcz31_0
             try clear hcz31_1
             try clear hcz31_2
             try clear hcz37_0
             try clear hcz37_1
             try clear hcz37_2
             try clear hfz11_0
             try clear hfz11_1
             try clear hfz11_2
             try clear hfz15_0
             try clear hfz15_1
             try clear hfz15_2
             try clear hfz16_0
             try clear hfz16_1
             try clear hfz16_2
             try clear hfz19_0
             try clear hfz19_1
             try clear hfz19_2
             try clear hfz22_0
             try clear hfz22_1
             try clear hfz22_2
             try clear hfz26_0
             try clear hfz26_1
             try clear hfz26_2
             try clear hfz31_0
             try clear hfz31_1
             try clear hfz31_2
             try clear hfz37_0
             try clear hfz37_1
             try clear hfz37_2
             try clear hx657_0
             try clear p2
             try clear p6
             try clear p657
             try clear q657
             obtain ⟨x10_4, x11_4, rfl, rfl, HA, HK4, HO_7, BK647, BK652, HR657_0, HB⟩ := hrel
             cases gk with
             | zero => exact absurd HA.out (by simp [gambrellaw11_CodecXor.l1])
             | succ k4 =>
              have H := HA.out
              clear HA
              simp only [gambrellaw11_CodecXor.l1] at H
              by_cases c39 : x11_4 < t650
              ·rw [if_pos c39] at H
               have c39b0 : decide (x11_4 < t650) = true := decide_eq_true c39
               clear c39
               by_cases c40 : 0 ≤ x11_4
               ·rw [if_pos c40] at H
                have c40b0 : decide (0 ≤ x11_4) = true := decide_eq_true c40
                clear c40
                by_cases c41 : x11_4 < (t653.length : Int)
                ·rw [if_pos c41] at H
                 have c41b0 : decide (x11_4 < (t653.length : Int)) = true := decide_eq_true c41
                 clear c41
                 by_cases c42 : 0 ≤ t650
                 ·rw [if_pos c42] at H
                  have c42b0 : decide (0 ≤ t650) = true := decide_eq_true c42
                  clear c42
                  by_cases c43 : t650 < (t653.length : Int)
                  ·rw [if_pos c43] at H
                   have c43b0 : decide (t650 < (t653.length : Int)) = true := decide_eq_true c43
                   clear c43
                   by_cases c44 : ((rd_L1 t653 x11_4).length : Int) = ((rd_L1 t653 t650).length : Int)
                   ·rw [if_pos c44] at H
                    have c44b0 : (((rd_L1 t653 x11_4).length : Int) == ((rd_L1 t653 t650).length : Int)) = true := beq_iff_eq.mpr c44
                    have c44b1 : (((rd_L1 t653 x11_4).length : Int) != ((rd_L1 t653 t650).length : Int)) = false := bne_eq_false_iff_eq.mpr c44
                    have c44b2 : ((rd_L1 t653 x11_4).length == (rd_L1 t653 t650).length) = true := by first | simpa using c44 | (simp at c44 ⊢; omega)
                    clear c44
                    by_cases c45 : 0 ≤ x9_3
                    ·rw [if_pos c45] at H
                     have c45b0 : decide (0 ≤ x9_3) = true := decide_eq_true c45
                     clear c45
                     by_cases c46 : x9_3 < ((rd_L1 t653 x11_4).length : Int)
                     ·rw [if_pos c46] at H
                      have c46b0 : decide (x9_3 < ((rd_L1 t653 x11_4).length : Int)) = true := decide_eq_true c46
                      clear c46
                      have H' := Aside0.mk H
                      clear H
                      have hnb47 := NB652_647.out
                      have hnc47 := NB647_652.out
                      have hcz48_0 : wr.cell? ⟨gb652, 0, none⟩ = some (.int .i64 x653000_7) := (blk_cell BK652.out 0).trans rfl
                      have hcz48_1 : wr.cell? ⟨gb652, 1, none⟩ = some (.int .i64 t650) := (blk_cell BK652.out 1).trans rfl
                      have hcz48_2 : wr.cell? ⟨gb652, 2, none⟩ = some (.int .i64 x653002_7) := (blk_cell BK652.out 2).trans rfl
                      have hfz48_0 := blk_frozen BK652.out 0
                      have hfz48_1 := blk_frozen BK652.out 1
                      have hfz48_2 := blk_frozen BK652.out 2
                      have p658 : 0 ≤ (x11_4 : Int) := of_decide_eq_true (by first | (with_reducible assumption) | assumption)
                      have q658 : x11_4 < (t653.length : Int) := of_decide_eq_true (by first | (with_reducible assumption) | assumption)
                      obtain ⟨ad658, A658_0, c658_0, e658, hx658_0, hl658_0, hi658_0⟩ := at_L1 (Kd.N_reads' HO_7.out).2.2 x11_4 p658 q658
                      obtain rfl : ad657 = ad658 := (by injection e658)
                      obtain ⟨ce658, hce658, hMe658, hcc658⟩ := Kd.N_get HO_7.out [] x11_4 p658 (by first | exact q658 | exact of_decide_eq_true (by first | (with_reducible assumption) | assumption) | (have e_ := (Kd.N_reads' HO_7.out).1; omega))
                      obtain ⟨ua658_0, uc658_0, rfl, ul658_0, ge658_0⟩ := Kd.FK_slice_open hMe658
                      have hv658_0 := hcc658 0 _ rfl
                      rw [Nat.add_zero, show ((Kd.slice 5 (Kd.int .u8))).sz = 1 from rfl, Nat.mul_one] at hv658_0
                      replace hv658_0 := Option.some.inj (hv658_0.symm.trans hx658_0)
                      injection hv658_0 with hva_ hvn_ hvc_
                      rw [hva_] at ge658_0
                      rw [hvc_] at ul658_0
                      have HL658_0 := Aside0.mk (show Kd.V (Kd.int .u8) 5 _ w.heap.size _ _ (rd_L1 t653 x11_4) from Kd.V_mk ul658_0 ge658_0)
                      clear hva_ hvn_ hvc_ ge658_0 ul658_0
                      clear hcc658 hce658
                      have HR658_0 := Aside0.mk hi658_0
                      have HC658_0 := Aside0.mk hl658_0
                      clear hi658_0 hl658_0
                      replace p658 := eq_true p658
                      replace q658 := eq_true q658
                      have p659 : 0 ≤ (t650 : Int) := of_decide_eq_true (by first | (with_reducible assumption) | assumption)
                      have q659 : t650 < (t653.length : Int) := of_decide_eq_true (by first | (with_reducible assumption) | assumption)
                      obtain ⟨ad659, A659_0, c659_0, e659, hx659_0, hl659_0, hi659_0⟩ := at_L1 (Kd.N_reads' HO_7.out).2.2 t650 p659 q659
                      obtain rfl : ad657 = ad659 := (by injection e659)
                      obtain ⟨ce659, hce659, hMe659, hcc659⟩ := Kd.N_get HO_7.out [] t650 p659 (by first | exact q659 | exact of_decide_eq_true (by first | (with_reducible assumption) | assumption) | (have e_ := (Kd.N_reads' HO_7.out).1; omega))
                      obtain ⟨ua659_0, uc659_0, rfl, ul659_0, ge659_0⟩ := Kd.FK_slice_open hMe659
                      have hv659_0 := hcc659 0 _ rfl
                      rw [Nat.add_zero, show ((Kd.slice 5 (Kd.int .u8))).sz = 1 from rfl, Nat.mul_one] at hv659_0
                      replace hv659_0 := Option.some.inj (hv659_0.symm.trans hx659_0)
                      injection hv659_0 with hva_ hvn_ hvc_
                      rw [hva_] at ge659_0
                      rw [hvc_] at ul659_0
                      have HL659_0 := Aside0.mk (show Kd.V (Kd.int .u8) 5 _ w.heap.size _ _ (rd_L1 t653 t650) from Kd.V_mk ul659_0 ge659_0)
                      clear hva_ hvn_ hvc_ ge659_0 ul659_0
                      clear hcc659 hce659
                      have HR659_0 := Aside0.mk hi659_0
                      have HC659_0 := Aside0.mk hl659_0
                      clear hi659_0 hl659_0
                      replace p659 := eq_true p659
                      replace q659 := eq_true q659
                      have p660 : 0 ≤ (x11_4 : Int) := of_decide_eq_true (by first | (with_reducible assumption) | assumption)
                      have q660 : x11_4 < (t653.length : Int) := of_decide_eq_true (by first | (with_reducible assumption) | assumption)
                      obtain ⟨ad660, A660_0, c660_0, e660, hx660_0, hl660_0, hi660_0⟩ := at_L1 (Kd.N_reads' HO_7.out).2.2 x11_4 p660 q660
                      obtain rfl : ad657 = ad660 := (by injection e660)
                      obtain ⟨ce660, hce660, hMe660, hcc660⟩ := Kd.N_get HO_7.out [] x11_4 p660 (by first | exact q660 | exact of_decide_eq_true (by first | (with_reducible assumption) | assumption) | (have e_ := (Kd.N_reads' HO_7.out).1; omega))
                      obtain ⟨ua660_0, uc660_0, rfl, ul660_0, ge660_0⟩ := Kd.FK_slice_open hMe660
                      have hv660_0 := hcc660 0 _ rfl
                      rw [Nat.add_zero, show ((Kd.slice 5 (Kd.int .u8))).sz = 1 from rfl, Nat.mul_one] at hv660_0
                      replace hv660_0 := Option.some.inj (hv660_0.symm.trans hx660_0)
                      injection hv660_0 with hva_ hvn_ hvc_
                      rw [hva_] at ge660_0
                      rw [hvc_] at ul660_0
                      have HL660_0 := Aside0.mk (show Kd.V (Kd.int .u8) 5 _ w.heap.size _ _ (rd_L1 t653 x11_4) from Kd.V_mk ul660_0 ge660_0)
                      clear hva_ hvn_ hvc_ ge660_0 ul660_0
                      clear hcc660 hce660
                      have HR660_0 := Aside0.mk hi660_0
                      have HC660_0 := Aside0.mk hl660_0
                      clear hi660_0 hl660_0
                      replace p660 := eq_true p660
                      replace q660 := eq_true q660
                      have ea_ := Option.some.inj (hx658_0.symm.trans hx660_0)
                      injection ea_ with ea_ en_ ec_
                      subst ea_
                      subst ec_
                      clear en_
                      have p661 : 0 ≤ (x9_3 : Int) := of_decide_eq_true (by first | (with_reducible assumption) | assumption)
                      have q661 : x9_3 < ((rd_L1 t653 x11_4).length : Int) := of_decide_eq_true (by first | (with_reducible assumption) | assumption)
                      obtain ⟨ad661, e661, hx661_0⟩ := Kd.at_int (by repeat (first | (with_reducible exact HR660_0.out) | (with_reducible refine Kd.C_alloc ?_ _) | (with_reducible refine Kd.C_drewN ?_ _) | (with_reducible refine Kd.C_drew ?_) | exact HR660_0.out)) x9_3 p661 q661
                      cases e661
                      replace p661 := eq_true p661
                      replace q661 := eq_true q661
                      go_wp2
                      repeat (go_quiet (fail); try go_wp2)
                      (first | go_roundg k4 | (subst hji20; go_roundg k4))
                      case measure => have := HJ7.out; have := HJ23.out; have := HK3.out; have := HK4.out; omega
                      case rel => exact ⟨(Go.bits .xor .u8 x10_4 (rd (rd_L1 t653 x11_4) x9_3)), (wrap64 (x11_4 + 1)), (by first | rfl | (simp; done) | (simp [*]; done)), (by first | rfl | (simp; done) | (simp [*]; done)), H', ⟨by have := HJ7.out; have := HJ23.out; have := HK3.out; have := HK4.out; omega⟩, ⟨by (with_reducible repeat (first | apply Kd.N_alloc | apply Kd.N_drewN | apply Kd.N_drew)); exact HO_7.out⟩, ⟨by (with_reducible repeat (first | refine blk_drewN ?_ _ | refine blk_drew ?_ | refine blk_alloc ?_ _)); exact BK647.out⟩, ⟨by (with_reducible repeat (first | refine blk_drewN ?_ _ | refine blk_drew ?_ | refine blk_alloc ?_ _)); exact BK652.out⟩, ⟨by repeat (first | (with_reducible exact HR657_0.out) | (with_reducible refine Kd.C_alloc ?_ _) | (with_reducible refine Kd.C_drewN ?_ _) | (with_reducible refine Kd.C_drew ?_) | exact HR657_0.out)⟩, ⟨by repeat (first | (with_reducible first | exact HB.out | apply below_alloc | apply pw_below_drewN | apply below_drew1 | refine below_set ?_ GE647.out | refine below_set ?_ GE652.out) | exact HB.out)⟩⟩
                     ·rw [if_neg c46] at H
                      exact absurd H (by simp)
                    ·rw [if_neg c45] at H
                     exact absurd H (by simp)
                   ·rw [if_neg c44] at H
                    have c44b0 : (((rd_L1 t653 x11_4).length : Int) == ((rd_L1 t653 t650).length : Int)) = false := beq_eq_false_iff_ne.mpr c44
                    have c44b1 : (((rd_L1 t653 x11_4).length : Int) != ((rd_L1 t653 t650).length : Int)) = true := bne_iff_ne.mpr c44
                    have c44b2 : ((rd_L1 t653 x11_4).length == (rd_L1 t653 t650).length) = false := by first | simpa using c44 | (simp at c44 ⊢; omega)
                    exact absurd ((Option.some.inj H).trans hr_.out) (by simp)
                  ·rw [if_neg c43] at H
                   exact absurd H (by simp)
                 ·rw [if_neg c42] at H
                  exact absurd H (by simp)
                ·rw [if_neg c41] at H
                 exact absurd H (by simp)
               ·rw [if_neg c40] at H
                exact absurd H (by simp)
              ·rw [if_neg c39] at H
               have c39b0 : decide (x11_4 < t650) = false := decide_eq_false c39
               clear c39
               by_cases c49 : 0 ≤ t650
               ·rw [if_pos c49] at H
                have c49b0 : decide (0 ≤ t650) = true := decide_eq_true c49
                clear c49
                by_cases c50 : t650 < (t653.length : Int)
                ·rw [if_pos c50] at H
                 have c50b0 : decide (t650 < (t653.length : Int)) = true := decide_eq_true c50
                 clear c50
                 by_cases c51 : 0 ≤ x9_3
                 ·rw [if_pos c51] at H
                  have c51b0 : decide (0 ≤ x9_3) = true := decide_eq_true c51
                  clear c51
                  by_cases c52 : x9_3 < ((rd_L1 t653 t650).length : Int)
                  ·rw [if_pos c52] at H
                   have c52b0 : decide (x9_3 < ((rd_L1 t653 t650).length : Int)) = true := decide_eq_true c52
                   clear c52
                   by_cases c53 : x10_4 = (rd (rd_L1 t653 t650) x9_3)
                   ·rw [if_pos c53] at H
                    have c53b0 : (x10_4 == (rd (rd_L1 t653 t650) x9_3)) = true := beq_iff_eq.mpr c53
                    have c53b1 : (x10_4 != (rd (rd_L1 t653 t650) x9_3)) = false := bne_eq_false_iff_eq.mpr c53
                    clear c53
                    have H' := Aside0.mk H
                    clear H
                    have hnb54 := NB652_647.out
                    have hnc54 := NB647_652.out
                    have hcz55_0 : wr.cell? ⟨gb652, 0, none⟩ = some (.int .i64 x653000_7) := (blk_cell BK652.out 0).trans rfl
                    have hcz55_1 : wr.cell? ⟨gb652, 1, none⟩ = some (.int .i64 t650) := (blk_cell BK652.out 1).trans rfl
                    have hcz55_2 : wr.cell? ⟨gb652, 2, none⟩ = some (.int .i64 x653002_7) := (blk_cell BK652.out 2).trans rfl
                    have hfz55_0 := blk_frozen BK652.out 0
                    have hfz55_1 := blk_frozen BK652.out 1
                    have hfz55_2 := blk_frozen BK652.out 2
                    have p662 : 0 ≤ (t650 : Int) := of_decide_eq_true (by first | (with_reducible assumption) | assumption)
                    have q662 : t650 < (t653.length : Int) := of_decide_eq_true (by first | (with_reducible assumption) | assumption)
                    obtain ⟨ad662, A662_0, c662_0, e662, hx662_0, hl662_0, hi662_0⟩ := at_L1 (Kd.N_reads' HO_7.out).2.2 t650 p662 q662
                    obtain rfl : ad657 = ad662 := (by injection e662)
                    obtain ⟨ce662, hce662, hMe662, hcc662⟩ := Kd.N_get HO_7.out [] t650 p662 (by first | exact q662 | exact of_decide_eq_true (by first | (with_reducible assumption) | assumption) | (have e_ := (Kd.N_reads' HO_7.out).1; omega))
                    obtain ⟨ua662_0, uc662_0, rfl, ul662_0, ge662_0⟩ := Kd.FK_slice_open hMe662
                    have hv662_0 := hcc662 0 _ rfl
                    rw [Nat.add_zero, show ((Kd.slice 5 (Kd.int .u8))).sz = 1 from rfl, Nat.mul_one] at hv662_0
                    replace hv662_0 := Option.some.inj (hv662_0.symm.trans hx662_0)
                    injection hv662_0 with hva_ hvn_ hvc_
                    rw [hva_] at ge662_0
                    rw [hvc_] at ul662_0
                    have HL662_0 := Aside0.mk (show Kd.V (Kd.int .u8) 5 _ w.heap.size _ _ (rd_L1 t653 t650) from Kd.V_mk ul662_0 ge662_0)
                    clear hva_ hvn_ hvc_ ge662_0 ul662_0
                    clear hcc662 hce662
                    have HR662_0 := Aside0.mk hi662_0
                    have HC662_0 := Aside0.mk hl662_0
                    clear hi662_0 hl662_0
                    replace p662 := eq_true p662
                    replace q662 := eq_true q662
                    have p663 : 0 ≤ (x9_3 : Int) := of_decide_eq_true (by first | (with_reducible assumption) | assumption)
                    have q663 : x9_3 < ((rd_L1 t653 t650).length : Int) := of_decide_eq_true (by first | (with_reducible assumption) | assumption)
                    obtain ⟨ad663, e663, hx663_0⟩ := Kd.at_int (by repeat (first | (with_reducible exact HR662_0.out) | (with_reducible refine Kd.C_alloc ?_ _) | (with_reducible refine Kd.C_drewN ?_ _) | (with_reducible refine Kd.C_drew ?_) | exact HR662_0.out)) x9_3 p663 q663
                    cases e663
                    replace p663 := eq_true p663
                    replace q663 := eq_true q663
                    go_wp2
                    repeat (go_quiet (fail); try go_wp2)
                    (first | go_roundg k4 | (subst hji20; go_roundg k4))
                    case measure => have := HJ7.out; have := HJ23.out; have := HK3.out; have := HK4.out; omega
                    case rel => exact ⟨(wrap64 (x9_3 + 1)), (by first | rfl | (simp; done) | (simp [*]; done)), H', ⟨by have := HJ7.out; have := HJ23.out; have := HK3.out; have := HK4.out; omega⟩, ⟨by (with_reducible repeat (first | apply Kd.N_alloc | apply Kd.N_drewN | apply Kd.N_drew)); exact HO_7.out⟩, ⟨by (with_reducible repeat (first | refine blk_drewN ?_ _ | refine blk_drew ?_ | refine blk_alloc ?_ _)); exact BK647.out⟩, ⟨by (with_reducible repeat (first | refine blk_drewN ?_ _ | refine blk_drew ?_ | refine blk_alloc ?_ _)); exact BK652.out⟩, ⟨by repeat (first | (with_reducible first | exact HB.out | apply below_alloc | apply pw_below_drewN | apply below_drew1 | refine below_set ?_ GE647.out | refine below_set ?_ GE652.out) | exact HB.out)⟩⟩
                   ·rw [if_neg c53] at H
                    have c53b0 : (x10_4 == (rd (rd_L1 t653 t650) x9_3)) = false := beq_eq_false_iff_ne.mpr c53
                    have c53b1 : (x10_4 != (rd (rd_L1 t653 t650) x9_3)) = true := bne_iff_ne.mpr c53
                    exact absurd ((Option.some.inj H).trans hr_.out) (by simp)
                  ·rw [if_neg c52] at H
                   exact absurd H (by simp)
                 ·rw [if_neg c51] at H
                  exact absurd H (by simp)
                ·rw [if_neg c50] at H
                 exact absurd H (by simp)
               ·rw [if_neg c49] at H
                exact absurd H (by simp)
           ·rw [if_neg c35] at H
            have c35b0 : decide (x9_3 < ((rd_L1 t653 t650).length : Int)) = false := decide_eq_false c35
            clear c35
            obtain rfl := Option.some.inj H
            have hnb56 := NB652_647.out
            have hnc56 := NB647_652.out
            have hcz57_0 : wr.cell? ⟨gb652, 0, none⟩ = some (.int .i64 x653000_7) := (blk_cell BK652.out 0).trans rfl
            have hcz57_1 : wr.cell? ⟨gb652, 1, none⟩ = some (.int .i64 t650) := (blk_cell BK652.out 1).trans rfl
            have hcz57_2 : wr.cell? ⟨gb652, 2, none⟩ = some (.int .i64 x653002_7) := (blk_cell BK652.out 2).trans rfl
            have hfz57_0 := blk_frozen BK652.out 0
            have hfz57_1 := blk_frozen BK652.out 1
            have hfz57_2 := blk_frozen BK652.out 2
            obtain ⟨Ao58, co58, eo58⟩ := Kd.N_slice HO_7.out
            subst eo58
            have p657 : 0 ≤ (t650 : Int) := of_decide_eq_true (by first | (with_reducible assumption) | assumption)
            have q657 : t650 < (t653.length : Int) := of_decide_eq_true (by first | (with_reducible assumption) | assumption)
            obtain ⟨ad657, A657_0, c657_0, e657, hx657_0, hl657_0, hi657_0⟩ := at_L1 (Kd.N_reads' HO_7.out).2.2 t650 p657 q657
            cases e657
            obtain ⟨ce657, hce657, hMe657, hcc657⟩ := Kd.N_get HO_7.out [] t650 p657 (by first | exact q657 | exact of_decide_eq_true (by first | (with_reducible assumption) | assumption) | (have e_ := (Kd.N_reads' HO_7.out).1; omega))
            obtain ⟨ua657_0, uc657_0, rfl, ul657_0, ge657_0⟩ := Kd.FK_slice_open hMe657
            have hv657_0 := hcc657 0 _ rfl
            rw [Nat.add_zero, show ((Kd.slice 5 (Kd.int .u8))).sz = 1 from rfl, Nat.mul_one] at hv657_0
            replace hv657_0 := Option.some.inj (hv657_0.symm.trans hx657_0)
            injection hv657_0 with hva_ hvn_ hvc_
            rw [hva_] at ge657_0
            rw [hvc_] at ul657_0
            have HL657_0 := Aside0.mk (show Kd.V (Kd.int .u8) 5 _ w.heap.size _ _ (rd_L1 t653 t650) from Kd.V_mk ul657_0 ge657_0)
            clear hva_ hvn_ hvc_ ge657_0 ul657_0
            clear hcc657 hce657
            have HR657_0 := Aside0.mk hi657_0
            have HC657_0 := Aside0.mk hl657_0
            clear hi657_0 hl657_0
            replace p657 := eq_true p657
            replace q657 := eq_true q657
            go_wp2
            repeat (go_quiet (fail); try go_wp2)
            go_ret
            exact ⟨by first | rfl | (simp [errW_none, errW_some] <;> rfl) | (simp [*, errW_none, errW_some] <;> rfl), by repeat (first | (with_reducible first | exact HB.out | apply below_alloc | apply pw_below_drewN | apply below_drew1 | refine below_set ?_ GE647.out | refine below_set ?_ GE652.out) | exact HB.out)⟩
          ·rw [if_neg c34] at H
           exact absurd H (by simp)
         ·rw [if_neg c33] at H
          exact absurd H (by simp)
end Go.Proofs.YtelcllhibpnneaaGreat.XCo
end
section
namespace Go.Proofs.YtelcllhibpnneaaGreat.XCo
open Go.RowKit Go.Proofs.YtelcllhibpnneaaGreatW.PrintWords Go.Proofs.YtelcllhibpnneaaGreatW.PrintLast Go.Proofs.YtelcllhibpnneaaGreatW.PrintMore
attribute [local go_sem] max2_int min2_int max_two min_two max_three min_three max_four min_four
set_option linter.unusedVariables false
set_option linter.unusedSimpArgs false
def xorB (a b : List Int) : List Int := List.zipWith (fun x y => Go.bits .xor .u8 x y) a b
def sumB (L : Nat) (rows : List (List Int)) : List Int := rows.foldl xorB (List.replicate L 0)
theorem xorB_length (a b : List Int) (h : a.length = b.length) : (xorB a b).length = b.length := by simp [xorB]; omega
theorem foldB_length {L : Nat} : ∀ (rows : List (List Int)) (acc : List Int), acc.length = L → (∀ r, r ∈ rows → r.length = L) → (rows.foldl xorB acc).length = L
 | [], acc, h, _ => h
 | r :: rs, acc, h, hr => by
  have h1 := hr r (List.mem_cons_self ..)
  exact foldB_length rs (xorB acc r) (by rw [xorB_length _ _ (h.trans h1.symm)]; exact h1) (fun q hq => hr q (List.mem_cons_of_mem _ hq))
theorem sumB_length {L : Nat} (rows : List (List Int)) (h : ∀ r, r ∈ rows → r.length = L) : (sumB L rows).length = L := foldB_length rows _ (by simp) h
theorem wrap64_nat {j : Nat} (h : j ≤ 1000000000) : wrap64 ((j : Int) + 1) = ((j + 1 : Nat) : Int) := by unfold wrap64; omega
theorem sum_l1 (rows : List (List Int)) (n : Int) (i : Nat) (acc row : List Int) (r : List Int × Int) (K : Nat) (hl : acc.length = row.length) (hL : row.length ≤ 100000000) (hi : i ≤ 100000000)
  (h : region_sum.l0 K (xorB acc row) rows n ((i + 1 : Nat) : Int) = some r) :
  ∀ (d j : Nat), j + d = row.length → region_sum.l1 (K + d + 1) ((xorB acc row).take j ++ acc.drop j) rows n (i : Int) row (row.length : Int) (j : Int) = some r
 | 0, j, hj => by
  obtain rfl : j = row.length := by omega
  unfold region_sum.l1
  rw [if_neg (by omega), wrap64_nat (by omega), List.take_of_length_le (by rw [xorB_length _ _ hl]; exact Nat.le_refl _), List.drop_of_length_le (by omega), List.append_nil]
  exact h
 | d + 1, j, hj => by
  have hlx := xorB_length _ _ hl
  have hjl : j < row.length := by omega
  have hlen : ((xorB acc row).take j ++ acc.drop j).length = row.length := by simp [hlx]; omega
  unfold region_sum.l1
  rw [if_pos (by omega), if_pos (by omega), if_pos (by omega), if_pos (by omega), wrap64_nat (by omega)]
  have hset : ((xorB acc row).take j ++ acc.drop j).set (j : Int).toNat (Go.bits .xor .u8 (rd ((xorB acc row).take j ++ acc.drop j) (j : Int)) (rd row (j : Int))) = (xorB acc row).take (j + 1) ++ acc.drop (j + 1) := by
   have e1 : rd ((xorB acc row).take j ++ acc.drop j) (j : Int) = acc.getD j 0 := by
    unfold rd
    rw [Int.toNat_natCast, List.getD_eq_getElem?_getD, List.getElem?_append_right (by simp [hlx]; omega), List.getElem?_drop]
    simp [hlx, Nat.min_eq_left (Nat.le_of_lt hjl)]
   have e2 : rd row (j : Int) = row.getD j 0 := by unfold rd; rw [Int.toNat_natCast]
   rw [e1, e2, Int.toNat_natCast]
   apply List.ext_getElem?
   intro q
   have hja : j < acc.length := by omega
   have hx : (xorB acc row)[j]? = some (Go.bits .xor .u8 (acc.getD j 0) (row.getD j 0)) := by
    unfold xorB
    rw [List.getElem?_zipWith, List.getElem?_eq_getElem hja, List.getElem?_eq_getElem hjl]
    simp [List.getD_eq_getElem?_getD, List.getElem?_eq_getElem hja, List.getElem?_eq_getElem hjl]
   rw [List.getElem?_set]
   by_cases hq : j = q
   ·subst hq
    rw [if_pos rfl, if_pos (by omega), List.getElem?_append_left (by simp [hlx]; omega), List.getElem?_take, if_pos (by omega), hx]
   ·rw [if_neg hq]
    by_cases hlt : q < j
    ·rw [List.getElem?_append_left (by simp [hlx]; omega), List.getElem?_append_left (by simp [hlx]; omega), List.getElem?_take, List.getElem?_take, if_pos hlt, if_pos (by omega)]
    ·rw [List.getElem?_append_right (by simp [hlx]; omega), List.getElem?_append_right (by simp [hlx]; omega), List.getElem?_drop, List.getElem?_drop]
     congr 1
     simp [hlx, Nat.min_eq_left (Nat.le_of_lt hjl), Nat.min_eq_left (show j + 1 ≤ row.length from hjl)]
     omega
  rw [hset]
  have := sum_l1 rows n i acc row r K hl hL hi h d (j + 1) (by omega)
  rw [show K + (d + 1) = K + d + 1 by omega]
  exact this
theorem sum_l0 (rows : List (List Int)) (L : Nat) (hL : L ≤ 100000000) (hn : rows.length ≤ 1000) (hr : ∀ r, r ∈ rows → r.length = L) :
  ∀ (m i : Nat) (acc : List Int), i + m = rows.length → acc.length = L → ∃ K, region_sum.l0 K acc rows (rows.length : Int) (i : Int) = some ((rows.drop i).foldl xorB acc, 0)
 | 0, i, acc, hi, ha => by
  refine ⟨1, ?_⟩
  unfold region_sum.l0
  rw [if_neg (by omega), List.drop_of_length_le (by omega)]; rfl
 | m + 1, i, acc, hi, ha => by
  obtain ⟨row, hrow⟩ : ∃ r, rows[i]? = some r := ⟨_, List.getElem?_eq_getElem (by omega)⟩
  have hrl := hr row (List.mem_of_getElem? hrow)
  have hd : rows.drop i = row :: rows.drop (i + 1) := by
   obtain ⟨h1, h2⟩ := List.getElem?_eq_some_iff.1 hrow
   rw [List.drop_eq_getElem_cons h1, h2]
  obtain ⟨K, hK⟩ := sum_l0 rows L hL hn hr m (i + 1) (xorB acc row) (by omega) (by rw [xorB_length _ _ (by omega)]; exact hrl)
  have h1 := sum_l1 rows (rows.length : Int) i acc row _ K (by omega) (by omega) (by omega) hK row.length 0 (by omega)
  refine ⟨K + row.length + 1 + 1, ?_⟩
  have hrd : rd_L1 rows (i : Int) = row := by unfold rd_L1; rw [Int.toNat_natCast, List.getD_eq_getElem?_getD, hrow]; rfl
  unfold region_sum.l0
  rw [if_pos (by omega), if_pos (by omega), if_pos (by omega), hrd, if_pos (by omega), hd]
  simpa using h1
theorem sum_ev (rows : List (List Int)) (L : Nat) (hL : L ≤ 100000000) (hn : rows.length ≤ 1000) (h0 : 0 < rows.length) (hr : ∀ r, r ∈ rows → r.length = L) : Ev (fun k => region_sum.f k rows) (sumB L rows, 0) := by
 obtain ⟨row, hrow⟩ : ∃ r, rows[0]? = some r := ⟨_, List.getElem?_eq_getElem h0⟩
 have hrl := hr row (List.mem_of_getElem? hrow)
 have hrd : rd_L1 rows 0 = row := by unfold rd_L1; rw [show (0 : Int).toNat = 0 from rfl, List.getD_eq_getElem?_getD, hrow]; rfl
 obtain ⟨K, hK⟩ := sum_l0 rows L hL hn hr rows.length 0 (List.replicate L 0) (by omega) (by simp)
 refine Ev.of (fun k => region_sum.mono _ k) (k := K) ?_
 unfold region_sum.f
 rw [if_pos (by omega), hrd, if_pos (by omega), if_pos (by omega), hrl, Int.toNat_natCast]
 simpa [sumB] using hK
end Go.Proofs.YtelcllhibpnneaaGreat.XCo
end
